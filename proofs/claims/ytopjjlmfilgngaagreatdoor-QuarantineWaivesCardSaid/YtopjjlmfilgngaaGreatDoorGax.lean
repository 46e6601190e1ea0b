/-
  check.text, check.picked; warehouseref28.pick. Plain law: what check.Violations answers; the texts of picked values tell them apart. No program is in sight. check.counted: how many rows have which values. Chapter 30 as data: waivers and quarantined rows; what Waived, ofRelation, otherOf, violators, Divide, Rejoin answer. No program is in sight. check.missing; warehouseref28.hasNull: whether a row has a null.
-/
import Derived.Test.YtopjjlmfilgngaaGreatDoorGam
import Derived.Test.YtopjjlmfilgngaaGreatDoorPck
import Derived.Test.YtopjjlmfilgngaaGreatDoorGat
import Derived.Test.YtopjjlmfilgngaaGreatDoorGaa
namespace Go.Proofs.YtopjjlmfilgngaaGreatDoor
set_option maxHeartbeats 4000000
set_option maxRecDepth 100000
open Go.RowKit
set_option linter.unusedSimpArgs false
set_option linter.unusedVariables false
def bE (row:List Val):ByteArray:=⟨(encS row).2.toArray⟩
theorem EU {w:World}{B n c:Nat}{A:Option Addr}{bs:List UInt8}(h:OB B w (.slice A n c) bs)(hl:bs.length=n):
  (convert 120 9 (.slice A n c)).run Tryz.prog w=.ok (.string ⟨bs.toArray⟩) w:=by
 obtain ⟨cs,h1,h2⟩:=h.own;obtain rfl:=yI h2;rcases h1.2 with ⟨e,hz⟩|⟨g,cap,cur,e,hb,hh,r1,r2,r3,r4⟩
 ·injection e with e1 e2 e3;subst e1 e2 e3;obtain rfl:bs=[]:=List.eq_nil_of_length_eq_zero hl;rw[run_convert_bytes_string w 120 9 5 none 0 0 Tryz.underlying120 Tryz.underlying5 Tryz.underlying9];rfl
 ·injection e with e1 e2 e3;subst e1 e2 e3;refine run_convert_bytes_back w 120 9 5 ⟨g,0,none⟩ _ bs Tryz.underlying120 Tryz.underlying5 Tryz.underlying9 λj hj=>?_;rw[jw,Nat.zero_add,cell_of_row w g _ cur _ (0,0) hh];have h3:(cur.toList.take (bs.length*1))[j]?=(bs.map λb=>Value.int .u8 b.toNat)[j]?:=by rw[<-r4];rfl
  rw[List.getElem?_take_of_lt (by omega)]at h3;rw[<-Array.getElem?_toList,h3];simp[hj]
theorem Af (w:World)(A:Option Addr)(n c:Nat)(row:List Val)(hx:In w A n c row):
  Calls Tryz.prog 119 #[.slice A n c] w λe w'=>e=.returned (.string (bE row))/\Below w.heap.size w w':=by
 have HT:=hide (show bE row=⟨(encS row).2.toArray⟩ from rfl);generalize bE row=R at*;go_enter Tryz.func119,Tryz.ntmps119;go_wp2_with fail;refine (yQ _ A n c row (by exact hx)).mono ?_;rintro e w1 ⟨⟨v,rfl,ho⟩,hb⟩;obtain ⟨A1,c1,rfl⟩:=ho.form;have xC:=EU ho rfl;rw[<-HT.out]at xC;have HB:=hide hb;clear ho hb HT;go_wp2;go_ret;exact ⟨rfl,HB.out⟩
def aT (cols:List Col)(names:List ByteArray)(row:List Val):List Val:=gX row (bi cols names).2
theorem jH (cols:List Col)(names:List ByteArray):(bi cols names).2.length<=names.length:=by
 rw[bi]
 split
 ·exact Nat.zero_le _
 ·simp
theorem jq (row:List Val)(ks:List Int):(gX row ks).length=ks.length:=by rw[gX,List.length_map]
theorem zR (w:World)(A:Option Addr)(n c:Nat)(cols:List Col)(hx:In w A n c cols)(A2:Option Addr)(n2 c2:Nat)(names:List ByteArray)(hy:In w A2 n2 c2 names)(A3:Option Addr)(n3 c3:Nat)(row:List Val)(hz:In w A3 n3 c3 row)(hn:n<=1048576)(hn2:n2<=4096):
  Calls Tryz.prog 79 #[.slice A n c,.slice A2 n2 c2,.slice A3 n3 c3] w
   λe w'=>(∃A' m c',e=.returned (.slice A' m c')/\OL 36 w.heap.size (λ_=>False) [] w' (.slice A' m c') (aT cols names row)/\(aT cols names row).length=m/\m<=n2)/\Below w.heap.size w w':=by
 have HL:=hide (jH cols names);have HP:=hide (show aT cols names row=gX row (bi cols names).2 from rfl);have YJ:=hide hy.len;have nY:=λW hx hy=>rD W A n c cols hx A2 n2 c2 names hy (by omega) hn;obtain ⟨ke,hke⟩: ∃k,bi cols names=k:=⟨_,rfl⟩;rw[hke]at HL HP nY;obtain ⟨R,hR⟩: ∃R,aT cols names row=R:=⟨_,rfl⟩;rw[hR]at HP;rw[hR];clear hke hR;obtain ⟨ke,ks⟩:=ke;have Gn:=hide nY;clear nY;go_enter Tryz.func79,Tryz.ntmps79;have HX:=hide hx;clear hx;have HY:=hide hy;clear hy;have HZ:=hide hz;clear hz;go_wp2_with fail;refine (Gn.out _ (by exact HX.out) (by exact HY.out)).mono ?_;rintro e w1 ⟨⟨v,rfl,ho⟩,hb1⟩;obtain ⟨A4,c4,rfl⟩:=ho.form;have hkl:ks.length<=n2:=by rw[<-YJ.out];exact HL.out
 obtain ⟨m,hm⟩: ∃m,ks.length=m:=⟨_,rfl⟩;have hI:=ho.inn;obtain ⟨A9,c9,e9,h9⟩:=hI;injection e9 with e1 e2 e3;subst e1 e3;rw[hm]at h9 hkl⊢;have HM:=hide hm;clear ho e2 hm;have HZ:=hide (HZ.out.below hb1);have lN:=hide hb1;clear hb1;have HK:=hide h9;clear h9;go_wp2_with fail;refine (Ov _ A3 n3 c3 row (by exact HZ.out) A4 m c4 ks (by exact HK.out) (by omega)).mono ?_;rintro e w2 ⟨⟨A5,c5,rfl,ho2⟩,hb2⟩;have mq:=hide (ho2.rebase lN.out.size);have iM:=hide (aa lN.out hb2);clear hb2;clear ho2;go_wp2;go_ret;exact ⟨⟨A5,m,c5,rfl,by rw[HP.out];exact mq.out,by rw[HP.out,jq,HM.out],hkl⟩,iM.out⟩
theorem jc (w:World)(A:Option Addr)(n c:Nat)(cols:List Col)(hx:In w A n c cols)(A2:Option Addr)(n2 c2:Nat)(names:List ByteArray)(hy:In w A2 n2 c2 names)(A3:Option Addr)(n3 c3:Nat)(row:List Val)(hz:In w A3 n3 c3 row)(hn:n<=1048576)(hn2:n2<=4096):
  Calls Tryz.prog 68 #[.slice A n c,.slice A2 n2 c2,.slice A3 n3 c3] w
   λe w'=>(∃A' m c',e=.returned (.slice A' m c')/\OL 36 w.heap.size (λ_=>False) [] w' (.slice A' m c') (aT cols names row)/\(aT cols names row).length=m/\m<=n2)/\Below w.heap.size w w':=by
 have HL:=hide (jH cols names);have HP:=hide (show aT cols names row=gX row (bi cols names).2 from rfl);have YJ:=hide hy.len;have nY:=λW hx hy=>ja W A n c cols hx A2 n2 c2 names hy (by omega) hn;obtain ⟨ke,hke⟩: ∃k,bi cols names=k:=⟨_,rfl⟩;rw[hke]at HL HP nY;obtain ⟨R,hR⟩: ∃R,aT cols names row=R:=⟨_,rfl⟩;rw[hR]at HP;rw[hR];clear hke hR;obtain ⟨ke,ks⟩:=ke;have Gn:=hide nY;clear nY;go_enter Tryz.func68,Tryz.ntmps68;have HX:=hide hx;clear hx;have HY:=hide hy;clear hy;have HZ:=hide hz;clear hz;go_wp2_with fail;refine (Gn.out _ (by exact HX.out) (by exact HY.out)).mono ?_;rintro e w1 ⟨⟨v,rfl,ho⟩,hb1⟩;obtain ⟨A4,c4,rfl⟩:=ho.form;have hkl:ks.length<=n2:=by rw[<-YJ.out];exact HL.out
 obtain ⟨m,hm⟩: ∃m,ks.length=m:=⟨_,rfl⟩;have hI:=ho.inn;obtain ⟨A9,c9,e9,h9⟩:=hI;injection e9 with e1 e2 e3;subst e1 e3;rw[hm]at h9 hkl⊢;have HM:=hide hm;clear ho e2 hm;have HZ:=hide (HZ.out.below hb1);have oF:=hide hb1;clear hb1;have HK:=hide h9;clear h9;go_wp2_with fail;refine (Ow _ A3 n3 c3 row (by exact HZ.out) A4 m c4 ks (by exact HK.out) (by omega)).mono ?_;rintro e w2 ⟨⟨A5,c5,rfl,ho2⟩,hb2⟩;have mq:=hide (ho2.rebase oF.out.size);have lW:=hide (aa oF.out hb2);clear hb2;clear ho2;go_wp2;go_ret;exact ⟨⟨A5,m,c5,rfl,by rw[HP.out];exact mq.out,by rw[HP.out,jq,HM.out],hkl⟩,lW.out⟩
def dx (c:Chk)(rc oc:List Col)(rr orr:List Ent)(zs:List Zone):Int:=
 if aN c rc oc zs≠0 then aN c rc oc zs else if bP rc rr≠0 then bP rc rr else if gH c.kind=true then bP oc orr else 0
def kX (row:List Val):Bool:=row.any λv=>v.kind==0
def nZ (cond:List Node)(cols:List Col)(row:List Val)(zs:List Zone):Bool:=(gW cond cols row zs).1==0&&truth (gW cond cols row zs).2==1
def jf:List Ent->Int
 | []=>0
 |x :: l=>x.count+jf l
def vz (a b:List Val):Bool:=aA a b==0
def vM (cols:List Col)(names:List ByteArray)(rows:List Ent)(v:List Val):List Ent:=rows.filter λx=>vz (aT cols names x.row) v
def Ik (c:Chk)(v:Val):Bool:=v.kind != 0&&(decide (v.num<c.low) || decide (c.high<v.num))
def bN (c:Chk)(rc oc:List Col)(rr orr:List Ent)(zs:List Zone)(row:List Val):Bool:=
 if c.kind=0 then decide (1<jf (vM rc c.cols rr (aT rc c.cols row)))
 else if c.kind=1 then kX (aT rc c.cols row)
 else if c.kind=2 then Ik c ((aT rc c.cols row).getD 0 zeroV)
 else if c.kind=3 then !kX (aT rc c.cols row)&&(vM oc c.ocols orr (aT rc c.cols row)).isEmpty
 else if c.kind=4 then !nZ c.cond rc row zs
 else false
def jZ (c:Chk)(rc oc:List Col)(rr orr:List Ent)(zs:List Zone):Int×List Ent:=
 if dx c rc oc rr orr zs≠0 then (dx c rc oc rr orr zs,[]) else (0,rr.filter λx=>bN c rc oc rr orr zs x.row)
theorem Jp {α:Type}{f:Nat->α->Int}{l:List α}{k:Nat}(h:ai f k l=0)(hf: ∀i j x,f i x=f j x): ∀x∈l,f 0 x=0:=λx hx=>by
 obtain ⟨j,hj⟩:=List.mem_iff_getElem?.1 hx;rw[hf 0 (k+j) x];exact dU h j x hj
theorem Ci {cols:List Col}{row:List Val}(h:aG cols row=0){i:Nat}{v:Val}(hv:row[i]?=some v):valid v=true:=by
 have h1:=zW h hv;rw[bZ]at h1;cases q:valid v
 ·rw[if_pos q]at h1;omega
 ·rfl
theorem mg {a b:List Val}:vz a b=true↔a=b:=by rw[vz,beq_iff_eq,dn]
theorem Gb (l m:List Ent):jf (l++m)=jf l+jf m:=by
 induction l with
 |nil=>simp[jf]
 |cons x l ih=>rw[List.cons_append,jf,jf,ih];omega
theorem Eh {l:List Ent}{C:Int}(h: ∀x∈l,0<=x.count/\x.count<=C):0<=jf l/\jf l<=C*(l.length:Int):=by
 induction l with
 |nil=>simp[jf]
 |cons x l ih=>
  have h1:=h x (by simp);have h2:=ih λy hy=>h y (by simp[hy]);rw[jf,List.length_cons,show C*((l.length+1:Nat):Int)=C*(l.length:Int)+C by rw[Int.natCast_succ,Int.mul_add,Int.mul_one]];omega
theorem OT {l:List Ent}(h: ∀x∈l,0<x.count):(jf l==0)=l.isEmpty:=by
 cases l with
 |nil=>rfl
 |cons x l=>
  have h1:=h x (by simp);have h2:=(Eh (l:=l) (C:=x.count+jf l+1) λy hy=>⟨by have:=h y (by simp[hy]);omega,by
   have key: ∀(m:List Ent),(∀z∈m,0<z.count)->y∈m->y.count<=jf m:=λm=>by
    induction m with
    |nil=>intro _ h;cases h
    |cons z m ih=>
     intro hz hy;have hp:0<=jf m:=by
      clear ih hy
      induction m with
      |nil=>simp[jf]
      |cons u m ih=>
       have:=hz u (by simp);have:=ih λq hq=>hz q (by
        rcases List.mem_cons.1 hq with rfl|hq
        ·simp
        ·simp[hq])
       rw[jf];omega
     rw[jf];have hz0:=hz z (by simp);rcases List.mem_cons.1 hy with rfl|hy
     ·omega
     ·have:=ih (λq hq=>hz q (by simp[hq])) hy;omega
   have:=key l (λz hz=>h z (by simp[hz])) hy;omega⟩).1
  rw[jf];simp;omega
theorem zu {cols:List Col}{s:ByteArray}{i:Nat}(h:index cols s=(i:Int)): ∃c,cols[i]?=some c/\c.name.toList=s.toList:=by
 have key: ∀(l:List Col) (k:Nat),aR s k l= -1\/ ∃j:Nat,aR s k l=((k+j:Nat):Int)/\ ∃c,l[j]?=some c/\c.name.toList=s.toList:=λl=>by
  induction l with
  |nil=>intro k;exact .inl rfl
  |cons c l ih=>
   intro k;rw[aR];by_cases hc:(c.name.toList==s.toList)=true
   ·rw[if_pos hc];exact .inr ⟨0,by simp,c,rfl,by simpa using hc⟩
   ·rw[if_neg hc];rcases ih (k+1) with h|⟨j,h,c',h1,h2⟩
    ·exact .inl h
    ·exact .inr ⟨j+1,by rw[h];congr 1;omega,c',by simpa using h1,h2⟩
 rcases key cols 0 with h1|⟨j,h1,c,h2,h3⟩
 ·rw[index,h1]at h;omega
 ·rw[index,h1]at h;obtain rfl:j=i:=by omega
  exact ⟨c,h2,h3⟩
theorem jG {cols:List Col}{names:List ByteArray}(h:(bi cols names).1=0):
  (bi cols names).2=names.map (index cols)/\(∀s∈names,0<=index cols s/\index cols s<(cols.length:Int))/\names.length<=cols.length:=by
 have h0:iG cols names=0:=by
  rw[bi]at h;by_cases h1:iG cols names=0
  ·exact h1
  ·rw[if_pos h1]at h;exact h
 have hall:=dU (f:=wE cols names) (l:=names) (k:=0) h0;have hat: ∀(j:Nat) (s:ByteArray),names[j]?=some s->0<=index cols s/\jA (names.take j) s=false:=λj s hs=>by
  have h1:=hall j s hs;rw[Nat.zero_add,wE]at h1;by_cases h2:index cols s<0
  ·rw[if_pos h2]at h1;omega
  ·rw[if_neg h2]at h1;refine ⟨by omega,?_⟩;cases h3:jA (names.take j) s
   ·rfl
   ·rw[h3]at h1;simp at h1
 have hb: ∀s∈names,0<=index cols s/\index cols s<(cols.length:Int):=λs hs=>by
  obtain ⟨j,hj⟩:=List.mem_iff_getElem?.1 hs;exact ⟨(hat j s hj).1,(zt cols s).2⟩
 refine ⟨by rw[bi,if_neg (by omega)],hb,?_⟩;have hnd:((names.map (index cols)).map Int.toNat).Nodup:=by
  rw[List.nodup_iff_pairwise_ne,List.map_map,List.pairwise_iff_getElem];intro i j hi hj hij e;rw[List.length_map]at hi hj;rw[List.getElem_map,List.getElem_map]at e;have q1:=hat i names[i] (List.getElem?_eq_getElem hi);have q2:=hat j names[j] (List.getElem?_eq_getElem hj);obtain ⟨c,c1,c2⟩:=zu (cols:=cols) (s:=names[i]) (i:=(index cols names[i]).toNat) (by omega);obtain ⟨d,d1,d2⟩:=zu (cols:=cols) (s:=names[j]) (i:=(index cols names[j]).toNat) (by omega);have e2:(index cols names[i]).toNat=(index cols names[j]).toNat:=e;rw[e2,d1]at c1;injection c1 with c1;subst c1;have h3:jA (names.take j) names[j]=true:=by
   rw[jA,List.any_eq_true];refine ⟨names[i],?_,by rw[<-c2,d2];simp⟩;exact List.mem_iff_getElem.2 ⟨i,by rw[List.length_take];omega,by rw[List.getElem_take]⟩
  rw[q2.2]at h3;cases h3
 have h1:((names.map (index cols)).map Int.toNat).length<=(List.range cols.length).length:=List.Nodup.length_le_of_subset hnd (λx hx=>by
  obtain ⟨y,hy,rfl⟩:=List.mem_map.1 hx;obtain ⟨s,hs,rfl⟩:=List.mem_map.1 hy;have:=hb s hs;exact List.mem_range.2 (by omega))
 simpa using h1
theorem sF {cols:List Col}{names:List ByteArray}{row:List Val}(hc:aC cols=0)(h:(bi cols names).1=0)(hr:aG cols row=0):
  (aT cols names row).length=names.length/\(aT cols names row).length<=12/\ ∀v∈aT cols names row,valid v=true:=by
 obtain ⟨h1,h2,h3⟩:=jG h;have hl:=qx hr;have hcl:cols.length<=12:=by
  rw[aC]at hc;by_cases q:cols.length<1\/12<cols.length
  ·rw[if_pos q]at hc;omega
  ·omega
 have e:(aT cols names row).length=names.length:=by rw[aT,jq,h1,List.length_map]
 refine ⟨e,by omega,λv hv=>?_⟩;rw[aT,gX,h1,List.map_map]at hv;obtain ⟨s,hs,rfl⟩:=List.mem_map.1 hv;have hb:=h2 s hs;show valid (if 0<=index cols s/\index cols s<(row.length:Int) then row.getD (index cols s).toNat zeroV else zeroV)=true;have hb2:0<=index cols s/\index cols s<(row.length:Int):=by omega
 rw[if_pos hb2];have hlt:(index cols s).toNat<row.length:=by omega
 rw[List.getD_eq_getElem?_getD,List.getElem?_eq_getElem hlt];exact Ci hr (List.getElem?_eq_getElem hlt)
theorem F9 {row:List Val}(hl:row.length<=12)(hv: ∀v∈row,valid v=true):bE row=⟨(encR row).toArray⟩:=by
 have h0:ai lK 0 row=0:=by
  refine tF 0 λi hi=>?_;rw[lK,hv _ (List.getElem_mem hi)];rfl
 rw[bE,encS,if_neg (by omega),if_neg (by omega)]
theorem Ga {a b:List Val}(hl:a.length<=12)(hv: ∀v∈a,valid v=true)(hl':b.length<=12)(hv': ∀v∈b,valid v=true):bE a=bE b↔a=b:=by
 constructor
 ·intro h;rw[F9 hl hv,F9 hl' hv']at h;injection h with h;have h2:=congrArg Array.toList h;exact M5 hl hl' hv hv' (by simpa using h2)
 ·rintro rfl;rfl
theorem aW {cols:List Col}{rows:List Ent}(h:bP cols rows=0):aL rows=0/\dZ rows=true/\ ∀x∈rows,aG cols x.row=0:=by
 rw[bP]at h;by_cases h1:aL rows=0
 ·rw[if_neg (by omega)]at h;cases h2:dZ rows
  ·rw[h2,if_pos rfl]at h;omega
  ·rw[h2,if_neg (by simp)]at h;exact ⟨h1,rfl,Jp h λ_ _ _=>rfl⟩
 ·rw[if_pos h1]at h;exact absurd h h1
theorem dI {rows:List Ent}(h:aL rows=0)(ht:dZ rows=true):rows.length<=4096/\ ∀x∈rows,0<x.count/\x.count<=65536:=by
 have hl:rows.length<=4096:=by
  rw[aL]at h;by_cases q:4096<rows.length
  ·rw[if_pos q]at h;omega
  ·omega
 refine ⟨hl,λx hx=>?_⟩;rw[aL,if_neg (by omega)]at h;obtain ⟨j,hj⟩:=List.mem_iff_getElem?.1 hx;have h1:=dU h j x hj;rw[dF]at h1;have h2:aV x=0:=by
  by_cases q:aV x=0
  ·exact q
  ·rw[if_pos q]at h1;exact absurd h1 q
 rw[if_neg (by omega)]at h1;have h3:x.count≠0:=λq=>by rw[if_pos q]at h1;omega
 have h4: -65536<=x.count/\x.count<=65536:=by
  rw[aV]at h2;by_cases q:12<x.row.length\/x.count < -65536\/65536<x.count
  ·rw[if_pos q]at h2;omega
  ·omega
 rw[dZ,Bool.and_eq_true,List.all_eq_true]at ht;have h5:=ht.2 x hx;simp at h5;omega
theorem iO {c:Chk}{rc oc:List Col}{zs:List Zone}(h:aN c rc oc zs=0):
  (0<=c.kind/\c.kind<=6)/\aC rc=0/\(jg c.kind=false->(bi rc c.cols).1=0/\0<c.cols.length/\((c.kind=2\/c.kind=6)->c.cols.length=1)/\(gH c.kind=true->aC oc=0/\(bi oc c.ocols).1=0/\c.cols.length=c.ocols.length)):=by
 rw[aN]at h;by_cases h1:c.kind<0\/6<c.kind\/c.policy<0\/2<c.policy
 ·rw[if_pos h1]at h;omega
 rw[if_neg h1]at h;by_cases h2:c.policy=0/\(c.kind=5\/c.kind=6)
 ·rw[if_pos h2]at h;omega
 rw[if_neg h2]at h;by_cases h3:aC rc=0
 ·rw[if_neg (by omega)]at h;refine ⟨by omega,h3,λhu=>?_⟩;rw[if_pos hu,jK]at h;by_cases h4:(bi rc c.cols).1=0
  ·have e4:=(jG h4).1;have l4:(bi rc c.cols).2.length=c.cols.length:=by rw[e4,List.length_map]
   rw[if_neg (by omega)]at h;by_cases h5:(bi rc c.cols).2.length=0\/((c.kind=2\/c.kind=6)/\1<(bi rc c.cols).2.length)
   ·rw[if_pos h5]at h;omega
   rw[if_neg h5]at h;refine ⟨h4,by omega,by omega,λho=>?_⟩;by_cases h6:(c.kind=2\/c.kind=6)/\(rc.getD ((bi rc c.cols).2.getD 0 0).toNat default).kind≠2
   ·rw[if_pos h6]at h;omega
   rw[if_neg h6,ho,if_neg (by simp)]at h;by_cases h7:aC oc=0
   ·rw[if_neg (by omega)]at h;by_cases h8:(bi oc c.ocols).1=0
    ·have e8:=(jG h8).1;have l8:(bi oc c.ocols).2.length=c.ocols.length:=by rw[e8,List.length_map]
     rw[if_neg (by omega)]at h;by_cases h9:(bi rc c.cols).2.length=(bi oc c.ocols).2.length
     ·exact ⟨h7,h8,by omega⟩
     ·rw[if_pos h9]at h;omega
    ·rw[if_pos h8]at h;exact absurd h h8
   ·rw[if_pos h7]at h;exact absurd h h7
  ·rw[if_pos h4]at h;exact absurd h h4
 ·rw[if_pos h3]at h;exact absurd h h3
theorem gp {c:Chk}{rc oc:List Col}{rr orr:List Ent}{zs:List Zone}(h:dx c rc oc rr orr zs=0):aN c rc oc zs=0/\bP rc rr=0/\(gH c.kind=true->bP oc orr=0):=by
 rw[dx]at h;by_cases h1:aN c rc oc zs=0
 ·rw[if_neg (by omega)]at h;by_cases h2:bP rc rr=0
  ·rw[if_neg (by omega)]at h;refine ⟨h1,h2,λhu=>?_⟩;rw[if_pos hu]at h;exact h
  ·rw[if_pos h2]at h;exact absurd h h2
 ·rw[if_pos h1]at h;exact absurd h h1
open Go.RowKit Go.Maps
def uM (cols:List Col)(names:List ByteArray)(rows:List Ent)(s:ByteArray):Int:=jf (rows.filter λx=>decide (bE (aT cols names x.row)=s))
theorem J6 (cols:List Col)(names:List ByteArray)(rows:List Ent)(x:Ent)(s:ByteArray):
  uM cols names (rows++[x]) s=if s=bE (aT cols names x.row) then uM cols names rows s+x.count else uM cols names rows s:=by
 rw[uM,uM,List.filter_append,Gb];by_cases h:s=bE (aT cols names x.row)
 ·subst h;rw[if_pos rfl,List.filter_cons_of_pos (by simp),List.filter_nil,jf,jf];omega
 ·rw[if_neg h];have h2:decide (bE (aT cols names x.row)=s)=false:=by simpa using λe:bE (aT cols names x.row)=s=>h e.symm
  simp[h2,jf]
theorem Qa {cols:List Col}{names:List ByteArray}{rows:List Ent}(h: ∀x∈rows,0<x.count/\x.count<=65536)(hl:rows.length<=4096)(s:ByteArray):0<=uM cols names rows s/\uM cols names rows s<=268435456:=by
 have h1:=Eh (l:=rows.filter λx=>decide (bE (aT cols names x.row)=s)) (C:=65536) λx hx=>by
  have:=h x (List.mem_filter.1 hx).1;omega
 have h2:=List.length_filter_le (λx:Ent=>decide (bE (aT cols names x.row)=s)) rows;rw[uM];omega
theorem mU (row:List Val):(bE row).size<=maxLen:=by
 have h:(encS row).2.length<=1000:=by
  rw[encS]
  split
  ·simp
  ·split
   ·simp
   ·rename_i h1 h2;have h3:ai lK 0 row=0:=by omega
    have h4: ∀v∈row,valid v=true:=λv hv=>by
     have:=Jp h3 (λ_ _ _=>rfl) v hv;rw[lK]at this;cases h:valid v
     ·rw[h]at this;simp at this
     ·rfl
    have key: ∀l:List Val,(∀v∈l,valid v=true)->(l.flatMap ig).length<=66*l.length:=λl=>by
     induction l with
     |nil=>intro _;simp
     |cons v l ih=>
      intro hv;have i1:=ih λu hu=>hv u (by simp[hu]);have i2:(ig v).length<=66:=by
       rcases nN (hv v (by simp)) with h|h|h|h|h
       ·rw[ig];simp[h.1]
       ·rw[ig];simp[h.1]
       ·rw[ig];simp[h.1,kM]
       ·exact oK v (s:=v.str) (by omega) rfl
       ·rw[ig];simp[h.1,kM]
      rw[List.flatMap_cons,List.length_append,List.length_cons];omega
    have:=key row h4;show (encR row).length<=1000;rw[encR,List.length_cons];omega
 show (encS row).2.toArray.size<=maxLen;rw[List.size_toArray];simp only[maxLen];omega
theorem eu {α:Type}[Rep α]{e:TypeId}{B:Nat}{O:Nat->Prop}{T:List TypeId}{w:World}{A:Option Addr}{m c:Nat}{xs:List α}(h:OL e B O T w (.slice A m c) xs)(hl:xs.length=m):In w A m c xs:=by
 obtain ⟨A9,c9,e9,h9⟩:=h.inn;injection e9 with q1 q2 q3;subst q1 q3;rw[hl]at h9;exact h9
theorem wW (w:World)(nm:ByteArray)(A:Option Addr)(n c:Nat)(cols:List Col)(hc:In w A n c cols)(A':Option Addr)(n' c':Nat)(A2:Option Addr)(n2 c2:Nat)(rows:List Ent)(hr:In w A2 n2 c2 rows)(A3:Option Addr)(n3 c3:Nat)(names:List ByteArray)(hn:In w A3 n3 c3 names)(hb0:n<=4096)(hb1:n3<=4096)(hb2:n2<=4096)(hcnt: ∀x∈rows,0<x.count/\x.count<=65536):
  Calls Tryz.prog 117 #[.agg #[.string nm,.slice A n c,.slice A' n' c',.slice A2 n2 c2],.slice A3 n3 c3] w
   λe w'=>(∃b,e=.returned (.map (some b))/\w.heap.size<=b/\jN Tryz.prog 9 w' b n2 (.int .i64 0) (λs=>.int .i64 (uM cols names rows s)))/\Below w.heap.size w w':=by
 have h63:=hr.le;have hmm:=@run_makeMap Tryz.prog;have UX:=hide hcnt;have EE:=hide hr.len;clear hcnt;go_enter Tryz.func117,Tryz.ntmps117;have HC:=hide hc;clear hc;have HR:=hide hr;clear hr;have HN:=hide hn;clear hn;go_wp2_with fail;obtain ⟨W1,hW1⟩: ∃W,W=w.alloc (.cells #[.string nm,.slice A n c,.slice A' n' c',.slice A2 n2 c2] 29):=⟨_,rfl⟩;obtain ⟨hbW1,fZ,g0,g1,g2,g3⟩:=kr hW1 rfl;rw[<-hW1];clear hW1;have HC:=hide (HC.out.below hbW1);have HR:=hide (HR.out.below hbW1);have HN:=hide (HN.out.below hbW1);have lN:=hide hbW1;clear hbW1;have LR:=lt_of_cell g0;have Gy:=hide (jN.made Tryz.prog 9 W1 (.int .i64 0));have HB0:Hid (Below W1.heap.size W1 (W1.alloc (.map #[] 0))):=hide ae;rw[<-fZ.out];go_wp2;go_loopw [12] (λi wr=> ∃k:Nat,k<=n2/\i=.int .i64 k/\jN Tryz.prog 9 wr W1.heap.size k (.int .i64 0) (λs=>.int .i64 (uM cols names (rows.take k) s))/\Below W1.heap.size W1 wr) (λi _=>n2-(RowKit.intOf i).toNat)
 case atStart=>exact ⟨0,Nat.zero_le _,rfl,Gy.out,HB0.out⟩
 case round=>
  obtain ⟨k,hk,rfl,hm,hb⟩:=hrel;have HM:=hide hm;clear hm;have HC:=hide (HC.out.below hb);have HR:=hide (HR.out.below hb);have HN:=hide (HN.out.below hb);obtain ⟨g0,g1,g2,g3,LR⟩:=wU hb LR g0 g1 g2 g3;have iM:=hide hb;clear hb;by_cases hlt:k<n2
  ·obtain ⟨b,off,x,rfl,hBb,HX,Ax,An,Ac,e0,e1,e2,e3⟩:=HR.out.ent hlt;have k0:(0:Int)<=(k:Int):=by omega
   have k1:(k:Int)<(n2:Int):=by omega
   have HXC:=hide (UX.out x (aH HX.out));have Rq:=hide (λs=>Qa (cols:=cols) (names:=names) (rows:=rows.take k) (λy hy=>UX.out y (List.mem_of_mem_take hy)) (by rw[List.length_take];omega) s);obtain ⟨T,hT⟩: ∃T,bE (aT cols names x.row)=T:=⟨_,rfl⟩;obtain ⟨F,hF⟩: ∃F,uM cols names (rows.take k) T=F:=⟨_,rfl⟩;have Gp:=hide (mU (aT cols names x.row));rw[hT]at Gp;have HT:=hide hT;have HF:=hide hF;have hFb:=Rq.out T;rw[hF]at hFb;have hxc:=HXC.out;have hwr:IntKind.i64.wrap (F+x.count)=F+x.count:=IntWalk.i64_in _ (by omega);have Rm:Hid (W1.heap.size<wr.heap.size):=hide HM.out.lt;have HUP:Hid (∀V,V.heap[W1.heap.size]?=wr.heap[W1.heap.size]?->(Instr.lookup 157 (.map (some W1.heap.size)) (.string T) false).run Tryz.prog V=.ok (.int .i64 F) V/\
     ∃w2,(Instr.mapUpdate 157 (.map (some W1.heap.size)) (.string T) (.int .i64 (F+x.count))).run Tryz.prog V=.ok () w2/\jN Tryz.prog 9 w2 W1.heap.size (k+1) (.int .i64 0) (λs=>.int .i64 (uM cols names (rows.take (k+1)) s))/\V.grownBy w2 (some W1.heap.size)):=hide λV hV=>by
    refine ⟨?_,?_⟩
    ·rw[<-HF.out];exact HM.out.look Tryz.underlying157 Tryz.underlying9 (λV=>Tryz.zeroValue3 V) Gp.out hV
    ·obtain ⟨w2,h1,h2,h3⟩:=(HM.out.same hV).update Tryz.underlying157 Tryz.underlying9 Gp.out (by simp only[maxLen];omega) (.int .i64 (F+x.count));refine ⟨w2,h1,h2.congr λs=>?_,h3⟩;rw[bg HX.out,J6,HT.out];by_cases hs:s=T
     ·subst hs;rw[if_pos rfl,if_pos rfl,HF.out]
     ·rw[if_neg hs,if_neg hs]
   clear hT hF hFb hxc;have HE2:=hide e2;go_wp2_with fail;obtain ⟨W2,hW2⟩: ∃W,W=wr.alloc (.cells #[.slice Ax An Ac,.int .i64 x.count] 50):=⟨_,rfl⟩;obtain ⟨hbW2,JS,x0,x1⟩:=Dj hW2 rfl;rw[<-hW2];clear hW2;have HC:=hide (HC.out.below hbW2);have HN:=hide (HN.out.below hbW2);obtain ⟨g0,g1,g2,g3,LR⟩:=wU hbW2 LR g0 g1 g2 g3;have Vr:=hide hbW2;have oF:=hide (aa iM.out hbW2);clear hbW2;have LX:=lt_of_cell x0;have G1:=hide g1;have X0:=hide x0;have X1:=hide x1;have HX2:=hide (HE2.out.below Vr.out);have HW2:=hide Vr.out;have Za:=hide oF.out;clear x0 x1 e0 e1 e2 HE2;have x0:=X0.out;have x1:=X1.out;have LG:True:=trivial;go_region_held3 (λV=>V.cell? ⟨w.heap.size,1,none⟩=some (.slice A n c)/\V.cell? ⟨wr.heap.size,0,none⟩=some (.slice Ax An Ac)/\V.cell? ⟨wr.heap.size,1,none⟩=some (.int .i64 x.count))
    (first|exact ⟨u0,u1,u2⟩|exact ⟨ah uA.out LR G1.out,ah uA.out LX X0.out,ah uA.out LX X1.out⟩|exact ⟨ah HB3.out LR G1.out,ah HB3.out LX X0.out,ah HB3.out LX X1.out⟩|exact ⟨g1,x0,x1⟩)
    (first
     |(clear LG;go_at_call 79;refine (zR _ A n c cols (by exact HC.out.below (Below.refl _ _).drew) A3 n3 c3 names (by exact HN.out.below (Below.refl _ _).drew) Ax An Ac x.row (by exact HX2.out.below (Below.refl _ _).drew) (by omega) hb1).mono ?_;rintro e w3 ⟨⟨A4,m4,c4,rfl,RG,XV,hm4⟩,hb3⟩;have HI:=hide (eu RG XV);have HB3:=hide (aj hb3);clear RG XV hm4 hb3;have Oa:True:=trivial)
     |(clear Oa;go_at_call 119;refine (Af _ A4 m4 c4 _ (by exact HI.out)).mono ?_;rintro e w4 ⟨rfl,hb4⟩;rw[HT.out];have uA:=hide (aa HB3.out hb4);have HQ4:=hide (aa HW2.out uA.out);have lk:=(HUP.out w4 (HQ4.out.block _ Rm.out)).1;obtain ⟨w5,hrun5,FC,hg5⟩:=(HUP.out w4 (HQ4.out.block _ Rm.out)).2;have U6:=hide FC;have lM:Hid (Below W1.heap.size W1 w5):=hide ((aa Za.out uA.out).grown hg5 (aa Za.out uA.out).size (λj e=>by injection e with e;omega));have u0:=(World.cell?_of_block (a:=⟨w.heap.size,1,none⟩) (hg5.block w.heap.size (lt_of_cell (ah uA.out LR G1.out)) (λe=>by injection e with e;have:=fZ.out;omega))).trans (ah uA.out LR G1.out);have u1:=(World.cell?_of_block (a:=⟨wr.heap.size,0,none⟩) (hg5.block wr.heap.size (lt_of_cell (ah uA.out LX X0.out)) (λe=>by injection e with e;have:=Rm.out;omega))).trans (ah uA.out LX X0.out);have u2:=(World.cell?_of_block (a:=⟨wr.heap.size,1,none⟩) (hg5.block wr.heap.size (lt_of_cell (ah uA.out LX X1.out)) (λe=>by injection e with e;have:=Rm.out;omega))).trans (ah uA.out LX X1.out);clear hb4 FC hg5;have RJ:True:=trivial))
   go_wp2;go_roundw
   case rel=>exact ⟨k+1,by omega,by go_num,U6.out,lM.out⟩
   case measure=>simp[RowKit.intOf];omega
  ·have HF:Hid (rows.take k=rows):=hide (List.take_of_length_le (by have:=EE.out;omega));have vL:=HM.out;rw[HF.out]at vL;have vL:=hide vL;obtain rfl:k=n2:=by omega
   go_wp2;go_ret;exact ⟨⟨_,rfl,by have:=lN.out.size;omega,vL.out⟩,(aa lN.out iM.out)⟩
structure Wvr where
 check:ByteArray
 row:List Val
structure Quar where
 relation:ByteArray
 row:List Val
 count:Int
 checks:List ByteArray
instance:Inhabited Wvr:=⟨⟨⟨#[]⟩,[]⟩⟩
instance:Inhabited Quar:=⟨⟨⟨#[]⟩,[],0,[]⟩⟩
instance:Inhabited Rel:=⟨⟨⟨#[]⟩,[],[],[]⟩⟩
instance:Rep Wvr where
 size:=2
 rd w S cs x:= ∃A n c,cs=[.string x.check,.slice A n c]/\Sl w S A n c x.row/\Str x.check
 len h:=by obtain ⟨_,_,_,rfl,_⟩:=h;rfl
 keep hs h:=by obtain ⟨A,n,c,rfl,h,hc⟩:=h;exact ⟨A,n,c,rfl,h.keep hs,hc⟩
 mono hs h:=by obtain ⟨A,n,c,rfl,h,hc⟩:=h;exact ⟨A,n,c,rfl,h.mono hs,hc⟩
instance:Rep Quar where
 size:=4
 rd w S cs x:= ∃A n c A' n' c',cs=[.string x.relation,.slice A n c,.int .i64 x.count,.slice A' n' c']/\Sl w S A n c x.row/\Sl w S A' n' c' x.checks/\Str x.relation/\eZ x.count
 len h:=by obtain ⟨_,_,_,_,_,_,rfl,_⟩:=h;rfl
 keep hs h:=by obtain ⟨A,n,c,A',n',c',rfl,h,h2,hc⟩:=h;exact ⟨A,n,c,A',n',c',rfl,h.keep hs,h2.keep hs,hc⟩
 mono hs h:=by obtain ⟨A,n,c,A',n',c',rfl,h,h2,hc⟩:=h;exact ⟨A,n,c,A',n',c',rfl,h.mono hs,h2.mono hs,hc⟩
instance:One Wvr:=⟨by rintro w S cs a ⟨A,n,c,rfl,_⟩ u hu;simp at hu;rcases hu with rfl|rfl <;> rfl⟩
instance:One Quar:=⟨by rintro w S cs a ⟨A,n,c,A',n',c',rfl,_⟩ u hu;simp at hu;rcases hu with rfl|rfl|rfl|rfl <;> rfl⟩
instance:One Chk:=⟨by rintro w S cs a ⟨_,_,_,_,_,_,_,_,_,rfl,_⟩ u hu;simp at hu;rcases hu with rfl|rfl|rfl|rfl|rfl|rfl|rfl|rfl|rfl|rfl|rfl|rfl|rfl|rfl <;> rfl⟩
section
variable {w:World}{A:Option Addr}{n c k:Nat}
theorem In.wvr {xs:List Wvr}(h:In w A n c xs)(hk:k<n): ∃b off x,A=some ⟨b,off,none⟩/\b<w.heap.size/\Hid (xs.drop k=x :: xs.drop (k+1))/\
  ∃A' n' c',w.cell? ⟨b,off+k*2,none⟩=some (.string x.check)/\w.cell? ⟨b,off+k*2+1,none⟩=some (.slice A' n' c')/\In w A' n' c' x.row/\Str x.check:=by
 obtain ⟨b,off,x,e,hb,hx,cs,⟨A',n',c',rfl,hs,hv⟩,hc⟩:=h.get hk;exact ⟨b,off,x,e,hb,hx,A',n',c',hc 0 (by simp),hc 1 (by simp),hs,hv⟩
theorem In.quar {xs:List Quar}(h:In w A n c xs)(hk:k<n): ∃b off x,A=some ⟨b,off,none⟩/\b<w.heap.size/\Hid (xs.drop k=x :: xs.drop (k+1))/\
  ∃A' n' c' A2 n2 c2,w.cell? ⟨b,off+k*4,none⟩=some (.string x.relation)/\w.cell? ⟨b,off+k*4+1,none⟩=some (.slice A' n' c')/\w.cell? ⟨b,off+k*4+2,none⟩=some (.int .i64 x.count)/\w.cell? ⟨b,off+k*4+3,none⟩=some (.slice A2 n2 c2)/\
   In w A' n' c' x.row/\In w A2 n2 c2 x.checks/\Str x.relation/\eZ x.count:=by
 obtain ⟨b,off,x,e,hb,hx,cs,⟨A',n',c',A2,n2,c2,rfl,hs,hs2,hv⟩,hc⟩:=h.get hk;exact ⟨b,off,x,e,hb,hx,A',n',c',A2,n2,c2,hc 0 (by simp),hc 1 (by simp),hc 2 (by simp),hc 3 (by simp),hs,hs2,hv.1,hv.2⟩
theorem In.rel {xs:List Rel}(h:In w A n c xs)(hk:k<n): ∃b off x,A=some ⟨b,off,none⟩/\b<w.heap.size/\Hid (xs.drop k=x :: xs.drop (k+1))/\
  ∃A1 n1 c1 A2 n2 c2 A3 n3 c3,w.cell? ⟨b,off+k*4,none⟩=some (.string x.name)/\w.cell? ⟨b,off+k*4+1,none⟩=some (.slice A1 n1 c1)/\w.cell? ⟨b,off+k*4+2,none⟩=some (.slice A2 n2 c2)/\w.cell? ⟨b,off+k*4+3,none⟩=some (.slice A3 n3 c3)/\
   In w A1 n1 c1 x.columns/\In w A3 n3 c3 x.rows:=by
 obtain ⟨b,off,x,e,hb,hx,cs,⟨A1,n1,c1,A2,n2,c2,A3,n3,c3,rfl,hs,hs2,hs3,hv⟩,hc⟩:=h.get hk;exact ⟨b,off,x,e,hb,hx,A1,n1,c1,A2,n2,c2,A3,n3,c3,hc 0 (by simp),hc 1 (by simp),hc 2 (by simp),hc 3 (by simp),hs,hs3⟩
theorem In.chk {xs:List Chk}(h:In w A n c xs)(hk:k<n): ∃b off x,A=some ⟨b,off,none⟩/\b<w.heap.size/\Hid (xs.drop k=x :: xs.drop (k+1))/\
  ∃A1 n1 c1 A2 n2 c2 A3 n3 c3,(w.cell? ⟨b,off+k*14,none⟩=some (.string x.name)/\w.cell? ⟨b,off+k*14+1,none⟩=some (.string x.table)/\w.cell? ⟨b,off+k*14+2,none⟩=some (.int .i64 x.kind)/\w.cell? ⟨b,off+k*14+3,none⟩=some (.slice A1 n1 c1)/\w.cell? ⟨b,off+k*14+4,none⟩=some (.string x.other)/\
   w.cell? ⟨b,off+k*14+5,none⟩=some (.slice A2 n2 c2)/\w.cell? ⟨b,off+k*14+6,none⟩=some (.int .i64 x.low)/\w.cell? ⟨b,off+k*14+7,none⟩=some (.int .i64 x.high)/\w.cell? ⟨b,off+k*14+8,none⟩=some (.slice A3 n3 c3)/\w.cell? ⟨b,off+k*14+9,none⟩=some (.int .i64 x.ln)/\w.cell? ⟨b,off+k*14+10,none⟩=some (.int .i64 x.ld)/\
   w.cell? ⟨b,off+k*14+11,none⟩=some (.int .i64 x.mn)/\w.cell? ⟨b,off+k*14+12,none⟩=some (.int .i64 x.md)/\w.cell? ⟨b,off+k*14+13,none⟩=some (.int .i64 x.policy))/\
   In w A1 n1 c1 x.cols/\In w A2 n2 c2 x.ocols/\In w A3 n3 c3 x.cond/\(Str x.name/\Str x.table/\eZ x.kind/\Str x.other/\eZ x.low/\eZ x.high/\eZ x.ln/\eZ x.ld/\eZ x.mn/\eZ x.md/\eZ x.policy):=by
 obtain ⟨b,off,x,e,hb,hx,cs,⟨A1,n1,c1,A2,n2,c2,A3,n3,c3,rfl,hs,hs2,hs3,hv⟩,hc⟩:=h.get hk;exact ⟨b,off,x,e,hb,hx,A1,n1,c1,A2,n2,c2,A3,n3,c3,⟨hc 0 (by simp),hc 1 (by simp),hc 2 (by simp),hc 3 (by simp),hc 4 (by simp),hc 5 (by simp),hc 6 (by simp),hc 7 (by simp),hc 8 (by simp),hc 9 (by simp),hc 10 (by simp),hc 11 (by simp),hc 12 (by simp),hc 13 (by simp)⟩,hs,hs2,hs3,hv⟩
end
def Gl (name:ByteArray)(row:List Val)(x:Wvr):Bool:=x.check.toList==name.toList&&vz x.row row
def dG (ws:List Wvr)(name:ByteArray)(row:List Val):Bool:=ws.any (Gl name row)
def ownB (name:ByteArray)(c:Chk):Bool:=c.table.toList==name.toList&&c.policy==0
def kK (cs:List Chk)(name:ByteArray):List Chk:=cs.filter (ownB name)
def zG:Rel:=⟨⟨#[]⟩,[],[],[]⟩
def Im (s:ByteArray)(r:Rel):Bool:=r.name.toList==s.toList
def Cz:Option Rel->Int×Rel
 |some r=>(0,r)
 |none=>(5,zG)
def dY (c:Chk)(others:List Rel):Int×Rel:=if ek c.other=true then (0,zG) else Cz (others.find? (Im c.other))
def jP (ws:List Wvr)(c:Chk)(bad:List Ent)(t:ByteArray):List ByteArray:=(bad.filter λx=>decide (bE x.row=t)&&!dG ws c.name x.row).map λ_=>c.name
def pF (r:Rel)(others:List Rel)(zs:List Zone)(c:Chk):Int×List Ent:=jZ c r.columns (dY c others).2.columns r.rows (dY c others).2.rows zs
def vG (r:Rel)(others:List Rel)(zs:List Zone)(c:Chk):Int:=if (dY c others).1≠0 then (dY c others).1 else (pF r others zs c).1
def qD (r:Rel)(others:List Rel)(zs:List Zone)(l:List Chk):Int:=ai (λ_=>vG r others zs) 0 l
def qE (r:Rel)(others:List Rel)(ws:List Wvr)(zs:List Zone)(l:List Chk)(t:ByteArray):List ByteArray:=l.flatMap λc=>jP ws c (pF r others zs c).2 t
def Bj (r:Rel)(cs:List Chk)(others:List Rel)(ws:List Wvr)(zs:List Zone):Int×List Ent×List Quar:=
 if qD r others zs (kK cs r.name)≠0 then (qD r others zs (kK cs r.name),[],[])
 else if aL r.rows≠0 then (aL r.rows,[],[])
 else if dZ r.rows=false then (8,[],[])
 else (0,r.rows.filter (λx=>(qE r others ws zs (kK cs r.name) (bE x.row)).isEmpty),
  (r.rows.filter λx=>!(qE r others ws zs (kK cs r.name) (bE x.row)).isEmpty).map λx=>⟨r.name,x.row,x.count,qE r others ws zs (kK cs r.name) (bE x.row)⟩)
theorem xw (ws:List Wvr)(c:Chk)(l:List Ent)(x:Ent)(t:ByteArray):
  jP ws c (l++[x]) t=if bE x.row=t/\dG ws c.name x.row=false then jP ws c l t++[c.name] else jP ws c l t:=by
 rw[jP,jP,List.filter_append,List.map_append];by_cases h:bE x.row=t/\dG ws c.name x.row=false
 ·rw[if_pos h];simp[h.1,h.2]
 ·rw[if_neg h];have h2:(decide (bE x.row=t)&&!dG ws c.name x.row)=false:=by
   cases q:dG ws c.name x.row
   ·have:¬bE x.row=t:=λe=>h ⟨e,q⟩;simp[this]
   ·simp
  simp[h2]
theorem Lp (r:Rel)(others:List Rel)(ws:List Wvr)(zs:List Zone)(l:List Chk)(c:Chk)(t:ByteArray):
  qE r others ws zs (l++[c]) t=qE r others ws zs l t++jP ws c (pF r others zs c).2 t:=by simp[qE]
theorem zD (ws:List Wvr)(c:Chk)(l:List Ent)(t:ByteArray):(jP ws c l t).length<=l.length:=by
 rw[jP,List.length_map];exact List.length_filter_le _ _
theorem Lm {r:Rel}{others:List Rel}{zs:List Zone}{c:Chk}(h:(pF r others zs c).1=0):(pF r others zs c).2.length<=4096:=by
 rw[pF,jZ]at h⊢
 split at h
 ·next h1=>exact absurd h h1
 ·next h1=>
  rw[if_neg h1];have h2:=(gp (by simpa using h1)).2.1;obtain ⟨hb,ht,_⟩:=aW h2;exact Nat.le_trans (List.length_filter_le _ _) (dI hb ht).1
def eF {α:Type}(p:α->Bool):Nat->List α->Int
 | _,[]=> -1
 |k,x :: l=>if p x then k else eF p (k+1) l
theorem uR {α:Type}(p:α->Bool)(l:List α): ∀k,(decide (0<=eF p k l))=l.any p:=by
 induction l with
 |nil=>intro k;rfl
 |cons x l ih=>
  intro k;rw[eF];cases h:p x
  ·rw[if_neg (by simp),ih (k+1)];simp[h]
  ·rw[if_pos rfl];simp[h]
theorem Oj (v:Val)(w:World):
  Calls Tryz.prog 150 #[.agg v.cells.toArray] w λe w'=>e=.returned (.bool (v.kind==0))/\Below w.heap.size w w':=by
 simp only[Val.cells];go_enter Tryz.func150,Tryz.ntmps150;go_wp2;go_ret;exact ⟨rfl,ae⟩
theorem zo (w:World)(A:Option Addr)(n c:Nat)(xs:List Val)(hx:In w A n c xs):
  Calls Tryz.prog 187 #[.slice A n c,.func (.func 150) #[] #[]] w
   λe w'=>e=.returned (.int .i64 (eF (λv:Val=>v.kind==0) 0 xs))/\Below w.heap.size w w':=by
 have h63:=hx.le;go_enter Tryz.func187,Tryz.ntmps187;go_wp2;go_loopw [8] (λi wr=> ∃k:Nat,k<=n/\i=.int .i64 k/\eF (λv:Val=>v.kind==0) 0 xs=eF (λv:Val=>v.kind==0) k (xs.drop k)/\Below w.heap.size w wr) (λi _=>n-(intOf i).toNat)
 case atStart=>exact ⟨0,Nat.zero_le _,rfl,rfl,Below.refl _ _⟩
 case round=>
  obtain ⟨k,hk,rfl,heq,hb⟩:=hrel;have HE:=hide heq;clear heq;by_cases hlt':k<n
  ·obtain ⟨b,off,x,rfl,hB,HX,e0,e1,e2,e3⟩:=(hx.below hb).val hlt';go_wp2_with fail;refine (Oj x _).mono ?_;rintro e w1 ⟨rfl,hb1⟩;have hbb:=aa hb hb1;clear hb1 e0 e1 e2;cases hz:(x.kind==0)
   ·go_wp2;all_goals (try (exfalso;go_light;simp_all;done));go_roundw
    case rel=>exact ⟨k+1,by omega,by go_num,by rw[HE.out,HX.out,eF,if_neg (by simp[hz])],hbb⟩
    case measure=>simp[intOf];omega
   ·go_wp2;all_goals (try (exfalso;go_light;simp_all;done));go_ret;exact ⟨ax (by rw[HE.out,HX.out,eF,if_pos hz]),hbb⟩
  ·go_wp2;go_ret;exact ⟨ax (by rw[HE.out,aI hx.len (by omega),eF]),hb⟩
theorem uO (w:World)(A:Option Addr)(n c:Nat)(xs:List Val)(hx:In w A n c xs):
  Calls Tryz.prog 149 #[.slice A n c,.func (.func 150) #[] #[]] w
   λe w'=>e=.returned (.bool (decide (0<=eF (λv:Val=>v.kind==0) 0 xs)))/\Below w.heap.size w w':=by
 go_enter Tryz.func149,Tryz.ntmps149;go_wp2_with fail;refine (zo _ _ _ _ xs hx).mono ?_;rintro e w1 ⟨rfl,hb1⟩;go_wp2;go_ret;exact ⟨rfl,hb1⟩
theorem xu (w:World)(A:Option Addr)(n c:Nat)(xs:List Val)(hx:In w A n c xs):
  Calls Tryz.prog 121 #[.slice A n c] w λe w'=>e=.returned (.bool (kX xs))/\Below w.heap.size w w':=by
 have HN:=hide (uR (λv:Val=>v.kind==0) xs 0);go_enter Tryz.func121,Tryz.ntmps121;go_wp2_with fail;refine (uO _ _ _ _ xs hx).mono ?_;rintro e w1 ⟨rfl,hb1⟩;rw[HN.out];go_wp2;go_ret;exact ⟨rfl,hb1⟩
theorem xe (w:World)(A:Option Addr)(n c:Nat)(xs:List Val)(hx:In w A n c xs):
  Calls Tryz.prog 69 #[.slice A n c] w λe w'=>e=.returned (.bool (kX xs))/\w=w':=by
 have h63:=hx.le;have HN:=hide (show kX xs=xs.any (λv=>v.kind==0) from rfl);obtain ⟨R,hR⟩: ∃R,kX xs=R:=⟨_,rfl⟩;rw[hR]at HN;rw[hR];clear hR;go_enter Tryz.func69,Tryz.ntmps69;go_wp2
 go_loop [3] (λi=> ∃k:Nat,k<=n/\i=.int .i64 k/\R=(xs.drop k).any (λv=>v.kind==0)) (λi=>n-(intOf i).toNat)
 case atStart=>exact ⟨0,Nat.zero_le _,rfl,HN.out⟩
 case round=>
  obtain ⟨k,hk,rfl,heq⟩:=hrel;have HE:=hide heq;clear heq HN;by_cases hlt':k<n
  ·obtain ⟨b,off,x,rfl,hB,HX,e0,e1,e2,e3⟩:=hx.val hlt';cases hz:(x.kind==0)
   ·go_wp2;all_goals (try (exfalso;go_light;simp_all;done))
    go_round
    case rel=>exact ⟨k+1,by omega,by go_num,by rw[HE.out,HX.out,List.any_cons,hz];rfl⟩
    case measure=>simp[intOf];omega
   ·obtain rfl:R=true:=by rw[HE.out,HX.out,List.any_cons,hz];rfl
    go_wp2;all_goals (try (exfalso;go_light;simp_all;done));go_ret;exact ⟨rfl,rfl⟩
  ·obtain rfl:R=false:=by rw[HE.out,aI hx.len (by omega)];rfl
   go_wp2;all_goals (try (exfalso;go_light;simp_all;done));go_ret;exact ⟨rfl,rfl⟩
end Go.Proofs.YtopjjlmfilgngaaGreatDoor
