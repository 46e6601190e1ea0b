/-
  check.text, check.picked; warehouseref28.pick. Plain law: what check.Violations answers; the texts of picked values tell them apart. No program is in sight. check.counted: how many rows have which values. check.missing; warehouseref28.hasNull: whether a row has a null.
-/
import Derived.Test.YthnelebakkggjaaGreatDoorGas
import Derived.Test.YthnelebakkggjaaGreatDoorGat
import Derived.Test.YthnelebakkggjaaGreatDoorGaw
namespace Go.Proofs.YthnelebakkggjaaGreatDoor
set_option maxHeartbeats 4000000
set_option maxRecDepth 100000
open Go.RowKit
set_option linter.unusedSimpArgs false
set_option linter.unusedVariables false
def ja (row:List Val):ByteArray:=⟨(encS row).2.toArray⟩
theorem Cy {w:World}{B n c:Nat}{A:Option Addr}{a:List UInt8}(h:OB B w (.slice A n c) a)(o:a.length=n):
  (convert 95 9 (.slice A n c)).run Tryz.prog w=.ok (.string ⟨a.toArray⟩) w:=by
 obtain⟨q,i,k⟩:=h.own;obtain rfl:=yA k;rcases i.2 with ⟨e,r⟩|⟨g,cap,d,e,hb,l,s,t,u,p⟩
 ·injection e with e1 e2 e3;subst e1 e2 e3;obtain rfl:a=[]:=List.eq_nil_of_length_eq_zero o;rw[run_convert_bytes_string w 95 9 5 none 0 0 Tryz.underlying95 Tryz.underlying5 Tryz.underlying9];rfl
 ·injection e with e1 e2 e3;subst e1 e2 e3;refine run_convert_bytes_back w 95 9 5 ⟨g,0,none⟩ _ a Tryz.underlying95 Tryz.underlying5 Tryz.underlying9 λj m=>?_;rw[jv,Nat.zero_add,cell_of_row w g _ d _ (0,0) l];have f:(d.toList.take (a.length*1))[j]?=(a.map λb=>Value.int .u8 b.toNat)[j]?:=by rw[<-p];rfl
  rw[List.getElem?_take_of_lt Ho]at f;rw[<-Array.getElem?_toList,f];simp[m]
theorem zG (w:World)(A:Option Addr)(n c:Nat)(row:List Val)(g:In w A n c row):
  Calls Tryz.prog 62 #[.slice A n c] w λe w'=>e=.returned (.string (ja row))/\Below w.heap.size w w':=by
 have b:=Hm (show ja row=⟨(encS row).2.toArray⟩ from rfl);generalize ja row=R at*;go_enter Tryz.func62,Tryz.ntmps62;go_wp2_with fail;refine(yI _ A n c row (by exact g)).mono ?_;rintro e i ⟨⟨v,rfl,a⟩,hb⟩;obtain⟨h,c1,rfl⟩:=a.form;have f:=Cy a rfl;rw[<-b.o]at f;have d:=Hm hb;clear a hb b;go_wp2;go_ret;exact⟨rfl,d.o⟩
def fF (cols:List Col)(names:List ByteArray)(row:List Val):List Val:=kQ row (gK cols names).2
theorem lV (cols:List Col)(names:List ByteArray):(gK cols names).2.length<=names.length:=by
 rw[gK]
 split
 ·exact Nat.zero_le _
 ·simp
theorem lC (row:List Val)(ks:List Int):(kQ row ks).length=ks.length:=by rw[kQ,List.length_map]
theorem zq (w:World)(A:Option Addr)(n c:Nat)(cols:List Col)(g:In w A n c cols)(h:Option Addr)(a c2:Nat)(names:List ByteArray)(d:In w h a c2 names)(A3:Option Addr)(n3 c3:Nat)(row:List Val)(C:In w A3 n3 c3 row)(S:n<=1048576)(V:a<=4096):
  Calls Tryz.prog 59 #[.slice A n c,.slice h a c2,.slice A3 n3 c3] w
   λe w'=>(∃A' m c',e=.returned (.slice A' m c')/\OL 67 w.heap.size (λ_=>False) [] w' (.slice A' m c') (fF cols names row)/\(fF cols names row).length=m/\m<=a)/\Below w.heap.size w w':=by
 have t:=Hm (lV cols names);have f:=Hm (show fF cols names row=kQ row (gK cols names).2 from rfl);have I:=Hm d.len;have l:=λW g d=>qx W A n c cols g h a c2 names d Ho S;obtain⟨D,y⟩: ∃k,gK cols names=k:=⟨_,rfl⟩;rw[y]at t f l;obtain⟨R,p⟩: ∃R,fF cols names row=R:=⟨_,rfl⟩;rw[p]at f;rw[p];clear y p;obtain⟨D,ks⟩:=D;have G:=Hm l;clear l;go_enter Tryz.func59,Tryz.ntmps59;have L:=Hm g;clear g;have M:=Hm d;clear d;have i:=Hm C;clear C;go_wp2_with fail;refine(G.o _ (by exact L.o) (by exact M.o)).mono ?_;rintro e X ⟨⟨v,rfl,s⟩,q⟩;obtain⟨E,c4,rfl⟩:=s.form;have z:ks.length<=a:=by rw[<-I.o];exact t.o
 obtain⟨m,r⟩: ∃m,ks.length=m:=⟨_,rfl⟩;have Q:=s.inn;obtain⟨T,U,P,j⟩:=Q;injection P with e1 e2 e3;subst e1 e3;rw[r]at j z⊢;have J:=Hm r;clear s e2 r;have i:=Hm (i.o.b q);have u:=Hm q;clear q;have H:=Hm j;clear j;go_wp2_with fail;refine(DJ _ A3 n3 c3 row (by exact i.o) E m c4 ks (by exact H.o) Ho).mono ?_;rintro e Y ⟨⟨F,O,rfl,B⟩,x⟩;have K:=Hm (B.rebase u.o.size);have N:=Hm (eu u.o x);clear x;clear B;go_wp2;go_ret;exact⟨⟨F,m,O,rfl,by rw[f.o];exact K.o,by rw[f.o,lC,J.o],z⟩,N.o⟩
theorem lY (w:World)(A:Option Addr)(n c:Nat)(cols:List Col)(g:In w A n c cols)(h:Option Addr)(a c2:Nat)(names:List ByteArray)(d:In w h a c2 names)(A3:Option Addr)(n3 c3:Nat)(row:List Val)(C:In w A3 n3 c3 row)(S:n<=1048576)(V:a<=4096):
  Calls Tryz.prog 72 #[.slice A n c,.slice h a c2,.slice A3 n3 c3] w
   λe w'=>(∃A' m c',e=.returned (.slice A' m c')/\OL 67 w.heap.size (λ_=>False) [] w' (.slice A' m c') (fF cols names row)/\(fF cols names row).length=m/\m<=a)/\Below w.heap.size w w':=by
 have t:=Hm (lV cols names);have f:=Hm (show fF cols names row=kQ row (gK cols names).2 from rfl);have I:=Hm d.len;have l:=λW g d=>lU W A n c cols g h a c2 names d Ho S;obtain⟨D,y⟩: ∃k,gK cols names=k:=⟨_,rfl⟩;rw[y]at t f l;obtain⟨R,p⟩: ∃R,fF cols names row=R:=⟨_,rfl⟩;rw[p]at f;rw[p];clear y p;obtain⟨D,ks⟩:=D;have G:=Hm l;clear l;go_enter Tryz.func72,Tryz.ntmps72;have L:=Hm g;clear g;have M:=Hm d;clear d;have i:=Hm C;clear C;go_wp2_with fail;refine(G.o _ (by exact L.o) (by exact M.o)).mono ?_;rintro e X ⟨⟨v,rfl,s⟩,q⟩;obtain⟨E,c4,rfl⟩:=s.form;have z:ks.length<=a:=by rw[<-I.o];exact t.o
 obtain⟨m,r⟩: ∃m,ks.length=m:=⟨_,rfl⟩;have Q:=s.inn;obtain⟨T,U,P,j⟩:=Q;injection P with e1 e2 e3;subst e1 e3;rw[r]at j z⊢;have J:=Hm r;clear s e2 r;have i:=Hm (i.o.b q);have u:=Hm q;clear q;have H:=Hm j;clear j;go_wp2_with fail;refine(Ju _ A3 n3 c3 row (by exact i.o) E m c4 ks (by exact H.o) Ho).mono ?_;rintro e Y ⟨⟨F,O,rfl,B⟩,x⟩;have K:=Hm (B.rebase u.o.size);have N:=Hm (eu u.o x);clear x;clear B;go_wp2;go_ret;exact⟨⟨F,m,O,rfl,by rw[f.o];exact K.o,by rw[f.o,lC,J.o],z⟩,N.o⟩
def gu (c:Chk)(a b:List Col)(d e:List Ent)(zs:List Zone):Int:=
 if gF c a b zs≠0 then gF c a b zs else if ji a d≠0 then ji a d else if jk c.kind=true then ji b e else 0
def nY (row:List Val):Bool:=row.any λv=>v.kind==0
def qO (cond:List Node)(cols:List Col)(row:List Val)(zs:List Zone):Bool:=(kT cond cols row zs).1==0&&truth (kT cond cols row zs).2==1
def l7:List Ent->Int
 | []=>0
 |x::l=>x.count+l7 l
def Ga (a b:List Val):Bool:=eZ a b==0
def wD (cols:List Col)(names:List ByteArray)(rows:List Ent)(v:List Val):List Ent:=rows.filter λx=>Ga (fF cols names x.row) v
def Fs (c:Chk)(v:Val):Bool:=v.kind != 0&&(decide (v.num<c.low) || decide (c.high<v.num))
def iU (c:Chk)(a b:List Col)(e d:List Ent)(zs:List Zone)(row:List Val):Bool:=
 if c.kind=0 then decide (1<l7 (wD a c.cols e (fF a c.cols row)))
 else if c.kind=1 then nY (fF a c.cols row)
 else if c.kind=2 then Fs c ((fF a c.cols row).getD 0 zeroV)
 else if c.kind=3 then !nY (fF a c.cols row)&&(wD b c.ocols d (fF a c.cols row)).isEmpty
 else if c.kind=4 then !qO c.cond a row zs
 else false
def jB (c:Chk)(e b:List Col)(a d:List Ent)(zs:List Zone):Int×List Ent:=
 if gu c e b a d zs≠0 then(gu c e b a d zs,[]) else(0,a.filter λx=>iU c e b a d zs x.row)
theorem F3 {α:Type}{f:Nat->α->Int}{l:List α}{k:Nat}(h:eH f k l=0)(a: ∀i j x,f i x=f j x): ∀x∈l,f 0 x=0:=λx c=>by
 obtain⟨j,b⟩:=List.mem_iff_getElem?.1 c;rw[a 0 (k+j) x];exact je h j x b
theorem Gw {cols:List Col}{row:List Val}(h:fB cols row=0){i:Nat}{v:Val}(b:row[i]?=some v):valid v=true:=by
 have a:=zy h b;rw[iq]at a;cases q:valid v
 ·rw[if_pos q]at a;omega
 ·rfl
theorem uy {a b:List Val}:Ga a b=true↔a=b:=by rw[Ga,beq_iff_eq,iG]
theorem D6 (l m:List Ent):l7 (l++m)=l7 l+l7 m:=by
 induction l with
 |nil=>simp[l7]
 |cons x l a=>rw[List.cons_append,l7,l7,a];omega
theorem Ci {l:List Ent}{C:Int}(h: ∀x∈l,0<=x.count/\x.count<=C):0<=l7 l/\l7 l<=C*(l.length:Int):=by
 induction l with
 |nil=>simp[l7]
 |cons x l b=>
  have c:=h x II;have d:=b λy a=>h y (by simp[a]);rw[l7,List.length_cons,show C*((l.length+1:Nat):Int)=C*(l.length:Int)+C by rw[Int.natCast_succ,Int.mul_add,Int.mul_one]];omega
theorem JH {l:List Ent}(h: ∀x∈l,0<x.count):(l7 l==0)=l.isEmpty:=by
 cases l with
 |nil=>rfl
 |cons x l=>
  have e:=h x II;have f:=(Ci (l:=l) (C:=x.count+l7 l+1) λy a=>⟨by have:=h y (by simp[a]);omega,by
   have key: ∀(m:List Ent),(∀z∈m,0<z.count)->y∈m->y.count<=l7 m:=λm=>by
    induction m with
    |nil=>intro _ h;cases h
    |cons z m d=>
     intro b a;have g:0<=l7 m:=by
      clear d a
      induction m with
      |nil=>simp[l7]
      |cons u m d=>
       have:=b u II;have:=d λq c=>b q (by
        rcases List.mem_cons.1 c with rfl|c
        ·simp
        ·simp[c])
       rw[l7];omega
     rw[l7];have i:=b z II;rcases List.mem_cons.1 a with rfl|a
     ·omega
     ·have:=d (λq c=>b q (by simp[c])) a;omega
   have:=key l (λz b=>h z (by simp[b])) a;omega⟩).1
  rw[l7];simp;omega
theorem yT {cols:List Col}{s:ByteArray}{i:Nat}(h:index cols s=(i:Int)): ∃c,cols[i]?=some c/\c.name.toList=s.toList:=by
 have key: ∀(l:List Col) (k:Nat),fU s k l= -1\/ ∃j:Nat,fU s k l=((k+j:Nat):Int)/\ ∃c,l[j]?=some c/\c.name.toList=s.toList:=λl=>by
  induction l with
  |nil=>intro k;exact .inl rfl
  |cons c l f=>
   intro k;rw[fU];by_cases d:(c.name.toList==s.toList)=true
   ·rw[if_pos d];exact .inr ⟨0,by simp,c,rfl,by simpa using d⟩
   ·rw[if_neg d];rcases f (k+1) with h|⟨j,h,c',a,b⟩
    ·exact .inl h
    ·exact .inr ⟨j+1,by rw[h];congr 1;omega,c',by simpa using a,b⟩
 rcases key cols 0 with a|⟨j,a,c,b,e⟩
 ·rw[index,a]at h;omega
 ·rw[index,a]at h;obtain rfl:j=i:=by omega
  exact⟨c,b,e⟩
theorem mJ {cols:List Col}{names:List ByteArray}(h:(gK cols names).1=0):
  (gK cols names).2=names.map (index cols)/\(∀s∈names,0<=index cols s/\index cols s<(cols.length:Int))/\names.length<=cols.length:=by
 have r:lF cols names=0:=by
  rw[gK]at h;by_cases a:lF cols names=0
  ·exact a
  ·rw[if_pos a]at h;exact h
 have t:=je (f:=wS cols names) (l:=names) (k:=0) r;have m: ∀(j:Nat) (s:ByteArray),names[j]?=some s->0<=index cols s/\mD (names.take j) s=false:=λj s hs=>by
  have a:=t j s hs;rw[Nat.zero_add,wS]at a;by_cases n:index cols s<0
  ·rw[if_pos n]at a;omega
  ·rw[if_neg n]at a;refine⟨Ho,?_⟩;cases b:mD (names.take j) s
   ·rfl
   ·rw[b]at a;simp at a
 have hb: ∀s∈names,0<=index cols s/\index cols s<(cols.length:Int):=λs hs=>by
  obtain⟨j,g⟩:=List.mem_iff_getElem?.1 hs;exact⟨(m j s g).1,(yS cols s).2⟩
 refine⟨by rw[gK,if_neg Ho],hb,?_⟩;have u:((names.map (index cols)).map Int.toNat).Nodup:=by
  rw[List.nodup_iff_pairwise_ne,List.map_map,List.pairwise_iff_getElem];intro i j hi g A e;rw[List.length_map]at hi g;rw[List.getElem_map,List.getElem_map]at e;have B:=m i names[i] (List.getElem?_eq_getElem hi);have z:=m j names[j] (List.getElem?_eq_getElem g);obtain⟨c,c1,c2⟩:=yT (cols:=cols) (s:=names[i]) (i:=(index cols names[i]).toNat) Ho;obtain⟨d,o,p⟩:=yT (cols:=cols) (s:=names[j]) (i:=(index cols names[j]).toNat) Ho;have q:(index cols names[i]).toNat=(index cols names[j]).toNat:=e;rw[q,o]at c1;injection c1 with c1;subst c1;have b:mD (names.take j) names[j]=true:=by
   rw[mD,List.any_eq_true];refine⟨names[i],?_,by rw[<-c2,p];simp⟩;exact List.mem_iff_getElem.2 ⟨i,by rw[List.length_take];omega,by rw[List.getElem_take]⟩
  rw[z.2]at b;cases b
 have a:((names.map (index cols)).map Int.toNat).length<=(List.range cols.length).length:=List.Nodup.length_le_of_subset u (λx v=>by
  obtain⟨y,w,rfl⟩:=List.mem_map.1 v;obtain⟨s,hs,rfl⟩:=List.mem_map.1 w;have:=hb s hs;exact List.mem_range.2 Ho)
 simpa using a
theorem uw {cols:List Col}{names:List ByteArray}{row:List Val}(b:fq cols=0)(h:(gK cols names).1=0)(d:fB cols row=0):
  (fF cols names row).length=names.length/\(fF cols names row).length<=12/\ ∀v∈fF cols names row,valid v=true:=by
 obtain⟨a,g,j⟩:=mJ h;have l:=uU d;have k:cols.length<=12:=by
  rw[fq]at b;by_cases q:cols.length<1\/12<cols.length
  ·rw[if_pos q]at b;omega
  ·omega
 have e:(fF cols names row).length=names.length:=by rw[fF,lC,a,List.length_map]
 refine⟨e,Ho,λv f=>?_⟩;rw[fF,kQ,a,List.map_map]at f;obtain⟨s,hs,rfl⟩:=List.mem_map.1 f;have hb:=g s hs;show valid (if 0<=index cols s/\index cols s<(row.length:Int) then row.getD (index cols s).toNat zeroV else zeroV)=true;have i:0<=index cols s/\index cols s<(row.length:Int):=by omega
 rw[if_pos i];have c:(index cols s).toNat<row.length:=by omega
 rw[List.getD_eq_getElem?_getD,List.getElem?_eq_getElem c];exact Gw d (List.getElem?_eq_getElem c)
theorem D5 {row:List Val}(c:row.length<=12)(a: ∀v∈row,valid v=true):ja row=⟨(encR row).toArray⟩:=by
 have b:eH oN 0 row=0:=by
  refine uL 0 λi hi=>?_;rw[oN,a _ (List.getElem_mem hi)];rfl
 rw[ja,encS,if_neg Ho,if_neg Ho]
theorem JG {a b:List Val}(c:a.length<=12)(e: ∀v∈a,valid v=true)(d:b.length<=12)(f: ∀v∈b,valid v=true):ja a=ja b↔a=b:=by
 constructor
 ·intro h;rw[D5 c e,D5 d f]at h;injection h with h;have g:=congrArg Array.toList h;exact IV c d e f (by simpa using g)
 ·rintro rfl;rfl
theorem gz {cols:List Col}{rows:List Ent}(h:ji cols rows=0):fA rows=0/\jE rows=true/\ ∀x∈rows,fB cols x.row=0:=by
 rw[ji]at h;by_cases a:fA rows=0
 ·rw[if_neg Ho]at h;cases b:jE rows
  ·rw[b,if_pos rfl]at h;omega
  ·rw[b,if_neg II]at h;exact⟨a,rfl,F3 h λ_ _ _=>rfl⟩
 ·rw[if_pos a]at h;exact absurd h a
theorem jS {rows:List Ent}(h:fA rows=0)(c:jE rows=true):rows.length<=4096/\ ∀x∈rows,0<x.count/\x.count<=65536:=by
 have g:rows.length<=4096:=by
  rw[fA]at h;by_cases q:4096<rows.length
  ·rw[if_pos q]at h;omega
  ·omega
 refine⟨g,λx d=>?_⟩;rw[fA,if_neg Ho]at h;obtain⟨j,f⟩:=List.mem_iff_getElem?.1 d;have a:=je h j x f;rw[iT]at a;have b:gy x=0:=by
  by_cases q:gy x=0
  ·exact q
  ·rw[if_pos q]at a;exact absurd a q
 rw[if_neg Ho]at a;have i:x.count≠0:=λq=>by rw[if_pos q]at a;omega
 have k: -65536<=x.count/\x.count<=65536:=by
  rw[gy]at b;by_cases q:12<x.row.length\/x.count < -65536\/65536<x.count
  ·rw[if_pos q]at b;omega
  ·omega
 rw[jE,Bool.and_eq_true,List.all_eq_true]at c;have e:=c.2 x d;simp at e;omega
theorem lQ {c:Chk}{a b:List Col}{zs:List Zone}(h:gF c a b zs=0):
  (0<=c.kind/\c.kind<=6)/\fq a=0/\(l8 c.kind=false->(gK a c.cols).1=0/\0<c.cols.length/\((c.kind=2\/c.kind=6)->c.cols.length=1)/\(jk c.kind=true->fq b=0/\(gK b c.ocols).1=0/\c.cols.length=c.ocols.length)):=by
 rw[gF]at h;by_cases i:c.kind<0\/6<c.kind\/c.policy<0\/2<c.policy
 ·rw[if_pos i]at h;omega
 rw[if_neg i]at h;by_cases j:c.policy=0/\(c.kind=5\/c.kind=6)
 ·rw[if_pos j]at h;omega
 rw[if_neg j]at h;by_cases f:fq a=0
 ·rw[if_neg Ho]at h;refine⟨Ho,f,λq=>?_⟩;rw[if_pos q,nA]at h;by_cases d:(gK a c.cols).1=0
  ·have m:=(mJ d).1;have r:(gK a c.cols).2.length=c.cols.length:=by rw[m,List.length_map]
   rw[if_neg Ho]at h;by_cases k:(gK a c.cols).2.length=0\/((c.kind=2\/c.kind=6)/\1<(gK a c.cols).2.length)
   ·rw[if_pos k]at h;omega
   rw[if_neg k]at h;refine⟨d,Ho,Ho,λp=>?_⟩;by_cases l:(c.kind=2\/c.kind=6)/\(a.getD ((gK a c.cols).2.getD 0 0).toNat default).kind≠2
   ·rw[if_pos l]at h;omega
   rw[if_neg l,p,if_neg II]at h;by_cases g:fq b=0
   ·rw[if_neg Ho]at h;by_cases e:(gK b c.ocols).1=0
    ·have n:=(mJ e).1;have s:(gK b c.ocols).2.length=c.ocols.length:=by rw[n,List.length_map]
     rw[if_neg Ho]at h;by_cases o:(gK a c.cols).2.length=(gK b c.ocols).2.length
     ·exact⟨g,e,Ho⟩
     ·rw[if_pos o]at h;omega
    ·rw[if_pos e]at h;exact absurd h e
   ·rw[if_pos g]at h;exact absurd h g
  ·rw[if_pos d]at h;exact absurd h d
 ·rw[if_pos f]at h;exact absurd h f
theorem jo {c:Chk}{rc oc:List Col}{rr orr:List Ent}{zs:List Zone}(h:gu c rc oc rr orr zs=0):gF c rc oc zs=0/\ji rc rr=0/\(jk c.kind=true->ji oc orr=0):=by
 rw[gu]at h;by_cases a:gF c rc oc zs=0
 ·rw[if_neg Ho]at h;by_cases b:ji rc rr=0
  ·rw[if_neg Ho]at h;refine⟨a,b,λd=>?_⟩;rw[if_pos d]at h;exact h
  ·rw[if_pos b]at h;exact absurd h b
 ·rw[if_pos a]at h;exact absurd h a
open Go.RowKit Go.Maps
def vD (cols:List Col)(names:List ByteArray)(rows:List Ent)(s:ByteArray):Int:=l7 (rows.filter λx=>decide (ja (fF cols names x.row)=s))
theorem Gn (cols:List Col)(names:List ByteArray)(rows:List Ent)(x:Ent)(s:ByteArray):
  vD cols names (rows++[x]) s=if s=ja (fF cols names x.row) then vD cols names rows s+x.count else vD cols names rows s:=by
 rw[vD,vD,List.filter_append,D6];by_cases h:s=ja (fF cols names x.row)
 ·subst h;rw[if_pos rfl,List.filter_cons_of_pos II,List.filter_nil,l7,l7];omega
 ·rw[if_neg h];have a:decide (ja (fF cols names x.row)=s)=false:=by simpa using λe:ja (fF cols names x.row)=s=>h e.symm
  simp[a,l7]
theorem J9 {cols:List Col}{names:List ByteArray}{rows:List Ent}(h: ∀x∈rows,0<x.count/\x.count<=65536)(d:rows.length<=4096)(s:ByteArray):0<=vD cols names rows s/\vD cols names rows s<=268435456:=by
 have b:=Ci (l:=rows.filter λx=>decide (ja (fF cols names x.row)=s)) (C:=65536) λx a=>by
  have:=h x (List.mem_filter.1 a).1;omega
 have c:=List.length_filter_le (λx:Ent=>decide (ja (fF cols names x.row)=s)) rows;rw[vD];omega
theorem mR (row:List Val):(ja row).size<=maxLen:=by
 have h:(encS row).2.length<=1000:=by
  rw[encS]
  split
  ·simp
  ·split
   ·simp
   ·rename_i f g;have b:eH oN 0 row=0:=by omega
    have c: ∀v∈row,valid v=true:=λv a=>by
     have:=F3 b (λ_ _ _=>rfl) v a;rw[oN]at this;cases h:valid v
     ·rw[h]at this;simp at this
     ·rfl
    have key: ∀l:List Val,(∀v∈l,valid v=true)->(l.flatMap kX).length<=66*l.length:=λl=>by
     induction l with
     |nil=>intro _;simp
     |cons v l e=>
      intro a;have i:=e λu d=>a u (by simp[d]);have j:(kX v).length<=66:=by
       rcases qH (a v II) with h|h|h|h|h
       ·rw[kX];simp[h.1]
       ·rw[kX];simp[h.1]
       ·rw[kX];simp[h.1,nM]
       ·exact qZ v (s:=v.str) Ho rfl
       ·rw[kX];simp[h.1,nM]
      rw[List.flatMap_cons,List.length_append,List.length_cons];omega
    have:=key row c;show(encR row).length<=1000;rw[encR,List.length_cons];omega
 show(encS row).2.toArray.size<=maxLen;rw[List.size_toArray];simp only[maxLen];omega
theorem iy {α:Type}[Rep α]{e:TypeId}{B:Nat}{O:Nat->Prop}{T:List TypeId}{w:World}{A:Option Addr}{m c:Nat}{xs:List α}(h:OL e B O T w (.slice A m c) xs)(d:xs.length=m):In w A m c xs:=by
 obtain⟨f,g,b,a⟩:=h.inn;injection b with q1 q2 q3;subst q1 q3;rw[d]at a;exact a
theorem xw (w:World)(nm:ByteArray)(A:Option Addr)(n c:Nat)(cols:List Col)(hc:In w A n c cols)(A':Option Addr)(n' c':Nat)(N:Option Addr)(g c2:Nat)(rows:List Ent)(L:In w N g c2 rows)(A3:Option Addr)(n3 c3:Nat)(names:List ByteArray)(hn:In w A3 n3 c3 names)(aK:n<=4096)(aB:n3<=4096)(aL:g<=4096)(al: ∀x∈rows,0<x.count/\x.count<=65536):
  Calls Tryz.prog 60 #[.agg #[.string nm,.slice A n c,.slice A' n' c',.slice N g c2],.slice A3 n3 c3] w
   λe w'=>(∃b,e=.returned (.map (some b))/\w.heap.size<=b/\lK Tryz.prog 9 w' b g (.int .i64 0) (λs=>.int .i64 (vD cols names rows s)))/\Below w.heap.size w w':=by
 have aI:=L.le;have aM:=@run_makeMap Tryz.prog;have Z:=Hm al;have av:=Hm L.len;clear al;go_enter Tryz.func60,Tryz.ntmps60;have m:=Hm hc;clear hc;have r:=Hm L;clear L;have p:=Hm hn;clear hn;go_wp2_with fail;obtain⟨d,X⟩: ∃W,W=w.alloc (.cells #[.string nm,.slice A n c,.slice A' n' c',.slice N g c2] 32):=⟨_,rfl⟩;obtain⟨z,ah,v,g1,g2,g3⟩:=lM X rfl;rw[<-X];clear X;have m:=Hm (m.o.b z);have r:=Hm (r.o.b z);have p:=Hm (p.o.b z);have af:=Hm z;clear z;have h:=lt_of_cell v;have ar:=Hm (lK.made Tryz.prog 9 d (.int .i64 0));have ap:Hl (Below d.heap.size d (d.alloc (.map #[] 0))):=Hm eB;rw[<-ah.o];go_wp2;go_loopw [12] (λi wr=> ∃k:Nat,k<=g/\i=.int .i64 k/\lK Tryz.prog 9 wr d.heap.size k (.int .i64 0) (λs=>.int .i64 (vD cols names (rows.take k) s))/\Below d.heap.size d wr) (λi _=>g-(RowKit.intOf i).toNat)
 case atStart=>exact⟨0,Nat.zero_le _,rfl,ar.o,ap.o⟩
 case round=>
  obtain⟨k,hk,rfl,hm,hb⟩:=hrel;have I:=Hm hm;clear hm;have m:=Hm (m.o.b hb);have r:=Hm (r.o.b hb);have p:=Hm (p.o.b hb);obtain⟨v,g1,g2,g3,h⟩:=iD hb h v g1 g2 g3;have ag:=Hm hb;clear hb;by_cases aC:k<g
  ·obtain⟨b,off,x,rfl,aJ,HX,Q,P,O,e0,e1,e2,e3⟩:=r.o.ent aC;have k0:(0:Int)<=(k:Int):=by omega
   have k1:(k:Int)<(g:Int):=by omega
   have az:=Hm (Z.o x (fE HX.o));have aw:=Hm (λs=>J9 (cols:=cols) (names:=names) (rows:=rows.take k) (λy hy=>Z.o y (List.mem_of_mem_take hy)) (by rw[List.length_take];omega) s);obtain⟨T,U⟩: ∃T,ja (fF cols names x.row)=T:=⟨_,rfl⟩;obtain⟨F,S⟩: ∃F,vD cols names (rows.take k) T=F:=⟨_,rfl⟩;have R:=Hm (mR (fF cols names x.row));rw[U]at R;have HT:=Hm U;have H:=Hm S;have ai:=aw.o T;rw[S]at ai;have aE:=az.o;have aO:IntKind.i64.wrap (F+x.count)=F+x.count:=IntWalk.i64_in _ Ho;have K:Hl (d.heap.size<wr.heap.size):=Hm I.o.lt;have ac:Hl (∀V,V.heap[d.heap.size]?=wr.heap[d.heap.size]?->(Instr.lookup 103 (.map (some d.heap.size)) (.string T) false).run Tryz.prog V=.ok (.int .i64 F) V/\
     ∃C,(Instr.mapUpdate 103 (.map (some d.heap.size)) (.string T) (.int .i64 (F+x.count))).run Tryz.prog V=.ok () C/\lK Tryz.prog 9 C d.heap.size (k+1) (.int .i64 0) (λs=>.int .i64 (vD cols names (rows.take (k+1)) s))/\V.grownBy C (some d.heap.size)):=Hm λV hV=>by
    refine⟨?_,?_⟩
    ·rw[<-H.o];exact I.o.look Tryz.underlying103 Tryz.underlying9 (λV=>Tryz.zeroValue3 V) R.o hV
    ·obtain⟨C,h1,h2,h3⟩:=(I.o.same hV).update Tryz.underlying103 Tryz.underlying9 R.o (by simp only[maxLen];omega) (.int .i64 (F+x.count));refine⟨C,h1,h2.congr λs=>?_,h3⟩;rw[gJ HX.o,Gn,HT.o];by_cases hs:s=T
     ·subst hs;rw[if_pos rfl,if_pos rfl,H.o]
     ·rw[if_neg hs,if_neg hs]
   clear U S ai aE;have aa:=Hm e2;go_wp2_with fail;obtain⟨W2,Y⟩: ∃W,W=wr.alloc (.cells #[.slice Q P O,.int .i64 x.count] 55):=⟨_,rfl⟩;obtain⟨q,aH,D,M⟩:=wG Y rfl;rw[<-Y];clear Y;have m:=Hm (m.o.b q);have p:=Hm (p.o.b q);obtain⟨v,g1,g2,g3,h⟩:=iD q h v g1 g2 g3;have ae:=Hm q;have aA:=Hm (eu ag.o q);clear q;have l:=lt_of_cell D;have E:=Hm g1;have t:=Hm D;have u:=Hm M;have ay:=Hm (aa.o.b ae.o);have ax:=Hm ae.o;have ad:=Hm aA.o;clear D M e0 e1 e2 aa;have D:=t.o;have M:=u.o;have aF:True:=trivial;go_region_held3 (λV=>V.cell? ⟨w.heap.size,1,none⟩=some (.slice A n c)/\V.cell? ⟨wr.heap.size,0,none⟩=some (.slice Q P O)/\V.cell? ⟨wr.heap.size,1,none⟩=some (.int .i64 x.count))
    (first|exact⟨u0,u1,u2⟩|exact⟨eG f.o h E.o,eG f.o l t.o,eG f.o l u.o⟩|exact⟨eG G.o h E.o,eG G.o l t.o,eG G.o l u.o⟩|exact⟨g1,D,M⟩)
    (first
     |(clear aF;go_at_call 59;refine(zq _ A n c cols (by exact m.o.b (IJ).drew) A3 n3 c3 names (by exact p.o.b (IJ).drew) Q P O x.row (by exact ay.o.b (IJ).drew) Ho aB).mono ?_;rintro e w3 ⟨⟨A4,m4,c4,rfl,an,ao,aD⟩,aj⟩;have HI:=Hm (iy an ao);have G:=Hm (eF aj);clear an ao aD aj;have aG:True:=trivial)
     |(clear aG;go_at_call 62;refine(zG _ A4 m4 c4 _ (by exact HI.o)).mono ?_;rintro e w4 ⟨rfl,ak⟩;rw[HT.o];have f:=Hm (eu G.o ak);have ab:=Hm (eu ax.o f.o);have lk:=(ac.o w4 (ab.o.block _ K.o)).1;obtain⟨w5,aN,am,B⟩:=(ac.o w4 (ab.o.block _ K.o)).2;have au:=Hm am;have aq:Hl (Below d.heap.size d w5):=Hm ((eu ad.o f.o).grown B (eu ad.o f.o).size (λj e=>by injection e with e;omega));have u0:=(World.cell?_of_block (a:=⟨w.heap.size,1,none⟩) (B.block w.heap.size (lt_of_cell (eG f.o h E.o)) (λe=>by injection e with e;have:=ah.o;omega))).trans (eG f.o h E.o);have u1:=(World.cell?_of_block (a:=⟨wr.heap.size,0,none⟩) (B.block wr.heap.size (lt_of_cell (eG f.o l t.o)) (λe=>by injection e with e;have:=K.o;omega))).trans (eG f.o l t.o);have u2:=(World.cell?_of_block (a:=⟨wr.heap.size,1,none⟩) (B.block wr.heap.size (lt_of_cell (eG f.o l u.o)) (λe=>by injection e with e;have:=K.o;omega))).trans (eG f.o l u.o);clear ak am B;have aP:True:=trivial))
   go_wp2;go_roundw
   case rel=>exact⟨k+1,Ho,by go_num,au.o,aq.o⟩
   case measure=>simp[RowKit.intOf];omega
  ·have H:Hl (rows.take k=rows):=Hm (List.take_of_length_le (by have:=av.o;omega));have J:=I.o;rw[H.o]at J;have J:=Hm J;obtain rfl:k=g:=by omega
   go_wp2;go_ret;exact⟨⟨_,rfl,by have:=af.o.size;omega,J.o⟩,(eu af.o ag.o)⟩
def mH {α:Type}(p:α->Bool):Nat->List α->Int
 | _,[]=> -1
 |k,x::l=>if p x then k else mH p (k+1) l
theorem BL {α:Type}(p:α->Bool)(l:List α): ∀k,(decide (0<=mH p k l))=l.any p:=by
 induction l with
 |nil=>intro k;rfl
 |cons x l a=>
  intro k;rw[mH];cases h:p x
  ·rw[if_neg II,a (k+1)];simp[h]
  ·rw[if_pos rfl];simp[h]
theorem Jp (v:Val)(w:World):
  Calls Tryz.prog 99 #[.agg v.cells.toArray] w λe w'=>e=.returned (.bool (v.kind==0))/\Below w.heap.size w w':=by
 simp only[Val.cells];go_enter Tryz.func99,Tryz.ntmps99;go_wp2;go_ret;exact⟨rfl,eB⟩
theorem yQ (w:World)(A:Option Addr)(n c:Nat)(xs:List Val)(d:In w A n c xs):
  Calls Tryz.prog 127 #[.slice A n c,.func (.func 99) #[] #[]] w
   λe w'=>e=.returned (.int .i64 (mH (λv:Val=>v.kind==0) 0 xs))/\Below w.heap.size w w':=by
 have t:=d.le;go_enter Tryz.func127,Tryz.ntmps127;go_wp2;go_loopw [8] (λi wr=> ∃k:Nat,k<=n/\i=.int .i64 k/\mH (λv:Val=>v.kind==0) 0 xs=mH (λv:Val=>v.kind==0) k (xs.drop k)/\Below w.heap.size w wr) (λi _=>n-(intOf i).toNat)
 case atStart=>exact⟨0,Nat.zero_le _,rfl,rfl,IJ⟩
 case round=>
  obtain⟨k,y,rfl,j,hb⟩:=hrel;have a:=Hm j;clear j;by_cases r:k<n
  ·obtain⟨b,off,x,rfl,u,f,m,p,q,s⟩:=(d.b hb).val r;go_wp2_with fail;refine(Jp x _).mono ?_;rintro e z ⟨rfl,g⟩;have h:=eu hb g;clear g m p q;cases l:(x.kind==0)
   ·go_wp2;all_goals(try(exfalso;go_light;simp_all;done));go_roundw
    case rel=>exact⟨k+1,Ho,by go_num,by rw[a.o,f.o,mH,if_neg (by simp[l])],h⟩
    case measure=>simp[intOf];omega
   ·go_wp2;all_goals(try(exfalso;go_light;simp_all;done));go_ret;exact⟨eQ (by rw[a.o,f.o,mH,if_pos l]),h⟩
  ·go_wp2;go_ret;exact⟨eQ (by rw[a.o,fG d.len Ho,mH]),hb⟩
theorem vE (w:World)(A:Option Addr)(n c:Nat)(xs:List Val)(b:In w A n c xs):
  Calls Tryz.prog 98 #[.slice A n c,.func (.func 99) #[] #[]] w
   λe w'=>e=.returned (.bool (decide (0<=mH (λv:Val=>v.kind==0) 0 xs)))/\Below w.heap.size w w':=by
 go_enter Tryz.func98,Tryz.ntmps98;go_wp2_with fail;refine(yQ _ _ _ _ xs b).mono ?_;rintro e d ⟨rfl,a⟩;go_wp2;go_ret;exact⟨rfl,a⟩
theorem xH (w:World)(A:Option Addr)(n c:Nat)(xs:List Val)(d:In w A n c xs):
  Calls Tryz.prog 64 #[.slice A n c] w λe w'=>e=.returned (.bool (nY xs))/\Below w.heap.size w w':=by
 have a:=Hm (BL (λv:Val=>v.kind==0) xs 0);go_enter Tryz.func64,Tryz.ntmps64;go_wp2_with fail;refine(vE _ _ _ _ xs d).mono ?_;rintro e f ⟨rfl,b⟩;rw[a.o];go_wp2;go_ret;exact⟨rfl,b⟩
theorem xz (w:World)(A:Option Addr)(n c:Nat)(xs:List Val)(g:In w A n c xs):
  Calls Tryz.prog 73 #[.slice A n c] w λe w'=>e=.returned (.bool (nY xs))/\w=w':=by
 have t:=g.le;have d:=Hm (show nY xs=xs.any (λv=>v.kind==0) from rfl);obtain⟨R,f⟩: ∃R,nY xs=R:=⟨_,rfl⟩;rw[f]at d;rw[f];clear f;go_enter Tryz.func73,Tryz.ntmps73;go_wp2
 go_loop [3] (λi=> ∃k:Nat,k<=n/\i=.int .i64 k/\R=(xs.drop k).any (λv=>v.kind==0)) (λi=>n-(intOf i).toNat)
 case atStart=>exact⟨0,Nat.zero_le _,rfl,d.o⟩
 case round=>
  obtain⟨k,y,rfl,j⟩:=hrel;have a:=Hm j;clear j d;by_cases m:k<n
  ·obtain⟨b,off,x,rfl,u,h,p,q,r,s⟩:=g.val m;cases l:(x.kind==0)
   ·go_wp2;all_goals(try(exfalso;go_light;simp_all;done))
    go_round
    case rel=>exact⟨k+1,Ho,by go_num,by rw[a.o,h.o,List.any_cons,l];rfl⟩
    case measure=>simp[intOf];omega
   ·obtain rfl:R=true:=by rw[a.o,h.o,List.any_cons,l];rfl
    go_wp2;all_goals(try(exfalso;go_light;simp_all;done));go_ret;exact⟨rfl,rfl⟩
  ·obtain rfl:R=false:=by rw[a.o,fG g.len Ho];rfl
   go_wp2;all_goals(try(exfalso;go_light;simp_all;done));go_ret;exact⟨rfl,rfl⟩
end Go.Proofs.YthnelebakkggjaaGreatDoor
