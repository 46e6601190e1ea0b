/-
  check.text, check.picked; warehouseref28.pick. Plain law: what check.Violations answers; the texts of picked values tell them apart. No program is in sight. check.counted: how many rows have which values. Chapter 30 as data: waivers and quarantined rows; what Waived, ofRelation, otherOf, violators, Divide, Rejoin answer. No program is in sight. check.missing; warehouseref28.hasNull: whether a row has a null.
-/
import Derived.Test.YtopjjlmfilgngaaGreatDoorGaq
import Derived.Test.YtopjjlmfilgngaaGreatDoorGar
import Derived.Test.YtopjjlmfilgngaaGreatDoorGau
namespace Go.Proofs.YtopjjlmfilgngaaGreatDoor
set_option maxHeartbeats 4000000
set_option maxRecDepth 100000
open Go.RowKit
set_option linter.unusedSimpArgs false
set_option linter.unusedVariables false
def iD (row:List Val):ByteArray:=⟨(encS row).2.toArray⟩
theorem DW {w:World}{B n c:Nat}{A:Option Addr}{a:List UInt8}(h:OB B w (.slice A n c) a)(o:a.length=n):
  (convert 120 9 (.slice A n c)).run Tryz.prog w=.ok (.string ⟨a.toArray⟩) w:=by
 obtain⟨q,i,k⟩:=h.own;obtain rfl:=yN k;rcases i.2 with ⟨e,r⟩|⟨g,cap,d,e,hb,l,s,t,u,p⟩
 ·injection e with e1 e2 e3;subst e1 e2 e3;obtain rfl:a=[]:=List.eq_nil_of_length_eq_zero o;rw[run_convert_bytes_string w 120 9 5 none 0 0 Tryz.underlying120 Tryz.underlying5 Tryz.underlying9];rfl
 ·injection e with e1 e2 e3;subst e1 e2 e3;refine run_convert_bytes_back w 120 9 5 ⟨g,0,none⟩ _ a Tryz.underlying120 Tryz.underlying5 Tryz.underlying9 λj m=>?_;rw[mE,Nat.zero_add,cell_of_row w g _ d _ (0,0) l];have f:(d.toList.take (a.length*1))[j]?=(a.map λb=>Value.int .u8 b.toNat)[j]?:=by rw[<-p];rfl
  rw[List.getElem?_take_of_lt (by omega)]at f;rw[<-Array.getElem?_toList,f];simp[m]
theorem zV (w:World)(A:Option Addr)(n c:Nat)(row:List Val)(g:In w A n c row):
  Calls Tryz.prog 119 #[.slice A n c] w λe w'=>e=.returned (.string (iD row))/\Below w.heap.size w w':=by
 have b:=Hm (show iD row=⟨(encS row).2.toArray⟩ from rfl);generalize iD row=R at*;go_enter Tryz.func119,Tryz.ntmps119;go_wp2_with fail;refine(yX _ A n c row (by exact g)).mono ?_;rintro e i ⟨⟨v,rfl,a⟩,hb⟩;obtain⟨h,c1,rfl⟩:=a.form;have f:=DW a rfl;rw[<-b.o]at f;have d:=Hm hb;clear a hb b;go_wp2;go_ret;exact⟨rfl,d.o⟩
def gB (cols:List Col)(names:List ByteArray)(row:List Val):List Val:=kX row (il cols names).2
theorem mO (cols:List Col)(names:List ByteArray):(il cols names).2.length<=names.length:=by
 rw[il]
 split
 ·exact Nat.zero_le _
 ·simp
theorem mD (row:List Val)(ks:List Int):(kX row ks).length=ks.length:=by rw[kX,List.length_map]
theorem sK (w:World)(A:Option Addr)(n c:Nat)(cols:List Col)(d:In w A n c cols)(A2:Option Addr)(n2 c2:Nat)(names:List ByteArray)(a:In w A2 n2 c2 names)(A3:Option Addr)(n3 c3:Nat)(row:List Val)(y:In w A3 n3 c3 row)(O:n<=1048576)(S:n2<=4096):
  Calls Tryz.prog 79 #[.slice A n c,.slice A2 n2 c2,.slice A3 n3 c3] w
   λe w'=>(∃A' m c',e=.returned (.slice A' m c')/\OL 36 w.heap.size (λ_=>False) [] w' (.slice A' m c') (gB cols names row)/\(gB cols names row).length=m/\m<=n2)/\Below w.heap.size w w':=by
 have q:=Hm (mO cols names);have b:=Hm (show gB cols names row=kX row (il cols names).2 from rfl);have F:=Hm a.len;have h:=λW d a=>tX W A n c cols d A2 n2 c2 names a (by omega) O;obtain⟨z,t⟩: ∃k,il cols names=k:=⟨_,rfl⟩;rw[t]at q b h;obtain⟨R,i⟩: ∃R,gB cols names row=R:=⟨_,rfl⟩;rw[i]at b;rw[i];clear t i;obtain⟨z,ks⟩:=z;have D:=Hm h;clear h;go_enter Tryz.func79,Tryz.ntmps79;have I:=Hm d;clear d;have J:=Hm a;clear a;have f:=Hm y;clear y;go_wp2_with fail;refine(D.o _ (by exact I.o) (by exact J.o)).mono ?_;rintro e T ⟨⟨v,rfl,p⟩,j⟩;obtain⟨B,c4,rfl⟩:=p.form;have u:ks.length<=n2:=by rw[<-F.o];exact q.o
 obtain⟨m,l⟩: ∃m,ks.length=m:=⟨_,rfl⟩;have N:=p.inn;obtain⟨P,Q,M,g⟩:=N;injection M with e1 e2 e3;subst e1 e3;rw[l]at g u⊢;have G:=Hm l;clear p e2 l;have f:=Hm (f.o.below j);have r:=Hm j;clear j;have E:=Hm g;clear g;go_wp2_with fail;refine(LG _ A3 n3 c3 row (by exact f.o) B m c4 ks (by exact E.o) (by omega)).mono ?_;rintro e U ⟨⟨C,L,rfl,x⟩,s⟩;have H:=Hm (x.rebase r.o.size);have K:=Hm (fH r.o s);clear s;clear x;go_wp2;go_ret;exact⟨⟨C,m,L,rfl,by rw[b.o];exact H.o,by rw[b.o,mD,G.o],u⟩,K.o⟩
theorem kH (w:World)(A:Option Addr)(n c:Nat)(cols:List Col)(d:In w A n c cols)(A2:Option Addr)(n2 c2:Nat)(names:List ByteArray)(a:In w A2 n2 c2 names)(A3:Option Addr)(n3 c3:Nat)(row:List Val)(y:In w A3 n3 c3 row)(O:n<=1048576)(S:n2<=4096):
  Calls Tryz.prog 68 #[.slice A n c,.slice A2 n2 c2,.slice A3 n3 c3] w
   λe w'=>(∃A' m c',e=.returned (.slice A' m c')/\OL 36 w.heap.size (λ_=>False) [] w' (.slice A' m c') (gB cols names row)/\(gB cols names row).length=m/\m<=n2)/\Below w.heap.size w w':=by
 have q:=Hm (mO cols names);have b:=Hm (show gB cols names row=kX row (il cols names).2 from rfl);have F:=Hm a.len;have h:=λW d a=>l7 W A n c cols d A2 n2 c2 names a (by omega) O;obtain⟨z,t⟩: ∃k,il cols names=k:=⟨_,rfl⟩;rw[t]at q b h;obtain⟨R,i⟩: ∃R,gB cols names row=R:=⟨_,rfl⟩;rw[i]at b;rw[i];clear t i;obtain⟨z,ks⟩:=z;have D:=Hm h;clear h;go_enter Tryz.func68,Tryz.ntmps68;have I:=Hm d;clear d;have J:=Hm a;clear a;have f:=Hm y;clear y;go_wp2_with fail;refine(D.o _ (by exact I.o) (by exact J.o)).mono ?_;rintro e T ⟨⟨v,rfl,p⟩,j⟩;obtain⟨B,c4,rfl⟩:=p.form;have u:ks.length<=n2:=by rw[<-F.o];exact q.o
 obtain⟨m,l⟩: ∃m,ks.length=m:=⟨_,rfl⟩;have N:=p.inn;obtain⟨P,Q,M,g⟩:=N;injection M with e1 e2 e3;subst e1 e3;rw[l]at g u⊢;have G:=Hm l;clear p e2 l;have f:=Hm (f.o.below j);have r:=Hm j;clear j;have E:=Hm g;clear g;go_wp2_with fail;refine(LH _ A3 n3 c3 row (by exact f.o) B m c4 ks (by exact E.o) (by omega)).mono ?_;rintro e U ⟨⟨C,L,rfl,x⟩,s⟩;have H:=Hm (x.rebase r.o.size);have K:=Hm (fH r.o s);clear s;clear x;go_wp2;go_ret;exact⟨⟨C,m,L,rfl,by rw[b.o];exact H.o,by rw[b.o,mD,G.o],u⟩,K.o⟩
def gP (c:Chk)(a b:List Col)(d e:List Ent)(zs:List Zone):Int:=
 if gQ c a b zs≠0 then gQ c a b zs else if iL a d≠0 then iL a d else if kI c.kind=true then iL b e else 0
def oo (row:List Val):Bool:=row.any λv=>v.kind==0
def qQ (cond:List Node)(cols:List Col)(row:List Val)(zs:List Zone):Bool:=(kW cond cols row zs).1==0&&truth (kW cond cols row zs).2==1
def mf:List Ent->Int
 | []=>0
 |x::l=>x.count+mf l
def oV (a b:List Val):Bool:=gq a b==0
def wT (cols:List Col)(names:List ByteArray)(rows:List Ent)(v:List Val):List Ent:=rows.filter λx=>oV (gB cols names x.row) v
def Gu (c:Chk)(v:Val):Bool:=v.kind != 0&&(decide (v.num<c.low) || decide (c.high<v.num))
def iU (c:Chk)(a b:List Col)(e d:List Ent)(zs:List Zone)(row:List Val):Bool:=
 if c.kind=0 then decide (1<mf (wT a c.cols e (gB a c.cols row)))
 else if c.kind=1 then oo (gB a c.cols row)
 else if c.kind=2 then Gu c ((gB a c.cols row).getD 0 zeroV)
 else if c.kind=3 then !oo (gB a c.cols row)&&(wT b c.ocols d (gB a c.cols row)).isEmpty
 else if c.kind=4 then !qQ c.cond a row zs
 else false
def jg (c:Chk)(e b:List Col)(a d:List Ent)(zs:List Zone):Int×List Ent:=
 if gP c e b a d zs≠0 then(gP c e b a d zs,[]) else(0,a.filter λx=>iU c e b a d zs x.row)
theorem Hr {α:Type}{f:Nat->α->Int}{l:List α}{k:Nat}(h:fQ f k l=0)(a: ∀i j x,f i x=f j x): ∀x∈l,f 0 x=0:=λx c=>by
 obtain⟨j,b⟩:=List.mem_iff_getElem?.1 c;rw[a 0 (k+j) x];exact jF h j x b
theorem BH {cols:List Col}{row:List Val}(h:gF cols row=0){i:Nat}{v:Val}(b:row[i]?=some v):valid v=true:=by
 have a:=zO h b;rw[ja]at a;cases q:valid v
 ·rw[if_pos q]at a;omega
 ·rfl
theorem pQ {a b:List Val}:oV a b=true↔a=b:=by rw[oV,beq_iff_eq,jd]
theorem EX (l m:List Ent):mf (l++m)=mf l+mf m:=by
 induction l with
 |nil=>simp[mf]
 |cons x l a=>rw[List.cons_append,mf,mf,a];omega
theorem Dr {l:List Ent}{C:Int}(h: ∀x∈l,0<=x.count/\x.count<=C):0<=mf l/\mf l<=C*(l.length:Int):=by
 induction l with
 |nil=>simp[mf]
 |cons x l b=>
  have c:=h x (by simp);have d:=b λy a=>h y (by simp[a]);rw[mf,List.length_cons,show C*((l.length+1:Nat):Int)=C*(l.length:Int)+C by rw[Int.natCast_succ,Int.mul_add,Int.mul_one]];omega
theorem Mi {l:List Ent}(h: ∀x∈l,0<x.count):(mf l==0)=l.isEmpty:=by
 cases l with
 |nil=>rfl
 |cons x l=>
  have e:=h x (by simp);have f:=(Dr (l:=l) (C:=x.count+mf l+1) λy a=>⟨by have:=h y (by simp[a]);omega,by
   have key: ∀(m:List Ent),(∀z∈m,0<z.count)->y∈m->y.count<=mf m:=λm=>by
    induction m with
    |nil=>intro _ h;cases h
    |cons z m d=>
     intro b a;have g:0<=mf m:=by
      clear d a
      induction m with
      |nil=>simp[mf]
      |cons u m d=>
       have:=b u (by simp);have:=d λq c=>b q (by
        rcases List.mem_cons.1 c with rfl|c
        ·simp
        ·simp[c])
       rw[mf];omega
     rw[mf];have i:=b z (by simp);rcases List.mem_cons.1 a with rfl|a
     ·omega
     ·have:=d (λq c=>b q (by simp[c])) a;omega
   have:=key l (λz b=>h z (by simp[b])) a;omega⟩).1
  rw[mf];simp;omega
theorem zl {cols:List Col}{s:ByteArray}{i:Nat}(h:index cols s=(i:Int)): ∃c,cols[i]?=some c/\c.name.toList=s.toList:=by
 have key: ∀(l:List Col) (k:Nat),gV s k l= -1\/ ∃j:Nat,gV s k l=((k+j:Nat):Int)/\ ∃c,l[j]?=some c/\c.name.toList=s.toList:=λl=>by
  induction l with
  |nil=>intro k;exact .inl rfl
  |cons c l f=>
   intro k;rw[gV];by_cases d:(c.name.toList==s.toList)=true
   ·rw[if_pos d];exact .inr ⟨0,by simp,c,rfl,by simpa using d⟩
   ·rw[if_neg d];rcases f (k+1) with h|⟨j,h,c',a,b⟩
    ·exact .inl h
    ·exact .inr ⟨j+1,by rw[h];congr 1;omega,c',by simpa using a,b⟩
 rcases key cols 0 with a|⟨j,a,c,b,e⟩
 ·rw[index,a]at h;omega
 ·rw[index,a]at h;obtain rfl:j=i:=by omega
  exact⟨c,b,e⟩
theorem mM {cols:List Col}{names:List ByteArray}(h:(il cols names).1=0):
  (il cols names).2=names.map (index cols)/\(∀s∈names,0<=index cols s/\index cols s<(cols.length:Int))/\names.length<=cols.length:=by
 have r:lK cols names=0:=by
  rw[il]at h;by_cases a:lK cols names=0
  ·exact a
  ·rw[if_pos a]at h;exact h
 have t:=jF (f:=xu cols names) (l:=names) (k:=0) r;have m: ∀(j:Nat) (s:ByteArray),names[j]?=some s->0<=index cols s/\mG (names.take j) s=false:=λj s hs=>by
  have a:=t j s hs;rw[Nat.zero_add,xu]at a;by_cases n:index cols s<0
  ·rw[if_pos n]at a;omega
  ·rw[if_neg n]at a;refine⟨by omega,?_⟩;cases b:mG (names.take j) s
   ·rfl
   ·rw[b]at a;simp at a
 have hb: ∀s∈names,0<=index cols s/\index cols s<(cols.length:Int):=λs hs=>by
  obtain⟨j,g⟩:=List.mem_iff_getElem?.1 hs;exact⟨(m j s g).1,(zk cols s).2⟩
 refine⟨by rw[il,if_neg (by omega)],hb,?_⟩;have u:((names.map (index cols)).map Int.toNat).Nodup:=by
  rw[List.nodup_iff_pairwise_ne,List.map_map,List.pairwise_iff_getElem];intro i j hi g A e;rw[List.length_map]at hi g;rw[List.getElem_map,List.getElem_map]at e;have B:=m i names[i] (List.getElem?_eq_getElem hi);have z:=m j names[j] (List.getElem?_eq_getElem g);obtain⟨c,c1,c2⟩:=zl (cols:=cols) (s:=names[i]) (i:=(index cols names[i]).toNat) (by omega);obtain⟨d,o,p⟩:=zl (cols:=cols) (s:=names[j]) (i:=(index cols names[j]).toNat) (by omega);have q:(index cols names[i]).toNat=(index cols names[j]).toNat:=e;rw[q,o]at c1;injection c1 with c1;subst c1;have b:mG (names.take j) names[j]=true:=by
   rw[mG,List.any_eq_true];refine⟨names[i],?_,by rw[<-c2,p];simp⟩;exact List.mem_iff_getElem.2 ⟨i,by rw[List.length_take];omega,by rw[List.getElem_take]⟩
  rw[z.2]at b;cases b
 have a:((names.map (index cols)).map Int.toNat).length<=(List.range cols.length).length:=List.Nodup.length_le_of_subset u (λx v=>by
  obtain⟨y,w,rfl⟩:=List.mem_map.1 v;obtain⟨s,hs,rfl⟩:=List.mem_map.1 w;have:=hb s hs;exact List.mem_range.2 (by omega))
 simpa using a
theorem uJ {cols:List Col}{names:List ByteArray}{row:List Val}(b:gu cols=0)(h:(il cols names).1=0)(d:gF cols row=0):
  (gB cols names row).length=names.length/\(gB cols names row).length<=12/\ ∀v∈gB cols names row,valid v=true:=by
 obtain⟨a,g,j⟩:=mM h;have l:=oD d;have k:cols.length<=12:=by
  rw[gu]at b;by_cases q:cols.length<1\/12<cols.length
  ·rw[if_pos q]at b;omega
  ·omega
 have e:(gB cols names row).length=names.length:=by rw[gB,mD,a,List.length_map]
 refine⟨e,by omega,λv f=>?_⟩;rw[gB,kX,a,List.map_map]at f;obtain⟨s,hs,rfl⟩:=List.mem_map.1 f;have hb:=g s hs;show valid (if 0<=index cols s/\index cols s<(row.length:Int) then row.getD (index cols s).toNat zeroV else zeroV)=true;have i:0<=index cols s/\index cols s<(row.length:Int):=by omega
 rw[if_pos i];have c:(index cols s).toNat<row.length:=by omega
 rw[List.getD_eq_getElem?_getD,List.getElem?_eq_getElem c];exact BH d (List.getElem?_eq_getElem c)
theorem EU {row:List Val}(c:row.length<=12)(a: ∀v∈row,valid v=true):iD row=⟨(encR row).toArray⟩:=by
 have b:fQ oW 0 row=0:=by
  refine vo 0 λi hi=>?_;rw[oW,a _ (List.getElem_mem hi)];rfl
 rw[iD,encS,if_neg (by omega),if_neg (by omega)]
theorem EW {a b:List Val}(c:a.length<=12)(e: ∀v∈a,valid v=true)(d:b.length<=12)(f: ∀v∈b,valid v=true):iD a=iD b↔a=b:=by
 constructor
 ·intro h;rw[EU c e,EU d f]at h;injection h with h;have g:=congrArg Array.toList h;exact Kz c d e f (by simpa using g)
 ·rintro rfl;rfl
theorem gW {cols:List Col}{rows:List Ent}(h:iL cols rows=0):gN rows=0/\jJ rows=true/\ ∀x∈rows,gF cols x.row=0:=by
 rw[iL]at h;by_cases a:gN rows=0
 ·rw[if_neg (by omega)]at h;cases b:jJ rows
  ·rw[b,if_pos rfl]at h;omega
  ·rw[b,if_neg (by simp)]at h;exact⟨a,rfl,Hr h λ_ _ _=>rfl⟩
 ·rw[if_pos a]at h;exact absurd h a
theorem jm {rows:List Ent}(h:gN rows=0)(c:jJ rows=true):rows.length<=4096/\ ∀x∈rows,0<x.count/\x.count<=65536:=by
 have g:rows.length<=4096:=by
  rw[gN]at h;by_cases q:4096<rows.length
  ·rw[if_pos q]at h;omega
  ·omega
 refine⟨g,λx d=>?_⟩;rw[gN,if_neg (by omega)]at h;obtain⟨j,f⟩:=List.mem_iff_getElem?.1 d;have a:=jF h j x f;rw[jr]at a;have b:ib x=0:=by
  by_cases q:ib x=0
  ·exact q
  ·rw[if_pos q]at a;exact absurd a q
 rw[if_neg (by omega)]at a;have i:x.count≠0:=λq=>by rw[if_pos q]at a;omega
 have k: -65536<=x.count/\x.count<=65536:=by
  rw[ib]at b;by_cases q:12<x.row.length\/x.count < -65536\/65536<x.count
  ·rw[if_pos q]at b;omega
  ·omega
 rw[jJ,Bool.and_eq_true,List.all_eq_true]at c;have e:=c.2 x d;simp at e;omega
theorem lY {c:Chk}{a b:List Col}{zs:List Zone}(h:gQ c a b zs=0):
  (0<=c.kind/\c.kind<=6)/\gu a=0/\(mg c.kind=false->(il a c.cols).1=0/\0<c.cols.length/\((c.kind=2\/c.kind=6)->c.cols.length=1)/\(kI c.kind=true->gu b=0/\(il b c.ocols).1=0/\c.cols.length=c.ocols.length)):=by
 rw[gQ]at h;by_cases i:c.kind<0\/6<c.kind\/c.policy<0\/2<c.policy
 ·rw[if_pos i]at h;omega
 rw[if_neg i]at h;by_cases j:c.policy=0/\(c.kind=5\/c.kind=6)
 ·rw[if_pos j]at h;omega
 rw[if_neg j]at h;by_cases f:gu a=0
 ·rw[if_neg (by omega)]at h;refine⟨by omega,f,λq=>?_⟩;rw[if_pos q,mR]at h;by_cases d:(il a c.cols).1=0
  ·have m:=(mM d).1;have r:(il a c.cols).2.length=c.cols.length:=by rw[m,List.length_map]
   rw[if_neg (by omega)]at h;by_cases k:(il a c.cols).2.length=0\/((c.kind=2\/c.kind=6)/\1<(il a c.cols).2.length)
   ·rw[if_pos k]at h;omega
   rw[if_neg k]at h;refine⟨d,by omega,by omega,λp=>?_⟩;by_cases l:(c.kind=2\/c.kind=6)/\(a.getD ((il a c.cols).2.getD 0 0).toNat default).kind≠2
   ·rw[if_pos l]at h;omega
   rw[if_neg l,p,if_neg (by simp)]at h;by_cases g:gu b=0
   ·rw[if_neg (by omega)]at h;by_cases e:(il b c.ocols).1=0
    ·have n:=(mM e).1;have s:(il b c.ocols).2.length=c.ocols.length:=by rw[n,List.length_map]
     rw[if_neg (by omega)]at h;by_cases o:(il a c.cols).2.length=(il b c.ocols).2.length
     ·exact⟨g,e,by omega⟩
     ·rw[if_pos o]at h;omega
    ·rw[if_pos e]at h;exact absurd h e
   ·rw[if_pos g]at h;exact absurd h g
  ·rw[if_pos d]at h;exact absurd h d
 ·rw[if_pos f]at h;exact absurd h f
theorem jX {c:Chk}{rc oc:List Col}{rr orr:List Ent}{zs:List Zone}(h:gP c rc oc rr orr zs=0):gQ c rc oc zs=0/\iL rc rr=0/\(kI c.kind=true->iL oc orr=0):=by
 rw[gP]at h;by_cases a:gQ c rc oc zs=0
 ·rw[if_neg (by omega)]at h;by_cases b:iL rc rr=0
  ·rw[if_neg (by omega)]at h;refine⟨a,b,λd=>?_⟩;rw[if_pos d]at h;exact h
  ·rw[if_pos b]at h;exact absurd h b
 ·rw[if_pos a]at h;exact absurd h a
open Go.RowKit Go.Maps
def vW (cols:List Col)(names:List ByteArray)(rows:List Ent)(s:ByteArray):Int:=mf (rows.filter λx=>decide (iD (gB cols names x.row)=s))
theorem Iy (cols:List Col)(names:List ByteArray)(rows:List Ent)(x:Ent)(s:ByteArray):
  vW cols names (rows++[x]) s=if s=iD (gB cols names x.row) then vW cols names rows s+x.count else vW cols names rows s:=by
 rw[vW,vW,List.filter_append,EX];by_cases h:s=iD (gB cols names x.row)
 ·subst h;rw[if_pos rfl,List.filter_cons_of_pos (by simp),List.filter_nil,mf,mf];omega
 ·rw[if_neg h];have a:decide (iD (gB cols names x.row)=s)=false:=by simpa using λe:iD (gB cols names x.row)=s=>h e.symm
  simp[a,mf]
theorem MK {cols:List Col}{names:List ByteArray}{rows:List Ent}(h: ∀x∈rows,0<x.count/\x.count<=65536)(d:rows.length<=4096)(s:ByteArray):0<=vW cols names rows s/\vW cols names rows s<=268435456:=by
 have b:=Dr (l:=rows.filter λx=>decide (iD (gB cols names x.row)=s)) (C:=65536) λx a=>by
  have:=h x (List.mem_filter.1 a).1;omega
 have c:=List.length_filter_le (λx:Ent=>decide (iD (gB cols names x.row)=s)) rows;rw[vW];omega
theorem qh (row:List Val):(iD row).size<=maxLen:=by
 have h:(encS row).2.length<=1000:=by
  rw[encS]
  split
  ·simp
  ·split
   ·simp
   ·rename_i f g;have b:fQ oW 0 row=0:=by omega
    have c: ∀v∈row,valid v=true:=λv a=>by
     have:=Hr b (λ_ _ _=>rfl) v a;rw[oW]at this;cases h:valid v
     ·rw[h]at this;simp at this
     ·rfl
    have key: ∀l:List Val,(∀v∈l,valid v=true)->(l.flatMap lc).length<=66*l.length:=λl=>by
     induction l with
     |nil=>intro _;simp
     |cons v l e=>
      intro a;have i:=e λu d=>a u (by simp[d]);have j:(lc v).length<=66:=by
       rcases qI (a v (by simp)) with h|h|h|h|h
       ·rw[lc];simp[h.1]
       ·rw[lc];simp[h.1]
       ·rw[lc];simp[h.1,nW]
       ·exact rf v (s:=v.str) (by omega) rfl
       ·rw[lc];simp[h.1,nW]
      rw[List.flatMap_cons,List.length_append,List.length_cons];omega
    have:=key row c;show(encR row).length<=1000;rw[encR,List.length_cons];omega
 show(encS row).2.toArray.size<=maxLen;rw[List.size_toArray];simp only[maxLen];omega
theorem jB {α:Type}[Rep α]{e:TypeId}{B:Nat}{O:Nat->Prop}{T:List TypeId}{w:World}{A:Option Addr}{m c:Nat}{xs:List α}(h:OL e B O T w (.slice A m c) xs)(d:xs.length=m):In w A m c xs:=by
 obtain⟨f,g,b,a⟩:=h.inn;injection b with q1 q2 q3;subst q1 q3;rw[d]at a;exact a
theorem xK (w:World)(nm:ByteArray)(A:Option Addr)(n c:Nat)(cols:List Col)(hc:In w A n c cols)(A':Option Addr)(n' c':Nat)(A2:Option Addr)(n2 c2:Nat)(rows:List Ent)(M:In w A2 n2 c2 rows)(A3:Option Addr)(n3 c3:Nat)(names:List ByteArray)(hn:In w A3 n3 c3 names)(aK:n<=4096)(aB:n3<=4096)(aL:n2<=4096)(al: ∀x∈rows,0<x.count/\x.count<=65536):
  Calls Tryz.prog 117 #[.agg #[.string nm,.slice A n c,.slice A' n' c',.slice A2 n2 c2],.slice A3 n3 c3] w
   λe w'=>(∃b,e=.returned (.map (some b))/\w.heap.size<=b/\mX Tryz.prog 9 w' b n2 (.int .i64 0) (λs=>.int .i64 (vW cols names rows s)))/\Below w.heap.size w w':=by
 have aI:=M.le;have aM:=@run_makeMap Tryz.prog;have Z:=Hm al;have av:=Hm M.len;clear al;go_enter Tryz.func117,Tryz.ntmps117;have h:=Hm hc;clear hc;have q:=Hm M;clear M;have l:=Hm hn;clear hn;go_wp2_with fail;obtain⟨W1,X⟩: ∃W,W=w.alloc (.cells #[.string nm,.slice A n c,.slice A' n' c',.slice A2 n2 c2] 29):=⟨_,rfl⟩;obtain⟨v,ah,u,m,K,L⟩:=jV X rfl;rw[<-X];clear X;have h:=Hm (h.o.below v);have q:=Hm (q.o.below v);have l:=Hm (l.o.below v);have af:=Hm v;clear v;have f:=lt_of_cell u;have ar:=Hm (mX.made Tryz.prog 9 W1 (.int .i64 0));have ap:Hl (Below W1.heap.size W1 (W1.alloc (.map #[] 0))):=Hm fI;rw[<-ah.o];go_wp2;go_loopw [12] (λi wr=> ∃k:Nat,k<=n2/\i=.int .i64 k/\mX Tryz.prog 9 wr W1.heap.size k (.int .i64 0) (λs=>.int .i64 (vW cols names (rows.take k) s))/\Below W1.heap.size W1 wr) (λi _=>n2-(RowKit.intOf i).toNat)
 case atStart=>exact⟨0,Nat.zero_le _,rfl,ar.o,ap.o⟩
 case round=>
  obtain⟨k,hk,rfl,hm,hb⟩:=hrel;have H:=Hm hm;clear hm;have h:=Hm (h.o.below hb);have q:=Hm (q.o.below hb);have l:=Hm (l.o.below hb);obtain⟨u,m,K,L,f⟩:=xI hb f u m K L;have ag:=Hm hb;clear hb;by_cases aC:k<n2
  ·obtain⟨b,off,x,rfl,aJ,HX,Q,P,O,e0,e1,e2,e3⟩:=q.o.ent aC;have k0:(0:Int)<=(k:Int):=by omega
   have k1:(k:Int)<(n2:Int):=by omega
   have az:=Hm (Z.o x (gH HX.o));have aw:=Hm (λs=>MK (cols:=cols) (names:=names) (rows:=rows.take k) (λy hy=>Z.o y (List.mem_of_mem_take hy)) (by rw[List.length_take];omega) s);obtain⟨T,U⟩: ∃T,iD (gB cols names x.row)=T:=⟨_,rfl⟩;obtain⟨F,S⟩: ∃F,vW cols names (rows.take k) T=F:=⟨_,rfl⟩;have R:=Hm (qh (gB cols names x.row));rw[U]at R;have HT:=Hm U;have G:=Hm S;have ai:=aw.o T;rw[S]at ai;have aE:=az.o;have aO:IntKind.i64.wrap (F+x.count)=F+x.count:=IntWalk.i64_in _ (by omega);have J:Hl (W1.heap.size<wr.heap.size):=Hm H.o.lt;have ac:Hl (∀V,V.heap[W1.heap.size]?=wr.heap[W1.heap.size]?->(Instr.lookup 157 (.map (some W1.heap.size)) (.string T) false).run Tryz.prog V=.ok (.int .i64 F) V/\
     ∃B,(Instr.mapUpdate 157 (.map (some W1.heap.size)) (.string T) (.int .i64 (F+x.count))).run Tryz.prog V=.ok () B/\mX Tryz.prog 9 B W1.heap.size (k+1) (.int .i64 0) (λs=>.int .i64 (vW cols names (rows.take (k+1)) s))/\V.grownBy B (some W1.heap.size)):=Hm λV hV=>by
    refine⟨?_,?_⟩
    ·rw[<-G.o];exact H.o.look Tryz.underlying157 Tryz.underlying9 (λV=>Tryz.zeroValue3 V) R.o hV
    ·obtain⟨B,h1,h2,h3⟩:=(H.o.same hV).update Tryz.underlying157 Tryz.underlying9 R.o (by simp only[maxLen];omega) (.int .i64 (F+x.count));refine⟨B,h1,h2.congr λs=>?_,h3⟩;rw[ic HX.o,Iy,HT.o];by_cases hs:s=T
     ·subst hs;rw[if_pos rfl,if_pos rfl,G.o]
     ·rw[if_neg hs,if_neg hs]
   clear U S ai aE;have aa:=Hm e2;go_wp2_with fail;obtain⟨W2,Y⟩: ∃W,W=wr.alloc (.cells #[.slice Q P O,.int .i64 x.count] 50):=⟨_,rfl⟩;obtain⟨p,aH,C,N⟩:=wX Y rfl;rw[<-Y];clear Y;have h:=Hm (h.o.below p);have l:=Hm (l.o.below p);obtain⟨u,m,K,L,f⟩:=xI p f u m K L;have ae:=Hm p;have aA:=Hm (fH ag.o p);clear p;have g:=lt_of_cell C;have D:=Hm m;have r:=Hm C;have t:=Hm N;have ay:=Hm (aa.o.below ae.o);have ax:=Hm ae.o;have ad:=Hm aA.o;clear C N e0 e1 e2 aa;have C:=r.o;have N:=t.o;have aF:True:=trivial;go_region_held3 (λV=>V.cell? ⟨w.heap.size,1,none⟩=some (.slice A n c)/\V.cell? ⟨wr.heap.size,0,none⟩=some (.slice Q P O)/\V.cell? ⟨wr.heap.size,1,none⟩=some (.int .i64 x.count))
    (first|exact⟨u0,u1,u2⟩|exact⟨fO d.o f D.o,fO d.o g r.o,fO d.o g t.o⟩|exact⟨fO E.o f D.o,fO E.o g r.o,fO E.o g t.o⟩|exact⟨m,C,N⟩)
    (first
     |(clear aF;go_at_call 79;refine(sK _ A n c cols (by exact h.o.below (Below.refl _ _).drew) A3 n3 c3 names (by exact l.o.below (Below.refl _ _).drew) Q P O x.row (by exact ay.o.below (Below.refl _ _).drew) (by omega) aB).mono ?_;rintro e w3 ⟨⟨A4,m4,c4,rfl,an,ao,aD⟩,aj⟩;have HI:=Hm (jB an ao);have E:=Hm (fP aj);clear an ao aD aj;have aG:True:=trivial)
     |(clear aG;go_at_call 119;refine(zV _ A4 m4 c4 _ (by exact HI.o)).mono ?_;rintro e w4 ⟨rfl,ak⟩;rw[HT.o];have d:=Hm (fH E.o ak);have ab:=Hm (fH ax.o d.o);have lk:=(ac.o w4 (ab.o.block _ J.o)).1;obtain⟨w5,aN,am,z⟩:=(ac.o w4 (ab.o.block _ J.o)).2;have au:=Hm am;have aq:Hl (Below W1.heap.size W1 w5):=Hm ((fH ad.o d.o).grown z (fH ad.o d.o).size (λj e=>by injection e with e;omega));have u0:=(World.cell?_of_block (a:=⟨w.heap.size,1,none⟩) (z.block w.heap.size (lt_of_cell (fO d.o f D.o)) (λe=>by injection e with e;have:=ah.o;omega))).trans (fO d.o f D.o);have u1:=(World.cell?_of_block (a:=⟨wr.heap.size,0,none⟩) (z.block wr.heap.size (lt_of_cell (fO d.o g r.o)) (λe=>by injection e with e;have:=J.o;omega))).trans (fO d.o g r.o);have u2:=(World.cell?_of_block (a:=⟨wr.heap.size,1,none⟩) (z.block wr.heap.size (lt_of_cell (fO d.o g t.o)) (λe=>by injection e with e;have:=J.o;omega))).trans (fO d.o g t.o);clear ak am z;have aP:True:=trivial))
   go_wp2;go_roundw
   case rel=>exact⟨k+1,by omega,by go_num,au.o,aq.o⟩
   case measure=>simp[RowKit.intOf];omega
  ·have G:Hl (rows.take k=rows):=Hm (List.take_of_length_le (by have:=av.o;omega));have I:=H.o;rw[G.o]at I;have I:=Hm I;obtain rfl:k=n2:=by omega
   go_wp2;go_ret;exact⟨⟨_,rfl,by have:=af.o.size;omega,I.o⟩,(fH af.o ag.o)⟩
structure Wvr where
 check:ByteArray
 row:List Val
structure Quar where
 relation:ByteArray
 row:List Val
 count:Int
 checks:List ByteArray
instance:Inhabited Wvr:=⟨⟨⟨#[]⟩,[]⟩⟩
instance:Inhabited Quar:=⟨⟨⟨#[]⟩,[],0,[]⟩⟩
instance:Inhabited Rel:=⟨⟨⟨#[]⟩,[],[],[]⟩⟩
instance:Rep Wvr where
 size:=2
 rd w S cs x:= ∃A n c,cs=[.string x.check,.slice A n c]/\Sl w S A n c x.row/\Str x.check
 len h:=by obtain⟨_,_,_,rfl,_⟩:=h;rfl
 keep hs h:=by obtain⟨A,n,c,rfl,h,hc⟩:=h;exact⟨A,n,c,rfl,h.keep hs,hc⟩
 mono hs h:=by obtain⟨A,n,c,rfl,h,hc⟩:=h;exact⟨A,n,c,rfl,h.mono hs,hc⟩
instance:Rep Quar where
 size:=4
 rd w S cs x:= ∃A n c A' n' c',cs=[.string x.relation,.slice A n c,.int .i64 x.count,.slice A' n' c']/\Sl w S A n c x.row/\Sl w S A' n' c' x.checks/\Str x.relation/\jU x.count
 len h:=by obtain⟨_,_,_,_,_,_,rfl,_⟩:=h;rfl
 keep hs h:=by obtain⟨A,n,c,A',n',c',rfl,h,h2,hc⟩:=h;exact⟨A,n,c,A',n',c',rfl,h.keep hs,h2.keep hs,hc⟩
 mono hs h:=by obtain⟨A,n,c,A',n',c',rfl,h,h2,hc⟩:=h;exact⟨A,n,c,A',n',c',rfl,h.mono hs,h2.mono hs,hc⟩
instance:One Wvr:=⟨by rintro w S cs a ⟨A,n,c,rfl,_⟩ u hu;simp at hu;rcases hu with rfl|rfl<;>rfl⟩
instance:One Quar:=⟨by rintro w S cs a ⟨A,n,c,A',n',c',rfl,_⟩ u hu;simp at hu;rcases hu with rfl|rfl|rfl|rfl<;>rfl⟩
instance:One Chk:=⟨by rintro w S cs a ⟨_,_,_,_,_,_,_,_,_,rfl,_⟩ u hu;simp at hu;rcases hu with rfl|rfl|rfl|rfl|rfl|rfl|rfl|rfl|rfl|rfl|rfl|rfl|rfl|rfl<;>rfl⟩
section
variable {w:World}{A:Option Addr}{n c k:Nat}
theorem In.wvr {xs:List Wvr}(h:In w A n c xs)(d:k<n): ∃b off x,A=some ⟨b,off,none⟩/\b<w.heap.size/\Hl (xs.drop k=x::xs.drop (k+1))/\
  ∃A' n' c',w.cell? ⟨b,off+k*2,none⟩=some (.string x.check)/\w.cell? ⟨b,off+k*2+1,none⟩=some (.slice A' n' c')/\In w A' n' c' x.row/\Str x.check:=by
 obtain⟨b,off,x,e,hb,g,i,⟨A',n',c',rfl,hs,f⟩,a⟩:=h.get d;exact⟨b,off,x,e,hb,g,A',n',c',a 0 (by simp),a 1 (by simp),hs,f⟩
theorem In.quar {xs:List Quar}(h:In w A n c xs)(f:k<n): ∃b off x,A=some ⟨b,off,none⟩/\b<w.heap.size/\Hl (xs.drop k=x::xs.drop (k+1))/\
  ∃A' n' c' A2 n2 c2,w.cell? ⟨b,off+k*4,none⟩=some (.string x.relation)/\w.cell? ⟨b,off+k*4+1,none⟩=some (.slice A' n' c')/\w.cell? ⟨b,off+k*4+2,none⟩=some (.int .i64 x.count)/\w.cell? ⟨b,off+k*4+3,none⟩=some (.slice A2 n2 c2)/\
   In w A' n' c' x.row/\In w A2 n2 c2 x.checks/\Str x.relation/\jU x.count:=by
 obtain⟨b,off,x,e,hb,i,j,⟨A',n',c',A2,n2,c2,rfl,hs,g,d⟩,a⟩:=h.get f;exact⟨b,off,x,e,hb,i,A',n',c',A2,n2,c2,a 0 (by simp),a 1 (by simp),a 2 (by simp),a 3 (by simp),hs,g,d.1,d.2⟩
theorem In.rel {xs:List Rel}(h:In w A n c xs)(g:k<n): ∃b off x,A=some ⟨b,off,none⟩/\b<w.heap.size/\Hl (xs.drop k=x::xs.drop (k+1))/\
  ∃a f c1 A2 n2 c2 A3 n3 c3,w.cell? ⟨b,off+k*4,none⟩=some (.string x.name)/\w.cell? ⟨b,off+k*4+1,none⟩=some (.slice a f c1)/\w.cell? ⟨b,off+k*4+2,none⟩=some (.slice A2 n2 c2)/\w.cell? ⟨b,off+k*4+3,none⟩=some (.slice A3 n3 c3)/\
   In w a f c1 x.columns/\In w A3 n3 c3 x.rows:=by
 obtain⟨b,off,x,e,hb,j,l,⟨a,f,c1,A2,n2,c2,A3,n3,c3,rfl,hs,m,i,o⟩,d⟩:=h.get g;exact⟨b,off,x,e,hb,j,a,f,c1,A2,n2,c2,A3,n3,c3,d 0 (by simp),d 1 (by simp),d 2 (by simp),d 3 (by simp),hs,i⟩
theorem In.chk {xs:List Chk}(h:In w A n c xs)(g:k<n): ∃b off x,A=some ⟨b,off,none⟩/\b<w.heap.size/\Hl (xs.drop k=x::xs.drop (k+1))/\
  ∃d f c1 A2 n2 c2 A3 n3 c3,(w.cell? ⟨b,off+k*14,none⟩=some (.string x.name)/\w.cell? ⟨b,off+k*14+1,none⟩=some (.string x.table)/\w.cell? ⟨b,off+k*14+2,none⟩=some (.int .i64 x.kind)/\w.cell? ⟨b,off+k*14+3,none⟩=some (.slice d f c1)/\w.cell? ⟨b,off+k*14+4,none⟩=some (.string x.other)/\
   w.cell? ⟨b,off+k*14+5,none⟩=some (.slice A2 n2 c2)/\w.cell? ⟨b,off+k*14+6,none⟩=some (.int .i64 x.low)/\w.cell? ⟨b,off+k*14+7,none⟩=some (.int .i64 x.high)/\w.cell? ⟨b,off+k*14+8,none⟩=some (.slice A3 n3 c3)/\w.cell? ⟨b,off+k*14+9,none⟩=some (.int .i64 x.ln)/\w.cell? ⟨b,off+k*14+10,none⟩=some (.int .i64 x.ld)/\
   w.cell? ⟨b,off+k*14+11,none⟩=some (.int .i64 x.mn)/\w.cell? ⟨b,off+k*14+12,none⟩=some (.int .i64 x.md)/\w.cell? ⟨b,off+k*14+13,none⟩=some (.int .i64 x.policy))/\
   In w d f c1 x.cols/\In w A2 n2 c2 x.ocols/\In w A3 n3 c3 x.cond/\(Str x.name/\Str x.table/\jU x.kind/\Str x.other/\jU x.low/\jU x.high/\jU x.ln/\jU x.ld/\jU x.mn/\jU x.md/\jU x.policy):=by
 obtain⟨b,off,x,e,hb,m,o,⟨d,f,c1,A2,n2,c2,A3,n3,c3,rfl,hs,i,j,l⟩,a⟩:=h.get g;exact⟨b,off,x,e,hb,m,d,f,c1,A2,n2,c2,A3,n3,c3,⟨a 0 (by simp),a 1 (by simp),a 2 (by simp),a 3 (by simp),a 4 (by simp),a 5 (by simp),a 6 (by simp),a 7 (by simp),a 8 (by simp),a 9 (by simp),a 10 (by simp),a 11 (by simp),a 12 (by simp),a 13 (by simp)⟩,hs,i,j,l⟩
end
def NS (name:ByteArray)(row:List Val)(x:Wvr):Bool:=x.check.toList==name.toList&&oV x.row row
def kK (ws:List Wvr)(name:ByteArray)(row:List Val):Bool:=ws.any (NS name row)
def ownB (name:ByteArray)(c:Chk):Bool:=c.table.toList==name.toList&&c.policy==0
def kr (a:List Chk)(name:ByteArray):List Chk:=a.filter (ownB name)
def ug:Rel:=⟨⟨#[]⟩,[],[],[]⟩
def zN (s:ByteArray)(r:Rel):Bool:=r.name.toList==s.toList
def ul:Option Rel->Int×Rel
 |some r=>(0,r)
 |none=>(5,ug)
def gI (c:Chk)(a:List Rel):Int×Rel:=if jI c.other=true then(0,ug) else ul (a.find? (zN c.other))
def mZ (ws:List Wvr)(c:Chk)(bad:List Ent)(t:ByteArray):List ByteArray:=(bad.filter λx=>decide (iD x.row=t)&&!kK ws c.name x.row).map λ_=>c.name
def rP (r:Rel)(a:List Rel)(zs:List Zone)(c:Chk):Int×List Ent:=jg c r.columns (gI c a).2.columns r.rows (gI c a).2.rows zs
def wQ (r:Rel)(a:List Rel)(zs:List Zone)(c:Chk):Int:=if (gI c a).1≠0 then(gI c a).1 else(rP r a zs c).1
def sV (r:Rel)(a:List Rel)(zs:List Zone)(l:List Chk):Int:=fQ (λ_=>wQ r a zs) 0 l
def sW (r:Rel)(a:List Rel)(ws:List Wvr)(zs:List Zone)(l:List Chk)(t:ByteArray):List ByteArray:=l.flatMap λc=>mZ ws c (rP r a zs c).2 t
def Am (r:Rel)(a:List Chk)(b:List Rel)(ws:List Wvr)(zs:List Zone):Int×List Ent×List Quar:=
 if sV r b zs (kr a r.name)≠0 then(sV r b zs (kr a r.name),[],[])
 else if gN r.rows≠0 then(gN r.rows,[],[])
 else if jJ r.rows=false then(8,[],[])
 else(0,r.rows.filter (λx=>(sW r b ws zs (kr a r.name) (iD x.row)).isEmpty),
  (r.rows.filter λx=>!(sW r b ws zs (kr a r.name) (iD x.row)).isEmpty).map λx=>⟨r.name,x.row,x.count,sW r b ws zs (kr a r.name) (iD x.row)⟩)
theorem xU (ws:List Wvr)(c:Chk)(l:List Ent)(x:Ent)(t:ByteArray):
  mZ ws c (l++[x]) t=if iD x.row=t/\kK ws c.name x.row=false then mZ ws c l t++[c.name] else mZ ws c l t:=by
 rw[mZ,mZ,List.filter_append,List.map_append];by_cases h:iD x.row=t/\kK ws c.name x.row=false
 ·rw[if_pos h];simp[h.1,h.2]
 ·rw[if_neg h];have a:(decide (iD x.row=t)&&!kK ws c.name x.row)=false:=by
   cases q:kK ws c.name x.row
   ·have:¬iD x.row=t:=λe=>h ⟨e,q⟩;simp[this]
   ·simp
  simp[a]
theorem JM (r:Rel)(a:List Rel)(ws:List Wvr)(zs:List Zone)(l:List Chk)(c:Chk)(t:ByteArray):
  sW r a ws zs (l++[c]) t=sW r a ws zs l t++mZ ws c (rP r a zs c).2 t:=by simp[sW]
theorem zw (ws:List Wvr)(c:Chk)(l:List Ent)(t:ByteArray):(mZ ws c l t).length<=l.length:=by
 rw[mZ,List.length_map];exact List.length_filter_le _ _
theorem JL {r:Rel}{others:List Rel}{zs:List Zone}{c:Chk}(h:(rP r others zs c).1=0):(rP r others zs c).2.length<=4096:=by
 rw[rP,jg]at h⊢
 split at h
 ·next a=>exact absurd h a
 ·next a=>
  rw[if_neg a];have b:=(jX (by simpa using a)).2.1;obtain⟨hb,d,_⟩:=gW b;exact Nat.le_trans (List.length_filter_le _ _) (jm hb d).1
def iT {α:Type}(p:α->Bool):Nat->List α->Int
 | _,[]=> -1
 |k,x::l=>if p x then k else iT p (k+1) l
theorem wy {α:Type}(p:α->Bool)(l:List α): ∀k,(decide (0<=iT p k l))=l.any p:=by
 induction l with
 |nil=>intro k;rfl
 |cons x l a=>
  intro k;rw[iT];cases h:p x
  ·rw[if_neg (by simp),a (k+1)];simp[h]
  ·rw[if_pos rfl];simp[h]
theorem Lt (v:Val)(w:World):
  Calls Tryz.prog 150 #[.agg v.cells.toArray] w λe w'=>e=.returned (.bool (v.kind==0))/\Below w.heap.size w w':=by
 simp only[Val.cells];go_enter Tryz.func150,Tryz.ntmps150;go_wp2;go_ret;exact⟨rfl,fI⟩
theorem zh (w:World)(A:Option Addr)(n c:Nat)(xs:List Val)(d:In w A n c xs):
  Calls Tryz.prog 187 #[.slice A n c,.func (.func 150) #[] #[]] w
   λe w'=>e=.returned (.int .i64 (iT (λv:Val=>v.kind==0) 0 xs))/\Below w.heap.size w w':=by
 have t:=d.le;go_enter Tryz.func187,Tryz.ntmps187;go_wp2;go_loopw [8] (λi wr=> ∃k:Nat,k<=n/\i=.int .i64 k/\iT (λv:Val=>v.kind==0) 0 xs=iT (λv:Val=>v.kind==0) k (xs.drop k)/\Below w.heap.size w wr) (λi _=>n-(intOf i).toNat)
 case atStart=>exact⟨0,Nat.zero_le _,rfl,rfl,Below.refl _ _⟩
 case round=>
  obtain⟨k,y,rfl,j,hb⟩:=hrel;have a:=Hm j;clear j;by_cases r:k<n
  ·obtain⟨b,off,x,rfl,u,f,m,p,q,s⟩:=(d.below hb).val r;go_wp2_with fail;refine(Lt x _).mono ?_;rintro e z ⟨rfl,g⟩;have h:=fH hb g;clear g m p q;cases l:(x.kind==0)
   ·go_wp2;all_goals(try(exfalso;go_light;simp_all;done));go_roundw
    case rel=>exact⟨k+1,by omega,by go_num,by rw[a.o,f.o,iT,if_neg (by simp[l])],h⟩
    case measure=>simp[intOf];omega
   ·go_wp2;all_goals(try(exfalso;go_light;simp_all;done));go_ret;exact⟨fV (by rw[a.o,f.o,iT,if_pos l]),h⟩
  ·go_wp2;go_ret;exact⟨fV (by rw[a.o,gG d.len (by omega),iT]),hb⟩
theorem vY (w:World)(A:Option Addr)(n c:Nat)(xs:List Val)(b:In w A n c xs):
  Calls Tryz.prog 149 #[.slice A n c,.func (.func 150) #[] #[]] w
   λe w'=>e=.returned (.bool (decide (0<=iT (λv:Val=>v.kind==0) 0 xs)))/\Below w.heap.size w w':=by
 go_enter Tryz.func149,Tryz.ntmps149;go_wp2_with fail;refine(zh _ _ _ _ xs b).mono ?_;rintro e d ⟨rfl,a⟩;go_wp2;go_ret;exact⟨rfl,a⟩
theorem xS (w:World)(A:Option Addr)(n c:Nat)(xs:List Val)(d:In w A n c xs):
  Calls Tryz.prog 121 #[.slice A n c] w λe w'=>e=.returned (.bool (oo xs))/\Below w.heap.size w w':=by
 have a:=Hm (wy (λv:Val=>v.kind==0) xs 0);go_enter Tryz.func121,Tryz.ntmps121;go_wp2_with fail;refine(vY _ _ _ _ xs d).mono ?_;rintro e f ⟨rfl,b⟩;rw[a.o];go_wp2;go_ret;exact⟨rfl,b⟩
theorem xN (w:World)(A:Option Addr)(n c:Nat)(xs:List Val)(g:In w A n c xs):
  Calls Tryz.prog 69 #[.slice A n c] w λe w'=>e=.returned (.bool (oo xs))/\w=w':=by
 have t:=g.le;have d:=Hm (show oo xs=xs.any (λv=>v.kind==0) from rfl);obtain⟨R,f⟩: ∃R,oo xs=R:=⟨_,rfl⟩;rw[f]at d;rw[f];clear f;go_enter Tryz.func69,Tryz.ntmps69;go_wp2
 go_loop [3] (λi=> ∃k:Nat,k<=n/\i=.int .i64 k/\R=(xs.drop k).any (λv=>v.kind==0)) (λi=>n-(intOf i).toNat)
 case atStart=>exact⟨0,Nat.zero_le _,rfl,d.o⟩
 case round=>
  obtain⟨k,y,rfl,j⟩:=hrel;have a:=Hm j;clear j d;by_cases m:k<n
  ·obtain⟨b,off,x,rfl,u,h,p,q,r,s⟩:=g.val m;cases l:(x.kind==0)
   ·go_wp2;all_goals(try(exfalso;go_light;simp_all;done))
    go_round
    case rel=>exact⟨k+1,by omega,by go_num,by rw[a.o,h.o,List.any_cons,l];rfl⟩
    case measure=>simp[intOf];omega
   ·obtain rfl:R=true:=by rw[a.o,h.o,List.any_cons,l];rfl
    go_wp2;all_goals(try(exfalso;go_light;simp_all;done));go_ret;exact⟨rfl,rfl⟩
  ·obtain rfl:R=false:=by rw[a.o,gG g.len (by omega)];rfl
   go_wp2;all_goals(try(exfalso;go_light;simp_all;done));go_ret;exact⟨rfl,rfl⟩
end Go.Proofs.YtopjjlmfilgngaaGreatDoor
