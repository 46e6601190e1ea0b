/-
  CheckReferences, plain: the sum of two tables is a table; the check and its tables have no error; what a row that finds a partner is. Plain law: what Divide answers where no check has an error. No program is in sight. Plain law: a table and a change of it: their sum is a table, and the opposite change leads back. No program is in sight.
-/
import Derived.Test.YtopjjlmfilgngaaGreatDoorGau
import Derived.Test.YtopjjlmfilgngaaGreatDoorTabT
import Derived.Test.YtopjjlmfilgngaaGreatDoorGaa
import Derived.Test.YtopjjlmfilgngaaGreatDoorGan
import Derived.Test.YtopjjlmfilgngaaGreatDoorGax
import Derived.Test.YtopjjlmfilgngaaGreatDoorGaq
namespace Go.Proofs.YtopjjlmfilgngaaGreatDoor
set_option linter.unusedSimpArgs false
set_option linter.unusedVariables false
theorem nH.cnt {cols:List Col}(hl:cols.length<=12){zs:List Ent}(h:nH cols zs)(r:List Val):0<=Proofs.YtopjjlmfilgngaaGreatDoor.cnt zs r/\Proofs.YtopjjlmfilgngaaGreatDoor.cnt zs r<=2000:=by
 have hb:=(h.bag hl).1;by_cases q: ∃x∈zs,x.row=r
 ·obtain ⟨x,hx,rfl⟩:=q;rw[(dN hb).mem hx];have:=(h.tab hl).1 x hx;omega
 ·rw[dE λx hx e=>q ⟨x,hx,aS.1 e⟩];omega
def RY (r:Rel)(others:List Rel)(zs:List Zone)(c:Chk)(row:List Val):Bool:=bS c r.columns (bQ c others).2.columns r.rows (bQ c others).2.rows zs row
def MH (r:Rel)(others:List Rel)(ws:List Wvr)(zs:List Zone)(l:List Chk)(row:List Val):List ByteArray:=(l.filter λc=>RY r others zs c row&&!dD ws c.name row).map Chk.name
theorem filter_one {l:List Ent}(h:eu l){x:Ent}(hx:x∈l){q:Ent->Bool}(hq: ∀y∈l,q y=true->y.row=x.row):l.filter q=if q x=true then [x] else []:=by
 induction l with
 |nil=>cases hx
 |cons z l ih=>
  rcases List.mem_cons.1 hx with rfl|hx
  ·have hl:l.filter q=[]:=List.filter_eq_nil_iff.2 λy hy hy2=>by
    have h1:=h.head y hy;rw[hq y (by simp[hy]) hy2]at h1;have:=aS.2 (rfl:x.row=x.row);omega
   rw[List.filter_cons,hl]
  ·have hz:¬q z=true:=λe=>by
    have h1:=h.head x hx;rw[hq z (by simp) e]at h1;have:=aS.2 (rfl:x.row=x.row);omega
   rw[List.filter_cons_of_neg hz];exact ih h.tail hx λy hy=>hq y (by simp[hy])
theorem wF {cols:List Col}(hc:aC cols=0){row:List Val}(hr:aB cols row=0):row.length<=12/\ ∀v∈row,valid v=true:=by
 have hl:=oG hr;have hcl:cols.length<=12:=by
  rw[aC]at hc;by_cases q:cols.length<1\/12<cols.length
  ·rw[if_pos q]at hc;omega
  ·omega
 refine ⟨by omega,λv hv=>?_⟩;obtain ⟨i,hi⟩:=List.mem_iff_getElem?.1 hv;exact vP hr hi
theorem Dv {cols:List Col}{rows:List Ent}(hc:aC cols=0)(hT:aQ cols rows=0){x:Ent}(hx:x∈rows)(ws:List Wvr)(c:Chk)(q:List Val->Bool):
  fP ws c (rows.filter λy=>q y.row) (aJ x.row)=if (q x.row&&!dD ws c.name x.row)=true then [c.name] else []:=by
 obtain ⟨hb,_,hr⟩:=aG hT;have h1:rows.filter (λy=>(decide (aJ y.row=aJ x.row)&&!dD ws c.name y.row)&&q y.row)=if (q x.row&&!dD ws c.name x.row)=true then [x] else []:=by
  rw[filter_one (dN hb) hx (λy hy e=>by
   obtain ⟨a1,a2⟩:=wF hc (hr y hy);obtain ⟨b1,b2⟩:=wF hc (hr x hx);simp only[Bool.and_eq_true,decide_eq_true_eq]at e;exact (zJ a1 a2 b1 b2).1 e.1.1)]
  cases h2:q x.row <;> cases h3:dD ws c.name x.row <;> simp
 rw[fP,List.filter_filter,h1]
 split <;> rfl
theorem Jo {l:List Chk}(p:Chk->Bool):(l.flatMap λc=>if p c=true then [c.name] else [])=(l.filter p).map Chk.name:=by
 induction l with
 |nil=>rfl
 |cons c l ih=>
  rw[List.flatMap_cons,ih,List.filter_cons];cases p c <;> simp
theorem D5 {r:Rel}{others:List Rel}{zs:List Zone}{c:Chk}(h:qb r others zs c=0):(bQ c others).1=0/\dh c r.columns (bQ c others).2.columns r.rows (bQ c others).2.rows zs=0:=by
 rw[qb]at h;by_cases h1:(bQ c others).1=0
 ·rw[if_neg (by simp[h1]),ky,nT]at h;refine ⟨h1,?_⟩;by_cases h2:dh c r.columns (bQ c others).2.columns r.rows (bQ c others).2.rows zs=0
  ·exact h2
  ·rw[if_pos h2]at h;exact absurd h h2
 ·rw[if_pos h1]at h;exact absurd h h1
theorem xH {r:Rel}{others:List Rel}{ws:List Wvr}{zs:List Zone}{l:List Chk}(hc:aC r.columns=0)(hT:aQ r.columns r.rows=0)(hl: ∀c∈l,qb r others zs c=0){x:Ent}(hx:x∈r.rows):
  lv r others ws zs l (aJ x.row)=MH r others ws zs l x.row:=by
 rw[lv,MH,<-Jo];rw[List.flatMap_def,List.flatMap_def]
 congr 1
 refine List.map_congr_left λc hcl=>?_;have h1:=(D5 (hl c hcl)).2;rw[ky,nT,if_neg (by simp[h1])];exact Dv hc hT hx ws c (λrow=>RY r others zs c row)
def tq (r:Rel)(others:List Rel)(ws:List Wvr)(zs:List Zone)(l:List Chk)(row:List Val):Bool:=!(MH r others ws zs l row).isEmpty
theorem uT {α:Type}{f:Nat->α->Int}{l:List α}(h: ∀i,∀x∈l,f i x=0): ∀k,ag f k l=0:=by
 induction l with
 |nil=>intro k;rfl
 |cons x l ih=>
  intro k;rw[ag,if_neg (by simp[h k x (by simp)])];exact ih (λi y hy=>h i y (by simp[hy])) (k+1)
theorem Lg {r:Rel}{cs:List Chk}{others:List Rel}{ws:List Wvr}{zs:List Zone}(hc:aC r.columns=0)(hT:aQ r.columns r.rows=0)(hl: ∀c∈gQ cs r.name,qb r others zs c=0):
  sN r cs others ws zs=(0,r.rows.filter (λx=>!tq r others ws zs (gQ cs r.name) x.row),(r.rows.filter λx=>tq r others ws zs (gQ cs r.name) x.row).map λx=>⟨r.name,x.row,x.count,MH r others ws zs (gQ cs r.name) x.row⟩):=by
 obtain ⟨hb,ht,hr⟩:=aG hT;have h0:lu r others zs (gQ cs r.name)=0:=uT (λ_ c h=>hl c h) 0;rw[sN,if_neg (by simp[h0]),if_neg (by simp[hb]),if_neg (by simp[ht])];have e1:r.rows.filter (λx=>(lv r others ws zs (gQ cs r.name) (aJ x.row)).isEmpty)=r.rows.filter (λx=>!tq r others ws zs (gQ cs r.name) x.row):=
  List.filter_congr λx hx=>by rw[xH hc hT hl hx,tq,Bool.not_not]
 have e2:r.rows.filter (λx=>!(lv r others ws zs (gQ cs r.name) (aJ x.row)).isEmpty)=r.rows.filter (λx=>tq r others ws zs (gQ cs r.name) x.row):=
  List.filter_congr λx hx=>by rw[xH hc hT hl hx,tq]
 rw[e1,e2]
 congr 2
 refine List.map_congr_left λx hx=>?_;rw[xH hc hT hl (List.mem_filter.1 hx).1]
def zX (old:List Ent)(k:Nat)(xs:List Ent):Prop:=
 (∀x∈xs,(-65536<=x.count/\x.count<0)/\ ∃p∈old,p.row=x.row)/\ ∀r,0<=cnt (old.take k) r+cnt xs r
theorem Gq {l:List Ent}{k:Nat}{x:Ent}(h:l.drop k=x :: l.drop (k+1))(r:List Val):cnt (l.take (k+1)) r=cnt (l.take k) r+(if ah x.row r=0 then x.count else 0):=by
 rw[bN h,iO];simp[cnt]
theorem zX.start (old:List Ent):zX old 0 []:=⟨(λx hx=>by cases hx),λr=>by simp[cnt]⟩
theorem zX.take {old xs:List Ent}{k:Nat}{p:Ent}(h:zX old k xs)(hx:old.drop k=p :: old.drop (k+1))(hp:p.count<=65536){d:Int}(d0:0<=d)(d1:d<p.count):zX old (k+1) (xs++[⟨p.row, -1-d⟩]):=by
 refine ⟨λy hy=>?_,λr=>?_⟩
 ·rcases List.mem_append.1 hy with hy|hy
  ·exact h.1 y hy
  ·simp at hy;subst hy;exact ⟨⟨by show -65536<= -1-d;omega,by show -1-d<0;omega⟩,p,aF hx,rfl⟩
 ·have:=h.2 r;rw[Gq hx,iO];simp only[cnt]
  split <;> omega
def zY (az:List Ent)(s k:Nat)(xs:List Ent):Prop:= ∃bs:List Ent,xs=az++bs/\bs.length+k<=s/\ ∀x∈bs,x.count=1
theorem zY.start (az:List Ent)(s:Nat):zY az s s az:=⟨[],by simp,by simp,λx hx=>by cases hx⟩
theorem zY.add {az xs:List Ent}{s k:Nat}(h:zY az s k xs)(hk:0<k)(row:List Val):zY az s (k-1) (xs++[⟨row,1⟩]):=by
 obtain ⟨bs,rfl,h1,h2⟩:=h;refine ⟨bs++[⟨row,1⟩],by simp,by simp;omega,λx hx=>?_⟩;rcases List.mem_append.1 hx with hx|hx
 ·exact h2 x hx
 ·simp at hx;subst hx;rfl
def Eo (old:List Ent)(m:Nat)(xs:List Ent):Prop:= ∃az,zX old old.length az/\zY az m 0 xs
theorem Eo.mk {old az xs:List Ent}{n s m:Nat}(h:zX old n az)(hn:old.length=n)(h2:zY az s 0 xs)(hs:s<=m):Eo old m xs:=by
 subst hn;obtain ⟨bs,h3,h4,h5⟩:=h2;exact ⟨az,h,bs,h3,by omega,h5⟩
theorem Lb {l:List Ent}(h: ∀x∈l,0<=x.count)(r:List Val):0<=cnt l r:=by
 induction l with
 |nil=>simp[cnt]
 |cons x l ih=>
  have h1:=h x (by simp);have h2:=ih λy hy=>h y (by simp[hy]);rw[cnt]
  split <;> omega
theorem Lc {l:List Ent}(h: ∀x∈l,x.count<=0)(r:List Val):cnt l r<=0:=by
 induction l with
 |nil=>simp[cnt]
 |cons x l ih=>
  have h1:=h x (by simp);have h2:=ih λy hy=>h y (by simp[hy]);rw[cnt]
  split <;> omega
theorem Ce {l:List Ent}(h: ∀x∈l,x.count=1)(r:List Val):0<=cnt l r/\cnt l r<=(l.length:Int):=by
 induction l with
 |nil=>simp[cnt]
 |cons x l ih=>
  have h1:=h x (by simp);have h2:=ih λy hy=>h y (by simp[hy]);rw[cnt,List.length_cons]
  split <;> omega
theorem Cc {l:List Ent}{r:List Val}(h:cnt l r≠0): ∃x∈l,x.row=r:=by
 by_cases g: ∃x∈l,x.row=r
 ·exact g
 ·exact absurd (dE λx hx e=>g ⟨x,hx,aS.1 e⟩) h
theorem sP {cols:List Col}(hl:cols.length<=12){x:Ent}(h:aB cols x.row=0)(h1: -65536<=x.count)(h2:x.count<=65536):aA x=0:=
 kR.2 ⟨⟨h1,h2⟩,by rw[mU h];exact hl,λv hv=>by
  obtain ⟨i,hi,rfl⟩:=List.mem_iff_getElem.1 hv;exact nL (uy h (List.getElem?_eq_getElem hi))⟩
structure Tb (cols:List Col) (L M:Nat) (r:List Ent):Prop where
 err:aQ cols r=0
 len:r.length<=L
 top: ∀x∈r,x.count<=(M:Int)
theorem Tb.of {cols:List Col}(hl:cols.length<=12){zs:List Ent}(h:nH cols zs):Tb cols 1000 2000 zs:=
 ⟨(h.tab hl).2,(h.bag hl).2.2,λx hx=>((h.tab hl).1 x hx).2⟩
theorem Tb.bag {cols:List Col}{L M:Nat}{r:List Ent}(h:Tb cols L M r):au r=0:=(aG h.err).1
theorem Tb.pos {cols:List Col}{L M:Nat}{r:List Ent}(h:Tb cols L M r): ∀x∈r,0<x.count/\x.count<=65536:=(eB (aG h.err).1 (aG h.err).2.1).2
theorem Tb.fit {cols:List Col}{L M:Nat}{r:List Ent}(h:Tb cols L M r): ∀x∈r,aB cols x.row=0:=(aG h.err).2.2
structure Mv (cols:List Col) (r x:List Ent) (m:Nat):Prop where
 bag:au x=0
 fit: ∀e∈x,aB cols e.row=0
 low: ∀q,0<=cnt r q+cnt x q
 high: ∀q,cnt x q<=(m:Int)
 new: ∃bs:List Ent,bs.length<=m/\ ∀q,cnt r q=0->cnt x q≠0-> ∃e∈bs,e.row=q
theorem Mv.of {cols:List Col}(hl:cols.length<=12){old xs zs:List Ent}{q:Int}{L M m:Nat}(ht:Tb cols L M old)(hf: ∀x∈xs,aB cols x.row=0)(hc:Eo old m xs)(hn:sj xs q zs):Mv cols old zs m:=by
 obtain ⟨az,⟨ha1,ha2⟩,bs,rfl,hbl,hb1⟩:=hc;rw[List.take_of_length_le (Nat.le_refl _)]at ha2;have he: ∀x∈az++bs,aA x=0:=λx hx=>by
  have h1:=hf x hx;rcases List.mem_append.1 hx with hx|hx
  ·have:=(ha1 x hx).1;exact sP hl h1 (by omega) (by omega)
  ·have:=hb1 x hx;exact sP hl h1 (by omega) (by omega)
 have hn':=uh hn;rw[ug he]at hn';have a:=rT he;have b:=mI (P:=λr=>aB cols r=0) hf;have d:=sD (xs:=az++bs);have e:=yh (az++bs);simp only[hn']at a b d e;have hpos:=ht.pos;rcases e with e|⟨_,e⟩
 ·have c: ∀r,cnt zs r=cnt az r+cnt bs r:=λr=>by rw[d e r,iO]
  refine ⟨a,b,λr=>?_,λr=>?_,bs,by omega,λr h0 h1=>?_⟩
  ·have:=ha2 r;have:=(Ce hb1 r).1;rw[c];omega
  ·have:=(Ce hb1 r).2;have:=Lc (l:=az) (λx hx=>by have:=(ha1 x hx).1;omega) r;rw[c];omega
  ·refine Cc λh2=>h1 ?_;rw[c,h2];by_cases g:cnt az r=0
   ·omega
   ·obtain ⟨x,hx,rfl⟩:=Cc g;obtain ⟨_,p,hp,hpx⟩:=ha1 x hx;have h3:=(dN ht.bag).mem hp;rw[hpx,h0]at h3;have:=hpos p hp;omega
 ·have e':zs=[]:=e;subst e';refine ⟨a,b,λr=>?_,λr=>by simp[cnt],[],by simp,λr _ h=>absurd rfl h⟩;have:=Lb (l:=old) (λx hx=>by have:=hpos x hx;omega) r;simp only[cnt];omega
end Go.Proofs.YtopjjlmfilgngaaGreatDoor
