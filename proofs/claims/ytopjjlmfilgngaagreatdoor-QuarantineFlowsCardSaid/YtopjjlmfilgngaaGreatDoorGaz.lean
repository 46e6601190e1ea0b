/-
  Plain laws of chapter 30: the checks that its laws make; one waiver more; all rows again. No program is in sight. Plain: chapter 30's closed example. No program is in sight. Plain law: a row that is held because it refers to a missing row flows on when this row arrives. No program is in sight.
-/
import Derived.Test.YtopjjlmfilgngaaGreatDoorGav
import Derived.Test.YtopjjlmfilgngaaGreatDoorM29Q
import Derived.Test.YtopjjlmfilgngaaGreatDoorInsI
import Derived.Test.YtopjjlmfilgngaaGreatDoorGay
namespace Go.Proofs.YtopjjlmfilgngaaGreatDoor
set_option linter.unusedSimpArgs false
set_option linter.unusedVariables false
def VP:List Node:=[⟨1,⟨0,0,⟨#[]⟩⟩,nV,0⟩,⟨1,⟨0,0,⟨#[]⟩⟩,RP,0⟩,⟨13,⟨0,0,⟨#[]⟩⟩,⟨#[]⟩,0⟩]
def nR:ByteArray:=⟨#[114]⟩
def nO:ByteArray:=⟨#[111]⟩
def kP (nm tb:ByteArray)(k:Int)(cs:List ByteArray)(ot:ByteArray)(oc:List ByteArray)(hi:Int)(cond:List Node)(zC:Int):Chk:=⟨nm,tb,k,cs,ot,oc,0,hi,cond,0,0,0,0,zC⟩
def tQ (nm tb:ByteArray)(zC:Int):List Chk:=
 [kP nm tb 0 [gW] ⟨#[]⟩ [] 0 [] zC,kP nm tb 0 [RP] ⟨#[]⟩ [] 0 [] zC,kP nm tb 0 [nV] ⟨#[]⟩ [] 0 [] zC,
  kP nm tb 1 [gW] ⟨#[]⟩ [] 0 [] zC,kP nm tb 1 [RP] ⟨#[]⟩ [] 0 [] zC,kP nm tb 1 [nV] ⟨#[]⟩ [] 0 [] zC,
  kP nm tb 2 [nV] ⟨#[]⟩ [] 3 [] zC,kP nm tb 3 [gW] nO [gW] 0 [] zC,kP nm tb 4 [] ⟨#[]⟩ [] 0 VP zC]
def nG (c:Chk):Prop:= ∃zC,(zC=0\/zC=1)/\c∈tQ c.name c.table zC
theorem tT:(∀c∈tQ ⟨#[]⟩ ⟨#[]⟩ 0,bV c fA fA []=0)/\ ∀c∈tQ ⟨#[]⟩ ⟨#[]⟩ 1,bV c fA fA []=0:=⟨by decide+kernel,by decide+kernel⟩
theorem yu (c:Chk)(a b:ByteArray)(cols ocols:List Col)(zs:List Zone):bV {c with name:=a,table:=b} cols ocols zs=bV c cols ocols zs:=rfl
theorem vT {c:Chk}(h:nG c):bV c fA fA []=0:=by
 obtain ⟨zC,hp,hc⟩:=h;rw[<-yu c ⟨#[]⟩ ⟨#[]⟩];rcases hp with rfl|rfl
 ·refine tT.1 _ ?_;simp only[tQ,List.mem_cons,List.not_mem_nil,or_false]at hc⊢;rcases hc with h|h|h|h|h|h|h|h|h <;> rw[h] <;> simp[kP]
 ·refine tT.2 _ ?_;simp only[tQ,List.mem_cons,List.not_mem_nil,or_false]at hc⊢;rcases hc with h|h|h|h|h|h|h|h|h <;> rw[h] <;> simp[kP]
theorem AY {c:Chk}(h:nG c):(fG c.kind=false/\c.other=⟨#[]⟩)\/(fG c.kind=true/\c.other=nO):=by
 obtain ⟨zC,hp,hc⟩:=h;simp only[tQ,List.mem_cons,List.not_mem_nil,or_false]at hc;rcases hc with h|h|h|h|h|h|h|h|h <;> rw[h] <;> simp[kP,fG]
theorem qZ {c:Chk}(h:nG c){o:Rel}(ho:o.name=nO):(bQ c [o]).1=0/\(fG c.kind=true->(bQ c [o]).2=o):=by
 rcases AY h with ⟨h1,h2⟩|⟨h1,h2⟩
 ·rw[bQ,h2,if_pos (by decide+kernel)];exact ⟨rfl,λe=>by rw[h1]at e;cases e⟩
 ·have hf:[o].find? (Bv c.other)=some o:=by rw[List.find?_cons,show Bv c.other o=true from by rw[Bv,ho,h2];decide+kernel]
  rw[bQ,hf,if_neg (by rw[h2];decide+kernel)];exact ⟨rfl,λ_=>rfl⟩
theorem CS {c:Chk}(h:fG c.kind=false)(cols oc oc':List Col)(zs:List Zone):bV c cols oc zs=bV c cols oc' zs:=by
 simp only[bV,iN,h];simp
theorem Gz {c:Chk}(h:fG c.kind=false)(cols oc oc':List Col)(rr orr orr':List Ent)(zs:List Zone)(row:List Val):bS c cols oc rr orr zs row=bS c cols oc' rr orr' zs row:=by
 have h3:c.kind≠3:=λe=>by rw[e]at h;simp[fG]at h
 simp only[bS,h3,if_false]
theorem sV {c:Chk}(h:nG c){rows orows:List Ent}(hr:aQ fA rows=0)(ho:aQ fA orows=0)(oc:List Col)(orr:List Ent)(hu:fG c.kind=true->oc=fA/\orr=orows):
  dh c fA oc rows orr []=0/\ ∀row,bS c fA oc rows orr [] row=bS c fA fA rows orows [] row:=by
 cases q:fG c.kind
 ·refine ⟨?_,λrow=>Gz q _ _ _ _ _ _ _ _⟩;rw[dh,CS q fA oc fA,vT h,hr,q];simp
 ·obtain ⟨rfl,rfl⟩:=hu q;refine ⟨?_,λrow=>rfl⟩;rw[dh,vT h,hr,ho];simp
section
variable {rows orows:List Ent}{ks ko:List (List ByteArray)}{cs:List Chk}{ws:List Wvr}
def rQ (rows:List Ent)(ks:List (List ByteArray)):Rel:=⟨nR,fA,ks,rows⟩
def pV (rows:List Ent)(ks:List (List ByteArray)):Rel:=⟨nO,fA,ks,rows⟩
theorem AZ {c:Chk}(h:nG c)(hr:aQ fA rows=0)(ho:aQ fA orows=0):qb (rQ rows ks) [pV orows ko] [] c=0:=by
 obtain ⟨h1,h2⟩:=qZ h (o:=pV orows ko) rfl;have h3:=(sV h hr ho (bQ c [pV orows ko]).2.columns (bQ c [pV orows ko]).2.rows λu=>by rw[h2 u];exact ⟨rfl,rfl⟩).1;rw[qb,if_neg (by simp[h1]),ky,nT,if_neg (by
  show ¬dh c fA _ rows _ []≠0;rw[h3];simp)]
theorem Fy {c:Chk}(h:nG c)(hr:aQ fA rows=0)(ho:aQ fA orows=0)(row:List Val):RY (rQ rows ks) [pV orows ko] [] c row=bS c fA fA rows orows [] row:=by
 obtain ⟨h1,h2⟩:=qZ h (o:=pV orows ko) rfl;exact (sV h hr ho _ _ λu=>by rw[h2 u];exact ⟨rfl,rfl⟩).2 row
theorem EO:aC fA=0:=by decide+kernel
def MI (rows orows:List Ent)(ws:List Wvr)(cs:List Chk)(row:List Val):List ByteArray:=((gQ cs nR).filter λc=>bS c fA fA rows orows [] row&&!dD ws c.name row).map Chk.name
def LF (rows orows:List Ent)(ws:List Wvr)(cs:List Chk)(row:List Val):Bool:=!(MI rows orows ws cs row).isEmpty
theorem LQ (hg: ∀c∈cs,nG c)(hr:aQ fA rows=0)(ho:aQ fA orows=0)(row:List Val):MH (rQ rows ks) [pV orows ko] ws [] (gQ cs nR) row=MI rows orows ws cs row:=by
 rw[MH,MI]
 congr 1
 refine List.filter_congr λc hc=>?_;rw[Fy (hg c (List.mem_filter.1 hc).1) hr ho]
theorem IR (hg: ∀c∈cs,nG c)(hr:aQ fA rows=0)(ho:aQ fA orows=0):
  sN (rQ rows ks) cs [pV orows ko] ws []=(0,rows.filter (λx=>!LF rows orows ws cs x.row),(rows.filter λx=>LF rows orows ws cs x.row).map λx=>⟨nR,x.row,x.count,MI rows orows ws cs x.row⟩):=by
 have h1:=Lg (r:=rQ rows ks) (cs:=cs) (others:=[pV orows ko]) (ws:=ws) (zs:=[]) EO hr λc hc=>AZ (hg c (List.mem_filter.1 hc).1) hr ho;rw[h1];simp only[tq,LF,show (rQ rows ks).name=nR from rfl,show (rQ rows ks).rows=rows from rfl,LQ hg hr ho]
end
theorem yw {rows:List Ent}(hb:au rows=0)(p:List Val->Bool){x:Ent}(hx:x∈rows):cntF (rows.filter λx=>p x.row) x.row=if p x.row=true then x.count else 0:=by
 rw[((dN hb).filter _).cntF]
 split
 ·next q=>rw[jQ λy hy e=>by rw[e];exact q,(dN hb).mem hx]
 ·next q=>exact jP λy hy e=>by rw[e];simpa using q
def Dn:Chk:=⟨⟨#[117]⟩,nR,0,[⟨#[97]⟩],⟨#[]⟩,[],0,0,[],0,0,0,0,0⟩
def Dp:Chk:=⟨⟨#[103]⟩,nR,2,[⟨#[98]⟩],⟨#[]⟩,[],0,5,[],0,0,0,0,0⟩
def xq:List Ent:=[⟨[iV 1,iV 1],1⟩,⟨[iV 1,iV 2],1⟩,⟨[iV 2,iV 9],3⟩]
def LJ:Rel:=⟨nR,xm,[],xq⟩
def FX:List Wvr:=[⟨⟨#[117]⟩,[iV 1,iV 2]⟩,⟨⟨#[117]⟩,[iV 2,iV 9]⟩]
def qF:Int×List Ent×List Quar:=sN LJ [Dn,Dp] [] FX []
theorem JA:qF.1=0/\qF.2.1.length=1/\(qF.2.1.getD 0 default).row.length=2/\((qF.2.1.getD 0 default).row.getD 1 default).num=2/\qF.2.2.length=2/\
  (qF.2.2.getD 0 default).relation.toList=[114]/\(qF.2.2.getD 0 default).checks.length=1/\((qF.2.2.getD 0 default).checks.getD 0 ⟨#[]⟩).toList=[117]/\
  (qF.2.2.getD 1 default).count=3/\(qF.2.2.getD 1 default).checks.length=1/\((qF.2.2.getD 1 default).checks.getD 0 ⟨#[]⟩).toList=[103]:=by decide+kernel
def uM:Chk:=kP ⟨#[102]⟩ nR 3 [gW] nO [gW] 0 [] 0
theorem Fh:nG uM:=⟨0,.inl rfl,by simp[uM,tQ,kP]⟩
def fK (orows:List Ent)(v:Val):Bool:=orows.any λy=>Lj (y.row.getD 1 default) v
theorem Jl:aW fA [gW]=(0,[1]):=by decide+kernel
theorem rW {row:List Val}(h:aB fA row=0):aO fA [gW] row=[row.getD 1 default]:=by
 have hl:row.length=3:=mU h
 match row,hl with
 | [a,b,c],_=>simp[aO,Jl,fF]
theorem Jn {rows orows:List Ent}(ho:aQ fA orows=0){row:List Val}(h:aB fA row=0):bS uM fA fA rows orows [] row=((row.getD 1 default).kind != 0&&!fK orows (row.getD 1 default)):=by
 have hf:(Js fA [gW] orows (aO fA [gW] row)).isEmpty=!fK orows (row.getD 1 default):=by
  rw[rW h,Js,fK];cases q:orows.any λy=>Lj (y.row.getD 1 default) (row.getD 1 default)
  ·have q':=List.any_eq_false.1 q;rw[List.filter_eq_nil_iff.2 λy hy e=>q' y hy ?_]
   ·rfl
   ·rw[mV,rW ((aG ho).2.2 y hy)]at e;exact Ci.2 (by injection e)
  ·obtain ⟨y,hy,e⟩:=List.any_eq_true.1 q;have hm:y∈orows.filter λx=>uA (aO fA [gW] x.row) [row.getD 1 default]:=List.mem_filter.2 ⟨hy,mV.2 (by rw[rW ((aG ho).2.2 y hy),Ci.1 e])⟩;cases hq:orows.filter λx=>uA (aO fA [gW] x.row) [row.getD 1 default]
   ·rw[hq]at hm;cases hm
   ·rfl
 have hn:jS (aO fA [gW] row)=((row.getD 1 default).kind==0):=by rw[rW h];simp[jS]
 rw[bS,if_neg (by simp[uM,kP]),if_neg (by simp[uM,kP]),if_neg (by simp[uM,kP]),if_pos (by simp[uM,kP]),show uM.cols=[gW] from rfl,show uM.ocols=[gW] from rfl,hf,hn];rfl
theorem yH {orows more:List Ent}(h: ∀y∈orows,∃z∈more,z.row=y.row){v:Val}(hv:fK orows v=true):fK more v=true:=by
 obtain ⟨y,hy,e⟩:=List.any_eq_true.1 hv;obtain ⟨z,hz,hr⟩:=h y hy;exact List.any_eq_true.2 ⟨z,hz,by rw[hr];exact e⟩
def sS (orows:List Ent)(row:List Val):Bool:=(row.getD 1 default).kind != 0&&!fK orows (row.getD 1 default)
theorem Lt:gQ [uM] nR=[uM]:=by rw[gQ,List.filter_cons_of_pos (by decide+kernel),List.filter_nil]
theorem J8 {rows orows:List Ent}(ho:aQ fA orows=0){row:List Val}(h:aB fA row=0):MI rows orows [] [uM] row=if sS orows row=true then [⟨#[102]⟩] else []:=by
 rw[MI,Lt,List.filter_cons,Jn ho h,show dD [] uM.name row=false from rfl];cases q:sS orows row
 ·rw[sS]at q;rw[q];rfl
 ·rw[sS]at q;rw[q];rfl
theorem J7 {rows orows:List Ent}(ho:aQ fA orows=0){row:List Val}(h:aB fA row=0):LF rows orows [] [uM] row=sS orows row:=by
 rw[LF,J8 ho h];cases sS orows row <;> rfl
theorem Fq {rows orows:List Ent}{ks ko:List (List ByteArray)}(hr:aQ fA rows=0)(ho:aQ fA orows=0):
  sN (rQ rows ks) [uM] [pV orows ko] [] []=(0,rows.filter (λx=>!sS orows x.row),(rows.filter λx=>sS orows x.row).map λx=>⟨nR,x.row,x.count,[⟨#[102]⟩]⟩):=by
 have hg: ∀c∈[uM],nG c:=λc hc=>by simp at hc;subst hc;exact Fh
 have hf:=(aG hr).2.2;rw[IR hg hr ho];have e1:rows.filter (λx=>!LF rows orows [] [uM] x.row)=rows.filter (λx=>!sS orows x.row):=List.filter_congr λx hx=>by rw[J7 ho (hf x hx)]
 have e2:rows.filter (λx=>LF rows orows [] [uM] x.row)=rows.filter (λx=>sS orows x.row):=List.filter_congr λx hx=>by rw[J7 ho (hf x hx)]
 rw[e1,e2]
 congr 2
 refine List.map_congr_left λx hx=>?_;obtain ⟨h1,h2⟩:=List.mem_filter.1 hx;rw[J8 ho (hf x h1),if_pos h2]
theorem pq {α:Type}(l:List α)(p:α->Bool):(l.filter λx=>!p x).length+(l.filter p).length=l.length:=by
 induction l with
 |nil=>rfl
 |cons x l ih=>
  rw[List.filter_cons,List.filter_cons];cases p x <;> simp <;> omega
theorem Fp {rows orows porows:List Ent}(hr:aQ fA rows=0){x:Ent}(hx:x∈rows.filter λx=>sS orows x.row):(cntF (rows.filter λx=>!sS porows x.row) x.row==x.count)=fK porows (x.row.getD 1 default):=by
 obtain ⟨h1,h2⟩:=List.mem_filter.1 hx;obtain ⟨hb,ht,_⟩:=aG hr;have hp:=(eB hb ht).2 x h1;rw[yw hb (λq=>!sS porows q) h1];rw[sS]at h2;simp only[Bool.and_eq_true]at h2;rw[sS,h2.1];cases fK porows (x.row.getD 1 default)
 ·simp;omega
 ·simp
theorem Jm {rows orows porows:List Ent}(hr:aQ fA rows=0)(hm: ∀y∈orows,∃z∈porows,z.row=y.row){x:Ent}(hx:x∈rows.filter λx=>!sS orows x.row):cntF (rows.filter λx=>!sS porows x.row) x.row=x.count:=by
 obtain ⟨h1,h2⟩:=List.mem_filter.1 hx;obtain ⟨hb,ht,_⟩:=aG hr;rw[yw hb (λq=>!sS porows q) h1,if_pos];rw[sS]at h2⊢;cases q:(x.row.getD 1 default).kind != 0
 ·rfl
 ·rw[q]at h2;simp only[Bool.true_and,Bool.not_not]at h2⊢;exact yH hm h2
end Go.Proofs.YtopjjlmfilgngaaGreatDoor
