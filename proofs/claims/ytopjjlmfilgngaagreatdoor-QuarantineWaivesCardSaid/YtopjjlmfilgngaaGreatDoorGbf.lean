/-
  Plain laws of chapter 30: the checks that its laws make; one waiver more; all rows again. No program is in sight. Plain: chapter 30's closed example. No program is in sight.
-/
import Derived.Test.YtopjjlmfilgngaaGreatDoorGbd
import Derived.Test.YtopjjlmfilgngaaGreatDoorGbc
namespace Go.Proofs.YtopjjlmfilgngaaGreatDoor
set_option linter.unusedSimpArgs false
set_option linter.unusedVariables false
def Kz:List Node:=[⟨1,⟨0,0,⟨#[]⟩⟩,nV,0⟩,⟨1,⟨0,0,⟨#[]⟩⟩,TQ,0⟩,⟨13,⟨0,0,⟨#[]⟩⟩,⟨#[]⟩,0⟩]
def nR:ByteArray:=⟨#[114]⟩
def nO:ByteArray:=⟨#[111]⟩
def kw (nm tb:ByteArray)(k:Int)(cs:List ByteArray)(ot:ByteArray)(oc:List ByteArray)(hi:Int)(cond:List Node)(Bd:Int):Chk:=⟨nm,tb,k,cs,ot,oc,0,hi,cond,0,0,0,0,Bd⟩
def oZ (nm tb:ByteArray)(Bd:Int):List Chk:=
 [kw nm tb 0 [qL] ⟨#[]⟩ [] 0 [] Bd,kw nm tb 0 [TQ] ⟨#[]⟩ [] 0 [] Bd,kw nm tb 0 [nV] ⟨#[]⟩ [] 0 [] Bd,
  kw nm tb 1 [qL] ⟨#[]⟩ [] 0 [] Bd,kw nm tb 1 [TQ] ⟨#[]⟩ [] 0 [] Bd,kw nm tb 1 [nV] ⟨#[]⟩ [] 0 [] Bd,
  kw nm tb 2 [nV] ⟨#[]⟩ [] 3 [] Bd,kw nm tb 3 [qL] nO [qL] 0 [] Bd,kw nm tb 4 [] ⟨#[]⟩ [] 0 Kz Bd]
def jr (c:Chk):Prop:= ∃Bd,(Bd=0\/Bd=1)/\c∈oZ c.name c.table Bd
theorem zC:(∀c∈oZ ⟨#[]⟩ ⟨#[]⟩ 0,aN c gV gV []=0)/\ ∀c∈oZ ⟨#[]⟩ ⟨#[]⟩ 1,aN c gV gV []=0:=⟨by decide+kernel,by decide+kernel⟩
theorem ES (c:Chk)(a b:ByteArray)(cols ocols:List Col)(zs:List Zone):aN {c with name:=a,table:=b} cols ocols zs=aN c cols ocols zs:=rfl
theorem Cn {c:Chk}(h:jr c):aN c gV gV []=0:=by
 obtain ⟨Bd,hp,hc⟩:=h;rw[<-ES c ⟨#[]⟩ ⟨#[]⟩];rcases hp with rfl|rfl
 ·refine zC.1 _ ?_;simp only[oZ,List.mem_cons,List.not_mem_nil,or_false]at hc⊢;rcases hc with h|h|h|h|h|h|h|h|h <;> rw[h] <;> simp[kw]
 ·refine zC.2 _ ?_;simp only[oZ,List.mem_cons,List.not_mem_nil,or_false]at hc⊢;rcases hc with h|h|h|h|h|h|h|h|h <;> rw[h] <;> simp[kw]
theorem Hf {c:Chk}(h:jr c):(gH c.kind=false/\c.other=⟨#[]⟩)\/(gH c.kind=true/\c.other=nO):=by
 obtain ⟨Bd,hp,hc⟩:=h;simp only[oZ,List.mem_cons,List.not_mem_nil,or_false]at hc;rcases hc with h|h|h|h|h|h|h|h|h <;> rw[h] <;> simp[kw,gH]
theorem sw {c:Chk}(h:jr c):c.cols.length<=4096/\c.ocols.length<=4096:=by
 obtain ⟨Bd,hp,hc⟩:=h;simp only[oZ,List.mem_cons,List.not_mem_nil,or_false]at hc;rcases hc with h|h|h|h|h|h|h|h|h <;> rw[h] <;> simp[kw]
theorem xy {c:Chk}(h:jr c){o:Rel}(ho:o.name=nO):(dY c [o]).1=0/\(gH c.kind=true->(dY c [o]).2=o):=by
 rcases Hf h with ⟨h1,h2⟩|⟨h1,h2⟩
 ·rw[dY,h2,if_pos (by decide+kernel)];exact ⟨rfl,λe=>by rw[h1]at e;cases e⟩
 ·have hf:[o].find? (Im c.other)=some o:=by rw[List.find?_cons,show Im c.other o=true from by rw[Im,ho,h2];decide+kernel]
  rw[dY,hf,if_neg (by rw[h2];decide+kernel)];exact ⟨rfl,λ_=>rfl⟩
theorem JZ {c:Chk}(h:gH c.kind=false)(cols oc oc':List Col)(zs:List Zone):aN c cols oc zs=aN c cols oc' zs:=by
 simp only[aN,jK,h];simp
theorem OY {c:Chk}(h:gH c.kind=false)(cols oc oc':List Col)(rr orr orr':List Ent)(zs:List Zone)(row:List Val):bN c cols oc rr orr zs row=bN c cols oc' rr orr' zs row:=by
 have h3:c.kind≠3:=λe=>by rw[e]at h;simp[gH]at h
 simp only[bN,h3,if_false]
theorem tY {c:Chk}(h:jr c){rows orows:List Ent}(hr:bP gV rows=0)(ho:bP gV orows=0)(oc:List Col)(orr:List Ent)(hu:gH c.kind=true->oc=gV/\orr=orows):
  dx c gV oc rows orr []=0/\ ∀row,bN c gV oc rows orr [] row=bN c gV gV rows orows [] row:=by
 cases q:gH c.kind
 ·refine ⟨?_,λrow=>OY q _ _ _ _ _ _ _ _⟩;rw[dx,JZ q gV oc gV,Cn h,hr,q];simp
 ·obtain ⟨rfl,rfl⟩:=hu q;refine ⟨?_,λrow=>rfl⟩;rw[dx,Cn h,hr,ho];simp
section
variable {rows orows:List Ent}{ks ko:List (List ByteArray)}{cs:List Chk}{ws:List Wvr}
def xN (rows:List Ent)(ks:List (List ByteArray)):Rel:=⟨nR,gV,ks,rows⟩
def rM (rows:List Ent)(ks:List (List ByteArray)):Rel:=⟨nO,gV,ks,rows⟩
theorem Hg {c:Chk}(h:jr c)(hr:bP gV rows=0)(ho:bP gV orows=0):vG (xN rows ks) [rM orows ko] [] c=0:=by
 obtain ⟨h1,h2⟩:=xy h (o:=rM orows ko) rfl;have h3:=(tY h hr ho (dY c [rM orows ko]).2.columns (dY c [rM orows ko]).2.rows λu=>by rw[h2 u];exact ⟨rfl,rfl⟩).1;rw[vG,if_neg (by simp[h1]),pF,jZ,if_neg (by
  show ¬dx c gV _ rows _ []≠0;rw[h3];simp)]
theorem Nq {c:Chk}(h:jr c)(hr:bP gV rows=0)(ho:bP gV orows=0)(row:List Val):vbO (xN rows ks) [rM orows ko] [] c row=bN c gV gV rows orows [] row:=by
 obtain ⟨h1,h2⟩:=xy h (o:=rM orows ko) rfl;exact (tY h hr ho _ _ λu=>by rw[h2 u];exact ⟨rfl,rfl⟩).2 row
theorem MQ:aC gV=0:=by decide+kernel
def LH (rows orows:List Ent)(ws:List Wvr)(cs:List Chk)(row:List Val):List ByteArray:=((kK cs nR).filter λc=>bN c gV gV rows orows [] row&&!dG ws c.name row).map Chk.name
def Bc (rows orows:List Ent)(ws:List Wvr)(cs:List Chk)(row:List Val):Bool:=!(LH rows orows ws cs row).isEmpty
theorem TR (hg: ∀c∈cs,jr c)(hr:bP gV rows=0)(ho:bP gV orows=0)(row:List Val):UG (xN rows ks) [rM orows ko] ws [] (kK cs nR) row=LH rows orows ws cs row:=by
 rw[UG,LH]
 congr 1
 refine List.filter_congr λc hc=>?_;rw[Nq (hg c (List.mem_filter.1 hc).1) hr ho]
theorem Jn (hg: ∀c∈cs,jr c)(hr:bP gV rows=0)(ho:bP gV orows=0):
  Bj (xN rows ks) cs [rM orows ko] ws []=(0,rows.filter (λx=>!Bc rows orows ws cs x.row),(rows.filter λx=>Bc rows orows ws cs x.row).map λx=>⟨nR,x.row,x.count,LH rows orows ws cs x.row⟩):=by
 have h1:=Tq (r:=xN rows ks) (cs:=cs) (others:=[rM orows ko]) (ws:=ws) (zs:=[]) MQ hr λc hc=>Hg (hg c (List.mem_filter.1 hc).1) hr ho;rw[h1];simp only[zh,Bc,show (xN rows ks).name=nR from rfl,show (xN rows ks).rows=rows from rfl,TR hg hr ho]
end
theorem IW (ws:List Wvr)(x:Wvr)(n:ByteArray)(row:List Val):dG (ws++[x]) n row=(dG ws n row || Gl n row x):=by simp[dG]
theorem Jr {rows orows:List Ent}{ws:List Wvr}{cs:List Chk}{x:Wvr}{row:List Val}(h:Bc rows orows (ws++[x]) cs row=true):Bc rows orows ws cs row=true:=by
 have hne:LH rows orows (ws++[x]) cs row≠[]:=λe=>by rw[Bc,e]at h;cases h
 obtain ⟨n,hn⟩:=List.exists_mem_of_ne_nil _ hne;obtain ⟨c,hc,rfl⟩:=List.mem_map.1 hn;obtain ⟨h1,h2⟩:=List.mem_filter.1 hc;rw[IW]at h2;simp only[Bool.and_eq_true,Bool.not_eq_true',Bool.or_eq_false_iff]at h2;have hm:c.name∈LH rows orows ws cs row:=List.mem_map.2 ⟨c,List.mem_filter.2 ⟨h1,by simp[h2.1,h2.2.1]⟩,rfl⟩;rw[Bc];cases q:LH rows orows ws cs row
 ·rw[q]at hm;cases hm
 ·rfl
theorem Ch {α:Type}{l:List α}{p q:α->Bool}(h: ∀x∈l,p x=true->q x=true):(l.filter p).length<=(l.filter q).length:=by
 rw[<-List.countP_eq_length_filter,<-List.countP_eq_length_filter];exact List.countP_mono_left h
theorem ET {rows:List Ent}(hb:aL rows=0)(p:List Val->Bool){x:Ent}(hx:x∈rows):cntF (rows.filter λx=>p x.row) x.row=if p x.row=true then x.count else 0:=by
 rw[((j6 hb).filter _).cntF]
 split
 ·next q=>rw[nU λy hy e=>by rw[e];exact q,(j6 hb).mem hx]
 ·next q=>exact nT λy hy e=>by rw[e];simpa using q
theorem OZ {c:Chk}(h:jr c){rows orows:List Ent}(hr:bP gV rows=0)(ho:bP gV orows=0){x:Ent}(hx:x∈rows):
  (jZ c gV gV rows orows []).1=0/\decide (0<cntF (jZ c gV gV rows orows []).2 x.row)=bN c gV gV rows orows [] x.row:=by
 obtain ⟨h1,h2⟩:=tY h hr ho gV orows λ_=>⟨rfl,rfl⟩;obtain ⟨hb,ht,_⟩:=aW hr;have hp:=(dI hb ht).2 x hx;rw[jZ,if_neg (by simp[h1])];refine ⟨rfl,?_⟩;show decide (0<cntF (rows.filter λx=>bN c gV gV rows orows [] x.row) x.row)=_;rw[ET hb _ hx];cases bN c gV gV rows orows [] x.row <;> simp[hp.1]
def Kv:Chk:=⟨⟨#[117]⟩,nR,0,[⟨#[97]⟩],⟨#[]⟩,[],0,0,[],0,0,0,0,0⟩
def Kw:Chk:=⟨⟨#[103]⟩,nR,2,[⟨#[98]⟩],⟨#[]⟩,[],0,5,[],0,0,0,0,0⟩
def DI:List Ent:=[⟨[iV 1,iV 1],1⟩,⟨[iV 1,iV 2],1⟩,⟨[iV 2,iV 9],3⟩]
def TN:Rel:=⟨nR,DF,[],DI⟩
def NR:List Wvr:=[⟨⟨#[117]⟩,[iV 1,iV 2]⟩,⟨⟨#[117]⟩,[iV 2,iV 9]⟩]
def wG:Int×List Ent×List Quar:=Bj TN [Kv,Kw] [] NR []
theorem QX:wG.1=0/\wG.2.1.length=1/\(wG.2.1.getD 0 default).row.length=2/\((wG.2.1.getD 0 default).row.getD 1 default).num=2/\wG.2.2.length=2/\
  (wG.2.2.getD 0 default).relation.toList=[114]/\(wG.2.2.getD 0 default).checks.length=1/\((wG.2.2.getD 0 default).checks.getD 0 ⟨#[]⟩).toList=[117]/\
  (wG.2.2.getD 1 default).count=3/\(wG.2.2.getD 1 default).checks.length=1/\((wG.2.2.getD 1 default).checks.getD 0 ⟨#[]⟩).toList=[103]:=by decide+kernel
end Go.Proofs.YtopjjlmfilgngaaGreatDoor
