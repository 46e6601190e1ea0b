/-
  Plain law: what inspections answer where tables and their changes are given: Build, Apply, its opposite, the rows that are not concerned. No program is in sight. Plain laws of chapter 30: the checks that its laws make; one waiver more; all rows again. No program is in sight. Plain: chapter 30's closed example. No program is in sight.
-/
import Derived.Test.YtopjjlmfilgngaaGreatDoorGaz
import Derived.Test.YtopjjlmfilgngaaGreatDoorInsI
import Derived.Test.YtopjjlmfilgngaaGreatDoorM29Q
import Derived.Test.YtopjjlmfilgngaaGreatDoorGaw
namespace Go.Proofs.YtopjjlmfilgngaaGreatDoor
set_option linter.unusedSimpArgs false
set_option linter.unusedVariables false
theorem cnt_filter_if (p:List Val->Bool)(l:List Ent)(q:List Val):cnt (l.filter λx=>p x.row) q=if p q=true then cnt l q else 0:=by
 by_cases h:p q=true
 ·rw[if_pos h,jQ λx _ e=>by rw[e];exact h]
 ·rw[if_neg h,jP λx _ e=>by rw[e];simpa using h]
def VP:List Node:=[⟨1,⟨0,0,⟨#[]⟩⟩,nV,0⟩,⟨1,⟨0,0,⟨#[]⟩⟩,RP,0⟩,⟨13,⟨0,0,⟨#[]⟩⟩,⟨#[]⟩,0⟩]
def nR:ByteArray:=⟨#[114]⟩
def nO:ByteArray:=⟨#[111]⟩
def kP (nm tb:ByteArray)(k:Int)(cs:List ByteArray)(ot:ByteArray)(oc:List ByteArray)(hi:Int)(cond:List Node)(zC:Int):Chk:=⟨nm,tb,k,cs,ot,oc,0,hi,cond,0,0,0,0,zC⟩
def tQ (nm tb:ByteArray)(zC:Int):List Chk:=
 [kP nm tb 0 [gW] ⟨#[]⟩ [] 0 [] zC,kP nm tb 0 [RP] ⟨#[]⟩ [] 0 [] zC,kP nm tb 0 [nV] ⟨#[]⟩ [] 0 [] zC,
  kP nm tb 1 [gW] ⟨#[]⟩ [] 0 [] zC,kP nm tb 1 [RP] ⟨#[]⟩ [] 0 [] zC,kP nm tb 1 [nV] ⟨#[]⟩ [] 0 [] zC,
  kP nm tb 2 [nV] ⟨#[]⟩ [] 3 [] zC,kP nm tb 3 [gW] nO [gW] 0 [] zC,kP nm tb 4 [] ⟨#[]⟩ [] 0 VP zC]
def nG (c:Chk):Prop:= ∃zC,(zC=0\/zC=1)/\c∈tQ c.name c.table zC
theorem tT:(∀c∈tQ ⟨#[]⟩ ⟨#[]⟩ 0,bV c fA fA []=0)/\ ∀c∈tQ ⟨#[]⟩ ⟨#[]⟩ 1,bV c fA fA []=0:=⟨by decide+kernel,by decide+kernel⟩
theorem yu (c:Chk)(a b:ByteArray)(cols ocols:List Col)(zs:List Zone):bV {c with name:=a,table:=b} cols ocols zs=bV c cols ocols zs:=rfl
theorem vT {c:Chk}(h:nG c):bV c fA fA []=0:=by
 obtain ⟨zC,hp,hc⟩:=h;rw[<-yu c ⟨#[]⟩ ⟨#[]⟩];rcases hp with rfl|rfl
 ·refine tT.1 _ ?_;simp only[tQ,List.mem_cons,List.not_mem_nil,or_false]at hc⊢;rcases hc with h|h|h|h|h|h|h|h|h <;> rw[h] <;> simp[kP]
 ·refine tT.2 _ ?_;simp only[tQ,List.mem_cons,List.not_mem_nil,or_false]at hc⊢;rcases hc with h|h|h|h|h|h|h|h|h <;> rw[h] <;> simp[kP]
theorem AY {c:Chk}(h:nG c):(fG c.kind=false/\c.other=⟨#[]⟩)\/(fG c.kind=true/\c.other=nO):=by
 obtain ⟨zC,hp,hc⟩:=h;simp only[tQ,List.mem_cons,List.not_mem_nil,or_false]at hc;rcases hc with h|h|h|h|h|h|h|h|h <;> rw[h] <;> simp[kP,fG]
theorem goodQ_len {c:Chk}(h:nG c):c.cols.length<=4096/\c.ocols.length<=4096:=by
 obtain ⟨zC,hp,hc⟩:=h;simp only[tQ,List.mem_cons,List.not_mem_nil,or_false]at hc;rcases hc with h|h|h|h|h|h|h|h|h <;> rw[h] <;> simp[kP]
theorem qZ {c:Chk}(h:nG c){o:Rel}(ho:o.name=nO):(bQ c [o]).1=0/\(fG c.kind=true->(bQ c [o]).2=o):=by
 rcases AY h with ⟨h1,h2⟩|⟨h1,h2⟩
 ·rw[bQ,h2,if_pos (by decide+kernel)];exact ⟨rfl,λe=>by rw[h1]at e;cases e⟩
 ·have hf:[o].find? (Bv c.other)=some o:=by rw[List.find?_cons,show Bv c.other o=true from by rw[Bv,ho,h2];decide+kernel]
  rw[bQ,hf,if_neg (by rw[h2];decide+kernel)];exact ⟨rfl,λ_=>rfl⟩
theorem CS {c:Chk}(h:fG c.kind=false)(cols oc oc':List Col)(zs:List Zone):bV c cols oc zs=bV c cols oc' zs:=by
 simp only[bV,iN,h];simp
theorem Gz {c:Chk}(h:fG c.kind=false)(cols oc oc':List Col)(rr orr orr':List Ent)(zs:List Zone)(row:List Val):bS c cols oc rr orr zs row=bS c cols oc' rr orr' zs row:=by
 have h3:c.kind≠3:=λe=>by rw[e]at h;simp[fG]at h
 simp only[bS,h3,if_false]
theorem sV {c:Chk}(h:nG c){rows orows:List Ent}(hr:aQ fA rows=0)(ho:aQ fA orows=0)(oc:List Col)(orr:List Ent)(hu:fG c.kind=true->oc=fA/\orr=orows):
  dh c fA oc rows orr []=0/\ ∀row,bS c fA oc rows orr [] row=bS c fA fA rows orows [] row:=by
 cases q:fG c.kind
 ·refine ⟨?_,λrow=>Gz q _ _ _ _ _ _ _ _⟩;rw[dh,CS q fA oc fA,vT h,hr,q];simp
 ·obtain ⟨rfl,rfl⟩:=hu q;refine ⟨?_,λrow=>rfl⟩;rw[dh,vT h,hr,ho];simp
section
variable {rows orows:List Ent}{ks ko:List (List ByteArray)}{cs:List Chk}{ws:List Wvr}
def rQ (rows:List Ent)(ks:List (List ByteArray)):Rel:=⟨nR,fA,ks,rows⟩
def pV (rows:List Ent)(ks:List (List ByteArray)):Rel:=⟨nO,fA,ks,rows⟩
theorem AZ {c:Chk}(h:nG c)(hr:aQ fA rows=0)(ho:aQ fA orows=0):qb (rQ rows ks) [pV orows ko] [] c=0:=by
 obtain ⟨h1,h2⟩:=qZ h (o:=pV orows ko) rfl;have h3:=(sV h hr ho (bQ c [pV orows ko]).2.columns (bQ c [pV orows ko]).2.rows λu=>by rw[h2 u];exact ⟨rfl,rfl⟩).1;rw[qb,if_neg (by simp[h1]),ky,nT,if_neg (by
  show ¬dh c fA _ rows _ []≠0;rw[h3];simp)]
theorem Fy {c:Chk}(h:nG c)(hr:aQ fA rows=0)(ho:aQ fA orows=0)(row:List Val):RY (rQ rows ks) [pV orows ko] [] c row=bS c fA fA rows orows [] row:=by
 obtain ⟨h1,h2⟩:=qZ h (o:=pV orows ko) rfl;exact (sV h hr ho _ _ λu=>by rw[h2 u];exact ⟨rfl,rfl⟩).2 row
theorem EO:aC fA=0:=by decide+kernel
def MI (rows orows:List Ent)(ws:List Wvr)(cs:List Chk)(row:List Val):List ByteArray:=((gQ cs nR).filter λc=>bS c fA fA rows orows [] row&&!dD ws c.name row).map Chk.name
def LF (rows orows:List Ent)(ws:List Wvr)(cs:List Chk)(row:List Val):Bool:=!(MI rows orows ws cs row).isEmpty
theorem LQ (hg: ∀c∈cs,nG c)(hr:aQ fA rows=0)(ho:aQ fA orows=0)(row:List Val):MH (rQ rows ks) [pV orows ko] ws [] (gQ cs nR) row=MI rows orows ws cs row:=by
 rw[MH,MI]
 congr 1
 refine List.filter_congr λc hc=>?_;rw[Fy (hg c (List.mem_filter.1 hc).1) hr ho]
theorem IR (hg: ∀c∈cs,nG c)(hr:aQ fA rows=0)(ho:aQ fA orows=0):
  sN (rQ rows ks) cs [pV orows ko] ws []=(0,rows.filter (λx=>!LF rows orows ws cs x.row),(rows.filter λx=>LF rows orows ws cs x.row).map λx=>⟨nR,x.row,x.count,MI rows orows ws cs x.row⟩):=by
 have h1:=Lg (r:=rQ rows ks) (cs:=cs) (others:=[pV orows ko]) (ws:=ws) (zs:=[]) EO hr λc hc=>AZ (hg c (List.mem_filter.1 hc).1) hr ho;rw[h1];simp only[tq,LF,show (rQ rows ks).name=nR from rfl,show (rQ rows ks).rows=rows from rfl,LQ hg hr ho]
end
theorem rej_rows {rows:List Ent}(hb:au rows=0)(ht:cO rows=true)(p:List Val->Bool)(nm:List Val->List ByteArray):gV (rejL nR (rows.filter λx=>!p x.row) ((rows.filter λx=>p x.row).map λx=>⟨nR,x.row,x.count,nm x.row⟩))=(0,rows):=by
 have e1:rejL nR (rows.filter λx=>!p x.row) ((rows.filter λx=>p x.row).map λx=>⟨nR,x.row,x.count,nm x.row⟩)=rows.filter (λx=>!p x.row)++rows.filter (λx=>p x.row):=by
  rw[rejL]
  congr 1
  rw[List.filter_map,List.map_map];have h1:(rows.filter λx=>p x.row).filter ((λq:Quar=>q.relation.toList==nR.toList)∘λx=>⟨nR,x.row,x.count,nm x.row⟩)=rows.filter λx=>p x.row:=List.filter_eq_self.2 λx _=>by simp
  rw[h1];exact (List.map_congr_left λx _=>rfl).trans (List.map_id _)
 rw[e1];have hc: ∀r,cnt rows r=cnt (rows.filter (λx=>!p x.row)++rows.filter (λx=>p x.row)) r:=λr=>by
  rw[iO,cnt_filter_if (λq=>!p q) rows r,cnt_filter_if p rows r];cases p r <;> simp
 have hk:aY rows=rows:=List.filter_eq_self.2 λx hx=>by
  have:=(eB hb ht).2 x hx;simp;omega
 have hl:=(eB hb ht).1;rw[IE (dN hb) hc,if_neg,hk];intro e;rw[(kY rows 0 (λx hx=>by have:=(eB hb ht).2 x hx;omega) (by omega)).2 ⟨λx hx=>by have:=(eB hb ht).2 x hx;omega,by omega⟩]at e;cases e
def Dn:Chk:=⟨⟨#[117]⟩,nR,0,[⟨#[97]⟩],⟨#[]⟩,[],0,0,[],0,0,0,0,0⟩
def Dp:Chk:=⟨⟨#[103]⟩,nR,2,[⟨#[98]⟩],⟨#[]⟩,[],0,5,[],0,0,0,0,0⟩
def xq:List Ent:=[⟨[iV 1,iV 1],1⟩,⟨[iV 1,iV 2],1⟩,⟨[iV 2,iV 9],3⟩]
def LJ:Rel:=⟨nR,xm,[],xq⟩
def FX:List Wvr:=[⟨⟨#[117]⟩,[iV 1,iV 2]⟩,⟨⟨#[117]⟩,[iV 2,iV 9]⟩]
def qF:Int×List Ent×List Quar:=sN LJ [Dn,Dp] [] FX []
theorem JA:qF.1=0/\qF.2.1.length=1/\(qF.2.1.getD 0 default).row.length=2/\((qF.2.1.getD 0 default).row.getD 1 default).num=2/\qF.2.2.length=2/\
  (qF.2.2.getD 0 default).relation.toList=[114]/\(qF.2.2.getD 0 default).checks.length=1/\((qF.2.2.getD 0 default).checks.getD 0 ⟨#[]⟩).toList=[117]/\
  (qF.2.2.getD 1 default).count=3/\(qF.2.2.getD 1 default).checks.length=1/\((qF.2.2.getD 1 default).checks.getD 0 ⟨#[]⟩).toList=[103]:=by decide+kernel
end Go.Proofs.YtopjjlmfilgngaaGreatDoor
