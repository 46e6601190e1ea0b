/-
  warehouselaw30.QuarantineWaives. (Printed by gen_lwwv.py.)
-/
import Derived.Deep.CutRange
import Derived.Deep.DeepCutAuto
import Derived.Test.YtopjjlmfilgngaaGreatDoorM30M
import Derived.Test.YtopjjlmfilgngaaGreatDoorGbb
import Derived.Test.YtopjjlmfilgngaaGreatDoorGad
import Derived.Test.YtopjjlmfilgngaaGreatDoorGal
import Derived.Test.YtopjjlmfilgngaaGreatDoorGac
namespace Go.Proofs.YtopjjlmfilgngaaGreatDoor
set_option maxHeartbeats 8000000
set_option maxRecDepth 100000
open Go.RowKit Go.Maps
set_option linter.unusedSimpArgs false
set_option linter.unusedVariables false
def dN:Nat->List Nat
 | 3=>[2]
 | 4=>[1,3]
 | 5=>[0,4]
 | 6=>[5]
 | 7=>[6]
 | 9=>[8]
 | 12=>[11]
 | 13=>[12]
 | 14=>[10,13,4]
 | 15=>[9,14]
 | 16=>[15]
 | 17=>[16]
 | 18=>[7,17]
 | 20=>[19,18]
 | _=>[]
def FO:Nat->Nat
 | 20=>19
 |j=>j
def SL:Nat->List Nat
 | 19=>[20]
 | _=>[]
def L9 (s0 gr nc cc n5 c5 bc oc b5 o5 qc qr:Nat)(which rw_:Int)(cn:ByteArray)(Ax:Option Addr)(nx cx:Nat):Nat->Value->Value->World->Prop
 | 0,v,u,V=>v=.slice (some ⟨bc,oc,none⟩) nc cc
 | 1,v,u,V=>v=.int .i64 which
 | 2,v,u,V=>v=.slice (some ⟨bc,oc,none⟩) nc cc
 | 3,v,u,V=>v=.int .i64 (nc:Int)
 | 4,v,u,V=>v=.int .i64 (qc:Int)
 | 5,v,u,V=>v=.pointer (some ⟨bc,oc+qc*14,none⟩)
 | 6,v,u,V=>v=.pointer (some ⟨bc,oc+qc*14,none⟩)
 | 7,v,u,V=>v=.string cn
 | 8,v,u,V=>v=.pointer (some ⟨gr,3,none⟩)
 | 9,v,u,V=>v=.slice (some ⟨b5,o5,none⟩) n5 c5
 | 10,v,u,V=>v=.int .i64 rw_
 | 11,v,u,V=>v=.pointer (some ⟨gr,3,none⟩)
 | 12,v,u,V=>v=.slice (some ⟨b5,o5,none⟩) n5 c5
 | 13,v,u,V=>v=.int .i64 (n5:Int)
 | 14,v,u,V=>v=.int .i64 (qr:Int)
 | 15,v,u,V=>v=.pointer (some ⟨b5,o5+qr*2,none⟩)
 | 16,v,u,V=>v=.pointer (some ⟨b5,o5+qr*2,none⟩)
 | 17,v,u,V=>v=.slice Ax nx cx
 | 18,v,u,V=>v=.agg #[.string cn,.slice Ax nx cx]
 | 19,v,u,V=> ∃g,v=.pointer (some ⟨g,0,none⟩)/\s0<=g/\dC V g 33 [.string ⟨#[]⟩,.slice none 0 0]
 | 20,v,u,V=> ∃g,u=.pointer (some ⟨g,0,none⟩)/\s0<=g/\dC V g 33 [.string cn,.slice Ax nx cx]
 | _,_,_,_=>True
theorem NZ: ∀j,FO j=j\/FO j∈dN j:=λj=>by
 match j with
 | 20=>exact .inr (by simp[FO,dN])
 |j=>first|exact .inl rfl|(unfold FO;split <;> first|exact .inl rfl|exact .inr (by simp[dN]))
theorem Pt (s0 gr nc cc n5 c5 bc oc b5 o5 qc qr:Nat)(which rw_:Int)(cn:ByteArray)(Ax:Option Addr)(nx cx:Nat): ∀j v u V V',(λV V'=>Below V.heap.size V V') V V'->L9 s0 gr nc cc n5 c5 bc oc b5 o5 qc qr which rw_ cn Ax nx cx j v u V->L9 s0 gr nc cc n5 c5 bc oc b5 o5 qc qr which rw_ cn Ax nx cx j v u V':=λj v u V V' h q=>by
 match j,q with
 | 0,q=>exact q
 | 1,q=>exact q
 | 2,q=>exact q
 | 3,q=>exact q
 | 4,q=>exact q
 | 5,q=>exact q
 | 6,q=>exact q
 | 7,q=>exact q
 | 8,q=>exact q
 | 9,q=>exact q
 | 10,q=>exact q
 | 11,q=>exact q
 | 12,q=>exact q
 | 13,q=>exact q
 | 14,q=>exact q
 | 15,q=>exact q
 | 16,q=>exact q
 | 17,q=>exact q
 | 18,q=>exact q
 | 19,q=>exact (by obtain ⟨g,e,h1,h2⟩:=q;exact ⟨g,e,h1,h2.below h⟩)
 | 20,q=>exact (by obtain ⟨g,e,h1,h2⟩:=q;exact ⟨g,e,h1,h2.below h⟩)
 |(n+21),_=>exact trivial
theorem Ma (s0 gr nc cc n5 c5 bc oc b5 o5 qc qr:Nat)(which rw_:Int)(cn:ByteArray)(Ax:Option Addr)(nx cx:Nat): ∀j v u V V',j≠19->j≠20->L9 s0 gr nc cc n5 c5 bc oc b5 o5 qc qr which rw_ cn Ax nx cx j v u V->L9 s0 gr nc cc n5 c5 bc oc b5 o5 qc qr which rw_ cn Ax nx cx j v u V':=λj v u V V' h19 h20 q=>by
 match j,q,h19,h20 with
 | 0,q,h19,h20=>exact q
 | 1,q,h19,h20=>exact q
 | 2,q,h19,h20=>exact q
 | 3,q,h19,h20=>exact q
 | 4,q,h19,h20=>exact q
 | 5,q,h19,h20=>exact q
 | 6,q,h19,h20=>exact q
 | 7,q,h19,h20=>exact q
 | 8,q,h19,h20=>exact q
 | 9,q,h19,h20=>exact q
 | 10,q,h19,h20=>exact q
 | 11,q,h19,h20=>exact q
 | 12,q,h19,h20=>exact q
 | 13,q,h19,h20=>exact q
 | 14,q,h19,h20=>exact q
 | 15,q,h19,h20=>exact q
 | 16,q,h19,h20=>exact q
 | 17,q,h19,h20=>exact q
 | 18,q,h19,h20=>exact q
 | 19,q,h19,h20=>exact absurd rfl h19
 | 20,q,h19,h20=>exact absurd rfl h20
 |(n+21),_,_,_=>exact trivial
theorem wvNm {rows orows:List Ent}{ws:List Wvr}{cs:List Chk}(row:List Val):LH rows orows ws cs row=(cs.filter λc=>ownB nR c&&(bN c gV gV rows orows [] row&&!dG ws c.name row)).map Chk.name:=by
 rw[LH,kK,List.filter_filter]
 congr 1
 exact List.filter_congr λc _=>Bool.and_comm _ _
theorem Rf {rows orows:List Ent}{ws:List Wvr}{cs:List Chk}{x:Wvr}(hb:aL rows=0):
  (rows.filter λy=>!Bc rows orows ws cs y.row).length<=(rows.filter λy=>!Bc rows orows (ws++[x]) cs y.row).length/\
  (rows.filter λy=>Bc rows orows (ws++[x]) cs y.row).length<=(rows.filter λy=>Bc rows orows ws cs y.row).length/\
  (∀y∈rows.filter (λy=>!Bc rows orows ws cs y.row),cntF (rows.filter λy=>!Bc rows orows (ws++[x]) cs y.row) y.row=y.count):=by
 have h1: ∀row,Bc rows orows ws cs row=false->Bc rows orows (ws++[x]) cs row=false:=λrow h=>by
  cases q:Bc rows orows (ws++[x]) cs row
  ·rfl
  ·rw[Jr q]at h;cases h
 refine ⟨Ch λy _ h=>?_,Ch λy _ h=>Jr h,λy hy=>?_⟩
 ·simp only[Bool.not_eq_true']at h⊢;exact h1 _ h
 ·obtain ⟨h2,h3⟩:=List.mem_filter.1 hy;simp only[Bool.not_eq_true']at h3;rw[ET hb (λq=>!Bc rows orows (ws++[x]) cs q) h2,if_pos (by simp[h1 _ h3])]
def dO:Nat->List Nat
 | 4=>[3]
 | 6=>[5]
 | 7=>[4,6]
 | 8=>[0,1,2,7]
 | 9=>[8]
 | 10=>[9]
 | 11=>[9]
 | 12=>[9]
 | 13=>[10]
 | 14=>[11]
 | 15=>[12]
 | _=>[]
def tH:Nat->Nat
 | 8=>7
 | 9=>8
 | 10=>9
 | 11=>9
 | 13=>10
 | 14=>11
 |j=>j
def MJ:Nat->List Nat
 | 4=>[7]
 | 6=>[7]
 | _=>[]
def Mc (s0 n5 c5 b5 o5 nc cc bc oc bo oo nw cw:Nat)(A1 Aw:Option Addr)(cn:ByteArray)(Ax:Option Addr)(nx cx:Nat)(ws:List Wvr)(x0:Wvr)(T2:List Ent)(P2:List Quar):Nat->Value->Value->World->Prop
 | 0,v,u,V=>v=.agg #[.string ⟨#[114]⟩,.slice A1 3 3,.slice none 0 0,.slice (some ⟨b5,o5,none⟩) n5 c5]
 | 1,v,u,V=>v=.slice (some ⟨bc,oc,none⟩) nc cc
 | 2,v,u,V=>v=.slice (some ⟨bo,oo,none⟩) 1 1
 | 3,v,u,V=>v=.slice Aw nw cw
 | 4,v,u,V=>OL 33 s0 (λ_=>True) [] V v ws
 | 5,v,u,V=>v=.agg #[.string cn,.slice Ax nx cx]
 | 6,v,u,V=> ∃g,v=.slice (some ⟨g,0,none⟩) 1 1/\V.heap[g]?=some (.cells #[.string cn,.slice Ax nx cx] 33 (0,0))
 | 7,v,u,V=> ∃A9 m9 c9,v=.slice A9 m9 c9/\In V A9 m9 c9 (ws++[x0])
 | 8,v,u,V=> ∃A7 m7 c7 A8 m8 c8,v=.tuple #[.slice A7 m7 c7,.slice A8 m8 c8,.int .i64 0]/\In V A7 m7 c7 T2/\In V A8 m8 c8 P2
 | 9,v,u,V=> ∃A7 m7 c7 A8 m8 c8,v=.tuple #[.slice A7 m7 c7,.slice A8 m8 c8,.int .i64 0]/\In V A7 m7 c7 T2/\In V A8 m8 c8 P2
 | 10,v,u,V=> ∃A9 m9 c9,v=.slice A9 m9 c9/\In V A9 m9 c9 T2
 | 11,v,u,V=> ∃A9 m9 c9,v=.slice A9 m9 c9/\In V A9 m9 c9 P2
 | 12,v,u,V=>v=.int .i64 0
 | 13,v,u,V=> ∃A9 m9 c9,v=.slice A9 m9 c9/\In V A9 m9 c9 T2
 | 14,v,u,V=> ∃A9 m9 c9,v=.slice A9 m9 c9/\In V A9 m9 c9 P2
 | 15,v,u,V=>v=.int .i64 0
 | _,_,_,_=>True
theorem N7: ∀j,tH j=j\/tH j∈dO j:=λj=>by
 match j with
 | 8=>exact .inr (by simp[tH,dO])
 | 9=>exact .inr (by simp[tH,dO])
 | 10=>exact .inr (by simp[tH,dO])
 | 11=>exact .inr (by simp[tH,dO])
 | 13=>exact .inr (by simp[tH,dO])
 | 14=>exact .inr (by simp[tH,dO])
 |j=>first|exact .inl rfl|(unfold tH;split <;> first|exact .inl rfl|exact .inr (by simp[dO]))
theorem Pv (s0 n5 c5 b5 o5 nc cc bc oc bo oo nw cw:Nat)(A1 Aw:Option Addr)(cn:ByteArray)(Ax:Option Addr)(nx cx:Nat)(ws:List Wvr)(x0:Wvr)(T2:List Ent)(P2:List Quar): ∀j v u V V',(λV V'=>Below V.heap.size V V') V V'->Mc s0 n5 c5 b5 o5 nc cc bc oc bo oo nw cw A1 Aw cn Ax nx cx ws x0 T2 P2 j v u V->Mc s0 n5 c5 b5 o5 nc cc bc oc bo oo nw cw A1 Aw cn Ax nx cx ws x0 T2 P2 j v u V':=λj v u V V' h q=>by
 match j,q with
 | 0,q=>exact q
 | 1,q=>exact q
 | 2,q=>exact q
 | 3,q=>exact q
 | 4,q=>exact (q.below h)
 | 5,q=>exact q
 | 6,q=>exact (by obtain ⟨g,e,h1⟩:=q;exact ⟨g,e,(h.block g (Array.getElem?_eq_some_iff.1 h1).1).trans h1⟩)
 | 7,q=>exact (by obtain ⟨A9,m9,c9,e,h1⟩:=q;exact ⟨A9,m9,c9,e,h1.below h⟩)
 | 8,q=>exact (by obtain ⟨a1,a2,a3,a4,a5,a6,e,h1,h2⟩:=q;exact ⟨a1,a2,a3,a4,a5,a6,e,h1.below h,h2.below h⟩)
 | 9,q=>exact (by obtain ⟨a1,a2,a3,a4,a5,a6,e,h1,h2⟩:=q;exact ⟨a1,a2,a3,a4,a5,a6,e,h1.below h,h2.below h⟩)
 | 10,q=>exact (by obtain ⟨A9,m9,c9,e,h1⟩:=q;exact ⟨A9,m9,c9,e,h1.below h⟩)
 | 11,q=>exact (by obtain ⟨A9,m9,c9,e,h1⟩:=q;exact ⟨A9,m9,c9,e,h1.below h⟩)
 | 12,q=>exact q
 | 13,q=>exact (by obtain ⟨A9,m9,c9,e,h1⟩:=q;exact ⟨A9,m9,c9,e,h1.below h⟩)
 | 14,q=>exact (by obtain ⟨A9,m9,c9,e,h1⟩:=q;exact ⟨A9,m9,c9,e,h1.below h⟩)
 | 15,q=>exact q
 |(n+16),_=>exact trivial
theorem Md (s0 n5 c5 b5 o5 nc cc bc oc bo oo nw cw:Nat)(A1 Aw:Option Addr)(cn:ByteArray)(Ax:Option Addr)(nx cx:Nat)(ws:List Wvr)(x0:Wvr)(T2:List Ent)(P2:List Quar): ∀j v u V V',j≠4->j≠6->j≠7->j≠8->j≠9->j≠10->j≠11->j≠13->j≠14->Mc s0 n5 c5 b5 o5 nc cc bc oc bo oo nw cw A1 Aw cn Ax nx cx ws x0 T2 P2 j v u V->Mc s0 n5 c5 b5 o5 nc cc bc oc bo oo nw cw A1 Aw cn Ax nx cx ws x0 T2 P2 j v u V':=λj v u V V' h4 h6 h7 h8 h9 h10 h11 Cq za q=>by
 match j,q,h4,h6,h7,h8,h9,h10,h11,Cq,za with
 | 0,q,h4,h6,h7,h8,h9,h10,h11,Cq,za=>exact q
 | 1,q,h4,h6,h7,h8,h9,h10,h11,Cq,za=>exact q
 | 2,q,h4,h6,h7,h8,h9,h10,h11,Cq,za=>exact q
 | 3,q,h4,h6,h7,h8,h9,h10,h11,Cq,za=>exact q
 | 4,q,h4,h6,h7,h8,h9,h10,h11,Cq,za=>exact absurd rfl h4
 | 5,q,h4,h6,h7,h8,h9,h10,h11,Cq,za=>exact q
 | 6,q,h4,h6,h7,h8,h9,h10,h11,Cq,za=>exact absurd rfl h6
 | 7,q,h4,h6,h7,h8,h9,h10,h11,Cq,za=>exact absurd rfl h7
 | 8,q,h4,h6,h7,h8,h9,h10,h11,Cq,za=>exact absurd rfl h8
 | 9,q,h4,h6,h7,h8,h9,h10,h11,Cq,za=>exact absurd rfl h9
 | 10,q,h4,h6,h7,h8,h9,h10,h11,Cq,za=>exact absurd rfl h10
 | 11,q,h4,h6,h7,h8,h9,h10,h11,Cq,za=>exact absurd rfl h11
 | 12,q,h4,h6,h7,h8,h9,h10,h11,Cq,za=>exact q
 | 13,q,h4,h6,h7,h8,h9,h10,h11,Cq,za=>exact absurd rfl Cq
 | 14,q,h4,h6,h7,h8,h9,h10,h11,Cq,za=>exact absurd rfl za
 | 15,q,h4,h6,h7,h8,h9,h10,h11,Cq,za=>exact q
 |(n+16),_,_,_,_,_,_,_,_,_,_=>exact trivial
def depsWv23:Nat->List Nat
 | 2=>[0,1]
 | 3=>[2]
 | 4=>[3]
 | 5=>[4]
 | 6=>[5]
 | 7=>[6]
 | 8=>[6]
 | 9=>[6,7,8]
 | 10=>[6,9]
 | 11=>[6,10]
 | 12=>[6,11]
 | 13=>[6,12]
 | 14=>[13]
 | 15=>[14]
 | 16=>[14]
 | 17=>[14]
 | 18=>[14,16,17]
 | 19=>[14,18]
 | 20=>[14,19]
 | 21=>[14]
 | 22=>[14]
 | 23=>[14,21,22]
 | 24=>[14,23]
 | 25=>[14,24]
 | 26=>[14,15,20,25]
 | 27=>[14,26]
 | _=>[]
def lkWv23:Nat->Nat
 |j=>j
def UWv23:Nat->List Nat
 | _=>[]
def FWv23 (bc oc nc cc q bp op k m8 c8 nw cw xx wX:Nat)(tb nm:ByteArray)(po:Int)(Aw wS:Option Addr)(b1 b2 b3 W R:Bool):Nat->Value->Value->World->Prop
 | 0,v,u,V=>v=.slice (some ⟨bc,oc,none⟩) nc cc
 | 1,v,u,V=>v=.int .i64 (q:Int)
 | 2,v,u,V=>v=.pointer (some ⟨bc,oc+q*14,none⟩)
 | 3,v,u,V=>v=.pointer (some ⟨bc,oc+q*14+1,none⟩)
 | 4,v,u,V=>v=.string tb
 | 5,v,u,V=>v=.bool b1
 | 6,v,u,V=>v=.bool b1
 | 7,v,u,V=>b1=false->v=.slice (some ⟨bc,oc,none⟩) nc cc
 | 8,v,u,V=>b1=false->v=.int .i64 (q:Int)
 | 9,v,u,V=>b1=false->v=.pointer (some ⟨bc,oc+q*14,none⟩)
 | 10,v,u,V=>b1=false->v=.pointer (some ⟨bc,oc+q*14+13,none⟩)
 | 11,v,u,V=>b1=false->v=.int .i64 po
 | 12,v,u,V=>b1=false->v=.bool b2
 | 13,v,u,V=>v=.bool b3
 | 14,v,u,V=>v=.bool b3
 | 15,v,u,V=>b3=false->v=.slice Aw nw cw
 | 16,v,u,V=>b3=false->v=.slice (some ⟨bc,oc,none⟩) nc cc
 | 17,v,u,V=>b3=false->v=.int .i64 (q:Int)
 | 18,v,u,V=>b3=false->v=.pointer (some ⟨bc,oc+q*14,none⟩)
 | 19,v,u,V=>b3=false->v=.pointer (some ⟨bc,oc+q*14,none⟩)
 | 20,v,u,V=>b3=false->v=.string nm
 | 21,v,u,V=>b3=false->v=.slice (some ⟨bp,op,none⟩) m8 c8
 | 22,v,u,V=>b3=false->v=.int .i64 (k:Int)
 | 23,v,u,V=>b3=false->v=.pointer (some ⟨bp,op+k*4,none⟩)
 | 24,v,u,V=>b3=false->v=.pointer (some ⟨bp,op+k*4+1,none⟩)
 | 25,v,u,V=>b3=false->v=.slice wS xx wX
 | 26,v,u,V=>b3=false->v=.bool W
 | 27,v,u,V=>v=.bool R
 | _,_,_,_=>True
theorem lkWv23_ok: ∀j,lkWv23 j=j\/lkWv23 j∈depsWv23 j:=λj=>by
 exact .inl rfl
theorem FWv23_st (bc oc nc cc q bp op k m8 c8 nw cw xx wX:Nat)(tb nm:ByteArray)(po:Int)(Aw wS:Option Addr)(b1 b2 b3 W R:Bool): ∀j v u V V',(λV V'=>Below V.heap.size V V') V V'->FWv23 bc oc nc cc q bp op k m8 c8 nw cw xx wX tb nm po Aw wS b1 b2 b3 W R j v u V->FWv23 bc oc nc cc q bp op k m8 c8 nw cw xx wX tb nm po Aw wS b1 b2 b3 W R j v u V':=λj v u V V' h q=>by
 match j,q with
 | 0,q=>exact q
 | 1,q=>exact q
 | 2,q=>exact q
 | 3,q=>exact q
 | 4,q=>exact q
 | 5,q=>exact q
 | 6,q=>exact q
 | 7,q=>exact q
 | 8,q=>exact q
 | 9,q=>exact q
 | 10,q=>exact q
 | 11,q=>exact q
 | 12,q=>exact q
 | 13,q=>exact q
 | 14,q=>exact q
 | 15,q=>exact q
 | 16,q=>exact q
 | 17,q=>exact q
 | 18,q=>exact q
 | 19,q=>exact q
 | 20,q=>exact q
 | 21,q=>exact q
 | 22,q=>exact q
 | 23,q=>exact q
 | 24,q=>exact q
 | 25,q=>exact q
 | 26,q=>exact q
 | 27,q=>exact q
 |(n+28),_=>exact trivial
def fE:Nat->List Nat
 | 2=>[0,1]
 | 3=>[2]
 | 6=>[5]
 | 7=>[6]
 | 8=>[3,4,7]
 | 9=>[8]
 | 10=>[9]
 | 11=>[9]
 | 12=>[10]
 | 13=>[11]
 | _=>[]
def Hz:Nat->Nat
 |j=>j
def VF:Nat->List Nat
 | _=>[]
def L6 (bc oc nc cc q n5 c5 b5 o5 bo oo p1 q1 p2 q2 p3 q3 Q5 Qb Pg cp2 Q6 Qc:Nat)(A1 B1 B2 B3 Pk O4 Pm:Option Addr)(fP:Chk)(VL:List Ent):Nat->Value->Value->World->Prop
 | 0,v,u,V=>v=.slice (some ⟨bc,oc,none⟩) nc cc
 | 1,v,u,V=>v=.int .i64 (q:Int)
 | 2,v,u,V=>v=.pointer (some ⟨bc,oc+q*14,none⟩)
 | 3,v,u,V=>v=.agg #[.string fP.name,.string fP.table,.int .i64 fP.kind,.slice B1 p1 q1,.string fP.other,.slice B2 p2 q2,.int .i64 fP.low,.int .i64 fP.high,.slice B3 p3 q3,.int .i64 fP.ln,.int .i64 fP.ld,.int .i64 fP.mn,.int .i64 fP.md,.int .i64 fP.policy]
 | 4,v,u,V=>v=.agg #[.string ⟨#[114]⟩,.slice A1 3 3,.slice none 0 0,.slice (some ⟨b5,o5,none⟩) n5 c5]
 | 5,v,u,V=>v=.slice (some ⟨bo,oo,none⟩) 1 1
 | 6,v,u,V=>v=.pointer (some ⟨bo,oo,none⟩)
 | 7,v,u,V=>v=.agg #[.string nO,.slice Pk Q5 Qb,.slice O4 Pg cp2,.slice Pm Q6 Qc]
 | 8,v,u,V=> ∃A9 m9 c9,v=.tuple #[.slice A9 m9 c9,.int .i64 0]/\In V A9 m9 c9 VL
 | 9,v,u,V=> ∃A9 m9 c9,v=.tuple #[.slice A9 m9 c9,.int .i64 0]/\In V A9 m9 c9 VL
 | 10,v,u,V=> ∃A9 m9 c9,v=.slice A9 m9 c9/\In V A9 m9 c9 VL
 | 11,v,u,V=>v=.int .i64 0
 | 12,v,u,V=> ∃A9 m9 c9,v=.slice A9 m9 c9/\In V A9 m9 c9 VL
 | 13,v,u,V=>v=.int .i64 0
 | _,_,_,_=>True
theorem KD: ∀j,Hz j=j\/Hz j∈fE j:=λj=>by
 exact .inl rfl
theorem L8 (bc oc nc cc q n5 c5 b5 o5 bo oo p1 q1 p2 q2 p3 q3 Q5 Qb Pg cp2 Q6 Qc:Nat)(A1 B1 B2 B3 Pk O4 Pm:Option Addr)(fP:Chk)(VL:List Ent): ∀j v u V V',(λV V'=>Below V.heap.size V V') V V'->L6 bc oc nc cc q n5 c5 b5 o5 bo oo p1 q1 p2 q2 p3 q3 Q5 Qb Pg cp2 Q6 Qc A1 B1 B2 B3 Pk O4 Pm fP VL j v u V->L6 bc oc nc cc q n5 c5 b5 o5 bo oo p1 q1 p2 q2 p3 q3 Q5 Qb Pg cp2 Q6 Qc A1 B1 B2 B3 Pk O4 Pm fP VL j v u V':=λj v u V V' h q=>by
 match j,q with
 | 0,q=>exact q
 | 1,q=>exact q
 | 2,q=>exact q
 | 3,q=>exact q
 | 4,q=>exact q
 | 5,q=>exact q
 | 6,q=>exact q
 | 7,q=>exact q
 | 8,q=>exact (by obtain ⟨A9,m9,c9,e,h1⟩:=q;exact ⟨A9,m9,c9,e,h1.below h⟩)
 | 9,q=>exact (by obtain ⟨A9,m9,c9,e,h1⟩:=q;exact ⟨A9,m9,c9,e,h1.below h⟩)
 | 10,q=>exact (by obtain ⟨A9,m9,c9,e,h1⟩:=q;exact ⟨A9,m9,c9,e,h1.below h⟩)
 | 11,q=>exact q
 | 12,q=>exact (by obtain ⟨A9,m9,c9,e,h1⟩:=q;exact ⟨A9,m9,c9,e,h1.below h⟩)
 | 13,q=>exact q
 |(n+14),_=>exact trivial
theorem FL (w:World)(A:Option Addr)(n c:Nat)(l:List Int)(hl:In w A n c l)(A2:Option Addr)(n2 c2:Nat)(l2:List Int)(hl2:In w A2 n2 c2 l2)(which rw_:Int)(hw:Words w):
  Calls Tryz.prog 4 #[.slice A n c,.slice A2 n2 c2,.int .i64 which,.int .i64 rw_] w λe w'=>e=.returned (.bool true)/\Below w.heap.size w w':=by
 have h63:=hl.le;have h64:=hl2.le;go_enter Tryz.func4,Tryz.ntmps4;have HL:=hide hl;clear hl;have HM:=hide hl2;clear hl2;have HW:=hide hw;clear hw;by_cases q2:200<n
 ·have d2:(200:Int)<(n:Int):=by omega
  go_wp2_with fail;refine (lI _ HW.out).mono ?_;rintro e w1 ⟨rfl,hb1⟩;have iM:=hide hb1;clear hb1;have vO:=hide iM.out;go_wp2;go_ret;exact ⟨rfl,vO.out⟩
 have d2:¬(200:Int)<(n:Int):=by omega
 by_cases q3:60<n2
 ·have d3:(60:Int)<(n2:Int):=by omega
  go_wp2_with fail;refine (lI _ HW.out).mono ?_;rintro e w3 ⟨rfl,hb3⟩;have lW:=hide hb3;clear hb3;have vO:=hide lW.out;go_wp2;go_ret;exact ⟨rfl,vO.out⟩
 have d3:¬(60:Int)<(n2:Int):=by omega
 go_wp2_with fail;refine (Ia _ A n c l HL.out (by omega) A2 n2 c2 l2 HM.out (by omega)).mono ?_;rintro e w5 ⟨⟨A1,A5,n5,c5,Ac,nc,cc,Ao,Aw,nw,cw,rows,orows,cs,ws,rfl,h1,h2,h3,h4,h5,h6,h7,h8,h9,h10,h11⟩,hb5⟩;have tQ:=hide hb5;clear hb5;have J1:=hide h1;clear h1;have J2:=hide h2;clear h2;have J3:=hide h3;clear h3;have J4:=hide h4;clear h4;have J5:=hide h5;clear h5;have Xi:=hide (h6.tab (by simp[gV]));have Y6:=hide (h7.tab (by simp[gV]));have qF:=hide h8;obtain ⟨hbr,htr,_⟩:=aW Xi.out.2;have hrl:=(dI hbr htr).1;have Bb:=hide hbr;have hnc:nc<=4:=by rw[<-J3.out.len];exact h10
 have hnw4:nw<=4:=by rw[<-J5.out.len];exact h11
 clear h6 h7 h8 h9 h10 h11 hbr htr;go_upto_region 4 with (fail);obtain ⟨gr,hgr⟩: ∃g,g=w5.heap.size:=⟨_,rfl⟩;obtain ⟨W1,hW1⟩: ∃W,W=w5.alloc (.cells #[.string ⟨#[114]⟩,.slice A1 3 3,.slice none 0 0,.slice A5 n5 c5] 29):=⟨_,rfl⟩;obtain ⟨hbW1,fZ,r0,r1,r2,r3⟩:=kr hW1 rfl;rw[<-hW1];clear hW1;have kP:=hide hbW1;clear hbW1;have LR:=lt_of_cell r0;rw[<-hgr]at r0 r1 r2 r3 LR⊢;clear hgr;by_cases q5:n5=0
 ·subst q5;go_wp2_with fail;have R7:=hide (aa tQ.out kP.out);refine (lI _ (HW.out.below R7.out)).mono ?_;rintro e w8 ⟨rfl,x8⟩;have Ph:=sP r0 r1 r2 r3;have kI:=hide x8;clear x8;have vO:=hide (aa (aa tQ.out kP.out) kI.out);obtain ⟨LR,r0,r1,r2,r3⟩:=Ph.out _ kI.out;go_wp2;all_goals (try (exfalso;go_light;simp_all;done));go_ret;exact ⟨rfl,vO.out⟩
 have d5:((n5:Int)==0)=false:=by simp;omega
 by_cases q6:nc=0
 ·subst q6;go_wp2_with fail;have CV:=hide (aa tQ.out kP.out);refine (lI _ (HW.out.below CV.out)).mono ?_;rintro e X5 ⟨rfl,Dx⟩;have o14:=sP r0 r1 r2 r3;have mX:=hide Dx;clear Dx;have vO:=hide (aa (aa tQ.out kP.out) mX.out);obtain ⟨LR,r0,r1,r2,r3⟩:=o14.out _ mX.out;go_wp2;all_goals (try (exfalso;go_light;simp_all;done));go_ret;exact ⟨rfl,vO.out⟩
 have d6:((nc:Int)==0)=false:=by simp;omega
 obtain ⟨bc,oc,rfl⟩:=(J3.out.below kP.out).at0 (by omega);obtain ⟨b5,o5,rfl⟩:=(J2.out.below kP.out).at0 (by omega);obtain ⟨bo,oo,rfl⟩:=(J4.out.below kP.out).at0 (by omega);have hj1:=(J1.out.below kP.out);have hj2:=(J2.out.below kP.out);have Wz:=(J3.out.below kP.out);have hj4:=(J4.out.below kP.out);have hj5:=(J5.out.below kP.out);have R4:=hide (aa tQ.out kP.out);have hjw:=(HW.out.below R4.out);have hbk:=(aa tQ.out kP.out);obtain ⟨Wk,VV⟩: ∃W,W=W1:=⟨_,rfl⟩;rw[<-VV]at hj1 hj2 Wz hj4 hj5 hjw hbk r0 r1 r2 r3 LR⊢;clear VV;have K1:=hide hj1;have K2:=hide hj2;have K3:=hide Wz;have K4:=hide hj4;have K5:=hide hj5;have KW:=hide hjw;have Ey:=hide hbk;have R0:=hide r0;have R1:=hide r1;have R2:=hide r2;have R3:=hide r3;have Jb:=hide LR;clear hj1 hj2 Wz hj4 hj5 hjw hbk;obtain ⟨qc,hqc,hqc2⟩: ∃q:Nat,which % (nc:Int)=(q:Int)/\q<nc:=⟨(which % (nc:Int)).toNat,by have:=Int.emod_nonneg which (show (nc:Int)≠0 by omega);omega,by have:=Int.emod_nonneg which (show (nc:Int)≠0 by omega);have:=Int.emod_lt_of_pos which (show (0:Int)<nc by omega);omega⟩;obtain ⟨qr,hqr,hqr2⟩: ∃q:Nat,rw_ % (n5:Int)=(q:Int)/\q<n5:=⟨(rw_ % (n5:Int)).toNat,by have:=Int.emod_nonneg rw_ (show (n5:Int)≠0 by omega);omega,by have:=Int.emod_nonneg rw_ (show (n5:Int)≠0 by omega);have:=Int.emod_lt_of_pos rw_ (show (0:Int)<n5 by omega);omega⟩;obtain ⟨b9,o9,xc,e9,hbc,_,_,_,_,_,_,_,_,_,_,hcs,_,_,_,hok⟩:=K3.out.chk hqc2;injection e9 with e9;injection e9 with e9 e9b;subst e9 e9b;obtain ⟨b8,o8,xr,e8,x8,HXR,Ax,nx,cx,hx0,_,hxr,_⟩:=K2.out.ent hqr2;injection e8 with e8;injection e8 with e8 e8b;subst e8 e8b;have XC:=hide hcs.1;have XR:=hide hx0;have Uf:=hide hxr;have HSX:=hide hok.1;have HQC:=hide hqc;have HQR:=hide hqr;have HBC:=hide hbc;have HB8:=hide x8;obtain ⟨cn,hcn⟩: ∃q,xc.name=q:=⟨_,rfl⟩;rw[hcn]at XC HSX;have zc1:(qc:Int)<(nc:Int):=by omega
 have zc2:(0:Int)<=(qc:Int):=by omega
 have zr1:(qr:Int)<(n5:Int):=by omega
 have zr2:(0:Int)<=(qr:Int):=by omega
 have hn54:n5<=4096:=by rw[<-K2.out.len];exact hrl
 clear hcs hx0 hxr hok hqc hqr hbc x8 hcn;go_upto_region 6 with (fail);clear r0 r1 r2 r3 LR;refine cZ (by kernel_rfl) dN (by kernel_rfl) (λV V'=>Below V.heap.size V V') (λvs=>⟨#[.slice A n c,.slice A2 n2 c2,.int .i64 which,.int .i64 rw_,undef,undef,undef,undef,.bool false,.pointer (some ⟨gr,0,none⟩),.slice (some ⟨bc,oc,none⟩) nc cc,.slice (some ⟨bo,oo,none⟩) 1 1,.slice Aw nw cw,(vs.getD 19 (.bool false)),undef,undef,undef,undef,undef,undef,undef,undef,undef,undef,undef,undef,.slice A n c,.int .i64 ↑n,.bool false,.bool false,.slice A2 n2 c2,.int .i64 ↑n2,.bool false,.bool false,undef,.tuple #[.agg #[.string ⟨#[114]⟩,.slice A1 3 3,.slice none 0 0,.slice (some ⟨b5,o5,none⟩) n5 c5],.slice (some ⟨bc,oc,none⟩) nc cc,.slice (some ⟨bo,oo,none⟩) 1 1,.slice Aw nw cw],.slice A n c,.slice A2 n2 c2,.tuple #[.agg #[.string ⟨#[114]⟩,.slice A1 3 3,.slice none 0 0,.slice (some ⟨b5,o5,none⟩) n5 c5],.slice (some ⟨bc,oc,none⟩) nc cc,.slice (some ⟨bo,oo,none⟩) 1 1,.slice Aw nw cw],.agg #[.string ⟨#[114]⟩,.slice A1 3 3,.slice none 0 0,.slice (some ⟨b5,o5,none⟩) n5 c5],.slice (some ⟨bc,oc,none⟩) nc cc,.slice (some ⟨bo,oo,none⟩) 1 1,.slice Aw nw cw,.pointer (some ⟨gr,3,none⟩),.slice (some ⟨b5,o5,none⟩) n5 c5,.int .i64 ↑n5,.bool false,.bool false,.slice (some ⟨bc,oc,none⟩) nc cc,.int .i64 ↑nc,.bool false,.bool false,undef,(vs.getD 0 (.bool false)),(vs.getD 1 (.bool false)),(vs.getD 2 (.bool false)),(vs.getD 3 (.bool false)),(vs.getD 4 (.bool false)),(vs.getD 5 (.bool false)),(vs.getD 6 (.bool false)),(vs.getD 7 (.bool false)),(vs.getD 8 (.bool false)),(vs.getD 9 (.bool false)),(vs.getD 10 (.bool false)),(vs.getD 11 (.bool false)),(vs.getD 12 (.bool false)),(vs.getD 13 (.bool false)),(vs.getD 14 (.bool false)),(vs.getD 15 (.bool false)),(vs.getD 16 (.bool false)),(vs.getD 17 (.bool false)),(vs.getD 18 (.bool false)),undef,undef,undef,undef,undef,undef,undef,undef,undef,undef,undef,undef,undef,undef,undef,undef,undef,undef,undef,undef,undef,undef,undef,undef,undef,undef,undef,undef,undef,undef,undef,undef,undef,undef,undef,undef,undef,undef,undef,undef,undef,undef,undef,undef,undef,undef,undef,undef,undef,undef,undef,undef,undef,undef,undef,undef,undef,undef,undef,undef,undef,undef,undef,undef,undef,undef,undef,undef,undef,undef,undef,undef,undef,undef,undef,undef,undef,undef,undef,undef,undef,undef,undef,undef,undef,undef,undef,undef,undef,undef,undef,undef,undef,undef,undef,undef,undef,undef,undef,undef,undef,undef,undef,undef,undef,undef,undef,undef,undef,undef,undef,undef,undef,undef,undef,undef,undef,undef,undef,undef,undef,undef,undef,undef,undef,undef,undef,undef,undef,undef,undef,undef,undef,undef,undef,undef,undef,undef,undef,undef,undef,undef,undef],[]⟩) 21 (by decide) (λL V=>Below Wk.heap.size Wk V) FO SL (L9 Wk.heap.size gr nc cc n5 c5 bc oc b5 o5 qc qr which rw_ cn Ax nx cx) (λ_ _=>True) NZ (Pt Wk.heap.size gr nc cc n5 c5 bc oc b5 o5 qc qr which rw_ cn Ax nx cx) [_,_,_,_,_,_,_,_,_,_,_,_,_,_,_,_,_,_,_,_,.bool false] rfl rfl (λ_=>trivial) ((Below.refl _ _).drew) ?_ ?_
 ·intro L i vs V hi hvl hL hd hG hF nY;obtain ⟨v0,vJ,rfl,hv0⟩:=af hvl;obtain ⟨v1,vs1,rfl,hv1⟩:=af hv0;obtain ⟨v2,vs2,rfl,hv2⟩:=af hv1;obtain ⟨v3,vs3,rfl,hv3⟩:=af hv2;obtain ⟨v4,AR,rfl,hv4⟩:=af hv3;obtain ⟨v5,AU,rfl,hv5⟩:=af hv4;obtain ⟨v6,AV,rfl,hv6⟩:=af hv5;obtain ⟨v7,AX,rfl,hv7⟩:=af hv6;obtain ⟨v8,AY,rfl,iY⟩:=af hv7;obtain ⟨v9,Gi,rfl,lG⟩:=af iY;obtain ⟨v10,rV,rfl,eH⟩:=af lG;obtain ⟨v11,rW,rfl,eO⟩:=af eH;obtain ⟨v12,uy,rfl,fH⟩:=af eO;obtain ⟨v13,uz,rfl,fI⟩:=af fH;obtain ⟨v14,wQ,rfl,gL⟩:=af fI;obtain ⟨v15,wR,rfl,gM⟩:=af gL;obtain ⟨v16,AJ,rfl,iR⟩:=af gM;obtain ⟨v17,AL,rfl,iT⟩:=af iR;obtain ⟨v18,AO,rfl,iU⟩:=af iT;obtain ⟨v19,AP,rfl,iW⟩:=af iU;obtain ⟨v20,AQ,rfl,iX⟩:=af iW;obtain rfl:=fo iX;clear hvl hv0 hv1 hv2 hv3 hv4 hv5 hv6 hv7 iY lG eH eO fH fI gL gM iR iT iU iW iX;have hi:i<21:=hi;have HG:=hide hG;have HF:=hide hF;have HD:=hide hd;have qV:=hide hL;have Gn:=hide nY;clear hG hF hd hL nY;obtain rfl|rfl|rfl|rfl|rfl|rfl|rfl|rfl|rfl|rfl|rfl|rfl|rfl|rfl|rfl|rfl|rfl|rfl|rfl|rfl|rfl:i=0\/i=1\/i=2\/i=3\/i=4\/i=5\/i=6\/i=7\/i=8\/i=9\/i=10\/i=11\/i=12\/i=13\/i=14\/i=15\/i=16\/i=17\/i=18\/i=19\/i=20:=by omega
  ·refine wpOp_step rfl (λK1 hK=>?_);have HK:=hide hK;clear hK;go_simp;exact HK.out _ _ ⟨_,rfl,rfl,HG.out,.inl (Below.refl _ _)⟩
  ·refine wpOp_step rfl (λK1 hK=>?_);have HK:=hide hK;clear hK;go_simp;exact HK.out _ _ ⟨_,rfl,rfl,HG.out,.inl (Below.refl _ _)⟩
  ·refine wpOp_step rfl (λK1 hK=>?_);have HK:=hide hK;clear hK;go_simp;exact HK.out _ _ ⟨_,rfl,rfl,HG.out,.inl (Below.refl _ _)⟩
  ·obtain rfl:v2=.slice (some ⟨bc,oc,none⟩) nc cc:=(HF.out 2 (HD.out 2 (by simp[dN]))).2 (λ_ h=>by cases h);refine wpOp_step rfl (λK1 hK=>?_);have HK:=hide hK;clear hK;go_simp;exact HK.out _ _ ⟨_,rfl,rfl,HG.out,.inl (Below.refl _ _)⟩
  ·obtain rfl:v1=.int .i64 which:=(HF.out 1 (HD.out 1 (by simp[dN]))).2 (λ_ h=>by cases h);obtain rfl:v3=.int .i64 (nc:Int):=(HF.out 3 (HD.out 3 (by simp[dN]))).2 (λ_ h=>by cases h);refine wpOp_step rfl (λK1 hK=>?_);have HK:=hide hK;clear hK;go_simp;go_at_call 12;refine (ul _ _ (by omega) (by omega) _).mono ?_;rintro e w1 ⟨rfl,hw1⟩;obtain rfl:=hw1.symm;clear hw1;rw[HQC.out];go_wp2_with fail;exact HK.out _ _ ⟨_,rfl,rfl,HG.out,.inl (Below.refl _ _)⟩
  ·obtain rfl:v0=.slice (some ⟨bc,oc,none⟩) nc cc:=(HF.out 0 (HD.out 0 (by simp[dN]))).2 (λ_ h=>by cases h);obtain rfl:v4=.int .i64 (qc:Int):=(HF.out 4 (HD.out 4 (by simp[dN]))).2 (λ_ h=>by cases h);refine wpOp_step rfl (λK1 hK=>?_);have HK:=hide hK;clear hK;go_simp;exact HK.out _ _ ⟨_,rfl,rfl,HG.out,.inl (Below.refl _ _)⟩
  ·obtain rfl:v5=.pointer (some ⟨bc,oc+qc*14,none⟩):=(HF.out 5 (HD.out 5 (by simp[dN]))).2 (λ_ h=>by cases h);refine wpOp_step rfl (λK1 hK=>?_);have HK:=hide hK;clear hK;go_simp;exact HK.out _ _ ⟨_,rfl,rfl,HG.out,.inl (Below.refl _ _)⟩
  ·obtain rfl:v6=.pointer (some ⟨bc,oc+qc*14,none⟩):=(HF.out 6 (HD.out 6 (by simp[dN]))).2 (λ_ h=>by cases h);have c9:=ah HG.out HBC.out XC.out;refine wpOp_step rfl (λK1 hK=>?_);have HK:=hide hK;clear hK;go_simp;exact HK.out _ _ ⟨_,rfl,rfl,HG.out,.inl (Below.refl _ _)⟩
  ·refine wpOp_step rfl (λK1 hK=>?_);have HK:=hide hK;clear hK;go_simp;exact HK.out _ _ ⟨_,rfl,rfl,HG.out,.inl (Below.refl _ _)⟩
  ·obtain rfl:v8=.pointer (some ⟨gr,3,none⟩):=(HF.out 8 (HD.out 8 (by simp[dN]))).2 (λ_ h=>by cases h);have y3:=ah HG.out Jb.out R3.out;refine wpOp_step rfl (λK1 hK=>?_);have HK:=hide hK;clear hK;go_simp;exact HK.out _ _ ⟨_,rfl,rfl,HG.out,.inl (Below.refl _ _)⟩
  ·refine wpOp_step rfl (λK1 hK=>?_);have HK:=hide hK;clear hK;go_simp;exact HK.out _ _ ⟨_,rfl,rfl,HG.out,.inl (Below.refl _ _)⟩
  ·refine wpOp_step rfl (λK1 hK=>?_);have HK:=hide hK;clear hK;go_simp;exact HK.out _ _ ⟨_,rfl,rfl,HG.out,.inl (Below.refl _ _)⟩
  ·obtain rfl:v11=.pointer (some ⟨gr,3,none⟩):=(HF.out 11 (HD.out 11 (by simp[dN]))).2 (λ_ h=>by cases h);have y3:=ah HG.out Jb.out R3.out;refine wpOp_step rfl (λK1 hK=>?_);have HK:=hide hK;clear hK;go_simp;exact HK.out _ _ ⟨_,rfl,rfl,HG.out,.inl (Below.refl _ _)⟩
  ·obtain rfl:v12=.slice (some ⟨b5,o5,none⟩) n5 c5:=(HF.out 12 (HD.out 12 (by simp[dN]))).2 (λ_ h=>by cases h);refine wpOp_step rfl (λK1 hK=>?_);have HK:=hide hK;clear hK;go_simp;exact HK.out _ _ ⟨_,rfl,rfl,HG.out,.inl (Below.refl _ _)⟩
  ·obtain rfl:v10=.int .i64 rw_:=(HF.out 10 (HD.out 10 (by simp[dN]))).2 (λ_ h=>by cases h);obtain rfl:v13=.int .i64 (n5:Int):=(HF.out 13 (HD.out 13 (by simp[dN]))).2 (λ_ h=>by cases h);refine wpOp_step rfl (λK1 hK=>?_);have HK:=hide hK;clear hK;go_simp;go_at_call 12;refine (ul _ _ (by omega) (by omega) _).mono ?_;rintro e w1 ⟨rfl,hw1⟩;obtain rfl:=hw1.symm;clear hw1;rw[HQR.out];go_wp2_with fail;exact HK.out _ _ ⟨_,rfl,rfl,HG.out,.inl (Below.refl _ _)⟩
  ·obtain rfl:v9=.slice (some ⟨b5,o5,none⟩) n5 c5:=(HF.out 9 (HD.out 9 (by simp[dN]))).2 (λ_ h=>by cases h);obtain rfl:v14=.int .i64 (qr:Int):=(HF.out 14 (HD.out 14 (by simp[dN]))).2 (λ_ h=>by cases h);refine wpOp_step rfl (λK1 hK=>?_);have HK:=hide hK;clear hK;go_simp;exact HK.out _ _ ⟨_,rfl,rfl,HG.out,.inl (Below.refl _ _)⟩
  ·obtain rfl:v15=.pointer (some ⟨b5,o5+qr*2,none⟩):=(HF.out 15 (HD.out 15 (by simp[dN]))).2 (λ_ h=>by cases h);refine wpOp_step rfl (λK1 hK=>?_);have HK:=hide hK;clear hK;go_simp;exact HK.out _ _ ⟨_,rfl,rfl,HG.out,.inl (Below.refl _ _)⟩
  ·obtain rfl:v16=.pointer (some ⟨b5,o5+qr*2,none⟩):=(HF.out 16 (HD.out 16 (by simp[dN]))).2 (λ_ h=>by cases h);have c9:=ah HG.out HB8.out XR.out;refine wpOp_step rfl (λK1 hK=>?_);have HK:=hide hK;clear hK;go_simp;exact HK.out _ _ ⟨_,rfl,rfl,HG.out,.inl (Below.refl _ _)⟩
  ·obtain rfl:v7=.string cn:=(HF.out 7 (HD.out 7 (by simp[dN]))).2 (λ_ h=>by cases h);obtain rfl:v17=.slice Ax nx cx:=(HF.out 17 (HD.out 17 (by simp[dN]))).2 (λ_ h=>by cases h);refine wpOp_step rfl (λK1 hK=>?_);have HK:=hide hK;clear hK;go_simp;exact HK.out _ _ ⟨_,rfl,rfl,HG.out,.inl (Below.refl _ _)⟩
  ·refine wpOp_step rfl (λK1 hK=>?_);have HK:=hide hK;clear hK;go_simp;exact HK.out _ _ ⟨_,rfl,⟨_,rfl,HG.out.size,dC.made _ _ _⟩,aa HG.out ae,.inl ae⟩
  ·obtain ⟨g,rfl,hg,hb⟩: ∃g,v19=.pointer (some ⟨g,0,none⟩)/\Wk.heap.size<=g/\dC V g 33 [.string ⟨#[]⟩,.slice none 0 0]:=(HF.out 19 (HD.out 19 (by simp[dN]))).2 (λu h=>by simp only[SL,List.mem_cons,List.not_mem_nil,or_false]at h;subst h;exact qV.out);obtain rfl:v18=.agg #[.string cn,.slice Ax nx cx]:=(HF.out 18 (HD.out 18 (by simp[dN]))).2 (λ_ h=>by cases h);have HB0:=hide hb;obtain ⟨hlt,k0,k1⟩:=hb.ats2;have f0:=hb.fz 0;have f1:=hb.fz 1;clear hb;refine wpOp_step rfl (λK1 hK=>?_);have HK:=hide hK;clear hK;go_simp;exact HK.out _ _ ⟨.bool false,rfl,⟨g,rfl,hg,HB0.out.set2 rfl⟩,BX (BX HG.out hg _ _) hg _ _,.inr (λj hj hL hu q=>Ma _ _ _ _ _ _ _ _ _ _ _ _ _ _ _ _ _ _ j _ _ _ _ (λe=>by subst e;exact (hu 20 (by simp[SL])).1 rfl) hj q)⟩
 ·intro L vs V hL hvl hG hF;obtain ⟨v0,vJ,rfl,hv0⟩:=af hvl;obtain ⟨v1,vs1,rfl,hv1⟩:=af hv0;obtain ⟨v2,vs2,rfl,hv2⟩:=af hv1;obtain ⟨v3,vs3,rfl,hv3⟩:=af hv2;obtain ⟨v4,AR,rfl,hv4⟩:=af hv3;obtain ⟨v5,AU,rfl,hv5⟩:=af hv4;obtain ⟨v6,AV,rfl,hv6⟩:=af hv5;obtain ⟨v7,AX,rfl,hv7⟩:=af hv6;obtain ⟨v8,AY,rfl,iY⟩:=af hv7;obtain ⟨v9,Gi,rfl,lG⟩:=af iY;obtain ⟨v10,rV,rfl,eH⟩:=af lG;obtain ⟨v11,rW,rfl,eO⟩:=af eH;obtain ⟨v12,uy,rfl,fH⟩:=af eO;obtain ⟨v13,uz,rfl,fI⟩:=af fH;obtain ⟨v14,wQ,rfl,gL⟩:=af fI;obtain ⟨v15,wR,rfl,gM⟩:=af gL;obtain ⟨v16,AJ,rfl,iR⟩:=af gM;obtain ⟨v17,AL,rfl,iT⟩:=af iR;obtain ⟨v18,AO,rfl,iU⟩:=af iT;obtain ⟨v19,AP,rfl,iW⟩:=af iU;obtain ⟨v20,AQ,rfl,iX⟩:=af iW;obtain rfl:=fo iX;clear hvl hv0 hv1 hv2 hv3 hv4 hv5 hv6 hv7 iY lG eH eO fH fI gL gM iR iT iU iW iX;have HG:=hide hG;have HF:=hide hF;have HL:=hide hL;clear hG hF hL;obtain ⟨gx,rfl,hgx,hbx⟩: ∃g,v19=.pointer (some ⟨g,0,none⟩)/\Wk.heap.size<=g/\dC V g 33 [.string cn,.slice Ax nx cx]:=HF.out 20 (by show 20<21;omega) rfl;have vO:=hide hbx;have HGX:=hide hgx;have sU:=hide HG.out;clear hgx hbx;have Mf:=sU;obtain ⟨y0,y1,y2,y3⟩:_/\_/\_/\_:=⟨ah sU.out Jb.out R0.out,ah sU.out Jb.out R1.out,ah sU.out Jb.out R2.out,ah sU.out Jb.out R3.out⟩;have ED:=hide (Rf (rows:=rows) (orows:=orows) (ws:=ws) (cs:=cs) (x:=⟨cn,xr.row⟩) Bb.out);have UY:=hide (Jn (ks:=[]) (ko:=[]) (ws:=ws) qF.out Xi.out.2 Y6.out.2);have UZ:=hide (Jn (ks:=[]) (ko:=[]) (ws:=ws++[⟨cn,xr.row⟩]) qF.out Xi.out.2 Y6.out.2);have PD:=hide λW (hb:Below Wk.heap.size Wk W)=>yO W (xN rows []) A1 3 3 (K1.out.below hb) none 0 0 (some ⟨b5,o5,none⟩) n5 c5 (K2.out.below hb) (some ⟨bc,oc,none⟩) nc cc cs (K3.out.below hb) (some ⟨bo,oo,none⟩) 1 1 [rM orows []] (K4.out.below hb) Aw nw cw ws (K5.out.below hb) none 0 0 [] In.nil_ (KW.out.below hb) (by omega) (by omega) (λc hc=>sw (qF.out c hc)) (by simp[rM,gV]) gQ.2.2.2.2.2.2.2.2.2.1;have Mh:=hide λW (hb:Below Wk.heap.size Wk W) Aw nw cw (hw2:In W Aw nw cw (ws++[⟨cn,xr.row⟩]))=>yO W (xN rows []) A1 3 3 (K1.out.below hb) none 0 0 (some ⟨b5,o5,none⟩) n5 c5 (K2.out.below hb) (some ⟨bc,oc,none⟩) nc cc cs (K3.out.below hb) (some ⟨bo,oo,none⟩) 1 1 [rM orows []] (K4.out.below hb) Aw nw cw (ws++[⟨cn,xr.row⟩]) hw2 none 0 0 [] In.nil_ (KW.out.below hb) (by omega) (by omega) (λc hc=>sw (qF.out c hc)) (by simp[rM,gV]) gQ.2.2.2.2.2.2.2.2.2.1;simp only[show (xN rows []).name=nR from rfl,show (xN rows []).rows=rows from rfl,show (xN rows []).columns=gV from rfl]at PD Mh;rw[UY.out]at PD;rw[UZ.out]at Mh;dsimp only at PD Mh;clear UY UZ;obtain ⟨T1,hT1⟩: ∃T,rows.filter (λx=>!Bc rows orows ws cs x.row)=T:=⟨_,rfl⟩;obtain ⟨T2,ZO⟩: ∃T,rows.filter (λx=>!Bc rows orows (ws++[⟨cn,xr.row⟩]) cs x.row)=T:=⟨_,rfl⟩;obtain ⟨P1,hP1⟩: ∃Q,((rows.filter λx=>Bc rows orows ws cs x.row).map λx=>(⟨nR,x.row,x.count,LH rows orows ws cs x.row⟩:Quar))=Q:=⟨_,rfl⟩;obtain ⟨P2,hP2⟩: ∃Q,((rows.filter λx=>Bc rows orows (ws++[⟨cn,xr.row⟩]) cs x.row).map λx=>(⟨nR,x.row,x.count,LH rows orows (ws++[⟨cn,xr.row⟩]) cs x.row⟩:Quar))=Q:=⟨_,rfl⟩;have hl2:P2.length<=P1.length:=by rw[<-hP1,<-hP2,List.length_map,List.length_map];exact ED.out.2.1
  have hl1:=ED.out.1;have TF:=ED.out.2.2;rw[hT1,ZO]at hl1 TF;have HL1:=hide hl1;have HL2:=hide hl2;have HCN:=hide TF;have HP1:=hide hP1;rw[hT1,hP1]at PD;rw[ZO,hP2]at Mh;clear hT1 ZO hP1 hP2 hl1 hl2 TF ED;go_wp2_with fail;refine (PD.out _ Mf.out).mono ?_;rintro e Wp ⟨⟨A7,m7,c7,A8,m8,c8,rfl,UB,Js⟩,dD⟩;have HX7:=hide (vO.out.below dD);have Mf:=hide (aa Mf.out dD);have I7:=hide UB;have I8:=hide Js;clear UB Js dD y0 y1 y2 y3;go_upto_region 8 with (fail);have HNA:Hid (Aw=none->nw=0):=hide (λh=>by have h1:=K5.out.2.2.2.1 h;have h2:=K5.out.2.1;omega);have LA:Hid (([]:List Wvr).length+nw<=maxLen/\(([]:List Wvr).length+nw)*40<=140737488355328/\ws.length+1<=maxLen/\(ws.length+1)*40<=140737488355328):=hide (by rw[K5.out.len];simp only[maxLen,List.length_nil];omega);refine cZ (by kernel_rfl) dO (by kernel_rfl) (λV V'=>Below V.heap.size V V') (λvs=>⟨#[.slice A n c,.slice A2 n2 c2,.int .i64 which,.int .i64 rw_,undef,undef,undef,undef,.bool false,.pointer (some ⟨gr,0,none⟩),.slice (some ⟨bc,oc,none⟩) nc cc,.slice (some ⟨bo,oo,none⟩) 1 1,.slice Aw nw cw,.pointer (some ⟨gx,0,none⟩),.slice A7 m7 c7,.slice A8 m8 c8,.int .i64 0,(vs.getD 13 (.bool false)),(vs.getD 14 (.bool false)),(vs.getD 15 (.bool false)),undef,undef,undef,undef,undef,undef,.slice A n c,.int .i64 ↑n,.bool false,.bool false,.slice A2 n2 c2,.int .i64 ↑n2,.bool false,.bool false,undef,.tuple #[.agg #[.string ⟨#[114]⟩,.slice A1 3 3,.slice none 0 0,.slice (some ⟨b5,o5,none⟩) n5 c5],.slice (some ⟨bc,oc,none⟩) nc cc,.slice (some ⟨bo,oo,none⟩) 1 1,.slice Aw nw cw],.slice A n c,.slice A2 n2 c2,.tuple #[.agg #[.string ⟨#[114]⟩,.slice A1 3 3,.slice none 0 0,.slice (some ⟨b5,o5,none⟩) n5 c5],.slice (some ⟨bc,oc,none⟩) nc cc,.slice (some ⟨bo,oo,none⟩) 1 1,.slice Aw nw cw],.agg #[.string ⟨#[114]⟩,.slice A1 3 3,.slice none 0 0,.slice (some ⟨b5,o5,none⟩) n5 c5],.slice (some ⟨bc,oc,none⟩) nc cc,.slice (some ⟨bo,oo,none⟩) 1 1,.slice Aw nw cw,.pointer (some ⟨gr,3,none⟩),.slice (some ⟨b5,o5,none⟩) n5 c5,.int .i64 ↑n5,.bool false,.bool false,.slice (some ⟨bc,oc,none⟩) nc cc,.int .i64 ↑nc,.bool false,.bool false,undef,v0,v1,v2,v3,v4,v5,v6,v7,v8,v9,v10,v11,v12,v13,v14,v15,v16,v17,v18,.tuple #[.slice A7 m7 c7,.slice A8 m8 c8,.int .i64 0],.agg #[.string ⟨#[114]⟩,.slice A1 3 3,.slice none 0 0,.slice (some ⟨b5,o5,none⟩) n5 c5],.slice (some ⟨bc,oc,none⟩) nc cc,.slice (some ⟨bo,oo,none⟩) 1 1,.slice Aw nw cw,.tuple #[.slice A7 m7 c7,.slice A8 m8 c8,.int .i64 0],.slice A7 m7 c7,.slice A8 m8 c8,.int .i64 0,(vs.getD 9 (.bool false)),(vs.getD 0 (.bool false)),(vs.getD 1 (.bool false)),(vs.getD 2 (.bool false)),(vs.getD 3 (.bool false)),(vs.getD 4 (.bool false)),(vs.getD 5 (.bool false)),(vs.getD 6 (.bool false)),(vs.getD 7 (.bool false)),(vs.getD 8 (.bool false)),(vs.getD 10 (.bool false)),(vs.getD 11 (.bool false)),(vs.getD 12 (.bool false)),undef,undef,undef,undef,undef,undef,undef,undef,undef,undef,undef,undef,undef,undef,undef,undef,undef,undef,undef,undef,undef,undef,undef,undef,undef,undef,undef,undef,undef,undef,undef,undef,undef,undef,undef,undef,undef,undef,undef,undef,undef,undef,undef,undef,undef,undef,undef,undef,undef,undef,undef,undef,undef,undef,undef,undef,undef,undef,undef,undef,undef,undef,undef,undef,undef,undef,undef,undef,undef,undef,undef,undef,undef,undef,undef,undef,undef,undef,undef,undef,undef,undef,undef,undef,undef,undef,undef,undef,undef,undef,undef,undef,undef,undef,undef,undef,undef,undef,undef,undef,undef,undef,undef,undef,undef,undef,undef,undef,undef,undef,undef,undef,undef,undef,undef,undef,undef,undef,undef,undef,undef],[]⟩) 16 (by decide) (λL V=>Below Wp.heap.size Wp V) tH MJ (Mc Wp.heap.size n5 c5 b5 o5 nc cc bc oc bo oo nw cw A1 Aw cn Ax nx cx ws (⟨cn,xr.row⟩:Wvr) T2 P2) (λ_ _=>True) N7 (Pv Wp.heap.size n5 c5 b5 o5 nc cc bc oc bo oo nw cw A1 Aw cn Ax nx cx ws (⟨cn,xr.row⟩:Wvr) T2 P2) [_,_,_,_,_,_,_,_,_,_,_,_,_,_,_,_] rfl rfl (λ_=>trivial) ((Below.refl _ _).drew) ?_ ?_
  ·intro L i vs V hi hvl hL hd hG hF nY;obtain ⟨v0,vJ,rfl,hv0⟩:=af hvl;obtain ⟨v1,vs1,rfl,hv1⟩:=af hv0;obtain ⟨v2,vs2,rfl,hv2⟩:=af hv1;obtain ⟨v3,vs3,rfl,hv3⟩:=af hv2;obtain ⟨v4,AR,rfl,hv4⟩:=af hv3;obtain ⟨v5,AU,rfl,hv5⟩:=af hv4;obtain ⟨v6,AV,rfl,hv6⟩:=af hv5;obtain ⟨v7,AX,rfl,hv7⟩:=af hv6;obtain ⟨v8,AY,rfl,iY⟩:=af hv7;obtain ⟨v9,Gi,rfl,lG⟩:=af iY;obtain ⟨v10,rV,rfl,eH⟩:=af lG;obtain ⟨v11,rW,rfl,eO⟩:=af eH;obtain ⟨v12,uy,rfl,fH⟩:=af eO;obtain ⟨v13,uz,rfl,fI⟩:=af fH;obtain ⟨v14,wQ,rfl,gL⟩:=af fI;obtain ⟨v15,wR,rfl,gM⟩:=af gL;obtain rfl:=fo gM;clear hvl hv0 hv1 hv2 hv3 hv4 hv5 hv6 hv7 iY lG eH eO fH fI gL gM;have hi:i<16:=hi;have HG:=hide hG;have HF:=hide hF;have HD:=hide hd;have qV:=hide hL;have Gn:=hide nY;clear hG hF hd hL nY;obtain rfl|rfl|rfl|rfl|rfl|rfl|rfl|rfl|rfl|rfl|rfl|rfl|rfl|rfl|rfl|rfl:i=0\/i=1\/i=2\/i=3\/i=4\/i=5\/i=6\/i=7\/i=8\/i=9\/i=10\/i=11\/i=12\/i=13\/i=14\/i=15:=by omega
   ·obtain ⟨y0,y1,y2,y3⟩:_/\_/\_/\_:=⟨ah (aa Mf.out HG.out) Jb.out R0.out,ah (aa Mf.out HG.out) Jb.out R1.out,ah (aa Mf.out HG.out) Jb.out R2.out,ah (aa Mf.out HG.out) Jb.out R3.out⟩;refine wpOp_step rfl (λK1 hK=>?_);have HK:=hide hK;clear hK;go_simp;exact HK.out _ _ ⟨_,rfl,rfl,HG.out,.inl (Below.refl _ _)⟩
   ·refine wpOp_step rfl (λK1 hK=>?_);have HK:=hide hK;clear hK;go_simp;exact HK.out _ _ ⟨_,rfl,rfl,HG.out,.inl (Below.refl _ _)⟩
   ·refine wpOp_step rfl (λK1 hK=>?_);have HK:=hide hK;clear hK;go_simp;exact HK.out _ _ ⟨_,rfl,rfl,HG.out,.inl (Below.refl _ _)⟩
   ·refine wpOp_step rfl (λK1 hK=>?_);have HK:=hide hK;clear hK;go_simp;exact HK.out _ _ ⟨_,rfl,rfl,HG.out,.inl (Below.refl _ _)⟩
   ·obtain rfl:v3=.slice Aw nw cw:=(HF.out 3 (HD.out 3 (by simp[dO]))).2 (λ_ h=>by cases h);obtain ⟨cs9,Ws,WM⟩:=Sl.cells (Sl.keep (Same.below HG.out) (K5.out.below Mf.out));have HCS:=hide Ws;have Y2:=hide WM;clear Ws WM;refine wpOp_step rfl (λK1 hK=>?_);have HK:=hide hK;clear hK;refine om (by rfl) ?_;refine kG V _ _ _ rfl tX List.not_mem_nil (OL.nil (B:=Wp.heap.size) (O:=λ_=>True) (T:=[]) HG.out.size) rfl Aw nw cw cs9 ws (by simp[Act.eval,Act.put]) HNA.out Y2.out (HCS.out.mono (λz hz=>.inl ⟨trivial,hz⟩)) K5.out.len LA.out.1 LA.out.2.1 ?_;intro v9 w9 oQ fK qR kJ;have qG:=hide (show OL 33 Wp.heap.size (λ_=>True) [] w9 v9 ws from by simpa using oQ);have uB:Hid (Below V.heap.size V w9):=hide ((Below.refl _ V).grown qR (Nat.le_refl _) λk e=>by cases e);clear oQ fK qR kJ;exact HK.out _ _ ⟨_,rfl,qG.out,aa HG.out uB.out,.inl uB.out⟩
   ·obtain ⟨_,y0,y1⟩:=(HX7.out.below HG.out).ats2;refine wpOp_step rfl (λK1 hK=>?_);have HK:=hide hK;clear hK;go_simp;exact HK.out _ _ ⟨_,rfl,rfl,HG.out,.inl (Below.refl _ _)⟩
   ·obtain rfl:v5=.agg #[.string cn,.slice Ax nx cx]:=(HF.out 5 (HD.out 5 (by simp[dO]))).2 (λ_ h=>by cases h);refine wpOp_step rfl (λK1 hK=>?_);have HK:=hide hK;clear hK;go_simp;exact HK.out _ _ ⟨_,rfl,⟨_,rfl,heap_alloc_new _ _⟩,aa HG.out ae,.inl ae⟩
   ·obtain RG:OL 33 Wp.heap.size (λ_=>True) [] V v4 ws:=(HF.out 4 (HD.out 4 (by simp[dO]))).2 (λu h=>by simp only[MJ,List.mem_cons,List.not_mem_nil,or_false]at h;subst h;exact qV.out);obtain ⟨g,rfl,hgb⟩: ∃g,v6=.slice (some ⟨g,0,none⟩) 1 1/\V.heap[g]?=some (.cells #[.string cn,.slice Ax nx cx] 33 (0,0)):=(HF.out 6 (HD.out 6 (by simp[dO]))).2 (λu h=>by simp only[MJ,List.mem_cons,List.not_mem_nil,or_false]at h;subst h;exact qV.out);have YO:=hide RG;have YC:=hide hgb;clear RG hgb;refine wpOp_step rfl (λK1 hK=>?_);have HK:=hide hK;clear hK;refine om (by rfl) ?_;refine kG V _ _ _ rfl tX List.not_mem_nil YO.out (by simp[Act.eval,Act.put]) (some ⟨g,0,none⟩) 1 1 [.string cn,.slice Ax nx cx] [⟨cn,xr.row⟩] (by simp[Act.eval,Act.put]) (by intro h;cases h) (Jz YC.out) (Cells.one ⟨_,_,_,rfl,(Sl.keep (Same.below HG.out) (Uf.out.below Mf.out)).mono (λz hz=>.inl ⟨trivial,hz⟩),HSX.out⟩) rfl LA.out.2.2.1 LA.out.2.2.2 ?_;intro v9 w9 oQ fK qR kJ;have uB:=hide (HG.out.trans fK);obtain ⟨A9,c9,rfl,hi9⟩:=oQ.inn;have Sc:=hide hi9;clear oQ fK qR kJ hi9;exact HK.out _ _ ⟨_,rfl,⟨_,_,_,rfl,Sc.out⟩,uB.out,.inr (λj hj hL hu q=>Md _ _ _ _ _ _ _ _ _ _ _ _ _ _ _ _ _ _ _ _ _ _ _ j _ _ _ _ (λe=>by subst e;exact (hu 7 (by simp[MJ])).1 rfl) (λe=>by subst e;exact (hu 7 (by simp[MJ])).1 rfl) hj (λe=>by subst e;have h0:L 7=true:=(HF.out 8 hL).1;rw[qV.out]at h0;cases h0) (λe=>by subst e;have h0:L 8=true:=(HF.out 9 hL).1;have h1:L 7=true:=(HF.out 8 h0).1;rw[qV.out]at h1;cases h1) (λe=>by subst e;have h0:L 9=true:=(HF.out 10 hL).1;have h1:L 8=true:=(HF.out 9 h0).1;have h2:L 7=true:=(HF.out 8 h1).1;rw[qV.out]at h2;cases h2) (λe=>by subst e;have h0:L 9=true:=(HF.out 11 hL).1;have h1:L 8=true:=(HF.out 9 h0).1;have h2:L 7=true:=(HF.out 8 h1).1;rw[qV.out]at h2;cases h2) (λe=>by subst e;have h0:L 10=true:=(HF.out 13 hL).1;have h1:L 9=true:=(HF.out 10 h0).1;have h2:L 8=true:=(HF.out 9 h1).1;have h3:L 7=true:=(HF.out 8 h2).1;rw[qV.out]at h3;cases h3) (λe=>by subst e;have h0:L 11=true:=(HF.out 14 hL).1;have h1:L 9=true:=(HF.out 11 h0).1;have h2:L 8=true:=(HF.out 9 h1).1;have h3:L 7=true:=(HF.out 8 h2).1;rw[qV.out]at h3;cases h3) q)⟩
   ·obtain rfl:v0=.agg #[.string ⟨#[114]⟩,.slice A1 3 3,.slice none 0 0,.slice (some ⟨b5,o5,none⟩) n5 c5]:=(HF.out 0 (HD.out 0 (by simp[dO]))).2 (λ_ h=>by cases h);obtain rfl:v1=.slice (some ⟨bc,oc,none⟩) nc cc:=(HF.out 1 (HD.out 1 (by simp[dO]))).2 (λ_ h=>by cases h);obtain rfl:v2=.slice (some ⟨bo,oo,none⟩) 1 1:=(HF.out 2 (HD.out 2 (by simp[dO]))).2 (λ_ h=>by cases h);obtain ⟨A9,m9,c9,rfl,hi9⟩: ∃A9 m9 c9,v7=.slice A9 m9 c9/\In V A9 m9 c9 (ws++[(⟨cn,xr.row⟩:Wvr)]):=(HF.out 7 (HD.out 7 (by simp[dO]))).2 (λ_ h=>by cases h);have Sc:=hide hi9;clear hi9;refine wpOp_step rfl (λK1 hK=>?_);have HK:=hide hK;clear hK;go_simp;go_at_call 14;refine (Mh.out _ (aa Mf.out HG.out) A9 m9 c9 Sc.out).mono ?_;rintro e w1 ⟨⟨Aa,ma,ca,Ab,mb,cb,rfl,hia,hib⟩,hb1⟩;have Sd:=hide hia;have Sg:=hide hib;have HB1:=hide hb1;clear hia hib hb1;go_wp2_with fail;exact HK.out _ _ ⟨_,rfl,⟨_,_,_,_,_,_,rfl,Sd.out,Sg.out⟩,aa HG.out HB1.out,.inl HB1.out⟩
   ·obtain ⟨Aa,ma,ca,Ab,mb,cb,rfl,hia,hib⟩: ∃A7 m7 c7 A8 m8 c8,v8=.tuple #[.slice A7 m7 c7,.slice A8 m8 c8,.int .i64 0]/\In V A7 m7 c7 T2/\In V A8 m8 c8 P2:=(HF.out 8 (HD.out 8 (by simp[dO]))).2 (λ_ h=>by cases h);have Sd:=hide hia;have Sg:=hide hib;clear hia hib;refine wpOp_step rfl (λK1 hK=>?_);have HK:=hide hK;clear hK;go_simp;exact HK.out _ _ ⟨_,rfl,⟨_,_,_,_,_,_,rfl,Sd.out,Sg.out⟩,HG.out,.inl (Below.refl _ _)⟩
   ·obtain ⟨Aa,ma,ca,Ab,mb,cb,rfl,hia,hib⟩: ∃A7 m7 c7 A8 m8 c8,v9=.tuple #[.slice A7 m7 c7,.slice A8 m8 c8,.int .i64 0]/\In V A7 m7 c7 T2/\In V A8 m8 c8 P2:=(HF.out 9 (HD.out 9 (by simp[dO]))).2 (λ_ h=>by cases h);have Sd:=hide hia;have Sg:=hide hib;clear hia hib;refine wpOp_step rfl (λK1 hK=>?_);have HK:=hide hK;clear hK;go_simp;exact HK.out _ _ ⟨_,rfl,⟨_,_,_,rfl,Sd.out⟩,HG.out,.inl (Below.refl _ _)⟩
   ·obtain ⟨Aa,ma,ca,Ab,mb,cb,rfl,hia,hib⟩: ∃A7 m7 c7 A8 m8 c8,v9=.tuple #[.slice A7 m7 c7,.slice A8 m8 c8,.int .i64 0]/\In V A7 m7 c7 T2/\In V A8 m8 c8 P2:=(HF.out 9 (HD.out 9 (by simp[dO]))).2 (λ_ h=>by cases h);have Sd:=hide hia;have Sg:=hide hib;clear hia hib;refine wpOp_step rfl (λK1 hK=>?_);have HK:=hide hK;clear hK;go_simp;exact HK.out _ _ ⟨_,rfl,⟨_,_,_,rfl,Sg.out⟩,HG.out,.inl (Below.refl _ _)⟩
   ·obtain ⟨Aa,ma,ca,Ab,mb,cb,rfl,hia,hib⟩: ∃A7 m7 c7 A8 m8 c8,v9=.tuple #[.slice A7 m7 c7,.slice A8 m8 c8,.int .i64 0]/\In V A7 m7 c7 T2/\In V A8 m8 c8 P2:=(HF.out 9 (HD.out 9 (by simp[dO]))).2 (λ_ h=>by cases h);have Sd:=hide hia;have Sg:=hide hib;clear hia hib;refine wpOp_step rfl (λK1 hK=>?_);have HK:=hide hK;clear hK;go_simp;exact HK.out _ _ ⟨_,rfl,rfl,HG.out,.inl (Below.refl _ _)⟩
   ·obtain ⟨A9,m9,c9,rfl,hi9⟩: ∃A9 m9 c9,v10=.slice A9 m9 c9/\In V A9 m9 c9 T2:=(HF.out 10 (HD.out 10 (by simp[dO]))).2 (λ_ h=>by cases h);have Sc:=hide hi9;clear hi9;refine wpOp_step rfl (λK1 hK=>?_);have HK:=hide hK;clear hK;go_simp;exact HK.out _ _ ⟨_,rfl,⟨_,_,_,rfl,Sc.out⟩,HG.out,.inl (Below.refl _ _)⟩
   ·obtain ⟨A9,m9,c9,rfl,hi9⟩: ∃A9 m9 c9,v11=.slice A9 m9 c9/\In V A9 m9 c9 P2:=(HF.out 11 (HD.out 11 (by simp[dO]))).2 (λ_ h=>by cases h);have Sc:=hide hi9;clear hi9;refine wpOp_step rfl (λK1 hK=>?_);have HK:=hide hK;clear hK;go_simp;exact HK.out _ _ ⟨_,rfl,⟨_,_,_,rfl,Sc.out⟩,HG.out,.inl (Below.refl _ _)⟩
   ·obtain rfl:v12=.int .i64 0:=(HF.out 12 (HD.out 12 (by simp[dO]))).2 (λ_ h=>by cases h);refine wpOp_step rfl (λK1 hK=>?_);have HK:=hide hK;clear hK;go_simp;exact HK.out _ _ ⟨_,rfl,rfl,HG.out,.inl (Below.refl _ _)⟩
  ·intro L vs V hL hvl hG hF;obtain ⟨v0,vJ,rfl,hv0⟩:=af hvl;obtain ⟨v1,vs1,rfl,hv1⟩:=af hv0;obtain ⟨v2,vs2,rfl,hv2⟩:=af hv1;obtain ⟨v3,vs3,rfl,hv3⟩:=af hv2;obtain ⟨v4,AR,rfl,hv4⟩:=af hv3;obtain ⟨v5,AU,rfl,hv5⟩:=af hv4;obtain ⟨v6,AV,rfl,hv6⟩:=af hv5;obtain ⟨v7,AX,rfl,hv7⟩:=af hv6;obtain ⟨v8,AY,rfl,iY⟩:=af hv7;obtain ⟨v9,Gi,rfl,lG⟩:=af iY;obtain ⟨v10,rV,rfl,eH⟩:=af lG;obtain ⟨v11,rW,rfl,eO⟩:=af eH;obtain ⟨v12,uy,rfl,fH⟩:=af eO;obtain ⟨v13,uz,rfl,fI⟩:=af fH;obtain ⟨v14,wQ,rfl,gL⟩:=af fI;obtain ⟨v15,wR,rfl,gM⟩:=af gL;obtain rfl:=fo gM;clear hvl hv0 hv1 hv2 hv3 hv4 hv5 hv6 hv7 iY lG eH eO fH fI gL gM;have HG:=hide hG;have HF:=hide hF;have HL:=hide hL;clear hG hF hL;obtain ⟨Aa,ma,ca,rfl,hia⟩: ∃A9 m9 c9,v13=.slice A9 m9 c9/\In V A9 m9 c9 T2:=HF.out 13 (by show 13<16;omega) rfl;obtain ⟨Ab,mb,cb,rfl,hib⟩: ∃A9 m9 c9,v14=.slice A9 m9 c9/\In V A9 m9 c9 P2:=HF.out 14 (by show 14<16;omega) rfl;obtain rfl:v15=.int .i64 0:=HF.out 15 (by show 15<16;omega) rfl;have I13:=hide hia;have I14:=hide hib;have Px:=hide HG.out;clear hia hib;have H7:=hide (I7.out.below Px.out);have H8:=hide (I8.out.below Px.out);have kH:=hide (aa Mf.out Px.out);have e1:m7<=ma:=by rw[<-H7.out.len,<-I13.out.len];exact HL1.out
   have e2:mb<=m8:=by rw[<-H8.out.len,<-I14.out.len];exact HL2.out
   have dz7:¬((ma:Int)<(m7:Int)):=by omega
   have dz8:¬((m8:Int)<(mb:Int)):=by omega
   have hm73:=H7.out.le;have hm83:=H8.out.le;clear I7 I8 Px e1 e2;go_upto_region 11 with (fail);clear dz7 dz8;go_cut [20] from 26 to 113 (λs20 wx=>s20=.int .i64 0/\wx=V)
   case first=>
    go_wp2;go_meet
    case rel=>exact ⟨rfl,rfl⟩
   obtain ⟨rfl,hwx⟩:=hcut;obtain rfl:=hwx.symm;go_wp2;go_loopw [20] (λi wv=> ∃q:Nat,q<=m7/\i=.int .i64 q/\Below V.heap.size V wv) (λi _=>m7-(RowKit.intOf i).toNat)
   case atStart=>exact ⟨0,Nat.zero_le _,rfl,Below.refl _ _⟩
   case round=>
    obtain ⟨qa,hq,rfl,hb2⟩:=hrel;have HB2:=hide hb2;clear hb2;by_cases hlt3:qa<m7
    ·obtain ⟨b,off,x,rfl,hBb,HX,Ay,ny,cy,e0,e1,e2,e3⟩:=(H7.out.below HB2.out).ent hlt3;have j0:(0:Int)<=(qa:Int):=by omega
     have j1:(qa:Int)<(m7:Int):=by omega
     have hct:=HCN.out x (aH HX.out);obtain ⟨CT,Uy⟩: ∃z,cntF T2 x.row=z:=⟨_,rfl⟩;have Yq:=hide Uy;rw[Uy]at hct;have HQ:=hide hct;have E0:=hide e0;have E1:=hide e1;have E2:=hide e2;have LBH:=hide hBb;clear hct Uy e2 e3;go_upto_region 14 with (fail);have u1:=E0.out;have u2:=E1.out;have LG:True:=trivial;go_region_held3 (λV=>V.cell? ⟨b,off+qa*2,none⟩=some (.slice Ay ny cy)/\V.cell? ⟨b,off+qa*2+1,none⟩=some (.int .i64 x.count))
      (first|exact ⟨ah Zm.out LBH.out E0.out,ah Zm.out LBH.out E1.out⟩|exact ⟨u1,u2⟩)
      (first|(clear LG;go_at_call 15;refine (Cc _ _ _ _ _ ((I13.out.below HB2.out).below (Below.refl _ _).drew) _ _ _ x.row (E2.out.below (Below.refl _ _).drew)).mono ?_;rintro e z1 ⟨rfl,hc1⟩;rw[Yq.out];have Zm:=hide (aj hc1);clear hc1))
     have hq2:(CT != x.count)=false:=by rw[HQ.out];simp
     have xS:=hide (aa HB2.out Zm.out);go_wp2;go_roundw
     case rel=>exact ⟨qa+1,by omega,by go_num,xS.out⟩
     case measure=>simp[RowKit.intOf];omega
    ·go_wp2;go_loopw [21] (λi wv=> ∃k:Nat,k<=m8/\i=.int .i64 k/\Below V.heap.size V wv) (λi _=>m8-(RowKit.intOf i).toNat)
     case atStart=>exact ⟨0,Nat.zero_le _,rfl,HB2.out⟩
     case round=>
      obtain ⟨k,hk,rfl,hb3⟩:=hrel;have HB3:=hide hb3;clear hb3;by_cases hlt:k<m8
      ·obtain ⟨bp,op,p,rfl,hBp,HPX,wS,xx,wX,Apc,npc,cpc,f0,f1,f2,f3,i1,i2,hs1,hs2⟩:=(H8.out.below HB3.out).quar hlt;have hpm:=aH HPX.out;rw[<-HP1.out]at hpm;obtain ⟨y,hy,hpy⟩:=List.mem_map.1 hpm;obtain ⟨UF,hyh⟩:=List.mem_filter.1 hy;have YR:Hid (p.checks=(cs.filter λc=>ownB nR c&&(bN c gV gV rows orows [] p.row&&!dG ws c.name p.row)).map Chk.name/\p.checks≠[]):=hide (by
        rw[<-hpy];refine ⟨wvNm y.row,λe=>?_⟩;rw[Bc,show LH rows orows ws cs y.row=[] from e]at hyh;cases hyh)
       have HVC:Hid (∀c∈cs,(jZ c gV gV rows orows []).1=0/\decide (0<cntF (jZ c gV gV rows orows []).2 p.row)=bN c gV gV rows orows [] p.row):=hide (λc hc=>by
        rw[<-hpy];exact OZ (qF.out c hc) Xi.out.2 Y6.out.2 UF)
       have kz0:(0:Int)<=(k:Int):=by omega
       have kz1:(k:Int)<(m8:Int):=by omega
       have Zj:=hide f1;have PF3:=hide f3;have XE:=hide hBp;have Zl:=hide i1;have PI2:=hide i2;clear hpm hy hpy UF hyh f0 f2 i1 i2 hs1 hs2;obtain ⟨wo,rfl⟩: ∃W,W=wr:=⟨_,rfl⟩;have HBO:=hide (aa kH.out HB3.out);obtain ⟨WB,ZV⟩: ∃f:Chk->Bool,(λc=>ownB nR c&&(bN c gV gV rows orows [] p.row&&!dG ws c.name p.row))=f:=⟨_,rfl⟩;have HWB:=hide (λc=>(congrFun ZV c).symm);rw[ZV]at YR;clear ZV;go_wp2;go_loopw [22,23] (λv j wv=> ∃q:Nat,q<=nc/\j=.int .i64 q/\OL 9 wo.heap.size (λ_=>False) [] wv v (((cs.take q).filter WB).map Chk.name)/\Below wo.heap.size wo wv) (λ_ j _=>nc-(RowKit.intOf j).toNat)
       case atStart=>exact ⟨0,Nat.zero_le _,rfl,by simpa using OL.nil (α:=ByteArray) (e:=9) (O:=λ_=>False) (T:=[]) (Nat.le_refl wo.heap.size),Below.refl _ _⟩
       case round=>
        obtain ⟨q,hq,rfl,hol,hb4⟩:=hrel;have oG:=hide hol;have uA:=hide hb4;clear hol hb4;by_cases hlt4:q<nc
        ·obtain ⟨wi,rfl⟩: ∃W,W=wr:=⟨_,rfl⟩;have WY:=hide (aa HBO.out uA.out);obtain ⟨b9,o9,fP,e9,hbc,Rk,B1,p1,XY,B2,p2,XZ,B3,p3,X4,hcs,ic1,ic2,ic3,hok⟩:=(K3.out.below WY.out).chk hlt4;injection e9 with e9;injection e9 with e9 e9b;subst e9 e9b;have CS:=hide hcs;have xR:=hide hbc;have CI1:=hide ic1;have CI2:=hide ic2;have CI3:=hide ic3;have COK:=hide hok;have qz0:(0:Int)<=(q:Int):=by omega
         have qz1:(q:Int)<(nc:Int):=by omega
         clear hcs hbc ic1 ic2 ic3 hok;go_upto_region 23 with (fail);have JM:=hide (HWB.out fP);obtain ⟨VG,hwv⟩: ∃b,dG ws fP.name p.row=b:=⟨_,rfl⟩;have HWV:=hide hwv;rw[hwv]at JM;obtain ⟨b1_,hb1_⟩: ∃b,(!fP.table.toList==[114])=b:=⟨_,rfl⟩;obtain ⟨b2_,hb2_⟩: ∃b,(fP.policy != 0)=b:=⟨_,rfl⟩;obtain ⟨b3_,hb3_⟩: ∃b,(b1_ || b2_)=b:=⟨_,rfl⟩;obtain ⟨R_,hr_⟩: ∃b,(b3_ || VG)=b:=⟨_,rfl⟩;have HT1:=hide hb1_;have HT2:=hide hb2_;have HT3:=hide hb3_;have HRR:=hide hr_;have HOWE:Hid (ownB nR fP=!b3_):=hide (by
          have hnr:nR.toList=[114]:=by decide+kernel
          rw[ownB,hnr,<-hb3_,<-hb1_,<-hb2_];exact (show ∀x y:Bool,(x&&y)=!((!x) || (!y)) by decide) _ _)
         clear hwv hb1_ hb2_ hb3_ hr_;refine cZ (by kernel_rfl) depsWv23 (by kernel_rfl) (λV V'=>Below V.heap.size V V') (λvs=>⟨#[.slice A n c,.slice A2 n2 c2,.int .i64 which,.int .i64 rw_,undef,undef,undef,undef,u8,.pointer (some ⟨gr,0,none⟩),.slice (some ⟨bc,oc,none⟩) nc cc,.slice (some ⟨bo,oo,none⟩) 1 1,.slice Aw nw cw,.pointer (some ⟨gx,0,none⟩),.slice A7 m7 c7,.slice (some ⟨bp,op,none⟩) m8 c8,.int .i64 0,.slice Aa ma ca,.slice Ab mb cb,.int .i64 0,.int .i64 ↑qa,.int .i64 ↑k,u22,.int .i64 ↑q,u24,u25,u26,u27,u28,u29,u30,u31,u32,u33,u34,u35,u36,u37,u38,u39,u40,u41,u42,u43,u44,u45,u46,u47,u48,u49,u50,u51,u52,u53,u54,u55,u56,u57,u58,u59,u60,u61,u62,u63,u64,u65,u66,u67,u68,u69,u70,u71,u72,u73,u74,u75,u76,u77,u78,u79,u80,u81,u82,u83,u84,u85,u86,u87,u88,u89,u90,u91,u92,u93,u94,u95,u96,u97,u98,u99,u100,u101,u102,u103,u104,u105,u106,u107,u108,u109,u110,u111,u112,u113,.int .i64 ↑qa,.slice A7 m7 c7,.int .i64 ↑m7,.bool false,u118,u119,u120,u121,u122,u123,u124,u125,u126,u127,u128,u129,u130,u131,u132,.int .i64 ↑k,.slice (some ⟨bp,op,none⟩) m8 c8,.int .i64 ↑m8,.bool true,u137,u138,.int .i64 ↑q,.slice (some ⟨bc,oc,none⟩) nc cc,.int .i64 ↑nc,.bool true,u143,u144,(vs.getD 0 (.bool false)),(vs.getD 1 (.bool false)),(vs.getD 2 (.bool false)),(vs.getD 3 (.bool false)),(vs.getD 4 (.bool false)),(vs.getD 5 (.bool false)),(vs.getD 6 (.bool false)),(vs.getD 7 (.bool false)),(vs.getD 8 (.bool false)),(vs.getD 9 (.bool false)),(vs.getD 10 (.bool false)),(vs.getD 11 (.bool false)),(vs.getD 12 (.bool false)),(vs.getD 13 (.bool false)),(vs.getD 14 (.bool false)),(vs.getD 15 (.bool false)),(vs.getD 16 (.bool false)),(vs.getD 17 (.bool false)),(vs.getD 18 (.bool false)),(vs.getD 19 (.bool false)),(vs.getD 20 (.bool false)),(vs.getD 21 (.bool false)),(vs.getD 22 (.bool false)),(vs.getD 23 (.bool false)),(vs.getD 24 (.bool false)),(vs.getD 25 (.bool false)),(vs.getD 26 (.bool false)),(vs.getD 27 (.bool false)),u173,u174,u175,u176,u177,u178,u179,u180,u181,u182,u183,u184,u185,u186,u187,u188,u189,u190,u191,u192,u193,u194,u195,u196,u197,u198,u199,u200,u201,u202,u203,u204,u205,u206,u207,u208,u209,u210,u211,u212,u213,undef],[]⟩) 28 (by decide) (λL V=>Below wi.heap.size wi V) lkWv23 UWv23 (FWv23 bc oc nc cc q bp op k m8 c8 nw cw xx wX fP.table fP.name fP.policy Aw wS b1_ b2_ b3_ VG R_) (λ_ _=>True) lkWv23_ok (FWv23_st bc oc nc cc q bp op k m8 c8 nw cw xx wX fP.table fP.name fP.policy Aw wS b1_ b2_ b3_ VG R_) [_,_,_,_,_,_,_,_,_,_,_,_,_,_,_,_,_,_,_,_,_,_,_,_,_,_,_,_] rfl rfl (λ_=>trivial) ((Below.refl _ _).drew) ?_ ?_
         ·intro L i vs V hi hvl hL hd hG hF nY;obtain ⟨v0,vJ,rfl,hv0⟩:=af hvl;obtain ⟨v1,vs1,rfl,hv1⟩:=af hv0;obtain ⟨v2,vs2,rfl,hv2⟩:=af hv1;obtain ⟨v3,vs3,rfl,hv3⟩:=af hv2;obtain ⟨v4,AR,rfl,hv4⟩:=af hv3;obtain ⟨v5,AU,rfl,hv5⟩:=af hv4;obtain ⟨v6,AV,rfl,hv6⟩:=af hv5;obtain ⟨v7,AX,rfl,hv7⟩:=af hv6;obtain ⟨v8,AY,rfl,iY⟩:=af hv7;obtain ⟨v9,Gi,rfl,lG⟩:=af iY;obtain ⟨v10,rV,rfl,eH⟩:=af lG;obtain ⟨v11,rW,rfl,eO⟩:=af eH;obtain ⟨v12,uy,rfl,fH⟩:=af eO;obtain ⟨v13,uz,rfl,fI⟩:=af fH;obtain ⟨v14,wQ,rfl,gL⟩:=af fI;obtain ⟨v15,wR,rfl,gM⟩:=af gL;obtain ⟨v16,AJ,rfl,iR⟩:=af gM;obtain ⟨v17,AL,rfl,iT⟩:=af iR;obtain ⟨v18,AO,rfl,iU⟩:=af iT;obtain ⟨v19,AP,rfl,iW⟩:=af iU;obtain ⟨v20,AQ,rfl,iX⟩:=af iW;obtain ⟨v21,Em,rfl,kz⟩:=af iX;obtain ⟨v22,En,rfl,kC⟩:=af kz;obtain ⟨v23,IM,rfl,mI⟩:=af kC;obtain ⟨v24,IP,rfl,hv24⟩:=af mI;obtain ⟨v25,IQ,rfl,hv25⟩:=af hv24;obtain ⟨v26,IR,rfl,mJ⟩:=af hv25;obtain ⟨v27,IU,rfl,hv27⟩:=af mJ;obtain rfl:=fo hv27;clear hvl hv0 hv1 hv2 hv3 hv4 hv5 hv6 hv7 iY lG eH eO fH fI gL gM iR iT iU iW iX kz kC mI hv24 hv25 mJ hv27;have hi:i<28:=hi;have HG:=hide hG;have HF:=hide hF;have HD:=hide hd;have qV:=hide hL;have Gn:=hide nY;clear hG hF hd hL nY;obtain rfl|rfl|rfl|rfl|rfl|rfl|rfl|rfl|rfl|rfl|rfl|rfl|rfl|rfl|rfl|rfl|rfl|rfl|rfl|rfl|rfl|rfl|rfl|rfl|rfl|rfl|rfl|rfl:i=0\/i=1\/i=2\/i=3\/i=4\/i=5\/i=6\/i=7\/i=8\/i=9\/i=10\/i=11\/i=12\/i=13\/i=14\/i=15\/i=16\/i=17\/i=18\/i=19\/i=20\/i=21\/i=22\/i=23\/i=24\/i=25\/i=26\/i=27:=by omega
          ·refine wpOp_step rfl (λK1 hK=>?_);have HK:=hide hK;clear hK;go_simp;exact HK.out _ _ ⟨_,rfl,rfl,HG.out,.inl (Below.refl _ _)⟩
          ·refine wpOp_step rfl (λK1 hK=>?_);have HK:=hide hK;clear hK;go_simp;exact HK.out _ _ ⟨_,rfl,rfl,HG.out,.inl (Below.refl _ _)⟩
          ·obtain rfl:v0=.slice (some ⟨bc,oc,none⟩) nc cc:=(HF.out 0 (HD.out 0 (by simp[depsWv23]))).2 (λ_ h=>by cases h);obtain rfl:v1=.int .i64 (q:Int):=(HF.out 1 (HD.out 1 (by simp[depsWv23]))).2 (λ_ h=>by cases h);refine wpOp_step rfl (λK1 hK=>?_);have HK:=hide hK;clear hK;go_simp;exact HK.out _ _ ⟨_,rfl,rfl,HG.out,.inl (Below.refl _ _)⟩
          ·obtain rfl:v2=.pointer (some ⟨bc,oc+q*14,none⟩):=(HF.out 2 (HD.out 2 (by simp[depsWv23]))).2 (λ_ h=>by cases h);refine wpOp_step rfl (λK1 hK=>?_);have HK:=hide hK;clear hK;go_simp;exact HK.out _ _ ⟨_,rfl,rfl,HG.out,.inl (Below.refl _ _)⟩
          ·obtain rfl:v3=.pointer (some ⟨bc,oc+q*14+1,none⟩):=(HF.out 3 (HD.out 3 (by simp[depsWv23]))).2 (λ_ h=>by cases h);have c9:=ah HG.out xR.out CS.out.2.1;refine wpOp_step rfl (λK1 hK=>?_);have HK:=hide hK;clear hK;go_simp;exact HK.out _ _ ⟨_,rfl,rfl,HG.out,.inl (Below.refl _ _)⟩
          ·obtain rfl:v4=.string fP.table:=(HF.out 4 (HD.out 4 (by simp[depsWv23]))).2 (λ_ h=>by cases h);refine wpOp_step rfl (λK1 hK=>?_);have HK:=hide hK;clear hK;go_simp;exact HK.out _ _ ⟨_,rfl,show Value.bool (!fP.table.toList==[114])=Value.bool b1_ from by rw[HT1.out],HG.out,.inl (Below.refl _ _)⟩
          ·obtain rfl:v5=.bool b1_:=(HF.out 5 (HD.out 5 (by simp[depsWv23]))).2 (λ_ h=>by cases h);refine wpOp_step rfl (λK1 hK=>?_);have HK:=hide hK;clear hK;go_simp;exact HK.out _ _ ⟨_,rfl,rfl,HG.out,.inl (Below.refl _ _)⟩
          ·cases b1_
           ·obtain rfl:v6=.bool false:=(HF.out 6 (HD.out 6 (by simp[depsWv23]))).2 (λ_ h=>by cases h);refine wpOp_step rfl (λK1 hK=>?_);have HK:=hide hK;clear hK;go_simp;exact HK.out _ _ ⟨_,rfl,λ_=>rfl,HG.out,.inl (Below.refl _ _)⟩
           ·obtain rfl:v6=.bool true:=(HF.out 6 (HD.out 6 (by simp[depsWv23]))).2 (λ_ h=>by cases h);refine wpOp_step rfl (λK1 hK=>?_);have HK:=hide hK;clear hK;go_simp;exact HK.out _ _ ⟨_,rfl,(λh=>by cases h),HG.out,.inl (Below.refl _ _)⟩
          ·cases b1_
           ·obtain rfl:v6=.bool false:=(HF.out 6 (HD.out 6 (by simp[depsWv23]))).2 (λ_ h=>by cases h);refine wpOp_step rfl (λK1 hK=>?_);have HK:=hide hK;clear hK;go_simp;exact HK.out _ _ ⟨_,rfl,λ_=>rfl,HG.out,.inl (Below.refl _ _)⟩
           ·obtain rfl:v6=.bool true:=(HF.out 6 (HD.out 6 (by simp[depsWv23]))).2 (λ_ h=>by cases h);refine wpOp_step rfl (λK1 hK=>?_);have HK:=hide hK;clear hK;go_simp;exact HK.out _ _ ⟨_,rfl,(λh=>by cases h),HG.out,.inl (Below.refl _ _)⟩
          ·cases b1_
           ·obtain rfl:v6=.bool false:=(HF.out 6 (HD.out 6 (by simp[depsWv23]))).2 (λ_ h=>by cases h);obtain rfl:v7=.slice (some ⟨bc,oc,none⟩) nc cc:=(HF.out 7 (HD.out 7 (by simp[depsWv23]))).2 (λ_ h=>by cases h) rfl;obtain rfl:v8=.int .i64 (q:Int):=(HF.out 8 (HD.out 8 (by simp[depsWv23]))).2 (λ_ h=>by cases h) rfl;refine wpOp_step rfl (λK1 hK=>?_);have HK:=hide hK;clear hK;go_simp;exact HK.out _ _ ⟨_,rfl,λ_=>rfl,HG.out,.inl (Below.refl _ _)⟩
           ·obtain rfl:v6=.bool true:=(HF.out 6 (HD.out 6 (by simp[depsWv23]))).2 (λ_ h=>by cases h);refine wpOp_step rfl (λK1 hK=>?_);have HK:=hide hK;clear hK;go_simp;exact HK.out _ _ ⟨_,rfl,(λh=>by cases h),HG.out,.inl (Below.refl _ _)⟩
          ·cases b1_
           ·obtain rfl:v6=.bool false:=(HF.out 6 (HD.out 6 (by simp[depsWv23]))).2 (λ_ h=>by cases h);obtain rfl:v9=.pointer (some ⟨bc,oc+q*14,none⟩):=(HF.out 9 (HD.out 9 (by simp[depsWv23]))).2 (λ_ h=>by cases h) rfl;refine wpOp_step rfl (λK1 hK=>?_);have HK:=hide hK;clear hK;go_simp;exact HK.out _ _ ⟨_,rfl,λ_=>rfl,HG.out,.inl (Below.refl _ _)⟩
           ·obtain rfl:v6=.bool true:=(HF.out 6 (HD.out 6 (by simp[depsWv23]))).2 (λ_ h=>by cases h);refine wpOp_step rfl (λK1 hK=>?_);have HK:=hide hK;clear hK;go_simp;exact HK.out _ _ ⟨_,rfl,(λh=>by cases h),HG.out,.inl (Below.refl _ _)⟩
          ·cases b1_
           ·obtain rfl:v6=.bool false:=(HF.out 6 (HD.out 6 (by simp[depsWv23]))).2 (λ_ h=>by cases h);obtain rfl:v10=.pointer (some ⟨bc,oc+q*14+13,none⟩):=(HF.out 10 (HD.out 10 (by simp[depsWv23]))).2 (λ_ h=>by cases h) rfl;have c9:=ah HG.out xR.out CS.out.2.2.2.2.2.2.2.2.2.2.2.2.2;refine wpOp_step rfl (λK1 hK=>?_);have HK:=hide hK;clear hK;go_simp;exact HK.out _ _ ⟨_,rfl,λ_=>rfl,HG.out,.inl (Below.refl _ _)⟩
           ·obtain rfl:v6=.bool true:=(HF.out 6 (HD.out 6 (by simp[depsWv23]))).2 (λ_ h=>by cases h);refine wpOp_step rfl (λK1 hK=>?_);have HK:=hide hK;clear hK;go_simp;exact HK.out _ _ ⟨_,rfl,(λh=>by cases h),HG.out,.inl (Below.refl _ _)⟩
          ·cases b1_
           ·obtain rfl:v6=.bool false:=(HF.out 6 (HD.out 6 (by simp[depsWv23]))).2 (λ_ h=>by cases h);obtain rfl:v11=.int .i64 fP.policy:=(HF.out 11 (HD.out 11 (by simp[depsWv23]))).2 (λ_ h=>by cases h) rfl;refine wpOp_step rfl (λK1 hK=>?_);have HK:=hide hK;clear hK;go_simp;exact HK.out _ _ ⟨_,rfl,λ_=>show Value.bool (fP.policy != 0)=Value.bool b2_ from by rw[HT2.out],HG.out,.inl (Below.refl _ _)⟩
           ·obtain rfl:v6=.bool true:=(HF.out 6 (HD.out 6 (by simp[depsWv23]))).2 (λ_ h=>by cases h);refine wpOp_step rfl (λK1 hK=>?_);have HK:=hide hK;clear hK;go_simp;exact HK.out _ _ ⟨_,rfl,(λh=>by cases h),HG.out,.inl (Below.refl _ _)⟩
          ·cases b1_
           ·obtain rfl:v6=.bool false:=(HF.out 6 (HD.out 6 (by simp[depsWv23]))).2 (λ_ h=>by cases h);obtain rfl:v12=.bool b2_:=(HF.out 12 (HD.out 12 (by simp[depsWv23]))).2 (λ_ h=>by cases h) rfl;refine wpOp_step rfl (λK1 hK=>?_);have HK:=hide hK;clear hK;go_simp;exact HK.out _ _ ⟨_,rfl,show Value.bool b2_=Value.bool b3_ from by rw[<-HT3.out];rfl,HG.out,.inl (Below.refl _ _)⟩
           ·obtain rfl:v6=.bool true:=(HF.out 6 (HD.out 6 (by simp[depsWv23]))).2 (λ_ h=>by cases h);refine wpOp_step rfl (λK1 hK=>?_);have HK:=hide hK;clear hK;go_simp;exact HK.out _ _ ⟨_,rfl,show Value.bool true=Value.bool b3_ from by rw[<-HT3.out];rfl,HG.out,.inl (Below.refl _ _)⟩
          ·obtain rfl:v13=.bool b3_:=(HF.out 13 (HD.out 13 (by simp[depsWv23]))).2 (λ_ h=>by cases h);refine wpOp_step rfl (λK1 hK=>?_);have HK:=hide hK;clear hK;go_simp;exact HK.out _ _ ⟨_,rfl,rfl,HG.out,.inl (Below.refl _ _)⟩
          ·cases b3_
           ·obtain rfl:v14=.bool false:=(HF.out 14 (HD.out 14 (by simp[depsWv23]))).2 (λ_ h=>by cases h);refine wpOp_step rfl (λK1 hK=>?_);have HK:=hide hK;clear hK;go_simp;exact HK.out _ _ ⟨_,rfl,λ_=>rfl,HG.out,.inl (Below.refl _ _)⟩
           ·obtain rfl:v14=.bool true:=(HF.out 14 (HD.out 14 (by simp[depsWv23]))).2 (λ_ h=>by cases h);refine wpOp_step rfl (λK1 hK=>?_);have HK:=hide hK;clear hK;go_simp;exact HK.out _ _ ⟨_,rfl,(λh=>by cases h),HG.out,.inl (Below.refl _ _)⟩
          ·cases b3_
           ·obtain rfl:v14=.bool false:=(HF.out 14 (HD.out 14 (by simp[depsWv23]))).2 (λ_ h=>by cases h);refine wpOp_step rfl (λK1 hK=>?_);have HK:=hide hK;clear hK;go_simp;exact HK.out _ _ ⟨_,rfl,λ_=>rfl,HG.out,.inl (Below.refl _ _)⟩
           ·obtain rfl:v14=.bool true:=(HF.out 14 (HD.out 14 (by simp[depsWv23]))).2 (λ_ h=>by cases h);refine wpOp_step rfl (λK1 hK=>?_);have HK:=hide hK;clear hK;go_simp;exact HK.out _ _ ⟨_,rfl,(λh=>by cases h),HG.out,.inl (Below.refl _ _)⟩
          ·cases b3_
           ·obtain rfl:v14=.bool false:=(HF.out 14 (HD.out 14 (by simp[depsWv23]))).2 (λ_ h=>by cases h);refine wpOp_step rfl (λK1 hK=>?_);have HK:=hide hK;clear hK;go_simp;exact HK.out _ _ ⟨_,rfl,λ_=>rfl,HG.out,.inl (Below.refl _ _)⟩
           ·obtain rfl:v14=.bool true:=(HF.out 14 (HD.out 14 (by simp[depsWv23]))).2 (λ_ h=>by cases h);refine wpOp_step rfl (λK1 hK=>?_);have HK:=hide hK;clear hK;go_simp;exact HK.out _ _ ⟨_,rfl,(λh=>by cases h),HG.out,.inl (Below.refl _ _)⟩
          ·cases b3_
           ·obtain rfl:v14=.bool false:=(HF.out 14 (HD.out 14 (by simp[depsWv23]))).2 (λ_ h=>by cases h);obtain rfl:v16=.slice (some ⟨bc,oc,none⟩) nc cc:=(HF.out 16 (HD.out 16 (by simp[depsWv23]))).2 (λ_ h=>by cases h) rfl;obtain rfl:v17=.int .i64 (q:Int):=(HF.out 17 (HD.out 17 (by simp[depsWv23]))).2 (λ_ h=>by cases h) rfl;refine wpOp_step rfl (λK1 hK=>?_);have HK:=hide hK;clear hK;go_simp;exact HK.out _ _ ⟨_,rfl,λ_=>rfl,HG.out,.inl (Below.refl _ _)⟩
           ·obtain rfl:v14=.bool true:=(HF.out 14 (HD.out 14 (by simp[depsWv23]))).2 (λ_ h=>by cases h);refine wpOp_step rfl (λK1 hK=>?_);have HK:=hide hK;clear hK;go_simp;exact HK.out _ _ ⟨_,rfl,(λh=>by cases h),HG.out,.inl (Below.refl _ _)⟩
          ·cases b3_
           ·obtain rfl:v14=.bool false:=(HF.out 14 (HD.out 14 (by simp[depsWv23]))).2 (λ_ h=>by cases h);obtain rfl:v18=.pointer (some ⟨bc,oc+q*14,none⟩):=(HF.out 18 (HD.out 18 (by simp[depsWv23]))).2 (λ_ h=>by cases h) rfl;refine wpOp_step rfl (λK1 hK=>?_);have HK:=hide hK;clear hK;go_simp;exact HK.out _ _ ⟨_,rfl,λ_=>rfl,HG.out,.inl (Below.refl _ _)⟩
           ·obtain rfl:v14=.bool true:=(HF.out 14 (HD.out 14 (by simp[depsWv23]))).2 (λ_ h=>by cases h);refine wpOp_step rfl (λK1 hK=>?_);have HK:=hide hK;clear hK;go_simp;exact HK.out _ _ ⟨_,rfl,(λh=>by cases h),HG.out,.inl (Below.refl _ _)⟩
          ·cases b3_
           ·obtain rfl:v14=.bool false:=(HF.out 14 (HD.out 14 (by simp[depsWv23]))).2 (λ_ h=>by cases h);obtain rfl:v19=.pointer (some ⟨bc,oc+q*14,none⟩):=(HF.out 19 (HD.out 19 (by simp[depsWv23]))).2 (λ_ h=>by cases h) rfl;have c9:=ah HG.out xR.out CS.out.1;refine wpOp_step rfl (λK1 hK=>?_);have HK:=hide hK;clear hK;go_simp;exact HK.out _ _ ⟨_,rfl,λ_=>rfl,HG.out,.inl (Below.refl _ _)⟩
           ·obtain rfl:v14=.bool true:=(HF.out 14 (HD.out 14 (by simp[depsWv23]))).2 (λ_ h=>by cases h);refine wpOp_step rfl (λK1 hK=>?_);have HK:=hide hK;clear hK;go_simp;exact HK.out _ _ ⟨_,rfl,(λh=>by cases h),HG.out,.inl (Below.refl _ _)⟩
          ·cases b3_
           ·obtain rfl:v14=.bool false:=(HF.out 14 (HD.out 14 (by simp[depsWv23]))).2 (λ_ h=>by cases h);refine wpOp_step rfl (λK1 hK=>?_);have HK:=hide hK;clear hK;go_simp;exact HK.out _ _ ⟨_,rfl,λ_=>rfl,HG.out,.inl (Below.refl _ _)⟩
           ·obtain rfl:v14=.bool true:=(HF.out 14 (HD.out 14 (by simp[depsWv23]))).2 (λ_ h=>by cases h);refine wpOp_step rfl (λK1 hK=>?_);have HK:=hide hK;clear hK;go_simp;exact HK.out _ _ ⟨_,rfl,(λh=>by cases h),HG.out,.inl (Below.refl _ _)⟩
          ·cases b3_
           ·obtain rfl:v14=.bool false:=(HF.out 14 (HD.out 14 (by simp[depsWv23]))).2 (λ_ h=>by cases h);refine wpOp_step rfl (λK1 hK=>?_);have HK:=hide hK;clear hK;go_simp;exact HK.out _ _ ⟨_,rfl,λ_=>rfl,HG.out,.inl (Below.refl _ _)⟩
           ·obtain rfl:v14=.bool true:=(HF.out 14 (HD.out 14 (by simp[depsWv23]))).2 (λ_ h=>by cases h);refine wpOp_step rfl (λK1 hK=>?_);have HK:=hide hK;clear hK;go_simp;exact HK.out _ _ ⟨_,rfl,(λh=>by cases h),HG.out,.inl (Below.refl _ _)⟩
          ·cases b3_
           ·obtain rfl:v14=.bool false:=(HF.out 14 (HD.out 14 (by simp[depsWv23]))).2 (λ_ h=>by cases h);obtain rfl:v21=.slice (some ⟨bp,op,none⟩) m8 c8:=(HF.out 21 (HD.out 21 (by simp[depsWv23]))).2 (λ_ h=>by cases h) rfl;obtain rfl:v22=.int .i64 (k:Int):=(HF.out 22 (HD.out 22 (by simp[depsWv23]))).2 (λ_ h=>by cases h) rfl;refine wpOp_step rfl (λK1 hK=>?_);have HK:=hide hK;clear hK;go_simp;exact HK.out _ _ ⟨_,rfl,λ_=>rfl,HG.out,.inl (Below.refl _ _)⟩
           ·obtain rfl:v14=.bool true:=(HF.out 14 (HD.out 14 (by simp[depsWv23]))).2 (λ_ h=>by cases h);refine wpOp_step rfl (λK1 hK=>?_);have HK:=hide hK;clear hK;go_simp;exact HK.out _ _ ⟨_,rfl,(λh=>by cases h),HG.out,.inl (Below.refl _ _)⟩
          ·cases b3_
           ·obtain rfl:v14=.bool false:=(HF.out 14 (HD.out 14 (by simp[depsWv23]))).2 (λ_ h=>by cases h);obtain rfl:v23=.pointer (some ⟨bp,op+k*4,none⟩):=(HF.out 23 (HD.out 23 (by simp[depsWv23]))).2 (λ_ h=>by cases h) rfl;refine wpOp_step rfl (λK1 hK=>?_);have HK:=hide hK;clear hK;go_simp;exact HK.out _ _ ⟨_,rfl,λ_=>rfl,HG.out,.inl (Below.refl _ _)⟩
           ·obtain rfl:v14=.bool true:=(HF.out 14 (HD.out 14 (by simp[depsWv23]))).2 (λ_ h=>by cases h);refine wpOp_step rfl (λK1 hK=>?_);have HK:=hide hK;clear hK;go_simp;exact HK.out _ _ ⟨_,rfl,(λh=>by cases h),HG.out,.inl (Below.refl _ _)⟩
          ·cases b3_
           ·obtain rfl:v14=.bool false:=(HF.out 14 (HD.out 14 (by simp[depsWv23]))).2 (λ_ h=>by cases h);obtain rfl:v24=.pointer (some ⟨bp,op+k*4+1,none⟩):=(HF.out 24 (HD.out 24 (by simp[depsWv23]))).2 (λ_ h=>by cases h) rfl;have c9:=ah (aa uA.out HG.out) XE.out Zj.out;refine wpOp_step rfl (λK1 hK=>?_);have HK:=hide hK;clear hK;go_simp;exact HK.out _ _ ⟨_,rfl,λ_=>rfl,HG.out,.inl (Below.refl _ _)⟩
           ·obtain rfl:v14=.bool true:=(HF.out 14 (HD.out 14 (by simp[depsWv23]))).2 (λ_ h=>by cases h);refine wpOp_step rfl (λK1 hK=>?_);have HK:=hide hK;clear hK;go_simp;exact HK.out _ _ ⟨_,rfl,(λh=>by cases h),HG.out,.inl (Below.refl _ _)⟩
          ·cases b3_
           ·obtain rfl:v14=.bool false:=(HF.out 14 (HD.out 14 (by simp[depsWv23]))).2 (λ_ h=>by cases h);obtain rfl:v15=.slice Aw nw cw:=(HF.out 15 (HD.out 15 (by simp[depsWv23]))).2 (λ_ h=>by cases h) rfl;obtain rfl:v20=.string fP.name:=(HF.out 20 (HD.out 20 (by simp[depsWv23]))).2 (λ_ h=>by cases h) rfl;obtain rfl:v25=.slice wS xx wX:=(HF.out 25 (HD.out 25 (by simp[depsWv23]))).2 (λ_ h=>by cases h) rfl;refine wpOp_step rfl (λK1 hK=>?_);have HK:=hide hK;clear hK;go_simp;go_at_call 11;refine (AZ V Aw nw cw ws (K5.out.below (aa WY.out HG.out)) fP.name wS xx wX p.row (Zl.out.below (aa uA.out HG.out))).mono ?_;rintro e w1 ⟨rfl,hb1⟩;rw[HWV.out];have HB1:=hide hb1;clear hb1;go_wp2_with fail;exact HK.out _ _ ⟨_,rfl,λ_=>rfl,aa HG.out HB1.out,.inl HB1.out⟩
           ·obtain rfl:v14=.bool true:=(HF.out 14 (HD.out 14 (by simp[depsWv23]))).2 (λ_ h=>by cases h);refine wpOp_step rfl (λK1 hK=>?_);have HK:=hide hK;clear hK;go_simp;exact HK.out _ _ ⟨_,rfl,(λh=>by cases h),HG.out,.inl (Below.refl _ _)⟩
          ·cases b3_
           ·obtain rfl:v14=.bool false:=(HF.out 14 (HD.out 14 (by simp[depsWv23]))).2 (λ_ h=>by cases h);obtain rfl:v26=.bool VG:=(HF.out 26 (HD.out 26 (by simp[depsWv23]))).2 (λ_ h=>by cases h) rfl;refine wpOp_step rfl (λK1 hK=>?_);have HK:=hide hK;clear hK;go_simp;exact HK.out _ _ ⟨_,rfl,show Value.bool VG=Value.bool R_ from by rw[<-HRR.out];rfl,HG.out,.inl (Below.refl _ _)⟩
           ·obtain rfl:v14=.bool true:=(HF.out 14 (HD.out 14 (by simp[depsWv23]))).2 (λ_ h=>by cases h);refine wpOp_step rfl (λK1 hK=>?_);have HK:=hide hK;clear hK;go_simp;exact HK.out _ _ ⟨_,rfl,show Value.bool true=Value.bool R_ from by rw[<-HRR.out];rfl,HG.out,.inl (Below.refl _ _)⟩
         ·intro L vs V hL hvl hG hF;obtain ⟨v0,vJ,rfl,hv0⟩:=af hvl;obtain ⟨v1,vs1,rfl,hv1⟩:=af hv0;obtain ⟨v2,vs2,rfl,hv2⟩:=af hv1;obtain ⟨v3,vs3,rfl,hv3⟩:=af hv2;obtain ⟨v4,AR,rfl,hv4⟩:=af hv3;obtain ⟨v5,AU,rfl,hv5⟩:=af hv4;obtain ⟨v6,AV,rfl,hv6⟩:=af hv5;obtain ⟨v7,AX,rfl,hv7⟩:=af hv6;obtain ⟨v8,AY,rfl,iY⟩:=af hv7;obtain ⟨v9,Gi,rfl,lG⟩:=af iY;obtain ⟨v10,rV,rfl,eH⟩:=af lG;obtain ⟨v11,rW,rfl,eO⟩:=af eH;obtain ⟨v12,uy,rfl,fH⟩:=af eO;obtain ⟨v13,uz,rfl,fI⟩:=af fH;obtain ⟨v14,wQ,rfl,gL⟩:=af fI;obtain ⟨v15,wR,rfl,gM⟩:=af gL;obtain ⟨v16,AJ,rfl,iR⟩:=af gM;obtain ⟨v17,AL,rfl,iT⟩:=af iR;obtain ⟨v18,AO,rfl,iU⟩:=af iT;obtain ⟨v19,AP,rfl,iW⟩:=af iU;obtain ⟨v20,AQ,rfl,iX⟩:=af iW;obtain ⟨v21,Em,rfl,kz⟩:=af iX;obtain ⟨v22,En,rfl,kC⟩:=af kz;obtain ⟨v23,IM,rfl,mI⟩:=af kC;obtain ⟨v24,IP,rfl,hv24⟩:=af mI;obtain ⟨v25,IQ,rfl,hv25⟩:=af hv24;obtain ⟨v26,IR,rfl,mJ⟩:=af hv25;obtain ⟨v27,IU,rfl,hv27⟩:=af mJ;obtain rfl:=fo hv27;clear hvl hv0 hv1 hv2 hv3 hv4 hv5 hv6 hv7 iY lG eH eO fH fI gL gM iR iT iU iW iX kz kC mI hv24 hv25 mJ hv27;have HG:=hide hG;have HF:=hide hF;have HL:=hide hL;clear hG hF hL;obtain rfl:v27=.bool R_:=HF.out 27 (by show 27<28;omega) rfl;have Ew:=hide (aa uA.out HG.out);cases R_;rotate_left
          ·have GA:Hid (WB fP=false):=hide (by rw[JM.out,HOWE.out];have h:=HRR.out;cases b3_ <;> simp_all);have HN:Hid (((cs.take (q+1)).filter WB).map Chk.name=((cs.take q).filter WB).map Chk.name):=hide (by rw[bg Rk.out,List.filter_append,List.filter_cons_of_neg (by rw[GA.out];simp)];simp);have qG:=hide (oG.out.below HG.out);go_wp2;all_goals (try (exfalso;go_light;simp_all;done));go_roundw
           case rel=>exact ⟨q+1,by omega,by go_num,by rw[HN.out];exact qG.out,Ew.out⟩
           case measure=>simp[RowKit.intOf];omega
          have h3_:b3_=false:=by have h:=HRR.out;cases b3_ <;> simp_all
          have hW_:VG=false:=by have h:=HRR.out;cases VG <;> simp_all
          have HOWN:Hid (ownB nR fP=true):=hide (by rw[HOWE.out,h3_];rfl);rw[hW_]at JM;clear h3_ hW_;obtain ⟨XL,rfl⟩: ∃W,W=V:=⟨_,rfl⟩;have Lu:=hide (aa WY.out HG.out);have U8:=hide (oG.out.below HG.out);have Lv:=hide (Ew.out);have UO:=hide (show _/\_/\_/\_/\_/\_/\_/\_/\_/\_/\_/\_/\_/\_ from (by
           obtain ⟨z0,z1,z2,z3,z4,z5,z6,z7,z8,z9,X6,X7,z12,X8⟩:=CS.out;exact ⟨ah HG.out xR.out z0,ah HG.out xR.out z1,ah HG.out xR.out z2,ah HG.out xR.out z3,ah HG.out xR.out z4,ah HG.out xR.out z5,ah HG.out xR.out z6,ah HG.out xR.out z7,ah HG.out xR.out z8,ah HG.out xR.out z9,ah HG.out xR.out X6,ah HG.out xR.out X7,ah HG.out xR.out z12,ah HG.out xR.out X8⟩))
          have tL:=hide (Nat.lt_of_lt_of_le xR.out HG.out.size);have I24:=hide (CI1.out.below HG.out);have I25:=hide (CI2.out.below HG.out);have I26:=hide (CI3.out.below HG.out);obtain ⟨bz,oz,xo,ez,hbz,hxz,Pk,Q5,Qb,O4,Pg,cp2,Pm,Q6,Qc,f0,f1,f2,f3,hi1,hi3⟩:=K4.out.rel (k:=0) (by omega);injection ez with ez;injection ez with ez ezb;subst ez ezb;have hxo:xo=rM orows []:=by have:=hxz.out;simp at this;exact this.symm
          subst hxo;simp only[Nat.zero_mul,Nat.add_zero]at f0 f1 f2 f3;have F0:=hide f0;have F1:=hide f1;have F2:=hide f2;have F3:=hide f3;have OB:=hide hbz;have IO1:=hide hi1;have IO3:=hide hi3;clear f0 f1 f2 f3 hbz hi1 hi3 hxz;have hvcc:=HVC.out fP (aH Rk.out);have HVR:=hide λW (hb:Below XL.heap.size XL W)=>wP W fP B1 p1 XY (I24.out.below hb) B2 p2 XZ (I25.out.below hb) B3 p3 X4 (I26.out.below hb) nR A1 3 3 gV (K1.out.below (aa Lu.out hb)) none 0 0 (some ⟨b5,o5,none⟩) n5 c5 rows (K2.out.below (aa Lu.out hb)) nO Pk Q5 Qb gV (IO1.out.below (aa Lu.out hb)) O4 Pg cp2 Pm Q6 Qc orows (IO3.out.below (aa Lu.out hb)) none 0 0 [] In.nil_ (by rw[<-CI1.out.len];exact (sw (qF.out fP (aH Rk.out))).1) (by rw[<-CI2.out.len];exact (sw (qF.out fP (aH Rk.out))).2) (by omega) (by have:=IO1.out.len;simp[rM,gV]at this;omega);obtain ⟨VL,ZR⟩: ∃l,(jZ fP gV gV rows orows []).2=l:=⟨_,rfl⟩;obtain ⟨hvz,UE⟩:=hvcc;simp only[hvz,ZR,aB]at HVR;rw[ZR]at UE;have HVD:=hide UE;have GQN:Hid (Str fP.name):=hide COK.out.1;clear UE hvz ZR;clear HG HF HL;go_upto_region 24 with (fail);refine cZ (by kernel_rfl) fE (by kernel_rfl) (λV V'=>Below V.heap.size V V') (λvs=>⟨#[.slice A n c,.slice A2 n2 c2,.int .i64 which,.int .i64 rw_,undef,undef,undef,undef,u8,.pointer (some ⟨gr,0,none⟩),.slice (some ⟨bc,oc,none⟩) nc cc,.slice (some ⟨bo,oo,none⟩) 1 1,.slice Aw nw cw,.pointer (some ⟨gx,0,none⟩),.slice A7 m7 c7,.slice (some ⟨bp,op,none⟩) m8 c8,.int .i64 0,.slice Aa ma ca,.slice Ab mb cb,.int .i64 0,.int .i64 ↑qa,.int .i64 ↑k,u22,.int .i64 ↑q,(vs.getD 12 (.bool false)),(vs.getD 13 (.bool false)),u26,u27,u28,u29,u30,u31,u32,u33,u34,u35,u36,u37,u38,u39,u40,u41,u42,u43,u44,u45,u46,u47,u48,u49,u50,u51,u52,u53,u54,u55,u56,u57,u58,u59,u60,u61,u62,u63,u64,u65,u66,u67,u68,u69,u70,u71,u72,u73,u74,u75,u76,u77,u78,u79,u80,u81,u82,u83,u84,u85,u86,u87,u88,u89,u90,u91,u92,u93,u94,u95,u96,u97,u98,u99,u100,u101,u102,u103,u104,u105,u106,u107,u108,u109,u110,u111,u112,u113,.int .i64 ↑qa,.slice A7 m7 c7,.int .i64 ↑m7,.bool false,u118,u119,u120,u121,u122,u123,u124,u125,u126,u127,u128,u129,u130,u131,u132,.int .i64 ↑k,.slice (some ⟨bp,op,none⟩) m8 c8,.int .i64 ↑m8,.bool true,u137,u138,.int .i64 ↑q,.slice (some ⟨bc,oc,none⟩) nc cc,.int .i64 ↑nc,.bool true,u143,u144,v0,v1,v2,v3,v4,v5,v6,v7,v8,v9,v10,v11,v12,v13,v14,v15,v16,v17,v18,v19,v20,v21,v22,v23,v24,v25,v26,.bool false,(vs.getD 9 (.bool false)),(vs.getD 0 (.bool false)),(vs.getD 1 (.bool false)),(vs.getD 2 (.bool false)),(vs.getD 3 (.bool false)),(vs.getD 4 (.bool false)),(vs.getD 5 (.bool false)),(vs.getD 6 (.bool false)),(vs.getD 7 (.bool false)),(vs.getD 8 (.bool false)),(vs.getD 10 (.bool false)),(vs.getD 11 (.bool false)),u185,u186,u187,u188,u189,u190,u191,u192,u193,u194,u195,u196,u197,u198,u199,u200,u201,u202,u203,u204,u205,u206,u207,u208,u209,u210,u211,u212,u213,undef],[]⟩) 14 (by decide) (λL V=>Below XL.heap.size XL V) Hz VF (L6 bc oc nc cc q n5 c5 b5 o5 bo oo p1 XY p2 XZ p3 X4 Q5 Qb Pg cp2 Q6 Qc A1 B1 B2 B3 Pk O4 Pm fP VL) (λ_ _=>True) KD (L8 bc oc nc cc q n5 c5 b5 o5 bo oo p1 XY p2 XZ p3 X4 Q5 Qb Pg cp2 Q6 Qc A1 B1 B2 B3 Pk O4 Pm fP VL) [_,_,_,_,_,_,_,_,_,_,_,_,_,_] rfl rfl (λ_=>trivial) ((Below.refl _ _).drew) ?_ ?_
          ·intro L i vs V hi hvl hL hd hG hF nY;obtain ⟨v0,vJ,rfl,hv0⟩:=af hvl;obtain ⟨v1,vs1,rfl,hv1⟩:=af hv0;obtain ⟨v2,vs2,rfl,hv2⟩:=af hv1;obtain ⟨v3,vs3,rfl,hv3⟩:=af hv2;obtain ⟨v4,AR,rfl,hv4⟩:=af hv3;obtain ⟨v5,AU,rfl,hv5⟩:=af hv4;obtain ⟨v6,AV,rfl,hv6⟩:=af hv5;obtain ⟨v7,AX,rfl,hv7⟩:=af hv6;obtain ⟨v8,AY,rfl,iY⟩:=af hv7;obtain ⟨v9,Gi,rfl,lG⟩:=af iY;obtain ⟨v10,rV,rfl,eH⟩:=af lG;obtain ⟨v11,rW,rfl,eO⟩:=af eH;obtain ⟨v12,uy,rfl,fH⟩:=af eO;obtain ⟨v13,uz,rfl,fI⟩:=af fH;obtain rfl:=fo fI;clear hvl hv0 hv1 hv2 hv3 hv4 hv5 hv6 hv7 iY lG eH eO fH fI;have hi:i<14:=hi;have HG:=hide hG;have HF:=hide hF;have HD:=hide hd;have qV:=hide hL;have Gn:=hide nY;clear hG hF hd hL nY;obtain rfl|rfl|rfl|rfl|rfl|rfl|rfl|rfl|rfl|rfl|rfl|rfl|rfl|rfl:i=0\/i=1\/i=2\/i=3\/i=4\/i=5\/i=6\/i=7\/i=8\/i=9\/i=10\/i=11\/i=12\/i=13:=by omega
           ·refine wpOp_step rfl (λK1 hK=>?_);have HK:=hide hK;clear hK;go_simp;exact HK.out _ _ ⟨_,rfl,rfl,HG.out,.inl (Below.refl _ _)⟩
           ·refine wpOp_step rfl (λK1 hK=>?_);have HK:=hide hK;clear hK;go_simp;exact HK.out _ _ ⟨_,rfl,rfl,HG.out,.inl (Below.refl _ _)⟩
           ·obtain rfl:v0=.slice (some ⟨bc,oc,none⟩) nc cc:=(HF.out 0 (HD.out 0 (by simp[fE]))).2 (λ_ h=>by cases h);obtain rfl:v1=.int .i64 (q:Int):=(HF.out 1 (HD.out 1 (by simp[fE]))).2 (λ_ h=>by cases h);refine wpOp_step rfl (λK1 hK=>?_);have HK:=hide hK;clear hK;go_simp;exact HK.out _ _ ⟨_,rfl,rfl,HG.out,.inl (Below.refl _ _)⟩
           ·obtain rfl:v2=.pointer (some ⟨bc,oc+q*14,none⟩):=(HF.out 2 (HD.out 2 (by simp[fE]))).2 (λ_ h=>by cases h);obtain ⟨z0,z1,z2,z3,z4,z5,z6,z7,z8,z9,X6,X7,z12,X8⟩:=UO.out;have z0:=ah HG.out tL.out z0;have z1:=ah HG.out tL.out z1;have z2:=ah HG.out tL.out z2;have z3:=ah HG.out tL.out z3;have z4:=ah HG.out tL.out z4;have z5:=ah HG.out tL.out z5;have z6:=ah HG.out tL.out z6;have z7:=ah HG.out tL.out z7;have z8:=ah HG.out tL.out z8;have z9:=ah HG.out tL.out z9;have X6:=ah HG.out tL.out X6;have X7:=ah HG.out tL.out X7;have z12:=ah HG.out tL.out z12;have X8:=ah HG.out tL.out X8;refine wpOp_step rfl (λK1 hK=>?_);have HK:=hide hK;clear hK;go_simp;exact HK.out _ _ ⟨_,rfl,rfl,HG.out,.inl (Below.refl _ _)⟩
           ·obtain ⟨y0,y1,y2,y3⟩:_/\_/\_/\_:=⟨ah (aa Lu.out HG.out) Jb.out R0.out,ah (aa Lu.out HG.out) Jb.out R1.out,ah (aa Lu.out HG.out) Jb.out R2.out,ah (aa Lu.out HG.out) Jb.out R3.out⟩;refine wpOp_step rfl (λK1 hK=>?_);have HK:=hide hK;clear hK;go_simp;exact HK.out _ _ ⟨_,rfl,rfl,HG.out,.inl (Below.refl _ _)⟩
           ·refine wpOp_step rfl (λK1 hK=>?_);have HK:=hide hK;clear hK;go_simp;exact HK.out _ _ ⟨_,rfl,rfl,HG.out,.inl (Below.refl _ _)⟩
           ·obtain rfl:v5=.slice (some ⟨bo,oo,none⟩) 1 1:=(HF.out 5 (HD.out 5 (by simp[fE]))).2 (λ_ h=>by cases h);refine wpOp_step rfl (λK1 hK=>?_);have HK:=hide hK;clear hK;go_simp;exact HK.out _ _ ⟨_,rfl,rfl,HG.out,.inl (Below.refl _ _)⟩
           ·obtain rfl:v6=.pointer (some ⟨bo,oo,none⟩):=(HF.out 6 (HD.out 6 (by simp[fE]))).2 (λ_ h=>by cases h);obtain ⟨y0,y1,y2,y3⟩:_/\_/\_/\_:=⟨ah (aa Lu.out HG.out) OB.out F0.out,ah (aa Lu.out HG.out) OB.out F1.out,ah (aa Lu.out HG.out) OB.out F2.out,ah (aa Lu.out HG.out) OB.out F3.out⟩;refine wpOp_step rfl (λK1 hK=>?_);have HK:=hide hK;clear hK;go_simp;exact HK.out _ _ ⟨_,rfl,rfl,HG.out,.inl (Below.refl _ _)⟩
           ·obtain rfl:v3=.agg #[.string fP.name,.string fP.table,.int .i64 fP.kind,.slice B1 p1 XY,.string fP.other,.slice B2 p2 XZ,.int .i64 fP.low,.int .i64 fP.high,.slice B3 p3 X4,.int .i64 fP.ln,.int .i64 fP.ld,.int .i64 fP.mn,.int .i64 fP.md,.int .i64 fP.policy]:=(HF.out 3 (HD.out 3 (by simp[fE]))).2 (λ_ h=>by cases h);obtain rfl:v4=.agg #[.string ⟨#[114]⟩,.slice A1 3 3,.slice none 0 0,.slice (some ⟨b5,o5,none⟩) n5 c5]:=(HF.out 4 (HD.out 4 (by simp[fE]))).2 (λ_ h=>by cases h);obtain rfl:v7=.agg #[.string nO,.slice Pk Q5 Qb,.slice O4 Pg cp2,.slice Pm Q6 Qc]:=(HF.out 7 (HD.out 7 (by simp[fE]))).2 (λ_ h=>by cases h);refine wpOp_step rfl (λK1 hK=>?_);have HK:=hide hK;clear hK;go_simp;go_at_call 16;refine (HVR.out _ HG.out).mono ?_;rintro e w1 ⟨⟨vv,rfl,hol⟩,hb1⟩;obtain ⟨Av,cv,rfl,FB⟩:=Oo hol;have O6:=hide FB;have HB1:=hide hb1;clear hol FB hb1;go_wp2_with fail;exact HK.out _ _ ⟨_,rfl,⟨_,_,_,rfl,O6.out⟩,aa HG.out HB1.out,.inl HB1.out⟩
           ·obtain ⟨Av,mv,cv,rfl,FB⟩: ∃A9 m9 c9,v8=.tuple #[.slice A9 m9 c9,.int .i64 0]/\In V A9 m9 c9 VL:=(HF.out 8 (HD.out 8 (by simp[fE]))).2 (λ_ h=>by cases h);have O6:=hide FB;clear FB;refine wpOp_step rfl (λK1 hK=>?_);have HK:=hide hK;clear hK;go_simp;exact HK.out _ _ ⟨_,rfl,⟨_,_,_,rfl,O6.out⟩,HG.out,.inl (Below.refl _ _)⟩
           ·obtain ⟨Av,mv,cv,rfl,FB⟩: ∃A9 m9 c9,v9=.tuple #[.slice A9 m9 c9,.int .i64 0]/\In V A9 m9 c9 VL:=(HF.out 9 (HD.out 9 (by simp[fE]))).2 (λ_ h=>by cases h);have O6:=hide FB;clear FB;refine wpOp_step rfl (λK1 hK=>?_);have HK:=hide hK;clear hK;go_simp;exact HK.out _ _ ⟨_,rfl,⟨_,_,_,rfl,O6.out⟩,HG.out,.inl (Below.refl _ _)⟩
           ·obtain ⟨Av,mv,cv,rfl,FB⟩: ∃A9 m9 c9,v9=.tuple #[.slice A9 m9 c9,.int .i64 0]/\In V A9 m9 c9 VL:=(HF.out 9 (HD.out 9 (by simp[fE]))).2 (λ_ h=>by cases h);have O6:=hide FB;clear FB;refine wpOp_step rfl (λK1 hK=>?_);have HK:=hide hK;clear hK;go_simp;exact HK.out _ _ ⟨_,rfl,rfl,HG.out,.inl (Below.refl _ _)⟩
           ·obtain ⟨Av,mv,cv,rfl,FB⟩: ∃A9 m9 c9,v10=.slice A9 m9 c9/\In V A9 m9 c9 VL:=(HF.out 10 (HD.out 10 (by simp[fE]))).2 (λ_ h=>by cases h);have O6:=hide FB;clear FB;refine wpOp_step rfl (λK1 hK=>?_);have HK:=hide hK;clear hK;go_simp;exact HK.out _ _ ⟨_,rfl,⟨_,_,_,rfl,O6.out⟩,HG.out,.inl (Below.refl _ _)⟩
           ·obtain rfl:v11=.int .i64 0:=(HF.out 11 (HD.out 11 (by simp[fE]))).2 (λ_ h=>by cases h);refine wpOp_step rfl (λK1 hK=>?_);have HK:=hide hK;clear hK;go_simp;exact HK.out _ _ ⟨_,rfl,rfl,HG.out,.inl (Below.refl _ _)⟩
          ·intro L vs V hL hvl hG hF;obtain ⟨v0,vJ,rfl,hv0⟩:=af hvl;obtain ⟨v1,vs1,rfl,hv1⟩:=af hv0;obtain ⟨v2,vs2,rfl,hv2⟩:=af hv1;obtain ⟨v3,vs3,rfl,hv3⟩:=af hv2;obtain ⟨v4,AR,rfl,hv4⟩:=af hv3;obtain ⟨v5,AU,rfl,hv5⟩:=af hv4;obtain ⟨v6,AV,rfl,hv6⟩:=af hv5;obtain ⟨v7,AX,rfl,hv7⟩:=af hv6;obtain ⟨v8,AY,rfl,iY⟩:=af hv7;obtain ⟨v9,Gi,rfl,lG⟩:=af iY;obtain ⟨v10,rV,rfl,eH⟩:=af lG;obtain ⟨v11,rW,rfl,eO⟩:=af eH;obtain ⟨v12,uy,rfl,fH⟩:=af eO;obtain ⟨v13,uz,rfl,fI⟩:=af fH;obtain rfl:=fo fI;clear hvl hv0 hv1 hv2 hv3 hv4 hv5 hv6 hv7 iY lG eH eO fH fI;have HG:=hide hG;have HF:=hide hF;have HL:=hide hL;clear hG hF hL;obtain ⟨Av,nv,cv,rfl,FB⟩: ∃A9 m9 c9,v12=.slice A9 m9 c9/\In V A9 m9 c9 VL:=HF.out 12 (by show 12<14;omega) rfl;obtain rfl:v13=.int .i64 0:=HF.out 13 (by show 13<14;omega) rfl;have O6:=hide FB;obtain ⟨V24,rfl⟩: ∃W,W=V:=⟨_,rfl⟩;have Yj:=hide HG.out;have Me:=hide (aa Ew.out HG.out);clear FB HG HF HL;have c9:=ah Me.out XE.out Zj.out;go_wp2_with fail;refine (Cc _ Av nv cv VL O6.out wS xx wX p.row (Zl.out.below Me.out)).mono ?_;rintro e z1 ⟨rfl,hc1⟩;have HBz:=hide (aa Me.out hc1);have Ym:=hide (aa Yj.out hc1);obtain ⟨CT,Uy⟩: ∃z,cntF VL p.row=z:=⟨_,rfl⟩;have hvd:=HVD.out;rw[Uy]at hvd⊢;clear Uy hc1 c9;cases hvb:bN fP gV gV rows orows [] p.row
           ·have hnl:¬(0<CT):=by rw[hvb]at hvd;simpa using hvd
            have GA:Hid (WB fP=false):=hide (by rw[JM.out,hvb];simp);have HN:Hid (((cs.take (q+1)).filter WB).map Chk.name=((cs.take q).filter WB).map Chk.name):=hide (by rw[bg Rk.out,List.filter_append,List.filter_cons_of_neg (by rw[GA.out];simp)];simp);have qG:=hide (U8.out.below Ym.out);clear hvd hvb;go_wp2;all_goals (try (exfalso;go_light;simp_all;done));go_roundw
            case rel=>exact ⟨q+1,by omega,by go_num,by rw[HN.out];exact qG.out,HBz.out⟩
            case measure=>simp[RowKit.intOf];omega
           ·have hl:0<CT:=by rw[hvb]at hvd;simpa using hvd
            have Y9:Hid (WB fP=true):=hide (by rw[JM.out,HOWN.out,hvb];rfl);have HN:Hid (((cs.take (q+1)).filter WB).map Chk.name=((cs.take q).filter WB).map Chk.name++[fP.name]):=hide (by rw[bg Rk.out,List.filter_append,List.filter_cons_of_pos (by rw[Y9.out])];simp);have xU:Hid ((((cs.take q).filter WB).map Chk.name).length<=4):=hide (by rw[List.length_map];exact Nat.le_trans (List.length_filter_le _ _) (by rw[List.length_take];omega));have qG:=hide (U8.out.below Ym.out);obtain ⟨NS,hNS⟩: ∃l,((cs.take q).filter WB).map Chk.name=l:=⟨_,rfl⟩;rw[hNS]at HN xU qG;clear hNS hvd hvb;have c9:=ah Ym.out tL.out UO.out.1;have zi:NS.length+1<=maxLen:=by have:=xU.out;simp only[maxLen];omega
            have zk:(NS.length+1)*16<=140737488355328:=by have:=xU.out;omega
            have PO:Hid (Rep.rd z1 (BS wo.heap.size (λ_=>False) [] z1) [.string fP.name] fP.name):=hide ⟨rfl,GQN.out⟩;go_wp2_with (at_builtin;refine bF _ rfl _ _ _ rfl Cf (by simp) z1 _ rfl qG.out rfl rfl fP.name PO.out zi zk ?_;intro v9 w9 oQ fK qR kJ);all_goals (try (exfalso;go_light;simp_all;done));have HO8:=hide oQ;have uB:=hide (HBz.out.trans fK);clear oQ fK qR kJ;go_wp2;all_goals (try (exfalso;go_light;simp_all;done));go_roundw
            case rel=>exact ⟨q+1,by omega,by go_num,by rw[HN.out];exact HO8.out,uB.out⟩
            case measure=>simp[RowKit.intOf];omega
        ·have hqe:q=nc:=by omega
         have HQL:Hid (((cs.take q).filter WB).map Chk.name=p.checks):=hide (by rw[YR.out.1,hqe,<-K3.out.len,List.take_length]);rw[HQL.out]at oG;obtain ⟨Az,cz,hve,QS⟩:=Oo oG.out;have hnp:=PI2.out.len;rw[hnp]at hve QS;have HIW:=hide QS;have hnz:npc≠0:=λh=>YR.out.2 (List.eq_nil_of_length_eq_zero (by rw[hnp,h]));have d27:((npc:Int)==0)=false:=by simp;omega
         subst hve;clear QS hnp hnz hqe HQL;have c9:=ah uA.out XE.out PF3.out;go_wp2_with fail;refine (Ed _ Apc npc cpc Az cz p.checks (PI2.out.below uA.out) HIW.out).mono ?_;rintro e w9 ⟨rfl,fK⟩;have xS:=hide (aa HB3.out (aa uA.out fK));clear fK;go_wp2;all_goals (try (exfalso;go_light;simp_all;done));go_roundw
         case rel=>exact ⟨k+1,by omega,by go_num,xS.out⟩
         case measure=>simp[RowKit.intOf];omega
      ·go_wp2_with fail;refine (lI _ (KW.out.below (aa kH.out HB3.out))).mono ?_;rintro e w9 ⟨rfl,fK⟩;have xS:=hide (aa (aa Ey.out (aa kH.out HB3.out)) fK);go_wp2;go_ret;exact ⟨rfl,xS.out⟩
end Go.Proofs.YtopjjlmfilgngaaGreatDoor
