/-
  Kinds of operands: scalar.kind's methods, scalar.common, slices.ContainsFunc over kinds; the reference's fits and common. partition.day, Day, check; warehouseref22.Day, days. How a check, an inspection and a relation read as arguments.
-/
import Derived.Test.YtggejcekmehocaaGreatDoorProg
import Derived.Test.YtggejcekmehocaaGreatDoorStk
import Derived.Test.YtggejcekmehocaaGreatDoorGaa
import Derived.Test.YtggejcekmehocaaGreatDoorGah
import Derived.Test.YtggejcekmehocaaGreatDoorGaf
import Derived.Test.YtggejcekmehocaaGreatDoorGac
import Derived.Test.YtggejcekmehocaaGreatDoorTop
import Derived.Test.YtggejcekmehocaaGreatDoorGal
namespace Go.Proofs.YtggejcekmehocaaGreatDoor
set_option maxHeartbeats 1000000
set_option maxRecDepth 100000
open Go.RowKit
set_option linter.unusedSimpArgs false
set_option linter.unusedVariables false
def Kd.cells (x:Kd):List Value:=[.int .i64 x.kind,.bool x.null]
instance:Rep Kd where
 size:=2
 rd _ _ cs x:=cs=x.cells/\ig x.kind
 len h:=by rw[h.1];rfl
 keep _ h:=h
 mono _ h:=h
instance:Flat Kd where
 cs x:=x.cells
 ok x:=ig x.kind
 rd_mk _ _ _ h:=⟨rfl,h⟩
 cs_len _:=rfl
 cs_one v u hu:=by simp[Kd.cells]at hu;rcases hu with rfl|rfl <;> rfl
 pos:=by decide
theorem In.kd {w:World}{A:Option Addr}{n c k:Nat}{xs:List Kd}(h:In w A n c xs)(hk:k<n): ∃b off x,A=some ⟨b,off,none⟩/\b<w.heap.size/\Hid (xs.drop k=x :: xs.drop (k+1))/\
  w.cell? ⟨b,off+k*2,none⟩=some (.int .i64 x.kind)/\w.cell? ⟨b,off+k*2+1,none⟩=some (.bool x.null)/\ig x.kind:=by
 obtain ⟨b,off,x,e,hb,hx,cs,⟨rfl,hv⟩,hc⟩:=h.get hk
 exact ⟨b,off,x,e,hb,hx,hc 0 (by simp[Kd.cells]),hc 1 (by simp[Kd.cells]),hv⟩
theorem lF (k:Int)(b:Bool)(need:Int)(w:World):Calls Tryz.prog 210 #[.agg #[.int .i64 k,.bool b],.int .i64 need] w λe w'=>e=.returned (.bool (fits ⟨k,b⟩ need))/\Below w.heap.size w w':=by
 go_enter Tryz.func210,Tryz.ntmps210
 go_wp2
 all_goals (go_ret;refine ⟨ay ?_,af⟩;go_light;simp_all[fits])
theorem eD (k:Int)(b:Bool)(need:Int)(w:World):Calls Tryz.prog 186 #[.agg #[.int .i64 k,.bool b],.int .i64 need] w λe w'=>e=.returned (.bool (fits ⟨k,b⟩ need))/\Below w.heap.size w w':=by
 go_enter Tryz.func186,Tryz.ntmps186
 go_wp2
 all_goals (go_ret;refine ⟨ay ?_,af⟩;go_light;simp_all[fits])
theorem mI (k k':Int)(b b':Bool)(w:World):Calls Tryz.prog 211 #[.agg #[.int .i64 k,.bool b],.agg #[.int .i64 k',.bool b']] w λe w'=>e=.returned (.tuple #[.int .i64 (common ⟨k,b⟩ ⟨k',b'⟩).1,.bool (common ⟨k,b⟩ ⟨k',b'⟩).2])/\Below w.heap.size w w':=by
 by_cases h0:k=0
 ·subst h0
  go_enter Tryz.func211,Tryz.ntmps211
  go_wp2
  go_ret2
  exact ⟨by simp[common],below_alloc2⟩
 ·have q:(k==0)=false:=by simpa using h0
  have HC:Hid (common ⟨k,b⟩ ⟨k',b'⟩=(k,fits ⟨k',b'⟩ k)):=hide (by simp[common,h0])
  clear h0
  go_enter Tryz.func211,Tryz.ntmps211
  go_wp2
  go_region_held3 (λV=>V.cell? ⟨w.heap.size,0,none⟩=some (.int .i64 k)/\V.cell? ⟨w.heap.size+1,0,none⟩=some (.int .i64 k')/\V.cell? ⟨w.heap.size+1,1,none⟩=some (.bool b')/\Below w.heap.size w V) (first|exact ⟨by go_keep,by go_keep,by go_keep,below_alloc2.drew⟩|exact ⟨ah hb1 (by simp;omega) (by simp[go_sem]),ah hb1 (by simp) (by simp[go_sem]),ah hb1 (by simp) (by simp[go_sem]),aa below_alloc2.drew hb1⟩) (first|(go_at_call 210;refine (lF _ _ _ _).mono ?_;rintro e w1 ⟨rfl,hb1⟩))
  go_wp2
  go_ret2
  exact ⟨by rw[HC.out];rfl,aa below_alloc2.drew hb1⟩
theorem ic (k k':Int)(b b':Bool)(w:World):Calls Tryz.prog 185 #[.agg #[.int .i64 k,.bool b],.agg #[.int .i64 k',.bool b']] w λe w'=>e=.returned (.tuple #[.int .i64 (common ⟨k,b⟩ ⟨k',b'⟩).1,.bool (common ⟨k,b⟩ ⟨k',b'⟩).2])/\Below w.heap.size w w':=by
 by_cases h0:k=0
 ·subst h0
  go_enter Tryz.func185,Tryz.ntmps185
  go_wp2
  go_ret2
  exact ⟨by simp[common],below_alloc2⟩
 ·have q:(k==0)=false:=by simpa using h0
  have HC:Hid (common ⟨k,b⟩ ⟨k',b'⟩=(k,fits ⟨k',b'⟩ k)):=hide (by simp[common,h0])
  clear h0
  go_enter Tryz.func185,Tryz.ntmps185
  go_wp2
  go_region_held3 (λV=>V.cell? ⟨w.heap.size,0,none⟩=some (.int .i64 k)/\V.cell? ⟨w.heap.size+1,0,none⟩=some (.int .i64 k')/\V.cell? ⟨w.heap.size+1,1,none⟩=some (.bool b')/\Below w.heap.size w V) (first|exact ⟨by go_keep,by go_keep,by go_keep,below_alloc2.drew⟩|exact ⟨ah hb1 (by simp;omega) (by simp[go_sem]),ah hb1 (by simp) (by simp[go_sem]),ah hb1 (by simp) (by simp[go_sem]),aa below_alloc2.drew hb1⟩) (first|(go_at_call 186;refine (eD _ _ _ _).mono ?_;rintro e w1 ⟨rfl,hb1⟩))
  go_wp2
  go_ret2
  exact ⟨by rw[HC.out];rfl,aa below_alloc2.drew hb1⟩
theorem Q5 (k:Int)(b:Bool)(w:World):Calls Tryz.prog 209 #[.agg #[.int .i64 k,.bool b]] w λe w'=>e=.returned (.bool b)/\Below w.heap.size w w':=by
 go_enter Tryz.func209,Tryz.ntmps209
 go_wp2
 go_ret
 exact ⟨rfl,af⟩
def pR:Nat->List Kd->Int
 | _,[]=> -1
 |k,x :: l=>if x.null then k else pR (k+1) l
theorem zC: ∀(l:List Kd) (k:Nat),decide (0<=pR k l)=l.any Kd.null
 | [],_=>rfl
 |x :: l,k=>by
  rw[pR,List.any_cons]
  cases h:x.null
  ·simpa using zC l (k+1)
  ·simp
theorem CO (w:World)(A:Option Addr)(n c:Nat)(xs:List Kd)(hx:In w A n c xs):
  Calls Tryz.prog 237 #[.slice A n c,.func (.func 209) #[] #[]] w
   λe w'=>e=.returned (.int .i64 (pR 0 xs))/\Below w.heap.size w w':=by
 have h63:=hx.le
 go_enter Tryz.func237,Tryz.ntmps237
 go_wp2
 go_loopw [8] (λi wr=> ∃k:Nat,k<=n/\i=.int .i64 k/\pR 0 xs=pR k (xs.drop k)/\Below w.heap.size w wr) (λi _=>n-(intOf i).toNat)
 case atStart=>exact ⟨0,Nat.zero_le _,rfl,rfl,Below.refl _ _⟩
 case round=>
  obtain ⟨k,hk,rfl,heq,hb⟩:=hrel
  have HE:=hide heq
  clear heq
  by_cases hlt':k<n
  ·obtain ⟨b,off,x,rfl,hB,HX,e0,e1,e3⟩:=(hx.below hb).kd hlt'
   go_wp2_with fail
   refine (Q5 _ _ _).mono ?_
   rintro e w1 ⟨rfl,hb1⟩
   have hbb:=aa hb hb1
   clear hb1 e0 e1
   cases hz:x.null
   ·go_wp2
    go_roundw
    case rel=>exact ⟨k+1,by omega,by go_num,by rw[HE.out,HX.out,pR,if_neg (by simp[hz])],hbb⟩
    case measure=>simp[intOf];omega
   ·go_wp2
    go_ret
    exact ⟨ak (by rw[HE.out,HX.out,pR,if_pos hz]),hbb⟩
  ·go_wp2
   go_ret
   exact ⟨ak (by rw[HE.out,aP hx.len (by omega),pR]),hb⟩
theorem dJ (w:World)(A:Option Addr)(n c:Nat)(xs:List Kd)(hx:In w A n c xs):
  Calls Tryz.prog 208 #[.slice A n c,.func (.func 209) #[] #[]] w
   λe w'=>e=.returned (.bool (xs.any Kd.null))/\Below w.heap.size w w':=by
 have HN:=hide (zC xs 0)
 go_enter Tryz.func208,Tryz.ntmps208
 go_wp2_with fail
 refine (CO _ _ _ _ xs hx).mono ?_
 rintro e w1 ⟨rfl,hb1⟩
 go_wp2
 go_ret
 exact ⟨ay HN.out,hb1⟩
theorem iU {cols:List Col}{row:List Val}(h:aS cols row=0):row.length=cols.length:=by
 by_cases h1:row.length=cols.length
 ·exact h1
 ·rw[aS,if_pos h1]at h;omega
open Go.ChangeShapes Go.WideShapes Go.ChangeAt Go.RowKit Go.WideElems
section
variable {P:Program}{t:TypeId}
theorem JF {f0 f1 f2 f3 f4 f5 f6 f7 f8 f9 f10 f11:Field}(h:P.underlying t=some (.struct #[f0,f1,f2,f3,f4,f5,f6,f7,f8,f9,f10,f11]))(hc:P.cellsOf t=14)(h0:bF P f0 0 ByteArray)(h1:bF P f1 1 ByteArray)(h2:bF P f2 2 Int)(h3:bF P f3 3 (List ByteArray))(h4:bF P f4 4 ByteArray)(h5:bF P f5 5 (List ByteArray))(h6:bF P f6 6 Int)(h7:bF P f7 7 Int)(h8:bF P f8 8 (List Node))(h9:bF P f9 9 Shift)(h10:bF P f10 11 Shift)(h11:bF P f11 13 Int):gJ P t Chk:=λH enc w spare held fuel cs y hy=>by
 obtain ⟨xs,n,_,_,hl,hlen,hf⟩:=DataW.trod_struct h hy
 match xs,hlen with
 | [y0,y1,y2,y3,y4,y5,y6,y7,y8,y9,y10,y11],_=>
  rw[hc]at hl
  have e0:=hf 0 f0 rfl
  rw[h0.1,h0.2.1]at e0
  have e1:=hf 1 f1 rfl
  rw[h1.1,h1.2.1]at e1
  have e2:=hf 2 f2 rfl
  rw[h2.1,h2.2.1]at e2
  have e3:=hf 3 f3 rfl
  rw[h3.1,h3.2.1]at e3
  have e4:=hf 4 f4 rfl
  rw[h4.1,h4.2.1]at e4
  have e5:=hf 5 f5 rfl
  rw[h5.1,h5.2.1]at e5
  have e6:=hf 6 f6 rfl
  rw[h6.1,h6.2.1]at e6
  have e7:=hf 7 f7 rfl
  rw[h7.1,h7.2.1]at e7
  have e8:=hf 8 f8 rfl
  rw[h8.1,h8.2.1]at e8
  have e9:=hf 9 f9 rfl
  rw[h9.1,h9.2.1]at e9
  have e10:=hf 10 f10 rfl
  rw[h10.1,h10.2.1]at e10
  have e11:=hf 11 f11 rfl
  rw[h11.1,h11.2.1]at e11
  match cs,hl with
  | [c0,c1,c2,c3,c4,c5,c6,c7,c8,c9,c10,c11,c12,c13],_=>
   obtain ⟨a0,r0⟩:=h0.2.2 H enc w spare held n _ y0 (by simpa using e0)
   obtain ⟨a1,r1⟩:=h1.2.2 H enc w spare held n _ y1 (by simpa using e1)
   obtain ⟨a2,r2⟩:=h2.2.2 H enc w spare held n _ y2 (by simpa using e2)
   obtain ⟨a3,r3⟩:=h3.2.2 H enc w spare held n _ y3 (by simpa using e3)
   obtain ⟨a4,r4⟩:=h4.2.2 H enc w spare held n _ y4 (by simpa using e4)
   obtain ⟨a5,r5⟩:=h5.2.2 H enc w spare held n _ y5 (by simpa using e5)
   obtain ⟨a6,r6⟩:=h6.2.2 H enc w spare held n _ y6 (by simpa using e6)
   obtain ⟨a7,r7⟩:=h7.2.2 H enc w spare held n _ y7 (by simpa using e7)
   obtain ⟨a8,r8⟩:=h8.2.2 H enc w spare held n _ y8 (by simpa using e8)
   obtain ⟨a9,r9⟩:=h9.2.2 H enc w spare held n _ y9 (by simpa using e9)
   obtain ⟨QL,r10⟩:=h10.2.2 H enc w spare held n _ y10 (by simpa using e10)
   obtain ⟨TG,r11⟩:=h11.2.2 H enc w spare held n _ y11 (by simpa using e11)
   obtain ⟨q0,s0⟩:=r0
   obtain ⟨q1,s1⟩:=r1
   obtain ⟨q2,s2⟩:=r2
   obtain ⟨A3,n3,k3,q3,s3⟩:=r3
   obtain ⟨q4,s4⟩:=r4
   obtain ⟨A5,n5,k5,q5,s5⟩:=r5
   obtain ⟨q6,s6⟩:=r6
   obtain ⟨q7,s7⟩:=r7
   obtain ⟨A8,n8,k8,q8,s8⟩:=r8
   obtain ⟨q9,s9⟩:=r9
   obtain ⟨UR,s10⟩:=r10
   obtain ⟨UT,s11⟩:=r11
   have q0:[c0]=[.string a0]:=q0
   injection q0 with q0 _
   subst q0
   have q1:[c1]=[.string a1]:=q1
   injection q1 with q1 _
   subst q1
   have q2:[c2]=[.int .i64 a2]:=q2
   injection q2 with q2 _
   subst q2
   have q3:[c3]=[.slice A3 n3 k3]:=q3
   injection q3 with q3 _
   subst q3
   have q4:[c4]=[.string a4]:=q4
   injection q4 with q4 _
   subst q4
   have q5:[c5]=[.slice A5 n5 k5]:=q5
   injection q5 with q5 _
   subst q5
   have q6:[c6]=[.int .i64 a6]:=q6
   injection q6 with q6 _
   subst q6
   have q7:[c7]=[.int .i64 a7]:=q7
   injection q7 with q7 _
   subst q7
   have q8:[c8]=[.slice A8 n8 k8]:=q8
   injection q8 with q8 _
   subst q8
   have q9:[c9,c10]=[.int .i64 a9.at_,.int .i64 a9.offset]:=q9
   injection q9 with q9 p9
   injection p9 with p9 _
   subst q9 p9
   have UR:[c11,c12]=[.int .i64 QL.at_,.int .i64 QL.offset]:=UR
   injection UR with UR p10
   injection p10 with p10 _
   subst UR p10
   have UT:[c13]=[.int .i64 TG]:=UT
   injection UT with UT _
   subst UT
   exact ⟨⟨a0,a1,a2,a3,a4,a5,a6,a7,a8,a9.at_,a9.offset,QL.at_,QL.offset,TG⟩,A3,n3,k3,A5,n5,k5,A8,n8,k8,rfl,s3,s5,s8,s0,s1,s2,s4,s6,s7,s9.1,s9.2,s10.1,s10.2,s11⟩
end
theorem tX:gJ Tryz.prog 22 (List ByteArray):=iJ Tryz.underlying22 (by kernel_rfl) (by decide) (fQ Tryz.underlying9)
theorem uW:gJ Tryz.prog 25 Shift:=wZ Tryz.underlying25 (by kernel_rfl) ⟨rfl,by kernel_rfl,eU Tryz.underlying3⟩ ⟨rfl,by kernel_rfl,eU Tryz.underlying3⟩
theorem EQ:gJ Tryz.prog 27 Chk:=
 JF Tryz.underlying27 (by kernel_rfl) ⟨rfl,by kernel_rfl,fQ Tryz.underlying9⟩ ⟨rfl,by kernel_rfl,fQ Tryz.underlying9⟩ ⟨rfl,by kernel_rfl,eU Tryz.underlying3⟩ ⟨rfl,by kernel_rfl,tX⟩ ⟨rfl,by kernel_rfl,fQ Tryz.underlying9⟩ ⟨rfl,by kernel_rfl,tX⟩ ⟨rfl,by kernel_rfl,eU Tryz.underlying3⟩ ⟨rfl,by kernel_rfl,eU Tryz.underlying3⟩ ⟨rfl,by kernel_rfl,ER⟩ ⟨rfl,by kernel_rfl,uW⟩ ⟨rfl,by kernel_rfl,uW⟩ ⟨rfl,by kernel_rfl,eU Tryz.underlying3⟩
theorem GA:gJ Tryz.prog 30 (List Ent):=
 iJ Tryz.underlying30 (by kernel_rfl) (by decide) (JH Tryz.underlying61 (by kernel_rfl) ⟨rfl,by kernel_rfl,GH⟩ ⟨rfl,by kernel_rfl,eU Tryz.underlying3⟩)
theorem GD:gJ Tryz.prog 29 (List (List ByteArray)):=
 iJ Tryz.underlying29 (by kernel_rfl) (by decide) tX
theorem rH:gJ Tryz.prog 32 Rel:=
 JI Tryz.underlying32 (by kernel_rfl) ⟨rfl,by kernel_rfl,fQ Tryz.underlying9⟩ ⟨rfl,by kernel_rfl,Gz⟩ ⟨rfl,by kernel_rfl,GD⟩ ⟨rfl,by kernel_rfl,GA⟩
theorem wu {α:Type}[Rep α]{t:TypeId}(hop:gJ Tryz.prog t α){H:Type}{enc:TypeId×Value->H}{W:World}{ys:Array Value}{d:DataW H}{ps:List MemPlace}(h:DataW.Trod enc Tryz.prog W 0 (λ_=>true) true t (.agg ys) d ps): ∃x:α,Rep.rd W (λk=>k<W.heap.size) ys.toList x:=by
 obtain ⟨fu,hf⟩:=h
 exact hop H enc W _ _ _ _ _ hf
theorem qG {ys:Array Value}{l:List Value}(h:ys.toList=l):ys=l.toArray:=by
 cases ys;simp_all
end Go.Proofs.YtggejcekmehocaaGreatDoor
