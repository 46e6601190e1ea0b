/-
  bag.Count: the count of a row. bag.Size, check.total, exact.Within: the numbers that verdicts are made of. warehouseref2.WellFormed, Within. (Printed by gen_wir.py.)
-/
import Derived.Test.YtggejcekmehocaaGreatDoorGay
import Derived.Test.YtggejcekmehocaaGreatDoorGac
import Derived.Test.YtggejcekmehocaaGreatDoorGaa
import Derived.Test.YtggejcekmehocaaGreatDoorGah
namespace Go.Proofs.YtggejcekmehocaaGreatDoor
set_option maxHeartbeats 4000000
set_option maxRecDepth 100000
open Go.RowKit
set_option linter.unusedSimpArgs false
set_option linter.unusedVariables false
theorem I8 (w:World)(A:Option Addr)(n c:Nat)(bs:List Ent)(hx:In w A n c bs)(A2:Option Addr)(n2 c2:Nat)(row:List Val)(hy:In w A2 n2 c2 row):
  Calls Tryz.prog 54 #[.slice A n c,.slice A2 n2 c2] w λe w'=>e=.returned (.int .i64 (cntF bs row))/\Below w.heap.size w w':=by
 obtain ⟨R,hR⟩: ∃R,cntF bs row=R:=⟨_,rfl⟩
 have HR:=hide hR
 rw[hR]
 clear hR
 have HL:=hide hx.len
 have h63:=hx.le
 go_enter Tryz.func54,Tryz.ntmps54
 have HX:=hide hx
 clear hx
 have HY:=hide hy
 clear hy
 go_wp2
 go_loopw [9] (λi wr=> ∃k:Nat,k<=n/\i=.int .i64 k/\R=cntF (bs.drop k) row/\Below w.heap.size w wr) (λi _=>n-(RowKit.intOf i).toNat)
 case atStart=>exact ⟨0,Nat.zero_le _,rfl,HR.out.symm,Below.refl _ _⟩
 case round=>
  obtain ⟨k,hk,rfl,heq,hb⟩:=hrel
  have HE:=hide heq
  clear heq
  have HX:=hide (HX.out.below hb)
  have HY:=hide (HY.out.below hb)
  have qA:=hide hb
  clear hb
  by_cases hlt:k<n
  ·obtain ⟨b,off,x,rfl,hBb,Dz,Ax,An,Ac,e0,e1,e2,e3⟩:=HX.out.ent hlt
   have HI:=hide e2
   clear e2
   go_wp2_with fail
   obtain ⟨W6,qB⟩: ∃W,W=wr.alloc (.cells #[.slice Ax An Ac,.int .i64 x.count] 61):=⟨_,rfl⟩
   obtain ⟨ng,IP,x0,x1⟩:=iM qB rfl
   rw[<-qB]
   clear qB
   have HY:=hide (HY.out.below ng)
   have WQ:=hide ng
   have fK:=hide (aa qA.out ng)
   clear ng
   have L6:=lt_of_cell x0
   have Hf:=hide (HI.out.below WQ.out)
   go_wp2_with fail
   refine (jS _ Ax A2 An n2 Ac c2 x.row row (by exact Hf.out) HY.out).mono ?_
   rintro e w3 ⟨rfl,hb3⟩
   obtain ⟨x0,x1,L6⟩:=lC hb3 L6 x0 x1
   have jH:=hide (aa fK.out hb3)
   clear hb3
   obtain ⟨Q,hQ⟩: ∃Q,aC x.row row=Q:=⟨_,rfl⟩
   have HQ:=hide hQ
   rw[hQ]
   clear hQ
   have l9:=hide jH.out
   have jk:=hide jH.out
   by_cases hq:Q=0
   ·subst hq
    obtain rfl:R=x.count:=by rw[HE.out,Dz.out,cntF,if_pos HQ.out]
    go_wp2
    all_goals (try (exfalso;go_light;simp_all;done))
    go_ret
    exact ⟨rfl,jk.out⟩
   ·have q0:(Q==0)=false:=by simpa using hq
    have HN:Hid (R=cntF (bs.drop (k+1)) row):=hide (by rw[HE.out,Dz.out,cntF,if_neg (by rw[HQ.out];exact hq)])
    go_wp2
    all_goals (try (exfalso;go_light;simp_all;done))
    go_roundw
    case rel=>exact ⟨k+1,by omega,by go_num,HN.out,l9.out⟩
    case measure=>simp[RowKit.intOf];omega
  ·obtain rfl:R=0:=by rw[HE.out,aP HX.out.len (by omega)];rfl
   have jk:=hide qA.out
   go_wp2
   go_ret
   exact ⟨rfl,jk.out⟩
theorem Ci {rows:List Ent}(h:aX rows=0):rows.length<=4096/\ ∀x∈rows, -65536<=x.count/\x.count<=65536:=by
 have hl:rows.length<=4096:=by
  rw[aX]at h
  by_cases q:4096<rows.length
  ·rw[if_pos q]at h;omega
  ·omega
 refine ⟨hl,λx hx=>?_⟩
 rw[aX,if_neg (by omega)]at h
 obtain ⟨j,hj⟩:=List.mem_iff_getElem?.1 hx
 have h1:=dQ h j x hj
 rw[dO]at h1
 have h2:dw x=0:=by
  by_cases q:dw x=0
  ·exact q
  ·rw[if_pos q]at h1;exact absurd h1 q
 rw[dw]at h2
 by_cases q:12<x.row.length\/x.count < -65536\/65536<x.count
 ·rw[if_pos q]at h2;omega
 ·omega
theorem oK {l:List Ent}{C:Int}(h: ∀x∈l, -C<=x.count/\x.count<=C): -(C*(l.length:Int))<=aH l/\aH l<=C*(l.length:Int):=by
 induction l with
 |nil=>simp[aH]
 |cons x l ih=>
  have h1:=h x (by simp)
  have h2:=ih λy hy=>h y (by simp[hy])
  rw[aH,List.length_cons,show C*((l.length+1:Nat):Int)=C*(l.length:Int)+C by rw[Int.natCast_succ,Int.mul_add,Int.mul_one]]
  omega
def BG (b:List Ent):Int×Int:=if aX b≠0 then (0,aX b) else (aH b,0)
theorem MZ (w:World)(A:Option Addr)(n c:Nat)(bs:List Ent)(hx:In w A n c bs):
  Calls Tryz.prog 67 #[.slice A n c] w λe w'=>e=.returned (.tuple #[.int .i64 (BG bs).1,.int .i64 (BG bs).2])/\Below w.heap.size w w':=by
 have HD:=hide (show BG bs=if aX bs≠0 then (0,aX bs) else (aH bs,0) from rfl)
 have Pz:=hide (λh=>Ci (rows:=bs) h)
 obtain ⟨R,hR⟩: ∃R,BG bs=R:=⟨_,rfl⟩
 rw[hR]at HD
 rw[hR]
 clear hR
 have HL:=hide hx.len
 have h63:=hx.le
 go_enter Tryz.func67,Tryz.ntmps67
 have HX:=hide hx
 clear hx
 go_wp2_with fail
 refine (Ch _ A n c bs HX.out).mono ?_
 rintro e w1 ⟨rfl,hb1⟩
 have HX:=hide (HX.out.below hb1)
 have fK:=hide hb1
 clear hb1
 obtain ⟨B,hB⟩: ∃B,aX bs=B:=⟨_,rfl⟩
 rw[hB]at HD Pz⊢
 clear hB
 by_cases h0:B=0
 rotate_left
 ·have q0:(B != 0)=true:=by simpa using h0
  have FN:Hid (R=(0,B)):=hide (by rw[HD.out,if_pos h0])
  obtain rfl:=FN.out
  go_wp2
  all_goals (try (exfalso;go_light;simp_all;done))
  go_ret2
  exact ⟨rfl,fK.out⟩
 subst h0
 have nP:=hide (Pz.out (by first|rfl|trivial))
 have hn4:n<=4096:=by rw[<-HL.out];exact nP.out.1
 obtain ⟨W3,rfl⟩: ∃W,W=w1:=⟨_,rfl⟩
 go_wp2
 go_loopw [5,15] (λs i wr=> ∃k:Nat,k<=n/\i=.int .i64 k/\s=.int .i64 (aH (bs.take k))/\Below W3.heap.size W3 wr) (λ_ i _=>n-(RowKit.intOf i).toNat)
 case atStart=>exact ⟨0,Nat.zero_le _,rfl,by simp[aH],Below.refl _ _⟩
 case round=>
  obtain ⟨k,hk,rfl,rfl,hb⟩:=hrel
  have HX:=hide (HX.out.below hb)
  have oO:=hide hb
  clear hb
  have l9:=hide oO.out
  have jk:=hide (aa fK.out oO.out)
  by_cases hlt:k<n
  ·obtain ⟨b,off,x,rfl,hBb,Dz,Ax,An,Ac,e0,e1,e2,e3⟩:=HX.out.ent hlt
   have HN:Hid (aH (bs.take (k+1))=aH (bs.take k)+x.count):=hide (by rw[bP Dz.out,lK];simp[aH])
   have hbd:=oK (l:=bs.take k) (C:=65536) λy hy=>nP.out.2 y (List.mem_of_mem_take hy)
   have hlk:(bs.take k).length<=4096:=by rw[List.length_take];omega
   have Mo:=nP.out.2 x (aM Dz.out)
   obtain ⟨F,hF⟩: ∃F,aH (bs.take k)=F:=⟨_,rfl⟩
   rw[hF]at hbd HN⊢
   clear hF
   have hwr:IntKind.i64.wrap (F+x.count)=F+x.count:=IntWalk.i64_in _ (by omega)
   have NH:=hide (aa l9.out (af (o:=.cells #[.slice Ax An Ac,.int .i64 x.count] 61)))
   clear hbd hlk Mo e2
   go_wp2
   go_roundw
   case rel=>exact ⟨k+1,by omega,by go_num,by rw[HN.out],NH.out⟩
   case measure=>simp[RowKit.intOf];omega
  ·have HT:Hid (bs.take k=bs):=hide (List.take_of_length_le (by rw[HL.out];omega))
   rw[HT.out]
   have FN:Hid (R=(aH bs,0)):=hide (by rw[HD.out];simp)
   obtain rfl:=FN.out
   go_wp2
   go_ret2
   exact ⟨rfl,jk.out⟩
def aK (at_:Nat):List Ent->Int
 | []=>0
 |x :: l=>(x.row.getD at_ zeroV).num*x.count+aK at_ l
theorem yI (k:Nat)(l m:List Ent):aK k (l++m)=aK k l+aK k m:=by
 induction l with
 |nil=>simp[aK]
 |cons x l ih=>rw[List.cons_append,aK,aK,ih];omega
theorem C8 {a c:Int}(h1: -1073741824<=a)(h2:a<=1073741824)(h3:0<c)(h4:c<=65536): -70368744177664<=a*c/\a*c<=70368744177664:=by
 have i1:a*c<=1073741824*c:=Int.mul_le_mul_of_nonneg_right h2 (by omega)
 have i2: -1073741824*c<=a*c:=Int.mul_le_mul_of_nonneg_right h1 (by omega)
 omega
theorem yH {k:Nat}{l:List Ent}(h: ∀x∈l,0<x.count/\x.count<=65536)(hv: ∀x∈l, -1073741824<=(x.row.getD k zeroV).num/\(x.row.getD k zeroV).num<=1073741824):
  -(70368744177664*(l.length:Int))<=aK k l/\aK k l<=70368744177664*(l.length:Int):=by
 induction l with
 |nil=>simp[aK]
 |cons x l ih=>
  have h1:=h x (by simp)
  have h2:=hv x (by simp)
  have h3:=ih (λy hy=>h y (by simp[hy])) (λy hy=>hv y (by simp[hy]))
  have h4:=C8 h2.1 h2.2 h1.1 h1.2
  rw[aK,List.length_cons]
  omega
theorem zR {v:Val}(h:valid v=true): -1073741824<=v.num/\v.num<=1073741824:=by
 rcases lM h with h|h|h|h|h <;> omega
theorem BK (w:World)(rn:ByteArray)(A1:Option Addr)(n1 c1:Nat)(cols:List Col)(hc:In w A1 n1 c1 cols)(Ak:Option Addr)(nk ck:Nat)(A3:Option Addr)(n3 c3:Nat)(rows:List Ent)(hr:In w A3 n3 c3 rows)(nm:ByteArray)(at_:Nat)(hat:index cols nm=(at_:Int))(hlt_:at_<cols.length)(hT:eH cols rows=0):
  Calls Tryz.prog 66 #[.agg #[.string rn,.slice A1 n1 c1,.slice Ak nk ck,.slice A3 n3 c3],.string nm] w λe w'=>e=.returned (.int .i64 (aK at_ rows))/\Below w.heap.size w w':=by
 obtain ⟨hbz,htz,hrz⟩:=bA hT
 obtain ⟨hrl,hrc⟩:=eQ hbz htz
 have Ca:=hide hrc
 have Kz:=hide hrz
 have xR:=hide hr.len
 have HAT:=hide hat
 have Qh:=hide hlt_
 have h63:=hr.le
 have Rp:n3<=4096:=by rw[<-hr.len];exact hrl
 have FB:Hid (∀x∈rows, -1073741824<=(x.row.getD at_ zeroV).num/\(x.row.getD at_ zeroV).num<=1073741824):=hide λx hx=>by
  have h1:=iU (hrz x hx)
  have h2:at_<x.row.length:=by omega
  rw[List.getD_eq_getElem?_getD,List.getElem?_eq_getElem h2]
  exact zR (vT (hrz x hx) (List.getElem?_eq_getElem h2))
 clear hbz htz hrz hrl hrc hT hat hlt_
 go_enter Tryz.func66,Tryz.ntmps66
 have HC:=hide hc
 clear hc
 have HR:=hide hr
 clear hr
 go_wp2_with fail
 obtain ⟨W1,hW1⟩: ∃W,W=w.alloc (.cells #[.string rn,.slice A1 n1 c1,.slice Ak nk ck,.slice A3 n3 c3] 32):=⟨_,rfl⟩
 obtain ⟨hbW1,fO,g0,g1,g2,g3⟩:=pE hW1 rfl
 rw[<-hW1]
 clear hW1
 have HC:=hide (HC.out.below hbW1)
 have HR:=hide (HR.out.below hbW1)
 have jH:=hide hbW1
 clear hbW1
 have LR:=lt_of_cell g0
 go_wp2_with fail
 refine (sj _ A1 n1 c1 cols HC.out nm).mono ?_
 rintro e w5 ⟨rfl,hb5⟩
 have HR:=hide (HR.out.below hb5)
 obtain ⟨g0,g1,g2,g3,LR⟩:=qH hb5 LR g0 g1 g2 g3
 have uw:=hide (aa jH.out hb5)
 clear hb5
 rw[HAT.out]
 obtain ⟨W3,rfl⟩: ∃W,W=w5:=⟨_,rfl⟩
 go_wp2
 go_loopw [6,16] (λs i wr=> ∃k:Nat,k<=n3/\i=.int .i64 k/\s=.int .i64 (aK at_ (rows.take k))/\Below W3.heap.size W3 wr) (λ_ i _=>n3-(RowKit.intOf i).toNat)
 case atStart=>exact ⟨0,Nat.zero_le _,rfl,by simp[aK],Below.refl _ _⟩
 case round=>
  obtain ⟨k,hk,rfl,rfl,hb⟩:=hrel
  have HR:=hide (HR.out.below hb)
  obtain ⟨g0,g1,g2,g3,LR⟩:=qH hb LR g0 g1 g2 g3
  have kv:=hide hb
  clear hb
  have l9:=hide kv.out
  have jk:=hide (aa uw.out kv.out)
  by_cases hlt:k<n3
  ·obtain ⟨b,off,x,rfl,hBb,Dz,Ax,An,Ac,e0,e1,e2,e3⟩:=HR.out.ent hlt
   have hxm:=aM Dz.out
   have hal:at_<An:=by have h1:=iU (Kz.out x hxm);have h2:=e2.len;have h3:=Qh.out;omega
   obtain ⟨bv,ov,v,rfl,kT,HV,v0,v1,v2,X7⟩:=e2.val hal
   have Td:Hid ((x.row.getD at_ zeroV).num=v.num):=hide (by rw[dW HV.out])
   have HN:Hid (aK at_ (rows.take (k+1))=aK at_ (rows.take k)+v.num*x.count):=hide (by rw[bP Dz.out,yI,<-Td.out];simp[aK])
   have hbd:=yH (k:=at_) (l:=rows.take k) (λy hy=>Ca.out y (List.mem_of_mem_take hy)) (λy hy=>FB.out y (List.mem_of_mem_take hy))
   have hlk:(rows.take k).length<=4096:=by rw[List.length_take];omega
   have Mo:=Ca.out x hxm
   have hvb:=FB.out x hxm
   rw[Td.out]at hvb
   have hm:=C8 hvb.1 hvb.2 Mo.1 Mo.2
   obtain ⟨F,hF⟩: ∃F,aK at_ (rows.take k)=F:=⟨_,rfl⟩
   rw[hF]at hbd HN⊢
   clear hF
   obtain ⟨vn,Sa⟩: ∃q,v.num=q:=⟨_,rfl⟩
   rw[Sa]at v1 HN hvb hm
   have Z5:IntKind.i64.wrap (vn*x.count)=vn*x.count:=IntWalk.i64_in _ (by omega)
   have hwr:IntKind.i64.wrap (F+vn*x.count)=F+vn*x.count:=IntWalk.i64_in _ (by omega)
   have NH:=hide (aa l9.out (af (o:=.cells #[.slice (some ⟨bv,ov,none⟩) An Ac,.int .i64 x.count] 61)))
   have a0:(0:Int)<=(at_:Int):=by omega
   have a1:(at_:Int)<(An:Int):=by omega
   have w1:(wr.alloc (.cells #[.slice (some ⟨bv,ov,none⟩) An Ac,.int .i64 x.count] 61)).cell? ⟨bv,ov+at_*3+1,none⟩=some (.int .i64 vn):=ah af kT v1
   clear hbd hlk Mo hvb hm e2 v0 v2 Sa Td
   go_wp2
   go_quiet (fail)
   go_wp2
   go_roundw
   case rel=>exact ⟨k+1,by omega,by go_num,by rw[HN.out],below_drewN NH.out _⟩
   case measure=>simp[RowKit.intOf];omega
  ·have HT:Hid (rows.take k=rows):=hide (List.take_of_length_le (by rw[xR.out];omega))
   rw[HT.out]
   go_wp2
   go_ret
   exact ⟨rfl,jk.out⟩
def dX (p w n d m e:Int):Bool:=!(decide (p<0) || decide (w<p) || decide (1073741824<w) || !eZ n d || !eZ m e)&&(w==0 || (decide (n*w<=p*d)&&decide (p*e<=m*w)))
theorem xw (p w n d m e:Int):(decide (p<0)=true/\dX p w n d m e=false)\/(decide (p<0)=false/\decide (w<p)=true/\dX p w n d m e=false)\/(decide (p<0)=false/\decide (w<p)=false/\decide (1073741824<w)=true/\dX p w n d m e=false)
  \/(decide (p<0)=false/\decide (w<p)=false/\decide (1073741824<w)=false/\Hid (0<=p/\p<=w/\w<=1073741824)/\Hid (dX p w n d m e=(eZ n d&&(eZ m e&&(w==0 || (decide (n*w<=p*d)&&decide (p*e<=m*w))))))):=by
 by_cases a1:p<0
 ·exact .inl ⟨by simpa using a1,by simp[dX,a1]⟩
 by_cases a2:w<p
 ·exact .inr (.inl ⟨by simpa using a1,by simpa using a2,by simp[dX,a2]⟩)
 by_cases a3:1073741824<w
 ·exact .inr (.inr (.inl ⟨by simpa using a1,by simpa using a2,by simpa using a3,by simp[dX,a3]⟩))
 ·refine .inr (.inr (.inr ⟨by simpa using a1,by simpa using a2,by simpa using a3,hide (by omega),hide ?_⟩))
  rw[dX,decide_eq_false a1,decide_eq_false a2,decide_eq_false a3]
  cases eZ n d <;> cases eZ m e <;> simp
theorem nI {a b:Int}(h1: -1073741824<=a)(h2:a<=1073741824)(h3:0<=b)(h4:b<=1073741824): -1152921504606846976<=a*b/\a*b<=1152921504606846976:=by
 have i1:a*b<=1073741824*b:=Int.mul_le_mul_of_nonneg_right h2 h3
 have i2: -1073741824*b<=a*b:=Int.mul_le_mul_of_nonneg_right h1 h3
 omega
theorem Fv (U0:World)(p w n d m e:Int):
  Calls Tryz.prog 65 #[.int .i64 p,.int .i64 w,.agg #[.int .i64 n,.int .i64 d],.agg #[.int .i64 m,.int .i64 e]] U0 λr w'=>r=.returned (.bool (dX p w n d m e))/\Below U0.heap.size U0 w':=by
 have hA:=xw p w n d m e
 have Qm:=hide λW=>qO W n d
 have Sw:=hide λW=>qO W m e
 have Sy:=hide (λh=>mK (n:=n) (d:=d) h)
 have HG2:=hide (λh=>mK (n:=m) (d:=e) h)
 obtain ⟨R,hR⟩: ∃R,dX p w n d m e=R:=⟨_,rfl⟩
 obtain ⟨F1,hF1⟩: ∃R,eZ n d=R:=⟨_,rfl⟩
 obtain ⟨F2,hF2⟩: ∃R,eZ m e=R:=⟨_,rfl⟩
 rw[hR,hF1,hF2]at hA
 rw[hF1]at Qm Sy
 rw[hF2]at Sw HG2
 rw[hR]
 clear hR hF1 hF2
 rcases hA with ⟨a1,rfl⟩|⟨a1,a2,rfl⟩|⟨a1,a2,a3,rfl⟩|⟨a1,a2,a3,HB,HR⟩
 ·go_enter Tryz.func65,Tryz.ntmps65
  go_wp2_with fail
  obtain ⟨W1,hW1⟩: ∃W,W=U0.alloc (.cells #[.int .i64 n,.int .i64 d] 25):=⟨_,rfl⟩
  obtain ⟨hbW1,fO,g0,g1⟩:=iM hW1 rfl
  rw[<-hW1]
  clear hW1
  have mf:=hide hbW1
  clear hbW1
  have L1:=lt_of_cell g0
  obtain ⟨W2,hW2⟩: ∃W,W=W1.alloc (.cells #[.int .i64 m,.int .i64 e] 25):=⟨_,rfl⟩
  obtain ⟨hbW2,DN,h0,h1⟩:=iM (b:=U0.heap.size+1) hW2 (by rw[fO.out])
  rw[<-hW2]
  clear hW2
  obtain ⟨g0,g1,L1⟩:=lC hbW2 L1 g0 g1
  have uy:=hide (aa mf.out hbW2)
  clear hbW2
  have L2:=lt_of_cell h0
  go_wp2
  all_goals (try (exfalso;go_light;simp_all;done))
  go_ret
  exact ⟨rfl,uy.out⟩
 ·go_enter Tryz.func65,Tryz.ntmps65
  go_wp2_with fail
  obtain ⟨W1,hW1⟩: ∃W,W=U0.alloc (.cells #[.int .i64 n,.int .i64 d] 25):=⟨_,rfl⟩
  obtain ⟨hbW1,fO,g0,g1⟩:=iM hW1 rfl
  rw[<-hW1]
  clear hW1
  have fZ:=hide hbW1
  clear hbW1
  have L1:=lt_of_cell g0
  obtain ⟨W2,hW2⟩: ∃W,W=W1.alloc (.cells #[.int .i64 m,.int .i64 e] 25):=⟨_,rfl⟩
  obtain ⟨hbW2,DN,h0,h1⟩:=iM (b:=U0.heap.size+1) hW2 (by rw[fO.out])
  rw[<-hW2]
  clear hW2
  obtain ⟨g0,g1,L1⟩:=lC hbW2 L1 g0 g1
  have jV:=hide (aa fZ.out hbW2)
  clear hbW2
  have L2:=lt_of_cell h0
  go_wp2
  all_goals (try (exfalso;go_light;simp_all;done))
  go_ret
  exact ⟨rfl,jV.out⟩
 ·go_enter Tryz.func65,Tryz.ntmps65
  go_wp2_with fail
  obtain ⟨W1,hW1⟩: ∃W,W=U0.alloc (.cells #[.int .i64 n,.int .i64 d] 25):=⟨_,rfl⟩
  obtain ⟨hbW1,fO,g0,g1⟩:=iM hW1 rfl
  rw[<-hW1]
  clear hW1
  have ji:=hide hbW1
  clear hbW1
  have L1:=lt_of_cell g0
  obtain ⟨W2,hW2⟩: ∃W,W=W1.alloc (.cells #[.int .i64 m,.int .i64 e] 25):=⟨_,rfl⟩
  obtain ⟨hbW2,DN,h0,h1⟩:=iM (b:=U0.heap.size+1) hW2 (by rw[fO.out])
  rw[<-hW2]
  clear hW2
  obtain ⟨g0,g1,L1⟩:=lC hbW2 L1 g0 g1
  have ut:=hide (aa ji.out hbW2)
  clear hbW2
  have L2:=lt_of_cell h0
  go_wp2
  all_goals (try (exfalso;go_light;simp_all;done))
  go_ret
  exact ⟨rfl,ut.out⟩
 ·go_enter Tryz.func65,Tryz.ntmps65
  go_wp2_with fail
  obtain ⟨W1,hW1⟩: ∃W,W=U0.alloc (.cells #[.int .i64 n,.int .i64 d] 25):=⟨_,rfl⟩
  obtain ⟨hbW1,fO,g0,g1⟩:=iM hW1 rfl
  rw[<-hW1]
  clear hW1
  have mW:=hide hbW1
  clear hbW1
  have L1:=lt_of_cell g0
  obtain ⟨W2,hW2⟩: ∃W,W=W1.alloc (.cells #[.int .i64 m,.int .i64 e] 25):=⟨_,rfl⟩
  obtain ⟨hbW2,DN,h0,h1⟩:=iM (b:=U0.heap.size+1) hW2 (by rw[fO.out])
  rw[<-hW2]
  clear hW2
  obtain ⟨g0,g1,L1⟩:=lC hbW2 L1 g0 g1
  have kL:=hide (aa mW.out hbW2)
  clear hbW2
  have L2:=lt_of_cell h0
  go_wp2_with fail
  refine (Qm.out _).mono ?_
  rintro e w16 ⟨rfl,oC⟩
  obtain ⟨g0,g1,L1⟩:=lC oC L1 g0 g1
  obtain ⟨h0,h1,L2⟩:=lC oC L2 h0 h1
  have mY:=hide (aa kL.out oC)
  clear oC
  cases F1
  ·obtain rfl:R=false:=by rw[HR.out];rfl
   go_wp2
   all_goals (try (exfalso;go_light;simp_all;done))
   go_ret
   exact ⟨rfl,mY.out⟩
  go_wp2_with fail
  refine (Sw.out _).mono ?_
  rintro e w18 ⟨rfl,Gf⟩
  obtain ⟨g0,g1,L1⟩:=lC Gf L1 g0 g1
  obtain ⟨h0,h1,L2⟩:=lC Gf L2 h0 h1
  have gp:=hide (aa mY.out Gf)
  clear Gf
  cases F2
  ·obtain rfl:R=false:=by rw[HR.out];rfl
   go_wp2
   all_goals (try (exfalso;go_light;simp_all;done))
   go_ret
   exact ⟨rfl,gp.out⟩
  by_cases hw0:w=0
  ·subst hw0
   obtain rfl:R=true:=by rw[HR.out];rfl
   go_wp2
   all_goals (try (exfalso;go_light;simp_all;done))
   go_ret
   exact ⟨rfl,gp.out⟩
  have HW0:=hide hw0
  have q0:(w==0)=false:=by simpa using hw0
  have hb:=HB.out
  have hg1:=Sy.out (by first|rfl|trivial)
  have hg2:=HG2.out (by first|rfl|trivial)
  have m1:=nI hg1.1.1 hg1.1.2 (b:=w) (by omega) (by omega)
  have m2:=nI hg2.1.1 hg2.1.2 (b:=w) (by omega) (by omega)
  have m3:=nI (a:=p) (b:=d) (by omega) (by omega) (by omega) hg1.2.2
  have m4:=nI (a:=p) (b:=e) (by omega) (by omega) (by omega) hg2.2.2
  have w1:IntKind.i64.wrap (n*w)=n*w:=IntWalk.i64_in _ (by omega)
  have w2:IntKind.i64.wrap (m*w)=m*w:=IntWalk.i64_in _ (by omega)
  have w3:IntKind.i64.wrap (p*d)=p*d:=IntWalk.i64_in _ (by omega)
  have w4:IntKind.i64.wrap (p*e)=p*e:=IntWalk.i64_in _ (by omega)
  have HRR:Hid (R=(decide (n*w<=p*d)&&decide (p*e<=m*w))):=hide (by rw[HR.out,q0];simp)
  clear hb hg1 hg2 m1 m2 m3 m4 hw0
  by_cases c1:n*w<=p*d
  ·have c2:decide (n*w<=p*d)=true:=by simpa using c1
   go_wp2
   all_goals (try (exfalso;go_light;simp_all;done))
   go_ret
   exact ⟨ay (by rw[HRR.out,c2];simp),gp.out⟩
  ·have c2:decide (n*w<=p*d)=false:=by simpa using c1
   go_wp2
   all_goals (try (exfalso;go_light;simp_all;done))
   go_ret
   exact ⟨ay (by rw[HRR.out,c2];simp),gp.out⟩
theorem wO (w:World)(n d:Int):Calls Tryz.prog 110 #[.agg #[.int .i64 n,.int .i64 d]] w λe w'=>e=.returned (.bool (eZ n d))/\Below w.heap.size w w':=by
 rw[eZ]
 cases hs:bV n
 ·go_enter Tryz.func110,Tryz.ntmps110
  go_wp2_with fail
  refine (iW n _).mono ?_
  rintro e w2 ⟨rfl,rfl⟩
  rw[hs]
  go_wp2
  go_ret
  exact ⟨ay (by simp),af⟩
 ·by_cases h1:1<=d
  ·by_cases h2:d<=1073741824
   ·go_enter Tryz.func110,Tryz.ntmps110
    go_wp2_with fail
    refine (iW n _).mono ?_
    rintro e w2 ⟨rfl,rfl⟩
    rw[hs]
    go_wp2
    go_ret
    exact ⟨ay (by simp[h1,h2]),af⟩
   ·go_enter Tryz.func110,Tryz.ntmps110
    go_wp2_with fail
    refine (iW n _).mono ?_
    rintro e w2 ⟨rfl,rfl⟩
    rw[hs]
    go_wp2
    go_ret
    exact ⟨ay (by simp[h1,h2]),af⟩
  ·go_enter Tryz.func110,Tryz.ntmps110
   go_wp2_with fail
   refine (iW n _).mono ?_
   rintro e w2 ⟨rfl,rfl⟩
   rw[hs]
   go_wp2
   go_ret
   exact ⟨ay (by simp;omega),af⟩
theorem Fu (U0:World)(p w n d m e:Int):
  Calls Tryz.prog 69 #[.int .i64 p,.int .i64 w,.agg #[.int .i64 n,.int .i64 d],.agg #[.int .i64 m,.int .i64 e]] U0 λr w'=>r=.returned (.bool (dX p w n d m e))/\Below U0.heap.size U0 w':=by
 have hA:=xw p w n d m e
 have Qm:=hide λW=>wO W n d
 have Sw:=hide λW=>wO W m e
 have Sy:=hide (λh=>mK (n:=n) (d:=d) h)
 have HG2:=hide (λh=>mK (n:=m) (d:=e) h)
 obtain ⟨R,hR⟩: ∃R,dX p w n d m e=R:=⟨_,rfl⟩
 obtain ⟨F1,hF1⟩: ∃R,eZ n d=R:=⟨_,rfl⟩
 obtain ⟨F2,hF2⟩: ∃R,eZ m e=R:=⟨_,rfl⟩
 rw[hR,hF1,hF2]at hA
 rw[hF1]at Qm Sy
 rw[hF2]at Sw HG2
 rw[hR]
 clear hR hF1 hF2
 rcases hA with ⟨a1,rfl⟩|⟨a1,a2,rfl⟩|⟨a1,a2,a3,rfl⟩|⟨a1,a2,a3,HB,HR⟩
 ·go_enter Tryz.func69,Tryz.ntmps69
  go_wp2_with fail
  obtain ⟨W1,hW1⟩: ∃W,W=U0.alloc (.cells #[.int .i64 n,.int .i64 d] 25):=⟨_,rfl⟩
  obtain ⟨hbW1,fO,g0,g1⟩:=iM hW1 rfl
  rw[<-hW1]
  clear hW1
  have qA:=hide hbW1
  clear hbW1
  have L1:=lt_of_cell g0
  obtain ⟨W2,hW2⟩: ∃W,W=W1.alloc (.cells #[.int .i64 m,.int .i64 e] 25):=⟨_,rfl⟩
  obtain ⟨hbW2,DN,h0,h1⟩:=iM (b:=U0.heap.size+1) hW2 (by rw[fO.out])
  rw[<-hW2]
  clear hW2
  obtain ⟨g0,g1,L1⟩:=lC hbW2 L1 g0 g1
  have fK:=hide (aa qA.out hbW2)
  clear hbW2
  have L2:=lt_of_cell h0
  go_wp2
  all_goals (try (exfalso;go_light;simp_all;done))
  go_ret
  exact ⟨rfl,fK.out⟩
 ·go_enter Tryz.func69,Tryz.ntmps69
  go_wp2_with fail
  obtain ⟨W1,hW1⟩: ∃W,W=U0.alloc (.cells #[.int .i64 n,.int .i64 d] 25):=⟨_,rfl⟩
  obtain ⟨hbW1,fO,g0,g1⟩:=iM hW1 rfl
  rw[<-hW1]
  clear hW1
  have oO:=hide hbW1
  clear hbW1
  have L1:=lt_of_cell g0
  obtain ⟨W2,hW2⟩: ∃W,W=W1.alloc (.cells #[.int .i64 m,.int .i64 e] 25):=⟨_,rfl⟩
  obtain ⟨hbW2,DN,h0,h1⟩:=iM (b:=U0.heap.size+1) hW2 (by rw[fO.out])
  rw[<-hW2]
  clear hW2
  obtain ⟨g0,g1,L1⟩:=lC hbW2 L1 g0 g1
  have jH:=hide (aa oO.out hbW2)
  clear hbW2
  have L2:=lt_of_cell h0
  go_wp2
  all_goals (try (exfalso;go_light;simp_all;done))
  go_ret
  exact ⟨rfl,jH.out⟩
 ·go_enter Tryz.func69,Tryz.ntmps69
  go_wp2_with fail
  obtain ⟨W1,hW1⟩: ∃W,W=U0.alloc (.cells #[.int .i64 n,.int .i64 d] 25):=⟨_,rfl⟩
  obtain ⟨hbW1,fO,g0,g1⟩:=iM hW1 rfl
  rw[<-hW1]
  clear hW1
  have nZ:=hide hbW1
  clear hbW1
  have L1:=lt_of_cell g0
  obtain ⟨W2,hW2⟩: ∃W,W=W1.alloc (.cells #[.int .i64 m,.int .i64 e] 25):=⟨_,rfl⟩
  obtain ⟨hbW2,DN,h0,h1⟩:=iM (b:=U0.heap.size+1) hW2 (by rw[fO.out])
  rw[<-hW2]
  clear hW2
  obtain ⟨g0,g1,L1⟩:=lC hbW2 L1 g0 g1
  have uw:=hide (aa nZ.out hbW2)
  clear hbW2
  have L2:=lt_of_cell h0
  go_wp2
  all_goals (try (exfalso;go_light;simp_all;done))
  go_ret
  exact ⟨rfl,uw.out⟩
 ·go_enter Tryz.func69,Tryz.ntmps69
  go_wp2_with fail
  obtain ⟨W1,hW1⟩: ∃W,W=U0.alloc (.cells #[.int .i64 n,.int .i64 d] 25):=⟨_,rfl⟩
  obtain ⟨hbW1,fO,g0,g1⟩:=iM hW1 rfl
  rw[<-hW1]
  clear hW1
  have kv:=hide hbW1
  clear hbW1
  have L1:=lt_of_cell g0
  obtain ⟨W2,hW2⟩: ∃W,W=W1.alloc (.cells #[.int .i64 m,.int .i64 e] 25):=⟨_,rfl⟩
  obtain ⟨hbW2,DN,h0,h1⟩:=iM (b:=U0.heap.size+1) hW2 (by rw[fO.out])
  rw[<-hW2]
  clear hW2
  obtain ⟨g0,g1,L1⟩:=lC hbW2 L1 g0 g1
  have mf:=hide (aa kv.out hbW2)
  clear hbW2
  have L2:=lt_of_cell h0
  go_wp2_with fail
  refine (Qm.out _).mono ?_
  rintro e w9 ⟨rfl,gP⟩
  obtain ⟨g0,g1,L1⟩:=lC gP L1 g0 g1
  obtain ⟨h0,h1,L2⟩:=lC gP L2 h0 h1
  have fZ:=hide (aa mf.out gP)
  clear gP
  cases F1
  ·obtain rfl:R=false:=by rw[HR.out];rfl
   go_wp2
   all_goals (try (exfalso;go_light;simp_all;done))
   go_ret
   exact ⟨rfl,fZ.out⟩
  go_wp2_with fail
  refine (Sw.out _).mono ?_
  rintro e Nf ⟨rfl,kN⟩
  obtain ⟨g0,g1,L1⟩:=lC kN L1 g0 g1
  obtain ⟨h0,h1,L2⟩:=lC kN L2 h0 h1
  have ji:=hide (aa fZ.out kN)
  clear kN
  cases F2
  ·obtain rfl:R=false:=by rw[HR.out];rfl
   go_wp2
   all_goals (try (exfalso;go_light;simp_all;done))
   go_ret
   exact ⟨rfl,ji.out⟩
  by_cases hw0:w=0
  ·subst hw0
   obtain rfl:R=true:=by rw[HR.out];rfl
   go_wp2
   all_goals (try (exfalso;go_light;simp_all;done))
   go_ret
   exact ⟨rfl,ji.out⟩
  have HW0:=hide hw0
  have q0:(w==0)=false:=by simpa using hw0
  have hb:=HB.out
  have hg1:=Sy.out (by first|rfl|trivial)
  have hg2:=HG2.out (by first|rfl|trivial)
  have m1:=nI hg1.1.1 hg1.1.2 (b:=w) (by omega) (by omega)
  have m2:=nI hg2.1.1 hg2.1.2 (b:=w) (by omega) (by omega)
  have m3:=nI (a:=p) (b:=d) (by omega) (by omega) (by omega) hg1.2.2
  have m4:=nI (a:=p) (b:=e) (by omega) (by omega) (by omega) hg2.2.2
  have w1:IntKind.i64.wrap (n*w)=n*w:=IntWalk.i64_in _ (by omega)
  have w2:IntKind.i64.wrap (m*w)=m*w:=IntWalk.i64_in _ (by omega)
  have w3:IntKind.i64.wrap (p*d)=p*d:=IntWalk.i64_in _ (by omega)
  have w4:IntKind.i64.wrap (p*e)=p*e:=IntWalk.i64_in _ (by omega)
  have HRR:Hid (R=(decide (n*w<=p*d)&&decide (p*e<=m*w))):=hide (by rw[HR.out,q0];simp)
  clear hb hg1 hg2 m1 m2 m3 m4 hw0
  by_cases c1:n*w<=p*d
  ·have c2:decide (n*w<=p*d)=true:=by simpa using c1
   go_wp2
   all_goals (try (exfalso;go_light;simp_all;done))
   go_ret
   exact ⟨ay (by rw[HRR.out,c2];simp),ji.out⟩
  ·have c2:decide (n*w<=p*d)=false:=by simpa using c1
   go_wp2
   all_goals (try (exfalso;go_light;simp_all;done))
   go_ret
   exact ⟨ay (by rw[HRR.out,c2];simp),ji.out⟩
end Go.Proofs.YtggejcekmehocaaGreatDoor
