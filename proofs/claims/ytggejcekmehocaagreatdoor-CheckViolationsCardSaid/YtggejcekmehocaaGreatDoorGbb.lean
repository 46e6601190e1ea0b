/-
  warehouseref28.total. (Printed by gen_totr.py.) Plain law: what the closed example of chapter 28 gives. No program is in sight.
-/
import Derived.Deep.DeepCutAuto
import Derived.Deep.DrawnRows
import Derived.Test.YtggejcekmehocaaGreatDoorGaz
import Derived.Test.YtggejcekmehocaaGreatDoorGav
import Derived.Test.YtggejcekmehocaaGreatDoorExp
import Derived.Test.YtggejcekmehocaaGreatDoorJdg
import Derived.Test.YtggejcekmehocaaGreatDoorGac
namespace Go.Proofs.YtggejcekmehocaaGreatDoor
set_option maxHeartbeats 4000000
set_option maxRecDepth 100000
open Go.RowKit
set_option linter.unusedSimpArgs false
set_option linter.unusedVariables false
attribute [local go_sem ↓] Go.wp_at_zero Go.wp_at_succ
theorem JM {cols:List Col}{nm:ByteArray}{row:List Val}{at_:Nat}(hi:(bD cols [nm]).1=0)(hat:index cols nm=(at_:Int))(hl:at_<row.length):aN cols [nm] row=[row.getD at_ zeroV]:=by
 have h1:(bD cols [nm]).2=[(at_:Int)]:=by rw[(fC hi).1,List.map_cons,List.map_nil,hat]
 rw[aN,iC,h1]
 simp[hl]
theorem zm {cols:List Col}{nm:ByteArray}(h:0<=index cols nm):(bD cols [nm]).1=0:=by
 have h1:iw cols [nm]=0:=by simp[iw,aj,uT,jm];omega
 rw[bD,if_neg (by omega)]
theorem M0 (W:World)(s:ByteArray)(hs:Str s):In (W.alloc (.cells #[.string s] 9)) (some ⟨W.heap.size,0,none⟩) 1 1 [s]:=
 oD (heap_alloc_new W _) (Cells.one ⟨rfl,hs⟩) rfl (by decide)
theorem xq (w:World)(rn:ByteArray)(A1:Option Addr)(n1 c1:Nat)(cols:List Col)(hc:In w A1 n1 c1 cols)(Ak:Option Addr)(nk ck:Nat)(A3:Option Addr)(n3 c3:Nat)(rows:List Ent)(hr:In w A3 n3 c3 rows)(nm:ByteArray)(hnm:Str nm)(at_:Nat)(hat:index cols nm=(at_:Int))(hlt_:at_<cols.length)(hT:eH cols rows=0)(hb2:n1<=4096):
  Calls Tryz.prog 70 #[.agg #[.string rn,.slice A1 n1 c1,.slice Ak nk ck,.slice A3 n3 c3],.string nm] w λe w'=>e=.returned (.int .i64 (aK at_ rows))/\Below w.heap.size w w':=by
 obtain ⟨hbz,htz,hrz⟩:=bA hT
 obtain ⟨hrl,hrc⟩:=eQ hbz htz
 have Ca:=hide hrc
 have Kz:=hide hrz
 have xR:=hide hr.len
 have HAT:=hide hat
 have Qh:=hide hlt_
 have Y7:=hide (zm (cols:=cols) (nm:=nm) (by omega))
 have Zd:=hide hnm
 have h63:=hr.le
 have Rp:n3<=4096:=by rw[<-hr.len];exact hrl
 have FB:Hid (∀x∈rows, -1073741824<=(x.row.getD at_ zeroV).num/\(x.row.getD at_ zeroV).num<=1073741824):=hide λx hx=>by
  have h1:=iU (hrz x hx)
  have h2:at_<x.row.length:=by omega
  rw[List.getD_eq_getElem?_getD,List.getElem?_eq_getElem h2]
  exact zR (vT (hrz x hx) (List.getElem?_eq_getElem h2))
 clear hbz htz hrz hrl hrc hT hat hlt_ hnm
 go_enter Tryz.func70,Tryz.ntmps70
 have HC:=hide hc
 clear hc
 have HR:=hide hr
 clear hr
 go_wp2_with fail
 obtain ⟨W1,hW1⟩: ∃W,W=w.alloc (.cells #[.string rn,.slice A1 n1 c1,.slice Ak nk ck,.slice A3 n3 c3] 32):=⟨_,rfl⟩
 obtain ⟨hbW1,fO,g0,g1,g2,g3⟩:=pE hW1 rfl
 rw[<-hW1]
 clear hW1
 have HC:=hide (HC.out.below hbW1)
 have HR:=hide (HR.out.below hbW1)
 have qA:=hide hbW1
 clear hbW1
 have LR:=lt_of_cell g0
 obtain ⟨W3,rfl⟩: ∃W,W=W1:=⟨_,rfl⟩
 go_wp2
 go_loopg [5,6] n3 (λleft s i wr=> ∃k:Nat,k+left=n3/\i=.int .i64 k/\s=.int .i64 (aK at_ (rows.take k))/\Below W3.heap.size W3 wr)
 case atStart=>exact ⟨0,by omega,rfl,by simp[aK],Below.refl _ _⟩
 case round=>
  obtain ⟨k,hk,rfl,rfl,hb⟩:=hrel
  have HC:=hide (HC.out.below hb)
  have HR:=hide (HR.out.below hb)
  obtain ⟨g0,g1,g2,g3,LR⟩:=qH hb LR g0 g1 g2 g3
  have fK:=hide hb
  clear hb
  have l9:=hide fK.out
  have jk:=hide (aa qA.out fK.out)
  by_cases hlt:k<n3
  ·obtain ⟨b,off,x,rfl,hBb,Dz,Ax,An,Ac,e0,e1,e2,e3⟩:=HR.out.ent hlt
   have hxm:=aM Dz.out
   have hal:at_<An:=by have h1:=iU (Kz.out x hxm);have h2:=e2.len;have h3:=Qh.out;omega
   have SQ:Hid (aN cols [nm] x.row=[x.row.getD at_ zeroV]):=hide (JM Y7.out HAT.out (by rw[e2.len];exact hal))
   obtain ⟨VN,XF⟩: ∃v,x.row.getD at_ zeroV=v:=⟨_,rfl⟩
   have HN:Hid (aK at_ (rows.take (k+1))=aK at_ (rows.take k)+VN.num*x.count):=hide (by rw[bP Dz.out,yI,<-XF];simp[aK])
   have hbd:=yH (k:=at_) (l:=rows.take k) (λy hy=>Ca.out y (List.mem_of_mem_take hy)) (λy hy=>FB.out y (List.mem_of_mem_take hy))
   have hlk:(rows.take k).length<=4096:=by rw[List.length_take];omega
   have Mo:=Ca.out x hxm
   have hvb:=FB.out x hxm
   rw[XF]at hvb SQ
   have hm:=C8 hvb.1 hvb.2 Mo.1 Mo.2
   obtain ⟨F,hF⟩: ∃F,aK at_ (rows.take k)=F:=⟨_,rfl⟩
   rw[hF]at hbd HN⊢
   clear hF
   obtain ⟨vn,Sa⟩: ∃q,VN.num=q:=⟨_,rfl⟩
   rw[Sa]at HN hvb hm
   have Td:=hide Sa
   have Z5:IntKind.i64.wrap (vn*x.count)=vn*x.count:=IntWalk.i64_in _ (by omega)
   have hwr:IntKind.i64.wrap (F+vn*x.count)=F+vn*x.count:=IntWalk.i64_in _ (by omega)
   have k0:(0:Int)<=(k:Int):=by omega
   have k1:(k:Int)<(n3:Int):=by omega
   have HRW:=hide e2
   have yj:=hide hBb
   have E0:=hide e0
   have E1:=hide e1
   have G1:=hide g1
   have G3:=hide g3
   have GL:=hide LR
   have xC:=hide λW B n5 c5 h1 h2 h3=>iT W A1 n1 c1 cols h1 B n5 c5 [nm] h2 Ax An Ac x.row h3 (by omega)
   have Nu:=hide (λ(W:World)=>af (w:=W) (o:=.cells #[.string nm] 9))
   rw[SQ.out]at xC
   clear hbd hlk Mo hvb hm e2 Sa XF SQ
   go_upto_region 5 with (fail)
   ·skip
    refine wp_region_held_drew (S:=λV=>V.cell? ⟨w.heap.size,1,none⟩=some (.slice A1 n1 c1)/\V.cell? ⟨w.heap.size,3,none⟩=some (.slice (some ⟨b,off,none⟩) n3 c3)/\V.cell? ⟨b,off+k*2,none⟩=some (.slice Ax An Ac)/\V.cell? ⟨b,off+k*2+1,none⟩=some (.int .i64 x.count)) (by kernel_rfl) (by exact ⟨g1,g3,e0,e1⟩) (λhHeld=>?_)
    refine wpAnyH_take (i:=0) (v:=?_) rfl (by kernel_rfl) (by kernel_rfl) (by kernel_rfl) (λ_ _ _ h=>h) (Or.inl ⟨by rfl,?_⟩) hHeld ?_
    rotate_left
    ·intro w hSw
     try dsimp only at hSw
     go_simp
     try with_reducible rfl
    (try simp only[Act.put,bL])
    refine wpAnyH_take (i:=1) (v:=?_) rfl (by kernel_rfl) (by kernel_rfl) (by kernel_rfl) (λ_ _ _ h=>h) (Or.inl ⟨by rfl,?_⟩) hHeld ?_
    rotate_left
    ·intro w hSw
     try dsimp only at hSw
     go_simp
     try with_reducible rfl
    (try simp only[Act.put,bL])
    refine wpAnyH_take (i:=2) (v:=?_) rfl (by kernel_rfl) (by kernel_rfl) (by kernel_rfl) (λ_ _ _ h=>h) (Or.inl ⟨by rfl,?_⟩) hHeld ?_
    rotate_left
    ·intro w hSw
     try dsimp only at hSw
     go_simp
     try with_reducible rfl
    (try simp only[Act.put,bL])
    refine wpAnyH_take (i:=3) (v:=?_) rfl (by kernel_rfl) (by kernel_rfl) (by kernel_rfl) (λ_ _ _ h=>h) (Or.inl ⟨by rfl,?_⟩) hHeld ?_
    rotate_left
    ·intro w hSw
     try dsimp only at hSw
     go_simp
     try with_reducible rfl
    (try simp only[Act.put,bL])
    refine wpAnyH_take (i:=5) (v:=?_) rfl (by kernel_rfl) (by kernel_rfl) (by kernel_rfl) (λ_ _ _ h=>h) (Or.inl ⟨by rfl,?_⟩) hHeld ?_
    rotate_left
    ·intro w hSw
     try dsimp only at hSw
     go_simp
     try with_reducible rfl
    (try simp only[Act.put,bL])
    refine wpAnyH_take (i:=6) (v:=?_) rfl (by kernel_rfl) (by kernel_rfl) (by kernel_rfl) (λ_ _ _ h=>h) (Or.inl ⟨by rfl,?_⟩) hHeld ?_
    rotate_left
    ·intro w hSw
     try dsimp only at hSw
     go_simp
     try with_reducible rfl
    (try simp only[Act.put,bL])
    refine wpAnyH_take (i:=7) (v:=?_) rfl (by kernel_rfl) (by kernel_rfl) (by kernel_rfl) (λ_ _ _ h=>h) (Or.inl ⟨by rfl,?_⟩) hHeld ?_
    rotate_left
    ·intro w hSw
     try dsimp only at hSw
     go_simp
     try with_reducible rfl
    (try simp only[Act.put,bL])
    refine wpAnyH_take (i:=8) (v:=?_) rfl (by kernel_rfl) (by kernel_rfl) (by kernel_rfl) (λ_ _ _ h=>h) (Or.inl ⟨by rfl,?_⟩) hHeld ?_
    rotate_left
    ·intro w hSw
     try dsimp only at hSw
     go_simp
     try with_reducible rfl
    (try simp only[Act.put,bL])
    refine wpAnyH_take (i:=9) (v:=?_) rfl (by kernel_rfl) (by kernel_rfl) (by kernel_rfl) (λ_ _ _ h=>h) (Or.inl ⟨by rfl,?_⟩) hHeld ?_
    rotate_left
    ·intro w hSw
     try dsimp only at hSw
     go_simp
     try with_reducible rfl
    (try simp only[Act.put,bL])
    refine wpAnyH_take (i:=10) (v:=?_) rfl (by kernel_rfl) (by kernel_rfl) (by kernel_rfl) (λ_ _ _ h=>h) (Or.inl ⟨by rfl,?_⟩) hHeld ?_
    rotate_left
    ·intro w hSw
     try dsimp only at hSw
     go_simp
     try with_reducible rfl
    (try simp only[Act.put,bL])
    refine wpAnyH_take (i:=15) (v:=?_) rfl (by kernel_rfl) (by kernel_rfl) (by kernel_rfl) (λ_ _ _ h=>h) (Or.inl ⟨by rfl,?_⟩) hHeld ?_
    rotate_left
    ·intro w hSw
     try dsimp only at hSw
     go_simp
     try with_reducible rfl
    (try simp only[Act.put,bL])
    refine wpAnyH_take (i:=16) (v:=?_) rfl (by kernel_rfl) (by kernel_rfl) (by kernel_rfl) (λ_ _ _ h=>h) (Or.inl ⟨by rfl,?_⟩) hHeld ?_
    rotate_left
    ·intro w hSw
     try dsimp only at hSw
     go_simp
     try with_reducible rfl
    (try simp only[Act.put,bL])
    refine wpAnyH_take (i:=17) (v:=?_) rfl (by kernel_rfl) (by kernel_rfl) (by kernel_rfl) (λ_ _ _ h=>h) (Or.inl ⟨by rfl,?_⟩) hHeld ?_
    rotate_left
    ·intro w hSw
     try dsimp only at hSw
     go_simp
     try with_reducible rfl
    (try simp only[Act.put,bL])
    refine wpAnyH_take (i:=18) (v:=?_) rfl (by kernel_rfl) (by kernel_rfl) (by kernel_rfl) (λ_ _ _ h=>h) (Or.inl ⟨by rfl,?_⟩) hHeld ?_
    rotate_left
    ·intro w hSw
     try dsimp only at hSw
     go_simp
     try with_reducible rfl
    (try simp only[Act.put,bL])
    refine wpAnyH_take (i:=19) (v:=?_) rfl (by kernel_rfl) (by kernel_rfl) (by kernel_rfl) (λ_ _ _ h=>h) (Or.inl ⟨by rfl,?_⟩) hHeld ?_
    rotate_left
    ·intro w hSw
     try dsimp only at hSw
     go_simp
     try with_reducible rfl
    (try simp only[Act.put,bL])
    refine wpAnyH_take (i:=20) (v:=?_) rfl (by kernel_rfl) (by kernel_rfl) (by kernel_rfl) (λ_ _ _ h=>h) (Or.inl ⟨by rfl,?_⟩) hHeld ?_
    rotate_left
    ·intro w hSw
     try dsimp only at hSw
     go_simp
     try with_reducible rfl
    (try simp only[Act.put,bL])
    refine wpAnyH_ready (rs:=[4]) (by kernel_rfl) (by simp) ?_
    refine AllReadyH.cons rfl (λK hK=>?_) AllReadyH.nil
    go_simp
    refine hK.out _ _ ?_ (λaB=>?_)
    ·exact ⟨ah (Nu.out _) GL.out G1.out,ah (Nu.out _) GL.out G3.out,ah (Nu.out _) yj.out E0.out,ah (Nu.out _) yj.out E1.out⟩
    clear hK K hHeld
    have hHeld:=aB
    clear aB
    (try simp only[Act.put,bL])
    refine wpAnyH_ready (rs:=[11]) (by kernel_rfl) (by simp) ?_
    refine AllReadyH.cons rfl (λK hK=>?_) AllReadyH.nil
    go_simp
    go_at_call 82
    refine (xC.out _ _ _ _ (by exact HC.out.below (aa (Below.refl _ _).drew af)) (by exact M0 wr.drew nm Zd.out) (by exact HRW.out.below (aa (Below.refl _ _).drew af)) (by omega)).mono ?_
    rintro e w6 ⟨⟨A6,m6,c6,rfl,P8,Jm,_⟩,hb6⟩
    have jE:=hide (aa (ag (af (w:=wr.drew) (o:=.cells #[.string nm] 9))) hb6)
    obtain rfl:m6=1:=by simpa using Jm.symm
    obtain ⟨bv,ov,v,rfl,kT,HV,v0,v1,v2,X7⟩:=(gD P8 Jm).val (k:=0) (by omega)
    obtain rfl:VN=v:=by have h:=HV.out;simpa using h
    rw[Td.out]at v1
    clear P8 Jm hb6 v0 v2
    go_wp2_with fail
    refine hK.out _ _ ?_ (λaB=>?_)
    ·exact ⟨ah jE.out GL.out G1.out,ah jE.out GL.out G3.out,ah jE.out yj.out E0.out,ah jE.out yj.out E1.out⟩
    clear hK K hHeld
    have hHeld:=aB
    clear aB
    (try simp only[Act.put,bL])
    refine wpAnyH_take (i:=12) (v:=?_) rfl (by kernel_rfl) (by kernel_rfl) (by kernel_rfl) (λ_ _ _ h=>h) (Or.inl ⟨by rfl,?_⟩) hHeld ?_
    rotate_left
    ·intro w hSw
     try dsimp only at hSw
     go_simp
     try with_reducible rfl
    (try simp only[Act.put,bL])
    refine wpAnyH_take (i:=13) (v:=?_) rfl (by kernel_rfl) (by kernel_rfl) (by kernel_rfl) (λ_ _ _ h=>h) (Or.inl ⟨by rfl,?_⟩) hHeld ?_
    rotate_left
    ·intro w hSw
     try dsimp only at hSw
     go_simp
     try with_reducible rfl
    (try simp only[Act.put,bL])
    refine wpAnyH_ready (rs:=[14]) (by kernel_rfl) (by simp) ?_
    refine AllReadyH.cons rfl (λK hK=>?_) AllReadyH.nil
    go_simp
    refine hK.out _ _ ?_ (λaB=>?_)
    ·exact ⟨ah jE.out GL.out G1.out,ah jE.out GL.out G3.out,ah jE.out yj.out E0.out,ah jE.out yj.out E1.out⟩
    clear hK K hHeld
    have hHeld:=aB
    clear aB
    (try simp only[Act.put,bL])
    refine wpAnyH_take (i:=21) (v:=?_) rfl (by kernel_rfl) (by kernel_rfl) (by kernel_rfl) (λ_ _ _ h=>h) (Or.inl ⟨by rfl,?_⟩) hHeld ?_
    rotate_left
    ·intro w hSw
     try dsimp only at hSw
     go_simp
     try with_reducible rfl
    (try simp only[Act.put,bL])
    refine wpAnyH_take (i:=22) (v:=?_) rfl (by kernel_rfl) (by kernel_rfl) (by kernel_rfl) (λ_ _ _ h=>h) (Or.inl ⟨by rfl,?_⟩) hHeld ?_
    rotate_left
    ·intro w hSw
     try dsimp only at hSw
     go_simp
     try with_reducible rfl
    (try simp only[Act.put,bL])
    refine wpAnyH_take (i:=23) (v:=?_) rfl (by kernel_rfl) (by kernel_rfl) (by kernel_rfl) (λ_ _ _ h=>h) (Or.inl ⟨by rfl,?_⟩) hHeld ?_
    rotate_left
    ·intro w hSw
     try dsimp only at hSw
     go_simp
     try with_reducible rfl
    (try simp only[Act.put,bL])
    refine wpAnyH_done (by kernel_rfl) ?_ _
    have NH:=hide (aa l9.out jE.out)
    go_wp2
    go_roundg (gk-1)
    case measure=>omega
    case rel=>exact ⟨k+1,by omega,by go_num,by rw[HN.out],NH.out⟩
  ·have HT:Hid (rows.take k=rows):=hide (List.take_of_length_le (by rw[xR.out];omega))
   rw[HT.out]
   go_wp2
   go_ret
   exact ⟨rfl,jk.out⟩
def kA:ByteArray:=⟨#[97]⟩
def kB:ByteArray:=⟨#[98]⟩
def Mv:ByteArray:=⟨#[]⟩
def iV (n:Int):Val:=⟨2,n,⟨#[]⟩⟩
def bI:List Col:=[⟨kA,2,false⟩,⟨kB,2,false⟩]
def cB:List Ent:=[⟨[iV 1,iV 2],1⟩,⟨[iV 1,iV 3],1⟩,⟨[iV 2,iV 5],1⟩]
def rz:Chk:={name:=⟨#[99]⟩,table:=Mv,kind:=0,cols:=[kA],other:=Mv,ocols:=[],low:=0,high:=0,cond:=[],ln:=0,ld:=0,mn:=0,md:=0,policy:=1}
def Ex:Chk:={name:=⟨#[116]⟩,table:=Mv,kind:=6,cols:=[kA],other:=Mv,ocols:=[kB],low:=0,high:=0,cond:=[],ln:=0,ld:=0,mn:=0,md:=0,policy:=2}
theorem Ez:aD bI=0:=by
 simp[bI,kA,kB,aD,aj,ib,cu,gB,iB,fq,index,aU,ByteArray.toList_eq,ByteArray.size]
theorem Mr:index bI kA=0:=by simp[bI,index,aU,kA,ByteArray.toList_eq]
theorem Ms:index bI kB=1:=by simp[bI,index,aU,kA,kB,ByteArray.toList_eq]
theorem uS {n:Int}(h0:0<=n)(h1:n<=100):valid (iV n)=true:=by
 have h2: -1073741824<=n:=by omega
 have h3:n<=1073741824:=by omega
 simp[iV,valid,MG,h2,h3]
theorem CU {a b:Int}(h0:0<=a)(h1:a<=100)(h2:0<=b)(h3:b<=100):aS bI [iV a,iV b]=0:=by
 have v1:=uS h0 h1
 have v2:=uS h2 h3
 simp[aS,bI,aj,dF,v1,v2]
 simp[iV]
theorem CS {a b:Int}(h0:0<=a)(h1:a<=100)(h2:0<=b)(h3:b<=100):dw ⟨[iV a,iV b],1⟩=0:=by
 have v1:=uS h0 h1
 have v2:=uS h2 h3
 simp[dw,aj,v1,v2]
theorem Ii:aX cB=0:=by
 have e1:=CS (a:=1) (b:=2) (by omega) (by omega) (by omega) (by omega)
 have e2:=CS (a:=1) (b:=3) (by omega) (by omega) (by omega) (by omega)
 have e3:=CS (a:=2) (b:=5) (by omega) (by omega) (by omega) (by omega)
 have e4:aC [iV 1,iV 2] [iV 1,iV 3]<0:=Ia.2 (.inr ⟨rfl,by decide⟩)
 have e5:aC [iV 1,iV 3] [iV 2,iV 5]<0:=by decide
 have e6:¬0<=aC [iV 1,iV 2] [iV 1,iV 3]:=by omega
 have e7:¬0<=aC [iV 1,iV 3] [iV 2,iV 5]:=by omega
 simp[aX,cB,aj,dO,e1,e2,e3,e6,e7]
theorem CV:eH bI cB=0:=by
 have e1:=CU (a:=1) (b:=2) (by omega) (by omega) (by omega) (by omega)
 have e2:=CU (a:=1) (b:=3) (by omega) (by omega) (by omega) (by omega)
 have e3:=CU (a:=2) (b:=5) (by omega) (by omega) (by omega) (by omega)
 have e4:gU cB=true:=by rw[wR Ii];rfl
 rw[eH,if_neg (by rw[Ii];simp),if_neg (by rw[e4];simp)]
 simp[cB,aj,e1,e2,e3]
theorem Gi:bD bI [kA]=(0,[0]):=by
 have h:=zm (cols:=bI) (nm:=kA) (by rw[Mr];omega)
 exact Prod.ext h (by rw[(fC h).1,List.map_cons,List.map_nil,Mr])
theorem Rv:bD bI [kB]=(0,[1]):=by
 have h:=zm (cols:=bI) (nm:=kB) (by rw[Ms];omega)
 exact Prod.ext h (by rw[(fC h).1,List.map_cons,List.map_nil,Ms])
theorem oG {a b:Int}:aN bI [kA] [iV a,iV b]=[iV a]:=by
 rw[aN,Gi];rfl
theorem O9:bu rz bI [] []=0:=by
 simp[bu,rz,Ez,iE,jA,Gi,iL]
theorem Mt:bu Ex bI bI []=0:=by
 simp[bu,Ex,Ez,iE,jA,Gi,Rv,iL]
 simp[bI]
theorem CR:aI rz bI [] cB [] []=0:=by
 rw[aI,if_neg (by rw[O9];simp),if_neg (by rw[CV];simp)]
 simp[rz,iL]
theorem Ey:aI Ex bI bI cB cB []=0:=by
 rw[aI,if_neg (by rw[Mt];simp),if_neg (by rw[CV];simp)]
 simp[CV]
theorem uY {a b:List Val}(h:a≠b):jO a b=false:=by
 cases q:jO a b
 ·rfl
 ·exact absurd (kg.1 q) h
theorem vX:jO [iV 1] [iV 1]=true:=kg.2 rfl
theorem vY:jO [iV 2] [iV 1]=false:=uY (by simp[iV])
theorem Br:jO [iV 1] [iV 2]=false:=uY (by simp[iV])
theorem Bt:jO [iV 2] [iV 2]=true:=kg.2 rfl
theorem zq:bG rz bI [] cB [] []=(0,[⟨[iV 1,iV 2],1⟩,⟨[iV 1,iV 3],1⟩]):=by
 have g1:aH (sQ bI [kA] cB [iV 1])=2:=by
  simp[sQ,cB,oG,vX,vY,Br,Bt,aH]
 have g2:aH (sQ bI [kA] cB [iV 2])=1:=by
  simp[sQ,cB,oG,vX,vY,Br,Bt,aH]
 have v1: ∀b,cO rz bI [] cB [] [] [iV 1,iV b]=true:=λb=>by
  rw[cO,if_pos (show rz.kind=0 from rfl),show rz.cols=[kA] from rfl,oG,g1];rfl
 have v2: ∀b,cO rz bI [] cB [] [] [iV 2,iV b]=false:=λb=>by
  rw[cO,if_pos (show rz.kind=0 from rfl),show rz.cols=[kA] from rfl,oG,g2];rfl
 rw[bG,if_neg (by rw[CR];simp)]
 congr 1
 rw[show cB=[⟨[iV 1,iV 2],1⟩,⟨[iV 1,iV 3],1⟩,⟨[iV 2,iV 5],1⟩] from rfl]at*
 simp[v1,v2]
theorem Pb:D7 rz bI [] cB [] [] [iV 1,iV 2]=(0,⟨⟨#[99]⟩,[iV 1],[[iV 1,iV 3]]⟩):=by
 have s1:jO [iV 1,iV 2] [iV 1,iV 2]=true:=kg.2 rfl
 have s2:jO [iV 1,iV 3] [iV 1,iV 2]=false:=uY (by simp[iV])
 have s3:jO [iV 2,iV 5] [iV 1,iV 2]=false:=uY (by simp[iV])
 have c1:aC [iV 1,iV 2] [iV 1,iV 2]=0:=dP.2 rfl
 rw[D7,if_neg (by rw[CR];simp),zq,if_neg (by rw[cntF,if_pos c1];simp),show rz.cols=[kA] from rfl,oG]
 simp[jd,cB,oG,s1,s2,s3,vX,vY,rz]
theorem Jv:di Ex bI bI cB cB []=(0,⟨⟨#[116]⟩,true,0,4,10⟩):=by
 have t1:bM bI [kA]=0:=by rw[bM,show ([kA]:List ByteArray).getD 0 default=kA from rfl,Mr];rfl
 have t2:bM bI [kB]=1:=by rw[bM,show ([kB]:List ByteArray).getD 0 default=kB from rfl,Ms];rfl
 have c1:aK 0 cB=4:=by simp[aK,cB,iV]
 have c2:aK 1 cB=10:=by simp[aK,cB,iV]
 rw[di,if_neg (by rw[Ey];simp),lN,if_neg (by decide),if_pos (by decide),show Ex.cols=[kA] from rfl,show Ex.ocols=[kB] from rfl,t1,t2,c1,c2]
 rfl
end Go.Proofs.YtggejcekmehocaaGreatDoor
