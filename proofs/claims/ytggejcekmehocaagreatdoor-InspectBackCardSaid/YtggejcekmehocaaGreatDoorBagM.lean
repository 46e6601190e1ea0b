/-
  Package bag: merge, Add. (Printed by gen_bagm.py.)
-/
import Derived.Test.YtggejcekmehocaaGreatDoorGam
namespace Go.Proofs.YtggejcekmehocaaGreatDoor
set_option maxHeartbeats 8000000
set_option maxRecDepth 100000
open Go.RowKit
set_option linter.unusedSimpArgs false
set_option linter.unusedVariables false
def sg (s:Int)(l:List Ent):List Ent:=l.map λx=>⟨x.row,s*x.count⟩
theorem sg_one (l:List Ent):sg 1 l=l:=by
 have:(λx:Ent=>(⟨x.row,1*x.count⟩:Ent))=id:=by
  funext x
  obtain ⟨a,b⟩:=x
  simp
 rw[sg,this,List.map_id]
def MState (M rest:List Ent)(ok:Bool)(zs:List Ent):Prop:=
 ∃ws,M=ws++rest/\(ok=true->zs=keepF ws/\ ∀x∈ws, -65536<=x.count/\x.count<=65536)/\(ok=false-> ∃x∈ws,x.count < -65536\/65536<x.count)
theorem MState.start (M:List Ent):MState M M true []:=⟨[],rfl,λ_=>⟨rfl,by simp⟩,λh=>by cases h⟩
theorem MState.step {M rest rest' zs:List Ent}{x:Ent}(h:MState M rest true zs)(e:rest=x :: rest'):MState M rest' (putS zs x.row x.count).1 (putS zs x.row x.count).2:=by
 obtain ⟨ws,h1,h2,_⟩:=h
 obtain ⟨h3,h4⟩:=h2 rfl
 subst h3 e
 refine ⟨ws++[x],by rw[h1];simp,λq=>?_,λq=>?_⟩
 ·rw[putS]at q⊢
  split at q
  ·cases q
  ·rename_i hr
   rw[if_neg hr]
   refine ⟨?_,λy hy=>?_⟩
   ·show (if x.count=0 then keepF ws else keepF ws++[⟨x.row,x.count⟩])=keepF (ws++[x])
    rw[show keepF (ws++[x])=keepF ws++keepF [x] from List.filter_append ..]
    split
    ·rename_i q;simp[keepF,q]
    ·rename_i q;simp[keepF,q]
   ·rcases List.mem_append.1 hy with hy|hy
    ·exact h4 y hy
    ·simp at hy;subst hy;omega
 ·rw[putS]at q
  split at q
  ·rename_i hr;exact ⟨x,by simp,hr⟩
  ·cases q
theorem resErr_bad: ∀(l:List Ent) (m:Nat),(∃x∈l,x.count < -65536\/65536<x.count)->resErr m l=true
 | [],m,h=>by simp at h
 |x :: l,m,h=>by
  rw[resErr]
  by_cases q:x.count=0
  ·rw[if_pos q]
   refine resErr_bad l m ?_
   obtain ⟨y,hy,h⟩:=h
   rcases List.mem_cons.1 hy with rfl|hy
   ·omega
   ·exact ⟨y,hy,h⟩
  ·rw[if_neg q]
   obtain ⟨y,hy,h⟩:=h
   rcases List.mem_cons.1 hy with rfl|hy
   ·rcases h with h|h <;> simp[h]
   ·rw[resErr_bad l (m+1) ⟨y,hy,h⟩];simp
def mergS (M:List Ent):Int×List Ent:=if resErr 0 M=true then (2,[]) else (0,keepF M)
theorem MState.bad {M rest zs:List Ent}(h:MState M rest false zs):mergS M=(2,[]):=by
 obtain ⟨ws,h1,_,h3⟩:=h
 obtain ⟨x,hx,h⟩:=h3 rfl
 rw[mergS,if_pos (resErr_bad _ _ ⟨x,by rw[h1];simp[hx],h⟩)]
theorem MState.fin {M zs:List Ent}(h:MState M [] true zs):mergS M=if 4096<zs.length then (2,[]) else (0,zs):=by
 obtain ⟨ws,h1,h2,_⟩:=h
 obtain ⟨h3,h4⟩:=h2 rfl
 rw[List.append_nil]at h1
 subst h1 h3
 have hk:=resErr_iff (keepF M) 0 (keepF_noz _) (by omega)
 rw[resErr_keep]at hk
 rw[mergS]
 by_cases q:4096<(keepF M).length
 ·rw[if_pos q,if_pos]
  cases g:resErr 0 M
  ·have:=(hk.1 g).2;omega
  ·rfl
 ·rw[if_neg q,if_neg]
  rw[hk.2 ⟨λx hx=>h4 x (keepF_sub x hx),by omega⟩];simp
theorem mergS_bag {xs ys M:List Ent}(h:AscE M)(hc: ∀r,cnt M r=cnt xs r+cnt ys r):mergS M=bagS (xs++ys):=by
 rw[bagS_of h λr=>by rw[hc,cnt_app]];rfl
theorem putS_len (zs:List Ent)(row:List Val)(k:Int):(putS zs row k).2.length<=zs.length+1:=by
 rw[putS]
 split
 ·simp
 ·simp only
  split
  ·omega
  ·simp
theorem cons_drop {xs:List Ent}{x:Ent}(h:xs.drop 0=x :: xs.drop 1):xs=x :: xs.drop 1:=by simpa using h
theorem sg_cons {s:Int}{xs l:List Ent}{x:Ent}(h:xs=x :: l):sg s xs=⟨x.row,s*x.count⟩ :: sg s l:=by rw[h];rfl
theorem merge_bag (w:World)(s:Int)(hs:s=1\/s= -1)(A A':Option Addr)(n n' c c':Nat)(xs ys:List Ent)(hx:In w A n c xs)(hy:In w A' n' c' ys)(hn:n+n'<=1048576)(hbx:Bnd 65536 xs)(hby:Bnd 65536 ys)(hrx: ∀x∈xs,x.row.length<=12)(hry: ∀x∈ys,x.row.length<=12):
  Calls Tryz.prog 74 #[.slice A n c,.slice A' n' c',.int .i64 s] w
   λe w'=>(∃v,e=.returned (.tuple #[v,.int .i64 (mergS (mergeL xs (sg s ys))).1])/\OE w.heap.size w' v (mergS (mergeL xs (sg s ys))).2)/\Below w.heap.size w w':=by
 obtain ⟨M,hM⟩: ∃M,mergeL xs (sg s ys)=M:=⟨_,rfl⟩
 rw[hM]
 obtain ⟨R,hR⟩: ∃R,mergS M=R:=⟨_,rfl⟩
 rw[hR]
 have HR:=hide hR
 have HM:=hide hM
 have HRX:=hide hrx
 have HRY:=hide hry
 clear hM hR hrx hry
 go_enter Tryz.func74,Tryz.ntmps74
 go_wp2
 go_loopw [0,1,8,9] (λa b o okv wr=> ∃(B B':Option Addr) (m m' d d':Nat) (us vs zs:List Ent) (ok:Bool),a=.slice B m d/\b=.slice B' m' d'/\okv=.bool ok/\In w B m d us/\In w B' m' d' vs/\m+m'+zs.length<=n+n'/\
   (∀x∈us,x∈xs)/\(∀x∈vs,x∈ys)/\MState M (mergeL us (sg s vs)) ok zs/\OE w.heap.size wr o zs/\Below w.heap.size w wr)
  (λa b _ _ _=>slen a+slen b)
 case atStart=>exact ⟨A,A',n,n',c,c',xs,ys,[],true,rfl,rfl,rfl,hx,hy,by simp,λ_ h=>h,λ_ h=>h,by rw[HM.out];exact MState.start M,OL.nil (Nat.le_refl _),Below.refl _ _⟩
 case round=>
  obtain ⟨B,B',m,m',d,d',us,vs,zs,ok,rfl,rfl,rfl,hus,hvs,hlen,hux,hvy,hst,hown,hb⟩:=hrel
  have HST:=hide hst
  have HO:=hide hown
  have HB:=hide hb
  have HUS:=hide hus
  have HVS:=hide hvs
  have HUX:=hide hux
  have HVY:=hide hvy
  have hmm:IntKind.i64.wrap ((m:Int)+(m':Int))=(m:Int)+(m':Int):=IntWalk.i64_in _ (by omega)
  clear hst hown hux hvy
  by_cases hmz:m+m'=0
  ·have h1:m=0:=by omega
   have h2:m'=0:=by omega
   subst h1 h2
   have hu0:us=[]:=List.eq_nil_of_length_eq_zero hus.len
   have hv0:vs=[]:=List.eq_nil_of_length_eq_zero hvs.len
   clear hus hvs
   subst hu0 hv0
   cases ok
   ·have HF:=hide (HR.out.symm.trans HST.out.bad)
    obtain rfl:=HF.out
    go_wp2
    all_goals (try (exfalso;go_light;simp_all;done))
    go_ret2
    exact ⟨⟨_,rfl,OL.nil HB.out.size⟩,HB.out⟩
   ·have HF:=hide (HR.out.symm.trans (MState.fin (by have h:=HST.out;rwa [show mergeL [] (sg s [])=[] from rfl]at h)))
    obtain ⟨A9,c9,hv,hin9⟩:=HO.out.inn
    have hz63:=hin9.le
    subst hv
    clear hin9
    go_wp2_with fail
    refine (done_any _ (.slice A9 zs.length c9) zs.length c9 A9 hz63).mono ?_
    rintro e w3 ⟨rfl,hb3⟩
    have HB3:=hide hb3
    clear hb3
    by_cases h4:4096<zs.length
    ·have HF2:=HF.out
     rw[if_pos h4]at HF2
     obtain rfl:=HF2
     rw[if_pos h4]
     go_wp2
     all_goals (try (exfalso;go_light;simp_all;done))
     go_ret2
     exact ⟨⟨_,rfl,OL.nil (below_trans HB.out HB3.out).size⟩,below_trans HB.out HB3.out⟩
    ·have HF2:=HF.out
     rw[if_neg h4]at HF2
     obtain rfl:=HF2
     rw[if_neg h4]
     go_wp2
     all_goals (try (exfalso;go_light;simp_all;done))
     go_ret2
     exact ⟨⟨_,rfl,HO.out.below HB3.out⟩,below_trans HB.out HB3.out⟩
  have hpos:(0:Int)<(m:Int)+(m':Int):=by omega
  cases ok
  ·have HF:=hide (HR.out.symm.trans HST.out.bad)
   obtain rfl:=HF.out
   go_wp2
   all_goals (try (exfalso;go_light;simp_all;done))
   go_ret2
   exact ⟨⟨_,rfl,OL.nil HB.out.size⟩,HB.out⟩
  have hzl:zs.length<1048576:=by omega
  by_cases hm:0<m
  ·by_cases hm':0<m'
   ·obtain ⟨bl,off,x,rfl,hB,HX,Ax,An,Ac,e0,e1,e2,e3⟩:=HUS.out.ent hm
    simp only[Nat.zero_mul,Nat.add_zero]at e0 e1
    replace e0:=bat HB.out hB e0
    replace e1:=bat HB.out hB e1
    have hBr:=Nat.lt_of_lt_of_le hB HB.out.size
    have m0e:(0:Int)<(m:Int):=by omega
    have m1e:(1:Int)<=(m:Int):=by omega
    have mde:(m:Int)<=(d:Int):=by have:=HUS.out.cap;omega
    have mze:((m:Int)==0)=false:=by simp;omega
    have HXC:=hide (cons_drop HX.out)
    have htl:=hide (Sl.tail HUS.out (k:=1) (by omega))
    have hxm:=HUX.out x (mem_of_drop HX.out)
    have hxb:=hbx x hxm
    have hxr:=HRX.out x hxm
    have HUD:Hid (∀y∈us.drop 1,y∈xs):=hide λy hy=>HUX.out y (List.mem_of_mem_drop hy)
    have hinx:=In.below e2 HB.out
    have hAn:An<=4096:=by have:=e2.len;omega
    obtain ⟨bk,of,y,rfl,hB',HY,Yx,Yn,Yc,f0,f1,f2,f3⟩:=HVS.out.ent hm'
    simp only[Nat.zero_mul,Nat.add_zero]at f0 f1
    replace f0:=bat HB.out hB' f0
    replace f1:=bat HB.out hB' f1
    have hB'r:=Nat.lt_of_lt_of_le hB' HB.out.size
    have m0f:(0:Int)<(m':Int):=by omega
    have m1f:(1:Int)<=(m':Int):=by omega
    have mdf:(m':Int)<=(d':Int):=by have:=HVS.out.cap;omega
    have mzf:((m':Int)==0)=false:=by simp;omega
    have HYC:=hide (cons_drop HY.out)
    have htl':=hide (Sl.tail HVS.out (k:=1) (by omega))
    have hym:=HVY.out y (mem_of_drop HY.out)
    have hyb:=hby y hym
    have hyr:=HRY.out y hym
    have HVD:Hid (∀z∈vs.drop 1,z∈ys):=hide λz hz=>HVY.out z (List.mem_of_mem_drop hz)
    have hiny:=In.below f2 HB.out
    have hYn:Yn<=4096:=by have:=f2.len;omega
    have HSC:=hide (sg_cons (s:=s) HYC.out)
    have hsy:IntKind.i64.wrap (s*y.count)=s*y.count:=by
     rcases hs with rfl|rfl
     ·rw[Int.one_mul];exact IntWalk.i64_in _ (by omega)
     ·rw[Int.neg_mul,Int.one_mul];exact IntWalk.i64_in _ (by omega)
    have hyb2: -65536<=s*y.count/\s*y.count<=65536:=by
     rcases hs with rfl|rfl
     ·rw[Int.one_mul];exact hyb
     ·rw[Int.neg_mul,Int.one_mul];omega
    go_wp2_with fail
    go_region_held3 (λw'=>w'.cell? ⟨bl,off,none⟩=some (.slice Ax An Ac)/\w'.cell? ⟨bk,of,none⟩=some (.slice Yx Yn Yc)) (first|exact ⟨e0,f0⟩|(have hq:=below_undrew hb2';exact ⟨bat hq hBr e0,bat hq hB'r f0⟩)) (first|(go_at_call 84;refine (compareRows_any _ Ax Yx An Yn Ac Yc x.row y.row (by exact hinx) (by exact hiny)).mono ?_;rintro e w2 ⟨rfl,hb2'⟩))
    have hbw:=below_undrew hb2'
    have HB2:=hide (below_trans HB.out hbw)
    replace e0:=bat hbw hBr e0
    replace e1:=bat hbw hBr e1
    replace f0:=bat hbw hB'r f0
    replace f1:=bat hbw hB'r f1
    have HO2:=hide (HO.out.below hbw)
    have hinx2:=hinx.below hbw
    have hiny2:=hiny.below hbw
    have HM2:=hide (mergeL_both x ⟨y.row,s*y.count⟩ (us.drop 1) (sg s (vs.drop 1)))
    have HUV:Hid (mergeL us (sg s vs)=mergeL (x :: us.drop 1) (⟨y.row,s*y.count⟩ :: sg s (vs.drop 1))):=hide (by rw[<-HXC.out,<-HSC.out])
    clear hb2' hbw hinx hiny
    obtain hc|hc|hc:cmpRows x.row y.row<0\/0<cmpRows x.row y.row\/cmpRows x.row y.row=0:=by omega
    ·have HMQ:Hid (mergeL us (sg s vs)=⟨x.row,x.count⟩ :: mergeL (us.drop 1) (sg s (vs))):=hide ((HUV.out.trans HM2.out).trans (by rw[if_pos hc];simp only[<-HSC.out]))
     have HST2:=hide (MState.step HST.out HMQ.out)
     have HPL:=hide (putS_len zs x.row (x.count))
     have Re0:=hide e0
     have Re1:=hide e1
     have h64:I64 (x.count):=⟨by omega,by omega⟩
     go_wp2_with fail
     go_region_held3 (λV=>V.cell? ⟨bl,off,none⟩=some (.slice Ax An Ac)/\V.cell? ⟨bl,off+1,none⟩=some (.int .i64 x.count))
      (first|exact ⟨e0,e1⟩|exact ⟨(HW3.out.cell (p:=⟨bl,off,none⟩) hB).trans Re0.out,(HW3.out.cell (p:=⟨bl,off+1,none⟩) hB).trans Re1.out⟩|go_keep)
      (first|(go_at_call 111;refine (put_any _ w.heap.size _ zs (by exact HO2.out.below (Below.refl _ _).drew) _ _ _ x.row (by exact hinx2.below (Below.refl _ _).drew) hAn (x.count) h64 hzl).mono ?_;rintro e w3 ⟨⟨v3,rfl,ho3⟩,hg3,hb3⟩;have HO3:=hide ho3;have HW3:Hid (Below w.heap.size w2 w3):=hide ((Below.refl _ _).drew.trans hb3);clear ho3 hg3 hb3))
     have HBF:=hide (HB2.out.trans HW3.out)
     have hfin:=HO3.out.base
     generalize putS zs x.row (x.count)=PS at*
     obtain ⟨okn,zsn⟩:=PS
     clear e0 e1
     go_wp2
     all_goals (try (exfalso;go_light;simp_all;done))
     go_roundw
     case rel=>
      refine ⟨_,_,m-1,m',d-1,d',us.drop 1,vs,zsn,okn,by simp[Rep.size,add_at],by simp[Rep.size,add_at],rfl,htl.out,HVS.out,?_,HUD.out,HVY.out,HST2.out,HO3.out,HBF.out⟩
      have:zsn.length<=zs.length+1:=HPL.out
      omega
     case measure=>simp[slen];omega
    ·have hc2:¬cmpRows x.row y.row<0:=by omega
     have HMQ:Hid (mergeL us (sg s vs)=⟨y.row,s*y.count⟩ :: mergeL us (sg s (vs.drop 1))):=hide ((HUV.out.trans HM2.out).trans (by rw[if_neg hc2,if_pos hc];simp only[<-HXC.out]))
     have HST2:=hide (MState.step HST.out HMQ.out)
     have HPL:=hide (putS_len zs y.row (s*y.count))
     have Rf0:=hide f0
     have Rf1:=hide f1
     have h64:I64 (s*y.count):=⟨by omega,by omega⟩
     go_wp2_with fail
     go_region_held3 (λV=>V.cell? ⟨bk,of,none⟩=some (.slice Yx Yn Yc)/\V.cell? ⟨bk,of+1,none⟩=some (.int .i64 y.count))
      (first|exact ⟨f0,f1⟩|exact ⟨(HW3.out.cell (p:=⟨bk,of,none⟩) hB').trans Rf0.out,(HW3.out.cell (p:=⟨bk,of+1,none⟩) hB').trans Rf1.out⟩|go_keep)
      (first|(go_at_call 111;refine (put_any _ w.heap.size _ zs (by exact HO2.out.below (Below.refl _ _).drew) _ _ _ y.row (by exact hiny2.below (Below.refl _ _).drew) hYn (s*y.count) h64 hzl).mono ?_;rintro e w3 ⟨⟨v3,rfl,ho3⟩,hg3,hb3⟩;have HO3:=hide ho3;have HW3:Hid (Below w.heap.size w2 w3):=hide ((Below.refl _ _).drew.trans hb3);clear ho3 hg3 hb3))
     have HBF:=hide (HB2.out.trans HW3.out)
     have hfin:=HO3.out.base
     generalize putS zs y.row (s*y.count)=PS at*
     obtain ⟨okn,zsn⟩:=PS
     clear f0 f1
     go_wp2
     all_goals (try (exfalso;go_light;simp_all;done))
     go_roundw
     case rel=>
      refine ⟨_,_,m,m'-1,d,d'-1,us,vs.drop 1,zsn,okn,by simp[Rep.size,add_at],by simp[Rep.size,add_at],rfl,HUS.out,htl'.out,?_,HUX.out,HVD.out,HST2.out,HO3.out,HBF.out⟩
      have:zsn.length<=zs.length+1:=HPL.out
      omega
     case measure=>simp[slen];omega
    ·rw[hc]
     have hsum:IntKind.i64.wrap (x.count+s*y.count)=x.count+s*y.count:=IntWalk.i64_in _ (by omega)
     have HMQ:Hid (mergeL us (sg s vs)=⟨x.row,x.count+s*y.count⟩ :: mergeL (us.drop 1) (sg s (vs.drop 1))):=hide ((HUV.out.trans HM2.out).trans (by simp only;rw[if_neg (by omega),if_neg (by omega)]))
     have HST2:=hide (MState.step HST.out HMQ.out)
     have HPL:=hide (putS_len zs x.row (x.count+s*y.count))
     have Re0:=hide e0
     have Re1:=hide e1
     have Rf1:=hide f1
     have h64:I64 (x.count+s*y.count):=⟨by omega,by omega⟩
     go_wp2_with fail
     go_region_held3 (λV=>V.cell? ⟨bl,off,none⟩=some (.slice Ax An Ac)/\V.cell? ⟨bl,off+1,none⟩=some (.int .i64 x.count)/\V.cell? ⟨bk,of+1,none⟩=some (.int .i64 y.count))
      (first|exact ⟨e0,e1,f1⟩|exact ⟨(HW3.out.cell (p:=⟨bl,off,none⟩) hB).trans Re0.out,(HW3.out.cell (p:=⟨bl,off+1,none⟩) hB).trans Re1.out,(HW3.out.cell (p:=⟨bk,of+1,none⟩) hB').trans Rf1.out⟩|go_keep)
      (first|(go_at_call 111;refine (put_any _ w.heap.size _ zs (by exact HO2.out.below (Below.refl _ _).drew) _ _ _ x.row (by exact hinx2.below (Below.refl _ _).drew) hAn (x.count+s*y.count) h64 hzl).mono ?_;rintro e w3 ⟨⟨v3,rfl,ho3⟩,hg3,hb3⟩;have HO3:=hide ho3;have HW3:Hid (Below w.heap.size w2 w3):=hide ((Below.refl _ _).drew.trans hb3);clear ho3 hg3 hb3))
     have HBF:=hide (HB2.out.trans HW3.out)
     have hfin:=HO3.out.base
     generalize putS zs x.row (x.count+s*y.count)=PS at*
     obtain ⟨okn,zsn⟩:=PS
     clear e0 e1 f1
     go_wp2
     go_quiet (fail)
     go_wp2
     all_goals (try (exfalso;go_light;simp_all;done))
     go_roundw
     case rel=>
      refine ⟨_,_,m-1,m'-1,d-1,d'-1,us.drop 1,vs.drop 1,zsn,okn,by simp[Rep.size,add_at],by simp[Rep.size,add_at],rfl,htl.out,htl'.out,?_,HUD.out,HVD.out,HST2.out,HO3.out.below (below_drewN (Below.refl _ _) _),below_drewN HBF.out _⟩
      have:zsn.length<=zs.length+1:=HPL.out
      omega
     case measure=>simp[slen];omega
   ·have hm0:m'=0:=by omega
    subst hm0
    have hv0:vs=[]:=List.eq_nil_of_length_eq_zero HVS.out.len
    obtain ⟨bl,off,x,rfl,hB,HX,Ax,An,Ac,e0,e1,e2,e3⟩:=HUS.out.ent hm
    simp only[Nat.zero_mul,Nat.add_zero]at e0 e1
    replace e0:=bat HB.out hB e0
    replace e1:=bat HB.out hB e1
    have hBr:=Nat.lt_of_lt_of_le hB HB.out.size
    have m0e:(0:Int)<(m:Int):=by omega
    have m1e:(1:Int)<=(m:Int):=by omega
    have mde:(m:Int)<=(d:Int):=by have:=HUS.out.cap;omega
    have mze:((m:Int)==0)=false:=by simp;omega
    have HXC:=hide (cons_drop HX.out)
    have htl:=hide (Sl.tail HUS.out (k:=1) (by omega))
    have hxm:=HUX.out x (mem_of_drop HX.out)
    have hxb:=hbx x hxm
    have hxr:=HRX.out x hxm
    have HUD:Hid (∀y∈us.drop 1,y∈xs):=hide λy hy=>HUX.out y (List.mem_of_mem_drop hy)
    have hinx:=In.below e2 HB.out
    have hAn:An<=4096:=by have:=e2.len;omega
    have HMQ:Hid (mergeL us (sg s vs)=⟨x.row,x.count⟩ :: mergeL (us.drop 1) (sg s (vs))):=hide (by rw[hv0];exact (congrArg (λl=>mergeL l []) HXC.out).trans (mergeL_left _ _))
    have HST2:=hide (MState.step HST.out HMQ.out)
    have HPL:=hide (putS_len zs x.row (x.count))
    have Re0:=hide e0
    have Re1:=hide e1
    have h64:I64 (x.count):=⟨by omega,by omega⟩
    go_wp2_with fail
    go_region_held3 (λV=>V.cell? ⟨bl,off,none⟩=some (.slice Ax An Ac)/\V.cell? ⟨bl,off+1,none⟩=some (.int .i64 x.count))
     (first|exact ⟨e0,e1⟩|exact ⟨(HW3.out.cell (p:=⟨bl,off,none⟩) hB).trans Re0.out,(HW3.out.cell (p:=⟨bl,off+1,none⟩) hB).trans Re1.out⟩|go_keep)
     (first|(go_at_call 111;refine (put_any _ w.heap.size _ zs (by exact HO.out.below (Below.refl _ _).drew) _ _ _ x.row (by exact hinx.below (Below.refl _ _).drew) hAn (x.count) h64 hzl).mono ?_;rintro e w3 ⟨⟨v3,rfl,ho3⟩,hg3,hb3⟩;have HO3:=hide ho3;have HW3:Hid (Below w.heap.size wr w3):=hide ((Below.refl _ _).drew.trans hb3);clear ho3 hg3 hb3))
    have HBF:=hide (HB.out.trans HW3.out)
    have hfin:=HO3.out.base
    generalize putS zs x.row (x.count)=PS at*
    obtain ⟨okn,zsn⟩:=PS
    clear e0 e1
    go_wp2
    all_goals (try (exfalso;go_light;simp_all;done))
    go_roundw
    case rel=>
     refine ⟨_,_,m-1,0,d-1,d',us.drop 1,vs,zsn,okn,by simp[Rep.size,add_at],by simp[Rep.size,add_at],rfl,htl.out,HVS.out,?_,HUD.out,HVY.out,HST2.out,HO3.out,HBF.out⟩
     have:zsn.length<=zs.length+1:=HPL.out
     omega
    case measure=>simp[slen];omega
  ·have hm0:m=0:=by omega
   subst hm0
   have hm':0<m':=by omega
   have hu0:us=[]:=List.eq_nil_of_length_eq_zero HUS.out.len
   obtain ⟨bk,of,y,rfl,hB',HY,Yx,Yn,Yc,f0,f1,f2,f3⟩:=HVS.out.ent hm'
   simp only[Nat.zero_mul,Nat.add_zero]at f0 f1
   replace f0:=bat HB.out hB' f0
   replace f1:=bat HB.out hB' f1
   have hB'r:=Nat.lt_of_lt_of_le hB' HB.out.size
   have m0f:(0:Int)<(m':Int):=by omega
   have m1f:(1:Int)<=(m':Int):=by omega
   have mdf:(m':Int)<=(d':Int):=by have:=HVS.out.cap;omega
   have mzf:((m':Int)==0)=false:=by simp;omega
   have HYC:=hide (cons_drop HY.out)
   have htl':=hide (Sl.tail HVS.out (k:=1) (by omega))
   have hym:=HVY.out y (mem_of_drop HY.out)
   have hyb:=hby y hym
   have hyr:=HRY.out y hym
   have HVD:Hid (∀z∈vs.drop 1,z∈ys):=hide λz hz=>HVY.out z (List.mem_of_mem_drop hz)
   have hiny:=In.below f2 HB.out
   have hYn:Yn<=4096:=by have:=f2.len;omega
   have HSC:=hide (sg_cons (s:=s) HYC.out)
   have hsy:IntKind.i64.wrap (s*y.count)=s*y.count:=by
    rcases hs with rfl|rfl
    ·rw[Int.one_mul];exact IntWalk.i64_in _ (by omega)
    ·rw[Int.neg_mul,Int.one_mul];exact IntWalk.i64_in _ (by omega)
   have hyb2: -65536<=s*y.count/\s*y.count<=65536:=by
    rcases hs with rfl|rfl
    ·rw[Int.one_mul];exact hyb
    ·rw[Int.neg_mul,Int.one_mul];omega
   have HMQ:Hid (mergeL us (sg s vs)=⟨y.row,s*y.count⟩ :: mergeL us (sg s (vs.drop 1))):=hide (by rw[hu0];exact (congrArg (λl=>mergeL [] l) HSC.out).trans (mergeL_right _ _))
   have HST2:=hide (MState.step HST.out HMQ.out)
   have HPL:=hide (putS_len zs y.row (s*y.count))
   have Rf0:=hide f0
   have Rf1:=hide f1
   have h64:I64 (s*y.count):=⟨by omega,by omega⟩
   go_wp2_with fail
   go_region_held3 (λV=>V.cell? ⟨bk,of,none⟩=some (.slice Yx Yn Yc)/\V.cell? ⟨bk,of+1,none⟩=some (.int .i64 y.count))
    (first|exact ⟨f0,f1⟩|exact ⟨(HW3.out.cell (p:=⟨bk,of,none⟩) hB').trans Rf0.out,(HW3.out.cell (p:=⟨bk,of+1,none⟩) hB').trans Rf1.out⟩|go_keep)
    (first|(go_at_call 111;refine (put_any _ w.heap.size _ zs (by exact HO.out.below (Below.refl _ _).drew) _ _ _ y.row (by exact hiny.below (Below.refl _ _).drew) hYn (s*y.count) h64 hzl).mono ?_;rintro e w3 ⟨⟨v3,rfl,ho3⟩,hg3,hb3⟩;have HO3:=hide ho3;have HW3:Hid (Below w.heap.size wr w3):=hide ((Below.refl _ _).drew.trans hb3);clear ho3 hg3 hb3))
   have HBF:=hide (HB.out.trans HW3.out)
   have hfin:=HO3.out.base
   generalize putS zs y.row (s*y.count)=PS at*
   obtain ⟨okn,zsn⟩:=PS
   clear f0 f1
   go_wp2
   all_goals (try (exfalso;go_light;simp_all;done))
   go_roundw
   case rel=>
    refine ⟨_,_,0,m'-1,d,d'-1,us,vs.drop 1,zsn,okn,by simp[Rep.size,add_at],by simp[Rep.size,add_at],rfl,HUS.out,htl'.out,?_,HUX.out,HVD.out,HST2.out,HO3.out,HBF.out⟩
    have:zsn.length<=zs.length+1:=HPL.out
    omega
   case measure=>simp[slen];omega
end Go.Proofs.YtggejcekmehocaaGreatDoor
