/-
  Package bag: merge, Add. (Printed by gen_bagm.py.)
-/
import Derived.Test.YtggejcekmehocaaGreatDoorGal
namespace Go.Proofs.YtggejcekmehocaaGreatDoor
set_option maxHeartbeats 8000000
set_option maxRecDepth 100000
open Go.RowKit
set_option linter.unusedSimpArgs false
set_option linter.unusedVariables false
def sg (s:Int)(l:List Ent):List Ent:=l.map λx=>⟨x.row,s*x.count⟩
theorem Sb (l:List Ent):sg 1 l=l:=by
 have:(λx:Ent=>(⟨x.row,1*x.count⟩:Ent))=id:=by
  funext x
  obtain ⟨a,b⟩:=x;simp
 rw[sg,this,List.map_id]
def iD (M rest:List Ent)(ok:Bool)(zs:List Ent):Prop:=
 ∃ws,M=ws++rest/\(ok=true->zs=bN ws/\ ∀x∈ws, -65536<=x.count/\x.count<=65536)/\(ok=false-> ∃x∈ws,x.count < -65536\/65536<x.count)
theorem iD.start (M:List Ent):iD M M true []:=⟨[],rfl,λ_=>⟨rfl,by simp⟩,λh=>by cases h⟩
theorem iD.step {M rest rest' zs:List Ent}{x:Ent}(h:iD M rest true zs)(e:rest=x :: rest'):iD M rest' (qK zs x.row x.count).1 (qK zs x.row x.count).2:=by
 obtain ⟨ws,h1,h2,_⟩:=h;obtain ⟨h3,h4⟩:=h2 rfl;subst h3 e;refine ⟨ws++[x],by rw[h1];simp,λq=>?_,λq=>?_⟩
 ·rw[qK]at q⊢
  split at q
  ·cases q
  ·rename_i hr;rw[if_neg hr];refine ⟨?_,λy hy=>?_⟩
   ·show (if x.count=0 then bN ws else bN ws++[⟨x.row,x.count⟩])=bN (ws++[x]);rw[show bN (ws++[x])=bN ws++bN [x] from List.filter_append ..]
    split
    ·rename_i q;simp[bN,q]
    ·rename_i q;simp[bN,q]
   ·rcases List.mem_append.1 hy with hy|hy
    ·exact h4 y hy
    ·simp at hy;subst hy;omega
 ·rw[qK]at q
  split at q
  ·rename_i hr;exact ⟨x,by simp,hr⟩
  ·cases q
theorem uB: ∀(l:List Ent) (m:Nat),(∃x∈l,x.count < -65536\/65536<x.count)->bP m l=true
 | [],m,h=>by simp at h
 |x :: l,m,h=>by
  rw[bP];by_cases q:x.count=0
  ·rw[if_pos q];refine uB l m ?_;obtain ⟨y,hy,h⟩:=h;rcases List.mem_cons.1 hy with rfl|hy
   ·omega
   ·exact ⟨y,hy,h⟩
  ·rw[if_neg q];obtain ⟨y,hy,h⟩:=h;rcases List.mem_cons.1 hy with rfl|hy
   ·rcases h with h|h <;> simp[h]
   ·rw[uB l (m+1) ⟨y,hy,h⟩];simp
def nL (M:List Ent):Int×List Ent:=if bP 0 M=true then (2,[]) else (0,bN M)
theorem iD.bad {M rest zs:List Ent}(h:iD M rest false zs):nL M=(2,[]):=by
 obtain ⟨ws,h1,_,h3⟩:=h;obtain ⟨x,hx,h⟩:=h3 rfl;rw[nL,if_pos (uB _ _ ⟨x,by rw[h1];simp[hx],h⟩)]
theorem iD.fin {M zs:List Ent}(h:iD M [] true zs):nL M=if 4096<zs.length then (2,[]) else (0,zs):=by
 obtain ⟨ws,h1,h2,_⟩:=h;obtain ⟨h3,h4⟩:=h2 rfl;rw[List.append_nil]at h1;subst h1 h3;have hk:=ll (bN M) 0 (gW _) (by omega);rw[iQ]at hk;rw[nL];by_cases q:4096<(bN M).length
 ·rw[if_pos q,if_pos];cases g:bP 0 M
  ·have:=(hk.1 g).2;omega
  ·rfl
 ·rw[if_neg q,if_neg];rw[hk.2 ⟨λx hx=>h4 x (BG x hx),by omega⟩];simp
theorem BL {xs ys M:List Ent}(h:gY M)(hc: ∀r,cnt M r=cnt xs r+cnt ys r):nL M=jm (xs++ys):=by
 rw[Cx h λr=>by rw[hc,gF]];rfl
theorem rY (zs:List Ent)(row:List Val)(k:Int):(qK zs row k).2.length<=zs.length+1:=by
 rw[qK]
 split
 ·simp
 ·simp only
  split
  ·omega
  ·simp
theorem sK {xs:List Ent}{x:Ent}(h:xs.drop 0=x :: xs.drop 1):xs=x :: xs.drop 1:=by simpa using h
theorem IJ {s:Int}{xs l:List Ent}{x:Ent}(h:xs=x :: l):sg s xs=⟨x.row,s*x.count⟩ :: sg s l:=by rw[h];rfl
theorem BM (w:World)(s:Int)(hs:s=1\/s= -1)(A A':Option Addr)(n n' c c':Nat)(xs ys:List Ent)(hx:In w A n c xs)(hy:In w A' n' c' ys)(hn:n+n'<=1048576)(hbx:tQ 65536 xs)(hby:tQ 65536 ys)(hrx: ∀x∈xs,x.row.length<=12)(hry: ∀x∈ys,x.row.length<=12):
  Calls Tryz.prog 74 #[.slice A n c,.slice A' n' c',.int .i64 s] w
   λe w'=>(∃v,e=.returned (.tuple #[v,.int .i64 (nL (aI xs (sg s ys))).1])/\OE w.heap.size w' v (nL (aI xs (sg s ys))).2)/\Below w.heap.size w w':=by
 obtain ⟨M,hM⟩: ∃M,aI xs (sg s ys)=M:=⟨_,rfl⟩;rw[hM];obtain ⟨R,hR⟩: ∃R,nL M=R:=⟨_,rfl⟩;rw[hR];have HR:=hide hR;have HM:=hide hM;have Yt:=hide hrx;have Yu:=hide hry;clear hM hR hrx hry;go_enter Tryz.func74,Tryz.ntmps74;go_wp2;go_loopw [0,1,8,9] (λa b o okv wr=> ∃(B B':Option Addr) (m m' d d':Nat) (us vs zs:List Ent) (ok:Bool),a=.slice B m d/\b=.slice B' m' d'/\okv=.bool ok/\In w B m d us/\In w B' m' d' vs/\m+m'+zs.length<=n+n'/\
   (∀x∈us,x∈xs)/\(∀x∈vs,x∈ys)/\iD M (aI us (sg s vs)) ok zs/\OE w.heap.size wr o zs/\Below w.heap.size w wr)
  (λa b _ _ _=>vP a+vP b)
 case atStart=>exact ⟨A,A',n,n',c,c',xs,ys,[],true,rfl,rfl,rfl,hx,hy,by simp,λ_ h=>h,λ_ h=>h,by rw[HM.out];exact iD.start M,OL.nil (Nat.le_refl _),Below.refl _ _⟩
 case round=>
  obtain ⟨B,B',m,m',d,d',us,vs,zs,ok,rfl,rfl,rfl,Jw,hvs,hlen,YY,Y1,hst,hown,hb⟩:=hrel;have HST:=hide hst;have HO:=hide hown;have HB:=hide hb;have xQ:=hide Jw;have FN:=hide hvs;have Sv:=hide YY;have Sw:=hide Y1;have hmm:IntKind.i64.wrap ((m:Int)+(m':Int))=(m:Int)+(m':Int):=IntWalk.i64_in _ (by omega);clear hst hown YY Y1;by_cases hmz:m+m'=0
  ·have h1:m=0:=by omega
   have h2:m'=0:=by omega
   subst h1 h2;have hu0:us=[]:=List.eq_nil_of_length_eq_zero Jw.len;have hv0:vs=[]:=List.eq_nil_of_length_eq_zero hvs.len;clear Jw hvs;subst hu0 hv0;cases ok
   ·have HF:=hide (HR.out.symm.trans HST.out.bad);obtain rfl:=HF.out;go_wp2;all_goals (try (exfalso;go_light;simp_all;done));go_ret2;exact ⟨⟨_,rfl,OL.nil HB.out.size⟩,HB.out⟩
   ·have HF:=hide (HR.out.symm.trans (iD.fin (by have h:=HST.out;rwa [show aI [] (sg s [])=[] from rfl]at h)));obtain ⟨A9,c9,hv,UM⟩:=HO.out.inn;have XV:=UM.le;subst hv;clear UM;go_wp2_with fail;refine (Lh _ (.slice A9 zs.length c9) zs.length c9 A9 XV).mono ?_;rintro e w3 ⟨rfl,hb3⟩;have HB3:=hide hb3;clear hb3;by_cases h4:4096<zs.length
    ·have DJ:=HF.out;rw[if_pos h4]at DJ;obtain rfl:=DJ;rw[if_pos h4];go_wp2;all_goals (try (exfalso;go_light;simp_all;done));go_ret2;exact ⟨⟨_,rfl,OL.nil (aa HB.out HB3.out).size⟩,aa HB.out HB3.out⟩
    ·have DJ:=HF.out;rw[if_neg h4]at DJ;obtain rfl:=DJ;rw[if_neg h4];go_wp2;all_goals (try (exfalso;go_light;simp_all;done));go_ret2;exact ⟨⟨_,rfl,HO.out.below HB3.out⟩,aa HB.out HB3.out⟩
  have hpos:(0:Int)<(m:Int)+(m':Int):=by omega
  cases ok
  ·have HF:=hide (HR.out.symm.trans HST.out.bad);obtain rfl:=HF.out;go_wp2;all_goals (try (exfalso;go_light;simp_all;done));go_ret2;exact ⟨⟨_,rfl,OL.nil HB.out.size⟩,HB.out⟩
  have hzl:zs.length<1048576:=by omega
  by_cases hm:0<m
  ·by_cases hm':0<m'
   ·obtain ⟨bl,off,x,rfl,hB,HX,Ax,An,Ac,e0,e1,e2,e3⟩:=xQ.out.ent hm;simp only[Nat.zero_mul,Nat.add_zero]at e0 e1;replace e0:=bat HB.out hB e0;replace e1:=bat HB.out hB e1;have hBr:=Nat.lt_of_lt_of_le hB HB.out.size;have XZ:(0:Int)<(m:Int):=by omega
    have X4:(1:Int)<=(m:Int):=by omega
    have X6:(m:Int)<=(d:Int):=by have:=xQ.out.cap;omega
    have X8:((m:Int)==0)=false:=by simp;omega
    have Sz:=hide (sK HX.out);have htl:=hide (Sl.tail xQ.out (k:=1) (by omega));have hxm:=Sv.out x (mem_of_drop HX.out);have hxb:=hbx x hxm;have hxr:=Yt.out x hxm;have Vg:Hid (∀y∈us.drop 1,y∈xs):=hide λy hy=>Sv.out y (List.mem_of_mem_drop hy);have EG:=In.below e2 HB.out;have hAn:An<=4096:=by have:=e2.len;omega
    obtain ⟨bk,of,y,rfl,hB',HY,Yx,Yn,Yc,f0,f1,f2,f3⟩:=FN.out.ent hm';simp only[Nat.zero_mul,Nat.add_zero]at f0 f1;replace f0:=bat HB.out hB' f0;replace f1:=bat HB.out hB' f1;have CX:=Nat.lt_of_lt_of_le hB' HB.out.size;have X3:(0:Int)<(m':Int):=by omega
    have X5:(1:Int)<=(m':Int):=by omega
    have X7:(m':Int)<=(d':Int):=by have:=FN.out.cap;omega
    have X9:((m':Int)==0)=false:=by simp;omega
    have TE:=hide (sK HY.out);have htl':=hide (Sl.tail FN.out (k:=1) (by omega));have hym:=Sw.out y (mem_of_drop HY.out);have hyb:=hby y hym;have Nw:=Yu.out y hym;have Vi:Hid (∀z∈vs.drop 1,z∈ys):=hide λz hz=>Sw.out z (List.mem_of_mem_drop hz);have EH:=In.below f2 HB.out;have XD:Yn<=4096:=by have:=f2.len;omega
    have Vf:=hide (IJ (s:=s) TE.out);have hsy:IntKind.i64.wrap (s*y.count)=s*y.count:=by
     rcases hs with rfl|rfl
     ·rw[Int.one_mul];exact IntWalk.i64_in _ (by omega)
     ·rw[Int.neg_mul,Int.one_mul];exact IntWalk.i64_in _ (by omega)
    have XR: -65536<=s*y.count/\s*y.count<=65536:=by
     rcases hs with rfl|rfl
     ·rw[Int.one_mul];exact hyb
     ·rw[Int.neg_mul,Int.one_mul];omega
    go_wp2_with fail;go_region_held3 (λw'=>w'.cell? ⟨bl,off,none⟩=some (.slice Ax An Ac)/\w'.cell? ⟨bk,of,none⟩=some (.slice Yx Yn Yc)) (first|exact ⟨e0,f0⟩|(have hq:=below_undrew hb2';exact ⟨bat hq hBr e0,bat hq CX f0⟩)) (first|(go_at_call 84;refine (mh _ Ax Yx An Yn Ac Yc x.row y.row (by exact EG) (by exact EH)).mono ?_;rintro e w2 ⟨rfl,hb2'⟩));have hbw:=below_undrew hb2';have HB2:=hide (aa HB.out hbw);replace e0:=bat hbw hBr e0;replace e1:=bat hbw hBr e1;replace f0:=bat hbw CX f0;replace f1:=bat hbw CX f1;have kv:=hide (HO.out.below hbw);have Qe:=EG.below hbw;have UN:=EH.below hbw;have qc:=hide (lV x ⟨y.row,s*y.count⟩ (us.drop 1) (sg s (vs.drop 1)));have QL:Hid (aI us (sg s vs)=aI (x :: us.drop 1) (⟨y.row,s*y.count⟩ :: sg s (vs.drop 1))):=hide (by rw[<-Sz.out,<-Vf.out]);clear hb2' hbw EG EH;obtain hc|hc|hc:ax x.row y.row<0\/0<ax x.row y.row\/ax x.row y.row=0:=by omega
    ·have NW:Hid (aI us (sg s vs)=⟨x.row,x.count⟩ :: aI (us.drop 1) (sg s (vs))):=hide ((QL.out.trans qc.out).trans (by rw[if_pos hc];simp only[<-Vf.out]));have bz:=hide (iD.step HST.out NW.out);have Aq:=hide (rY zs x.row (x.count));have TR:=hide e0;have TS:=hide e1;have h64:fP (x.count):=⟨by omega,by omega⟩;go_wp2_with fail;go_region_held3 (λV=>V.cell? ⟨bl,off,none⟩=some (.slice Ax An Ac)/\V.cell? ⟨bl,off+1,none⟩=some (.int .i64 x.count))
      (first|exact ⟨e0,e1⟩|exact ⟨(HW3.out.cell (p:=⟨bl,off,none⟩) hB).trans TR.out,(HW3.out.cell (p:=⟨bl,off+1,none⟩) hB).trans TS.out⟩|go_keep)
      (first|(go_at_call 111;refine (vN _ w.heap.size _ zs (by exact kv.out.below (Below.refl _ _).drew) _ _ _ x.row (by exact Qe.below (Below.refl _ _).drew) hAn (x.count) h64 hzl).mono ?_;rintro e w3 ⟨⟨v3,rfl,ho3⟩,hg3,hb3⟩;have q9:=hide ho3;have HW3:Hid (Below w.heap.size w2 w3):=hide ((Below.refl _ _).drew.trans hb3);clear ho3 hg3 hb3))
     have Cg:=hide (HB2.out.trans HW3.out);have hfin:=q9.out.base;generalize qK zs x.row (x.count)=PS at*;obtain ⟨Pq,IM⟩:=PS;clear e0 e1;go_wp2;all_goals (try (exfalso;go_light;simp_all;done));go_roundw
     case rel=>
      refine ⟨_,_,m-1,m',d-1,d',us.drop 1,vs,IM,Pq,by simp[Rep.size,dM],by simp[Rep.size,dM],rfl,htl.out,FN.out,?_,Vg.out,Sw.out,bz.out,q9.out,Cg.out⟩;have:IM.length<=zs.length+1:=Aq.out;omega
     case measure=>simp[vP];omega
    ·have hc2:¬ax x.row y.row<0:=by omega
     have NW:Hid (aI us (sg s vs)=⟨y.row,s*y.count⟩ :: aI us (sg s (vs.drop 1))):=hide ((QL.out.trans qc.out).trans (by rw[if_neg hc2,if_pos hc];simp only[<-Sz.out]));have bz:=hide (iD.step HST.out NW.out);have Aq:=hide (rY zs y.row (s*y.count));have Xk:=hide f0;have TT:=hide f1;have h64:fP (s*y.count):=⟨by omega,by omega⟩;go_wp2_with fail;go_region_held3 (λV=>V.cell? ⟨bk,of,none⟩=some (.slice Yx Yn Yc)/\V.cell? ⟨bk,of+1,none⟩=some (.int .i64 y.count))
      (first|exact ⟨f0,f1⟩|exact ⟨(HW3.out.cell (p:=⟨bk,of,none⟩) hB').trans Xk.out,(HW3.out.cell (p:=⟨bk,of+1,none⟩) hB').trans TT.out⟩|go_keep)
      (first|(go_at_call 111;refine (vN _ w.heap.size _ zs (by exact kv.out.below (Below.refl _ _).drew) _ _ _ y.row (by exact UN.below (Below.refl _ _).drew) XD (s*y.count) h64 hzl).mono ?_;rintro e w3 ⟨⟨v3,rfl,ho3⟩,hg3,hb3⟩;have q9:=hide ho3;have HW3:Hid (Below w.heap.size w2 w3):=hide ((Below.refl _ _).drew.trans hb3);clear ho3 hg3 hb3))
     have Cg:=hide (HB2.out.trans HW3.out);have hfin:=q9.out.base;generalize qK zs y.row (s*y.count)=PS at*;obtain ⟨Pq,IM⟩:=PS;clear f0 f1;go_wp2;all_goals (try (exfalso;go_light;simp_all;done));go_roundw
     case rel=>
      refine ⟨_,_,m,m'-1,d,d'-1,us,vs.drop 1,IM,Pq,by simp[Rep.size,dM],by simp[Rep.size,dM],rfl,xQ.out,htl'.out,?_,Sv.out,Vi.out,bz.out,q9.out,Cg.out⟩;have:IM.length<=zs.length+1:=Aq.out;omega
     case measure=>simp[vP];omega
    ·rw[hc];have hsum:IntKind.i64.wrap (x.count+s*y.count)=x.count+s*y.count:=IntWalk.i64_in _ (by omega);have NW:Hid (aI us (sg s vs)=⟨x.row,x.count+s*y.count⟩ :: aI (us.drop 1) (sg s (vs.drop 1))):=hide ((QL.out.trans qc.out).trans (by simp only;rw[if_neg (by omega),if_neg (by omega)]));have bz:=hide (iD.step HST.out NW.out);have Aq:=hide (rY zs x.row (x.count+s*y.count));have TR:=hide e0;have TS:=hide e1;have TT:=hide f1;have h64:fP (x.count+s*y.count):=⟨by omega,by omega⟩;go_wp2_with fail;go_region_held3 (λV=>V.cell? ⟨bl,off,none⟩=some (.slice Ax An Ac)/\V.cell? ⟨bl,off+1,none⟩=some (.int .i64 x.count)/\V.cell? ⟨bk,of+1,none⟩=some (.int .i64 y.count))
      (first|exact ⟨e0,e1,f1⟩|exact ⟨(HW3.out.cell (p:=⟨bl,off,none⟩) hB).trans TR.out,(HW3.out.cell (p:=⟨bl,off+1,none⟩) hB).trans TS.out,(HW3.out.cell (p:=⟨bk,of+1,none⟩) hB').trans TT.out⟩|go_keep)
      (first|(go_at_call 111;refine (vN _ w.heap.size _ zs (by exact kv.out.below (Below.refl _ _).drew) _ _ _ x.row (by exact Qe.below (Below.refl _ _).drew) hAn (x.count+s*y.count) h64 hzl).mono ?_;rintro e w3 ⟨⟨v3,rfl,ho3⟩,hg3,hb3⟩;have q9:=hide ho3;have HW3:Hid (Below w.heap.size w2 w3):=hide ((Below.refl _ _).drew.trans hb3);clear ho3 hg3 hb3))
     have Cg:=hide (HB2.out.trans HW3.out);have hfin:=q9.out.base;generalize qK zs x.row (x.count+s*y.count)=PS at*;obtain ⟨Pq,IM⟩:=PS;clear e0 e1 f1;go_wp2;go_quiet (fail);go_wp2;all_goals (try (exfalso;go_light;simp_all;done));go_roundw
     case rel=>
      refine ⟨_,_,m-1,m'-1,d-1,d'-1,us.drop 1,vs.drop 1,IM,Pq,by simp[Rep.size,dM],by simp[Rep.size,dM],rfl,htl.out,htl'.out,?_,Vg.out,Vi.out,bz.out,q9.out.below (below_drewN (Below.refl _ _) _),below_drewN Cg.out _⟩;have:IM.length<=zs.length+1:=Aq.out;omega
     case measure=>simp[vP];omega
   ·have hm0:m'=0:=by omega
    subst hm0;have hv0:vs=[]:=List.eq_nil_of_length_eq_zero FN.out.len;obtain ⟨bl,off,x,rfl,hB,HX,Ax,An,Ac,e0,e1,e2,e3⟩:=xQ.out.ent hm;simp only[Nat.zero_mul,Nat.add_zero]at e0 e1;replace e0:=bat HB.out hB e0;replace e1:=bat HB.out hB e1;have hBr:=Nat.lt_of_lt_of_le hB HB.out.size;have XZ:(0:Int)<(m:Int):=by omega
    have X4:(1:Int)<=(m:Int):=by omega
    have X6:(m:Int)<=(d:Int):=by have:=xQ.out.cap;omega
    have X8:((m:Int)==0)=false:=by simp;omega
    have Sz:=hide (sK HX.out);have htl:=hide (Sl.tail xQ.out (k:=1) (by omega));have hxm:=Sv.out x (mem_of_drop HX.out);have hxb:=hbx x hxm;have hxr:=Yt.out x hxm;have Vg:Hid (∀y∈us.drop 1,y∈xs):=hide λy hy=>Sv.out y (List.mem_of_mem_drop hy);have EG:=In.below e2 HB.out;have hAn:An<=4096:=by have:=e2.len;omega
    have NW:Hid (aI us (sg s vs)=⟨x.row,x.count⟩ :: aI (us.drop 1) (sg s (vs))):=hide (by rw[hv0];exact (congrArg (λl=>aI l []) Sz.out).trans (lW _ _));have bz:=hide (iD.step HST.out NW.out);have Aq:=hide (rY zs x.row (x.count));have TR:=hide e0;have TS:=hide e1;have h64:fP (x.count):=⟨by omega,by omega⟩;go_wp2_with fail;go_region_held3 (λV=>V.cell? ⟨bl,off,none⟩=some (.slice Ax An Ac)/\V.cell? ⟨bl,off+1,none⟩=some (.int .i64 x.count))
     (first|exact ⟨e0,e1⟩|exact ⟨(HW3.out.cell (p:=⟨bl,off,none⟩) hB).trans TR.out,(HW3.out.cell (p:=⟨bl,off+1,none⟩) hB).trans TS.out⟩|go_keep)
     (first|(go_at_call 111;refine (vN _ w.heap.size _ zs (by exact HO.out.below (Below.refl _ _).drew) _ _ _ x.row (by exact EG.below (Below.refl _ _).drew) hAn (x.count) h64 hzl).mono ?_;rintro e w3 ⟨⟨v3,rfl,ho3⟩,hg3,hb3⟩;have q9:=hide ho3;have HW3:Hid (Below w.heap.size wr w3):=hide ((Below.refl _ _).drew.trans hb3);clear ho3 hg3 hb3))
    have Cg:=hide (HB.out.trans HW3.out);have hfin:=q9.out.base;generalize qK zs x.row (x.count)=PS at*;obtain ⟨Pq,IM⟩:=PS;clear e0 e1;go_wp2;all_goals (try (exfalso;go_light;simp_all;done));go_roundw
    case rel=>
     refine ⟨_,_,m-1,0,d-1,d',us.drop 1,vs,IM,Pq,by simp[Rep.size,dM],by simp[Rep.size,dM],rfl,htl.out,FN.out,?_,Vg.out,Sw.out,bz.out,q9.out,Cg.out⟩;have:IM.length<=zs.length+1:=Aq.out;omega
    case measure=>simp[vP];omega
  ·have hm0:m=0:=by omega
   subst hm0;have hm':0<m':=by omega
   have hu0:us=[]:=List.eq_nil_of_length_eq_zero xQ.out.len;obtain ⟨bk,of,y,rfl,hB',HY,Yx,Yn,Yc,f0,f1,f2,f3⟩:=FN.out.ent hm';simp only[Nat.zero_mul,Nat.add_zero]at f0 f1;replace f0:=bat HB.out hB' f0;replace f1:=bat HB.out hB' f1;have CX:=Nat.lt_of_lt_of_le hB' HB.out.size;have X3:(0:Int)<(m':Int):=by omega
   have X5:(1:Int)<=(m':Int):=by omega
   have X7:(m':Int)<=(d':Int):=by have:=FN.out.cap;omega
   have X9:((m':Int)==0)=false:=by simp;omega
   have TE:=hide (sK HY.out);have htl':=hide (Sl.tail FN.out (k:=1) (by omega));have hym:=Sw.out y (mem_of_drop HY.out);have hyb:=hby y hym;have Nw:=Yu.out y hym;have Vi:Hid (∀z∈vs.drop 1,z∈ys):=hide λz hz=>Sw.out z (List.mem_of_mem_drop hz);have EH:=In.below f2 HB.out;have XD:Yn<=4096:=by have:=f2.len;omega
   have Vf:=hide (IJ (s:=s) TE.out);have hsy:IntKind.i64.wrap (s*y.count)=s*y.count:=by
    rcases hs with rfl|rfl
    ·rw[Int.one_mul];exact IntWalk.i64_in _ (by omega)
    ·rw[Int.neg_mul,Int.one_mul];exact IntWalk.i64_in _ (by omega)
   have XR: -65536<=s*y.count/\s*y.count<=65536:=by
    rcases hs with rfl|rfl
    ·rw[Int.one_mul];exact hyb
    ·rw[Int.neg_mul,Int.one_mul];omega
   have NW:Hid (aI us (sg s vs)=⟨y.row,s*y.count⟩ :: aI us (sg s (vs.drop 1))):=hide (by rw[hu0];exact (congrArg (λl=>aI [] l) Vf.out).trans (kE _ _));have bz:=hide (iD.step HST.out NW.out);have Aq:=hide (rY zs y.row (s*y.count));have Xk:=hide f0;have TT:=hide f1;have h64:fP (s*y.count):=⟨by omega,by omega⟩;go_wp2_with fail;go_region_held3 (λV=>V.cell? ⟨bk,of,none⟩=some (.slice Yx Yn Yc)/\V.cell? ⟨bk,of+1,none⟩=some (.int .i64 y.count))
    (first|exact ⟨f0,f1⟩|exact ⟨(HW3.out.cell (p:=⟨bk,of,none⟩) hB').trans Xk.out,(HW3.out.cell (p:=⟨bk,of+1,none⟩) hB').trans TT.out⟩|go_keep)
    (first|(go_at_call 111;refine (vN _ w.heap.size _ zs (by exact HO.out.below (Below.refl _ _).drew) _ _ _ y.row (by exact EH.below (Below.refl _ _).drew) XD (s*y.count) h64 hzl).mono ?_;rintro e w3 ⟨⟨v3,rfl,ho3⟩,hg3,hb3⟩;have q9:=hide ho3;have HW3:Hid (Below w.heap.size wr w3):=hide ((Below.refl _ _).drew.trans hb3);clear ho3 hg3 hb3))
   have Cg:=hide (HB.out.trans HW3.out);have hfin:=q9.out.base;generalize qK zs y.row (s*y.count)=PS at*;obtain ⟨Pq,IM⟩:=PS;clear f0 f1;go_wp2;all_goals (try (exfalso;go_light;simp_all;done));go_roundw
   case rel=>
    refine ⟨_,_,0,m'-1,d,d'-1,us,vs.drop 1,IM,Pq,by simp[Rep.size,dM],by simp[Rep.size,dM],rfl,xQ.out,htl'.out,?_,Sv.out,Vi.out,bz.out,q9.out,Cg.out⟩;have:IM.length<=zs.length+1:=Aq.out;omega
   case measure=>simp[vP];omega
end Go.Proofs.YtggejcekmehocaaGreatDoor
