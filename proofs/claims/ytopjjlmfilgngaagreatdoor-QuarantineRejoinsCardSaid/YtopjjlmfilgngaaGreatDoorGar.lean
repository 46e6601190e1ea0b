/-
  bag.sum: slices.Clone of entries, slices.SortFunc with bag.sum's closure, the loops; bag.Normalize. (The laying is what the kit's lay-plain.mjs wrote, numbers turned to names.) bag.sum, bag.Normalize: the walks. bag.Normalize; partition.Join.
-/
import Derived.Test.YtopjjlmfilgngaaGreatDoorSrtK
import Derived.Test.YtopjjlmfilgngaaGreatDoorGaq
import Derived.Test.YtopjjlmfilgngaaGreatDoorGad
import Derived.Test.YtopjjlmfilgngaaGreatDoorGaj
namespace Go.Proofs.YtopjjlmfilgngaaGreatDoor
set_option maxHeartbeats 8000000
set_option maxRecDepth 100000
open Go.RowKit Go.Shelf
set_option linter.unusedSimpArgs false
set_option linter.unusedVariables false
def laySortE_ren:Go.Shelf.Ren:=⟨λ| 6=>102| 15=>137| 14=>136| 28=>170| 29=>171| 20=>162| 21=>163| 22=>164| 23=>165| 24=>166| 25=>167| 26=>168| 27=>169| 46=>202| 47=>203| 48=>204| 49=>205| 50=>206| 57=>231|n=>n,λ| 22=>27| 24=>50| 25=>151| 3=>3| 39=>160| 0=>0| 53=>204| 55=>206| 4=>4| 46=>198| 45=>197| 50=>188| 5=>5| 9=>9| 66=>232| 70=>236| 76=>251| 77=>252|n=>n,λ|n=>n⟩
theorem laySortE:Go.Proofs.SlLaysF0.n6 Tryz.prog laySortE_ren:={
 mixed:=by kernel_rfl
 f6:=⟨Tryz.f102.name,by decide,Tryz.func102.trans (congrArg some (by kernel_rfl))⟩
 f14:=⟨Tryz.f136.name,by decide,Tryz.func136.trans (congrArg some (by kernel_rfl))⟩
 f15:=Tryz.func137.trans (congrArg some (by kernel_rfl))
 f20:=⟨Tryz.f162.name,by decide,Tryz.func162.trans (congrArg some (by kernel_rfl))⟩
 f21:=⟨Tryz.f163.name,by decide,Tryz.func163.trans (congrArg some (by kernel_rfl))⟩
 f22:=⟨Tryz.f164.name,by decide,Tryz.func164.trans (congrArg some (by kernel_rfl))⟩
 f23:=⟨Tryz.f165.name,by decide,Tryz.func165.trans (congrArg some (by kernel_rfl))⟩
 f24:=⟨Tryz.f166.name,by decide,Tryz.func166.trans (congrArg some (by kernel_rfl))⟩
 f25:=⟨Tryz.f167.name,by decide,Tryz.func167.trans (congrArg some (by kernel_rfl))⟩
 f26:=⟨Tryz.f168.name,by decide,Tryz.func168.trans (congrArg some (by kernel_rfl))⟩
 f27:=⟨Tryz.f169.name,by decide,Tryz.func169.trans (congrArg some (by kernel_rfl))⟩
 f28:=Tryz.func170.trans (congrArg some (by kernel_rfl))
 f29:=Tryz.func171.trans (congrArg some (by kernel_rfl))
 f46:=⟨Tryz.f202.name,by decide,Tryz.func202.trans (congrArg some (by kernel_rfl))⟩
 f47:=Tryz.func203.trans (congrArg some (by kernel_rfl))
 f48:=Tryz.func204.trans (congrArg some (by kernel_rfl))
 f49:=⟨Tryz.f205.name,by decide,Tryz.func205.trans (congrArg some (by kernel_rfl))⟩
 f50:=⟨Tryz.f206.name,by decide,Tryz.func206.trans (congrArg some (by kernel_rfl))⟩
 f57:=⟨Tryz.f231.name,by decide,Tryz.func231.trans (congrArg some (by kernel_rfl))⟩
 t0:=Tryz.underlying0
 a0:=Tryz.isAgg0
 z0:=Tryz.sizeOf0
 v0:=Tryz.zeroValue0
 t3:=Tryz.underlying3
 a3:=Tryz.isAgg3
 z3:=Tryz.sizeOf3
 v3:=Tryz.zeroValue3
 t4:=Tryz.underlying4
 a4:=Tryz.isAgg4
 z4:=Tryz.sizeOf4
 v4:=Tryz.zeroValue4
 t5:=Tryz.underlying5
 a5:=Tryz.isAgg5
 z5:=Tryz.sizeOf5
 v5:=Tryz.zeroValue5
 t9:=Tryz.underlying9
 a9:=Tryz.isAgg9
 z9:=Tryz.sizeOf9
 v9:=Tryz.zeroValue9
 t22:=Tryz.underlying27
 a22:=Tryz.isAgg27
 z22:=Tryz.sizeOf27
 v22:=Tryz.zeroValue27
 t25:=Tryz.underlying151
 a25:=Tryz.isAgg151
 z25:=Tryz.sizeOf151
 v25:=Tryz.zeroValue151
 t39:=Tryz.underlying160
 a39:=Tryz.isAgg160
 z39:=Tryz.sizeOf160
 v39:=Tryz.zeroValue160
 t45:=Tryz.underlying197
 a45:=Tryz.isAgg197
 z45:=Tryz.sizeOf197
 v45:=Tryz.zeroValue197
 t46:=Tryz.underlying198
 a46:=Tryz.isAgg198
 z46:=Tryz.sizeOf198
 v46:=Tryz.zeroValue198
 t50:=Tryz.underlying188
 a50:=Tryz.isAgg188
 z50:=Tryz.sizeOf188
 v50:=Tryz.zeroValue188
 t53:=Tryz.underlying204
 a53:=Tryz.isAgg204
 z53:=Tryz.sizeOf204
 v53:=Tryz.zeroValue204
 t55:=Tryz.underlying206
 a55:=Tryz.isAgg206
 z55:=Tryz.sizeOf206
 v55:=Tryz.zeroValue206
 t66:=Tryz.underlying232
 a66:=Tryz.isAgg232
 z66:=Tryz.sizeOf232
 v66:=Tryz.zeroValue232
 t70:=Tryz.underlying236
 a70:=Tryz.isAgg236
 z70:=Tryz.sizeOf236
 v70:=Tryz.zeroValue236
 t76:=Tryz.underlying251
 a76:=Tryz.isAgg251
 z76:=Tryz.sizeOf251
 v76:=Tryz.zeroValue251
 t77:=Tryz.underlying252
 a77:=Tryz.isAgg252
 z77:=Tryz.sizeOf252
 v77:=Tryz.zeroValue252}
theorem clone_ents (w:World)(A:Option Addr)(n c:Nat)(xs:List Ent)(hx:In w A n c xs)(hn:n<=1048576):
  Calls Tryz.prog 48 #[.slice A n c] w λe w'=>(∃A' c',e=.returned (.slice A' n c')/\OL 50 w.heap.size (λ_=>True) [] w' (.slice A' n c') xs)/\Below w.heap.size w w':=by
 have kn:=λ(W:World) (a:Option Addr) (l c:Nat)=>Lib.run_eql_slice_nil (P:=Tryz.prog) W 27 50 a l c 0 0 Tryz.underlying27;have hlen:=hx.len;cases A with
 |none=>
  have h0:c=0:=hx.2.2.2.1 rfl;have h1:n=0:=by have:=hx.2.1;omega
  subst h0 h1;have he:xs=[]:=List.eq_nil_of_length_eq_zero hx.1;subst he;clear hlen;go_enter Tryz.func48,Tryz.ntmps48;go_wp2;go_ret;exact ⟨⟨_,_,rfl,OL.nil (Nat.le_refl _)⟩,Below.refl _ _⟩
 |some ad=>
  have hb0:Below w.heap.size w (w.alloc (.cells #[] 50)):=ae;obtain ⟨cs,HC,HS⟩:=Sl.cells hx;have HC:=hide ((HC.keep (Same.below hb0)).mono λk hk=>(show BS w.heap.size (λ_=>True) [] (w.alloc (.cells #[] 50)) k from .inl ⟨trivial,hk⟩));have HO:Hid (OL (α:=Ent) 50 w.heap.size (λ_=>True) [] (w.alloc (.cells #[] 50)) (.slice (some ⟨w.heap.size,0,none⟩) 0 0) []):=hide ⟨⟨[],World.ownsRow_made w #[] 0 (Nat.le_refl _) (by decide) rfl,rfl⟩,hb0.size⟩;have U1:Hid (Src (w.alloc (.cells #[] 50)) 2 (some ad) n cs):=hide ⟨HS.1,λh=>by
   obtain ⟨b,off,e,hj⟩:=HS.2 h;exact ⟨b,off,e,λj u hu=>by
    have hc:=hj j u hu;exact aj hb0 (lt_of_cell hc) hc⟩⟩
  have HL:=hide hlen;clear hlen;go_enter Tryz.func48,Tryz.ntmps48;go_wp2_with (at_builtin;refine kC _ rfl _ _ _ rfl vM (by simp) HO.out rfl (some ad) n c cs xs rfl (λh=>by cases h) U1.out HC.out HL.out (by simp only[maxLen,List.length_nil];omega) (by simp only[List.length_nil];omega) ?_;intro v1 w3 ho3 hb3 hg3 FC);go_ret;obtain ⟨A9,c9,e9⟩:=ho3.form;have Hu:=hide ho3;clear ho3;subst e9;rw[List.nil_append]at Hu;rw[List.nil_append,HL.out]at*;exact ⟨⟨_,_,rfl,Hu.out⟩,hb0.trans hb3⟩
theorem sumClos_any (W:World)(A A':Option Addr)(n n' c c':Nat)(k k':Int)(xs ys:List Val)(hx:In W A n c xs)(hy:In W A' n' c' ys):
  Calls Tryz.prog 103 #[.agg #[.slice A n c,.int .i64 k],.agg #[.slice A' n' c',.int .i64 k']] W λe w'=>e=.returned (.int .i64 (ah xs ys))/\Gr W w':=by
 go_enter Tryz.func103,Tryz.ntmps103;go_wp2_with fail;refine (compareRows_anyG _ A A' n n' c c' xs ys (by exact hx.below below_alloc2) (by exact hy.below below_alloc2)).mono ?_;rintro e w1 ⟨rfl,hg1⟩;have HG:=hide (((Fz W _).alloc _).trans hg1);clear hg1;go_wp2;go_ret;exact ⟨rfl,HG.out⟩
theorem enters_sumClos: ∀args w,(callFunc 103 args).run Tryz.prog w=.ok (.enter 103 args) w:=enters_of Tryz.func103 (by kernel_rfl) rfl
theorem sort_ents (w:World)(B:Nat)(O:Nat->Prop)(v:Value)(xs:List Ent)(h:OL 50 B O [] w v xs)(hl:xs.length<=1048576):
  Calls Tryz.prog 102 #[v,.func (.func 103) #[] #[]] w
   λe w'=>e=.returned (.tuple #[])/\ ∃ys:List Ent,ys.Perm xs/\ys.Pairwise (λa b=>¬ah b.row a.row<0)/\OL 50 B O [] w' v ys/\w.grownBy w' v.ownBlock:=
 sort_OL (ρ:=laySortE_ren) (α:=Ent) laySortE (by decide) Tryz.isAgg50 Tryz.sizeOf50 (λx y:Ent=>ah x.row y.row) (swo_map (swo_total BH) Ent.row) 103 #[] enters_sumClos
  (λW c1 c2 x y hx hy=>by
   obtain ⟨A,n,c,rfl,h1,_⟩:=hx;obtain ⟨A',n',c',rfl,h2,_⟩:=hy;exact sumClos_any W A A' n n' c c' x.count y.count x.row y.row h1 h2) h (by simp) (by omega)
open Go.RowKit
theorem ent_two {w:World}{b off:Nat}{n c q:Nat}{ys:List Ent}(h:In w (some ⟨b,off,none⟩) n c ys)(hq:q<n): ∃x,b<w.heap.size/\Hid (ys.drop q=x :: ys.drop (q+1))/\
  ∃A' n' c',w.cell? ⟨b,off+q*2,none⟩=some (.slice A' n' c')/\w.cell? ⟨b,off+q*2+1,none⟩=some (.int .i64 x.count)/\In w A' n' c' x.row:=by
 obtain ⟨b1,off1,x,e,hb,hx,A',n',c',h1,h2,h3,h4⟩:=h.ent hq;injection e with e;injection e with e1 e2;subst e1 e2;exact ⟨x,hb,hx,A',n',c',h1,h2,h3⟩
theorem In.ownS {w:World}{e B n c:Nat}{O:Nat->Prop}{T:List TypeId}{A:Option Addr}{ys:List Ent}(h:OL e B O T w (.slice A n c) ys)(hl:ys.length=n):In w A n c ys:=by
 obtain ⟨A9,c9,e9,h9⟩:=h.inn;injection e9 with e1 e2 e3;subst e1 e2 e3;exact h9
theorem sum_any (w:World)(A:Option Addr)(n c:Nat)(xs:List Ent)(hx:In w A n c xs)(hn:n<=1048576)(hbx:oK 65536 xs)(hrx: ∀x∈xs,x.row.length<=12):
  Calls Tryz.prog 76 #[.slice A n c] w
   λe w'=>(∃v,e=.returned (.tuple #[v,.int .i64 (gV xs).1])/\OE w.heap.size w' v (gV xs).2)/\Below w.heap.size w w':=by
 obtain ⟨R,hR⟩: ∃R,gV xs=R:=⟨_,rfl⟩;rw[hR];have HR:=hide hR;clear hR;have xO:=hide hbx;have HRX:=hide hrx;have HLX:=hide hx.len;clear hbx hrx;go_enter Tryz.func76,Tryz.ntmps76;go_wp2_with fail;refine (clone_ents _ A n c xs hx hn).mono ?_;rintro e w1 ⟨⟨A1,c1,rfl,ho1⟩,hb1⟩;have Ht:=hide ho1;have HB1:=hide hb1;clear ho1 hb1;go_wp2_with fail;refine (sort_ents w1 w.heap.size (λ_=>True) (.slice A1 n c1) xs Ht.out (by have:=HLX.out;omega)).mono ?_;rintro e w2 ⟨rfl,ys,hpm,hso,ho2,hg2⟩;have hin:=In.ownS ho2 (hpm.length_eq.trans HLX.out);have HB2:Hid (Below w.heap.size w w2):=hide (HB1.out.grown hg2 HB1.out.size λj q=>(Ht.out.ty q).1);have HBY:Hid (∀y∈ys,(-65536<=y.count/\y.count<=65536)/\y.row.length<=12):=hide λy hy=>⟨xO.out y (hpm.mem_iff.1 hy),HRX.out y (hpm.mem_iff.1 hy)⟩;have HRM:Hid (R=wu (gsum ys)):=hide (HR.out.symm.trans (gsum_bag hpm hso));clear hpm hso ho2 hg2 HR xO HRX HLX Ht HB1;have cZ:=hide hin;have hn63:=hin.le;clear hin;obtain ⟨M,hM⟩: ∃M,gsum ys=M:=⟨_,rfl⟩;have HM:=hide hM;rw[hM]at HRM;clear hM;go_wp2;go_loopw [4,5,6] (λo okv i wr=> ∃(k:Nat) (zs:List Ent) (ok:Bool),i=.int .i64 k/\okv=.bool ok/\k<=n/\zs.length<=k/\nW M (gsum (ys.drop k)) ok zs/\OE w2.heap.size wr o zs/\Below w2.heap.size w2 wr)
  (λ_ _ i _=>n-(RowKit.intOf i).toNat)
 case atStart=>exact ⟨0,[],true,rfl,rfl,Nat.zero_le _,by simp,by rw[List.drop_zero,HM.out];exact nW.start M,OL.nil (Nat.le_refl _),Below.refl _ _⟩
 case round=>
  obtain ⟨k,zs,ok,rfl,rfl,hk,WM,hst,hown,hb⟩:=hrel;have HST:=hide hst;have HO:=hide hown;have HB:=hide hb;clear hst hown hb;cases ok
  ·have HF:=hide (HRM.out.trans HST.out.bad);obtain rfl:=HF.out;by_cases hlt:k<n
   ·go_wp2;all_goals (try (exfalso;go_light;simp_all;done));go_ret2;exact ⟨⟨_,rfl,OL.nil (Nat.le_trans HB2.out.size HB.out.size)⟩,HB2.out.trans (HB.out.mono HB2.out.size)⟩
   ·go_wp2;all_goals (try (exfalso;go_light;simp_all;done));go_ret2;exact ⟨⟨_,rfl,OL.nil (Nat.le_trans HB2.out.size HB.out.size)⟩,HB2.out.trans (HB.out.mono HB2.out.size)⟩
  by_cases hlt:k<n
  case neg=>
   have hkn:n<=k:=by omega
   have HF:=hide (HRM.out.trans (nW.fin (by have h:=HST.out;rwa [aD cZ.out.len hkn,show gsum []=[] from rfl]at h)));obtain ⟨A9,c9,hv,hin9⟩:=HO.out.inn;have VJ:=hin9.le;subst hv;clear hin9;go_wp2_with fail;refine (done_any _ (.slice A9 zs.length c9) zs.length c9 A9 VJ).mono ?_;rintro e w3 ⟨rfl,hb3⟩;have HB3:=hide (HB2.out.trans ((aa HB.out hb3).mono HB2.out.size));have Hu:=hide (HO.out.below hb3);clear hb3;by_cases h4:4096<zs.length
   ·have KA:=HF.out;rw[if_pos h4]at KA;obtain rfl:=KA;rw[if_pos h4];go_wp2;all_goals (try (exfalso;go_light;simp_all;done));go_ret2;exact ⟨⟨_,rfl,OL.nil HB3.out.size⟩,HB3.out⟩
   ·have KA:=HF.out;rw[if_neg h4]at KA;obtain rfl:=KA;rw[if_neg h4];go_wp2;all_goals (try (exfalso;go_light;simp_all;done));go_ret2;exact ⟨⟨_,rfl,Hu.out.rebase HB2.out.size⟩,HB3.out⟩
  case pos=>
   obtain ⟨b,off,x,rfl,hB,HX,Ax,An,Ac,e0,e1,e2,e3⟩:=cZ.out.ent hlt;clear e1 e3;have k0:(0:Int)<=(k:Int):=by omega
   have k1:(k:Int)<(n:Int):=by omega
   have hAn:An<=4096:=by have:=e2.len;have:=(HBY.out x (aF HX.out)).2;omega
   have E0:=hide e0;have E2:=hide e2;clear e0 e2;go_wp2;go_loopw [7,8] (λnv kv wr2=> ∃(q:Nat) (m:Int),kv=.int .i64 q/\nv=.int .i64 m/\k<=q/\q<=n/\EB ys x.row k q m/\Below wr.heap.size wr wr2) (λ_ kv _=>n-(RowKit.intOf kv).toNat)
   case atStart=>exact ⟨k,0,rfl,rfl,Nat.le_refl _,hk,EB.start _ _ _,Below.refl _ _⟩
   case round=>
    obtain ⟨q,m,rfl,rfl,hkq,hqn,hrun,hb2⟩:=hrel;have QC:=hide hrun;have hmb: -65536*((q:Int)-k)<=m/\m<=65536*((q:Int)-k):=by obtain ⟨_,_,_,_,_,h5,h6⟩:=hrun;exact ⟨h5,h6⟩
    have xN:=hide (aa HB.out hb2);have Ud:=hide hb2;clear hrun hb2;have e0:=aj xN.out hB E0.out;by_cases hqlt:q<n
    ·obtain ⟨y,hBy,HY,Yx,Yn,Yc,f0,f1,f2⟩:=ent_two cZ.out hqlt;have f0:=aj xN.out hB f0;have f1:=aj xN.out hB f1;have OA:=In.below E2.out xN.out;have OC:=In.below f2 xN.out;clear f2 hBy;have q0:(0:Int)<=(q:Int):=by omega
     have q1:(q:Int)<(n:Int):=by omega
     have hBr:=Nat.lt_of_lt_of_le hB xN.out.size;have hyc:=(HBY.out y (aF HY.out)).1;go_wp2_with fail;go_region_held3 (λV=>V.cell? ⟨b,off+k*2,none⟩=some (.slice Ax An Ac)/\V.cell? ⟨b,off+q*2,none⟩=some (.slice Yx Yn Yc)/\V.cell? ⟨b,off+q*2+1,none⟩=some (.int .i64 y.count))
      (first|exact ⟨e0,f0,f1⟩|(have hq:=ak hb2';exact ⟨aj hq hBr e0,aj hq hBr f0,aj hq hBr f1⟩))
      (first|(go_at_call 31;refine (lw _ Ax Yx An Yn Ac Yc x.row y.row (by exact OA) (by exact OC)).mono ?_;rintro e W9 ⟨rfl,hb2'⟩))
     have hbw:=ak hb2';have qf:=hide (aa Ud.out hbw);replace e0:=aj hbw hBr e0;replace f0:=aj hbw hBr f0;replace f1:=aj hbw hBr f1;clear hb2' hbw OA OC hBr;by_cases hz:ah x.row y.row=0
     ·have hz':(ah x.row y.row==0)=true:=by simpa using hz
      have WL:IntKind.i64.wrap (m+y.count)=m+y.count:=IntWalk.i64_in _ (by omega);have HR2:=hide (QC.out.step hkq HY.out (aS.1 hz).symm hyc);clear hz;go_wp2;all_goals (try (exfalso;go_light;simp_all;done));go_roundw
      case rel=>exact ⟨q+1,m+y.count,by go_num,by simp[WL],by omega,by omega,HR2.out,qf.out⟩
      case measure=>simp[RowKit.intOf];omega
     ·have hz':(ah x.row y.row==0)=false:=by simpa using hz
      have HNQ:Hid (∀z∈(ys.drop q).head?,z.row≠x.row):=hide (by
       rw[HY.out];intro z hzz;simp at hzz;subst hzz;exact λh=>hz (aS.2 h.symm))
      clear hz f0 f1;have HFN:=hide (QC.out.fin HX.out HNQ.out);have dI:=hide (nW.step HST.out HFN.out.1);have hkq2:k<q:=HFN.out.2;have HPL:=hide (putS_len zs x.row m);have h64:dH m:=⟨by omega,by omega⟩;have hzl:zs.length<1048576:=by omega
      have UV:=hide (HO.out.below qf.out);have HI4:=hide (In.below E2.out (HB.out.trans (qf.out.mono HB.out.size)));have uN:b<W9.heap.size:=Nat.lt_of_lt_of_le hB (HB.out.trans (qf.out.mono HB.out.size)).size;clear e0;go_wp2_with fail;refine (put_any _ w2.heap.size _ zs (by first|exact UV.out|exact UV.out.below (Below.refl _ _).drew|exact UV.out.below (eQ (Below.refl _ _))) _ _ _ x.row (by first|exact HI4.out|exact HI4.out.below (Below.refl _ _).drew|exact HI4.out.below (eQ (Below.refl _ _))) hAn m h64 hzl).mono ?_;rintro e w5 ⟨⟨v5,rfl,Tx⟩,hg5,hb5⟩;have HO5:=hide Tx;have HW3:Hid (Below w2.heap.size W9 w5):=hide (by first|exact hb5|exact (Below.refl _ _).drew.trans hb5|exact (eQ (Below.refl _ _)).trans hb5);clear Tx hg5 hb5;have Ha:=hide ((HB.out.trans (qf.out.mono HB.out.size)).trans HW3.out);have hfin:=HO5.out.base;generalize JG zs x.row m=PS at*;obtain ⟨okn,zsn⟩:=PS;go_wp2;all_goals (try (exfalso;go_light;simp_all;done));go_roundw
      case rel=>
       refine ⟨q,zsn,okn,rfl,rfl,hqn,?_,dI.out,HO5.out,Ha.out⟩;have:zsn.length<=zs.length+1:=HPL.out;omega
      case measure=>simp[RowKit.intOf];omega
    ·have HNQ:Hid (∀z∈(ys.drop q).head?,z.row≠x.row):=hide (by
      rw[aD cZ.out.len (by omega)];simp)
     go_wp2;go_quiet (fail);have qf:=Ud;have HFN:=hide (QC.out.fin HX.out HNQ.out);have dI:=hide (nW.step HST.out HFN.out.1);have hkq2:k<q:=HFN.out.2;have HPL:=hide (putS_len zs x.row m);have h64:dH m:=⟨by omega,by omega⟩;have hzl:zs.length<1048576:=by omega
     have UV:=hide (HO.out.below qf.out);have HI4:=hide (In.below E2.out (HB.out.trans (qf.out.mono HB.out.size)));have uN:b<wr.heap.size:=Nat.lt_of_lt_of_le hB (HB.out.trans (qf.out.mono HB.out.size)).size;have e0q:(wr.drewN nq).cell? ⟨b,off+k*2,none⟩=some (.slice Ax An Ac):=e0;go_wp2_with fail;refine (put_any _ w2.heap.size _ zs (by first|exact UV.out|exact UV.out.below (Below.refl _ _).drew|exact UV.out.below (eQ (Below.refl _ _))) _ _ _ x.row (by first|exact HI4.out|exact HI4.out.below (Below.refl _ _).drew|exact HI4.out.below (eQ (Below.refl _ _))) hAn m h64 hzl).mono ?_;rintro e w5 ⟨⟨v5,rfl,Tx⟩,hg5,hb5⟩;have HO5:=hide Tx;have HW3:Hid (Below w2.heap.size wr w5):=hide (by first|exact hb5|exact (Below.refl _ _).drew.trans hb5|exact (eQ (Below.refl _ _)).trans hb5);clear Tx hg5 hb5;have Ha:=hide ((HB.out.trans (qf.out.mono HB.out.size)).trans HW3.out);have hfin:=HO5.out.base;generalize JG zs x.row m=PS at*;obtain ⟨okn,zsn⟩:=PS;go_wp2;all_goals (try (exfalso;go_light;simp_all;done));go_roundw
     case rel=>
      refine ⟨q,zsn,okn,rfl,rfl,hqn,?_,dI.out,HO5.out,Ha.out⟩;have:zsn.length<=zs.length+1:=HPL.out;omega
     case measure=>simp[RowKit.intOf];omega
theorem ent_parts {x:Ent}(h:aA x=0):(-65536<=x.count/\x.count<=65536)/\x.row.length<=12:=by
 rw[jc]at h
 split at h
 ·exact absurd h (by decide)
 ·omega
theorem normalize_any (w:World)(A:Option Addr)(n c:Nat)(xs:List Ent)(hx:In w A n c xs)(hn:n<=1048576):
  Calls Tryz.prog 49 #[.slice A n c] w
   λe w'=>(∃v,e=.returned (.tuple #[v,.int .i64 (Cr xs).1])/\OE w.heap.size w' v (Cr xs).2)/\Below w.heap.size w w':=by
 have HD:=hide (show Cr xs=if ag (λ_ x=>aA x) 0 xs≠0 then (ag (λ_ x=>aA x) 0 xs,[]) else gV xs from rfl);obtain ⟨R,hR⟩: ∃R,Cr xs=R:=⟨_,rfl⟩;rw[hR]at HD;rw[hR];clear hR;have cZ:=hide hx;have hn63:=hx.le;clear hx;go_enter Tryz.func49,Tryz.ntmps49;go_wp2;go_loopw [9] (λi wr=> ∃k:Nat,k<=n/\i=.int .i64 k/\ag (λ_ x=>aA x) 0 xs=ag (λ_ x=>aA x) k (xs.drop k)/\Below w.heap.size w wr) (λi _=>n-(RowKit.intOf i).toNat)
 case atStart=>exact ⟨0,Nat.zero_le _,rfl,rfl,Below.refl _ _⟩
 case round=>
  obtain ⟨k,hk,rfl,heq,hb⟩:=hrel;have HE:=hide heq;have HB:=hide hb;clear heq hb;by_cases hlt:k<n
  ·obtain ⟨b,off,x,rfl,hB,HX,A',n',c',e0,e1,e2,e3⟩:=(cZ.out.below HB.out).ent hlt;go_wp2_with fail;refine (AV _ A' n' c' x (by exact e2.below ae) e3).mono ?_;rintro e w1 ⟨rfl,hb1⟩;have HB1:=hide (aa (aa HB.out ae) hb1);clear hb1 e0 e1 e2;by_cases hz:aA x=0
   ·rw[hz];have HC:Hid (ag (λ_ x=>aA x) 0 xs=ag (λ_ x=>aA x) (k+1) (xs.drop (k+1))):=hide (by rw[HE.out,HX.out];exact aT hz);go_wp2;go_roundw
    case rel=>exact ⟨k+1,by omega,by go_num,HC.out,HB1.out⟩
    case measure=>simp[RowKit.intOf];omega
   ·have hz':(aA x != 0)=true:=by simpa using hz
    have HC:Hid (R=(aA x,[])):=hide (by
     have h1:ag (λ_ x=>aA x) 0 xs=aA x:=by rw[HE.out,HX.out];exact aK rfl hz
     rw[HD.out,h1,if_pos hz])
    obtain rfl:=HC.out;go_wp2;all_goals (try (exfalso;go_light;simp_all;done));go_ret2;exact ⟨⟨_,rfl,OL.nil HB1.out.size⟩,HB1.out⟩
  ·have h0:ag (λ_ x=>aA x) 0 xs=0:=by rw[HE.out,aD cZ.out.len (by omega),ag]
   have wM:=hide (IU.1 h0);have Ph:Hid (R=gV xs):=hide (by rw[HD.out,if_neg (by simpa using h0)]);obtain rfl:=Ph.out;clear h0;have HI2:=hide (cZ.out.below HB.out);go_wp2_with fail;refine (sum_any _ A n c xs (by exact HI2.out) hn (λx hx=>(ent_parts (wM.out x hx)).1) (λx hx=>(ent_parts (wM.out x hx)).2)).mono ?_;rintro e w3 ⟨⟨v3,rfl,ho3⟩,hb3⟩;have Hu:=hide (ho3.rebase HB.out.size);have HB3:=hide (aa HB.out hb3);clear ho3 hb3;go_wp2;go_ret2;exact ⟨⟨_,rfl,Hu.out⟩,HB3.out⟩
theorem cells_old {B:Nat}{w wr:World}{A':Option Addr}{n' c':Nat}{xs:List Ent}(h:In w A' n' c' xs)(hB:B=w.heap.size)(hb:Below w.heap.size w wr): ∃cs,Cells wr (BS B (λ_=>True) [] wr) cs xs/\Src wr 2 A' n' cs/\(A'=none->n'=0)/\xs.length=n':=by
 subst hB;obtain ⟨cs,h1,h2⟩:=h.cells;refine ⟨cs,(h1.keep (Same.below hb)).mono λk hk=>.inl ⟨trivial,hk⟩,⟨h2.1,λh0=>?_⟩,λhA=>?_,h.1⟩
 ·obtain ⟨b',o',e,hc⟩:=h2.2 h0;refine ⟨b',o',e,λj u hu=>?_⟩;have hcj:=hc j u hu;exact aj hb (lt_of_cell hcj) hcj
 ·have h1:=h.2.2.2.1 hA;have h2:=h.2.1;omega
theorem SrcAt.alloc {w:World}{o:Obj}{size n:Nat}{A:Option Addr}{cs:List Value}(h:Src w size A n cs):Src (w.alloc o) size A n cs:=⟨h.1,λh0=>by
 obtain ⟨b',o',e,hc⟩:=h.2 h0;exact ⟨b',o',e,λj u hu=>aj ae (lt_of_cell (hc j u hu)) (hc j u hu)⟩⟩
end Go.Proofs.YtopjjlmfilgngaaGreatDoor
