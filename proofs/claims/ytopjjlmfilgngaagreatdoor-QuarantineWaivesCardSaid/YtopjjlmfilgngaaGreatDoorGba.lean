/-
  warehouseref28.UsesOther, table, holds. (Printed by gen_valr.py.) warehouseref28.Validate. (Printed by gen_valr.py.)
-/
import Derived.Test.YtopjjlmfilgngaaGreatDoorChkA
import Derived.Test.YtopjjlmfilgngaaGreatDoorCls
import Derived.Test.YtopjjlmfilgngaaGreatDoorGay
import Derived.Test.YtopjjlmfilgngaaGreatDoorTypR
namespace Go.Proofs.YtopjjlmfilgngaaGreatDoor
set_option maxHeartbeats 4000000
set_option maxRecDepth 100000
open Go.RowKit
set_option linter.unusedSimpArgs false
set_option linter.unusedVariables false
theorem sM (w:World)(x:Chk)(A:Option Addr)(n c:Nat)(A':Option Addr)(n' c':Nat)(aX:Option Addr)(n'' c'':Nat):Calls Tryz.prog 67 #[.agg (aB x A n c A' n' c' aX n'' c'').toArray] w λe w'=>e=.returned (.bool (gH x.kind))/\Below w.heap.size w w':=by
 rw[gH];simp only[aB];cases h3:(x.kind==3)
 ·go_enter Tryz.func67,Tryz.ntmps67;go_wp2_with fail;obtain ⟨W1,hW1⟩: ∃W,W=w.alloc (.cells #[.string x.name,.string x.table,.int .i64 x.kind,.slice A n c,.string x.other,.slice A' n' c',.int .i64 x.low,.int .i64 x.high,.slice aX n'' c'',.int .i64 x.ln,.int .i64 x.ld,.int .i64 x.mn,.int .i64 x.md,.int .i64 x.policy] 48):=⟨_,rfl⟩;obtain ⟨hbW1,fZ,g0,g1,g2,g3,g4,g5,g6,g7,g8,g9,g10,g11,g12,g13⟩:=bT hW1 rfl;rw[<-hW1];clear hW1;have lN:=hide hbW1;clear hbW1;have LR:=lt_of_cell g0;go_wp2;go_ret;exact ⟨ay (by simp),lN.out⟩
 ·go_enter Tryz.func67,Tryz.ntmps67;go_wp2_with fail;obtain ⟨W1,hW1⟩: ∃W,W=w.alloc (.cells #[.string x.name,.string x.table,.int .i64 x.kind,.slice A n c,.string x.other,.slice A' n' c',.int .i64 x.low,.int .i64 x.high,.slice aX n'' c'',.int .i64 x.ln,.int .i64 x.ld,.int .i64 x.mn,.int .i64 x.md,.int .i64 x.policy] 48):=⟨_,rfl⟩;obtain ⟨hbW1,fZ,g0,g1,g2,g3,g4,g5,g6,g7,g8,g9,g10,g11,g12,g13⟩:=bT hW1 rfl;rw[<-hW1];clear hW1;have iM:=hide hbW1;clear hbW1;have LR:=lt_of_cell g0;go_wp2;go_ret;exact ⟨ay (by simp),iM.out⟩
theorem Km (w:World)(x:Chk)(A:Option Addr)(n c:Nat)(A':Option Addr)(n' c':Nat)(aX:Option Addr)(n'' c'':Nat)(hq:In w aX n'' c'' x.cond)(A1:Option Addr)(n1 c1:Nat)(cols:List Col)(hc:In w A1 n1 c1 cols)(A2:Option Addr)(n2 c2:Nat)(zs:List Zone)(hz:In w A2 n2 c2 zs)(A3:Option Addr)(n3 c3:Nat)(row:List Val)(hr:In w A3 n3 c3 row):
  Calls Tryz.prog 70 #[.agg (aB x A n c A' n' c' aX n'' c'').toArray,.slice A1 n1 c1,.slice A2 n2 c2,.slice A3 n3 c3] w λe w'=>e=.returned (.bool (nZ x.cond cols row zs))/\Below w.heap.size w w':=by
 have HE:=hide λW hq hc hr hz=>M8 W aX n'' c'' x.cond hq A1 n1 c1 cols hc A3 n3 c3 row hr A2 n2 c2 zs hz;have HV:=hide (jh (wY x.cond cols row zs));have HD:=hide (show nZ x.cond cols row zs=((gW x.cond cols row zs).1==0&&truth (gW x.cond cols row zs).2==1) from rfl);obtain ⟨R,hR⟩: ∃R,nZ x.cond cols row zs=R:=⟨_,rfl⟩;obtain ⟨E,hE⟩: ∃E,gW x.cond cols row zs=E:=⟨_,rfl⟩;rw[hR]at HD;rw[hE]at HE HV HD;rw[hR];clear hR hE;obtain ⟨ee,vk,vn,vs⟩:=E;simp only[Val.cells]at HE HV HD;simp only[aB];go_enter Tryz.func70,Tryz.ntmps70;have HQ:=hide hq;clear hq;have HC:=hide hc;clear hc;have HR:=hide hr;clear hr;have HZ:=hide hz;clear hz;go_wp2_with fail;obtain ⟨W1,hW1⟩: ∃W,W=w.alloc (.cells #[.string x.name,.string x.table,.int .i64 x.kind,.slice A n c,.string x.other,.slice A' n' c',.int .i64 x.low,.int .i64 x.high,.slice aX n'' c'',.int .i64 x.ln,.int .i64 x.ld,.int .i64 x.mn,.int .i64 x.md,.int .i64 x.policy] 48):=⟨_,rfl⟩;obtain ⟨hbW1,fZ,g0,g1,g2,g3,g4,g5,g6,g7,g8,g9,g10,g11,g12,g13⟩:=bT hW1 rfl;rw[<-hW1];clear hW1;have HQ:=hide (HQ.out.below hbW1);have HC:=hide (HC.out.below hbW1);have HR:=hide (HR.out.below hbW1);have HZ:=hide (HZ.out.below hbW1);have oF:=hide hbW1;clear hbW1;have LR:=lt_of_cell g0;refine (HE.out _ HQ.out HC.out HR.out HZ.out).mono ?_;rintro e w4 ⟨rfl,hb4⟩;obtain ⟨g0,g1,g2,g3,g4,g5,g6,g7,g8,g9,g10,g11,g12,g13,LR⟩:=dR hb4 LR g0 g1 g2 g3 g4 g5 g6 g7 g8 g9 g10 g11 g12 g13;have kL:=hide (aa oF.out hb4);clear hb4;clear g1 g2 g3 g4 g5 g6 g7 g8 g9 g10 g11 g12 g13;by_cases h0:ee=0
 ·subst h0;go_wp2_with fail;refine (IG ⟨vk,vn,vs⟩ HV.out _).mono ?_;rintro e w3 ⟨rfl,hb3⟩;have HB3:=hide (aa kL.out (aa ae hb3));obtain ⟨T,hT⟩: ∃T,truth ⟨vk,vn,vs⟩=T:=⟨_,rfl⟩;rw[hT]at HD⊢;clear hT hb3;go_wp2;go_ret;exact ⟨ay (by rw[HD.out];simp),HB3.out⟩
 ·have q:(ee==0)=false:=by simpa using h0
  obtain rfl:R=false:=by rw[HD.out,q];rfl
  have HB3:=hide (aa kL.out (ae (o:=.cells #[.int .i64 vk,.int .i64 vn,.string vs] 36)));go_wp2;all_goals (try (exfalso;go_light;simp_all;done));go_ret;exact ⟨rfl,HB3.out⟩
theorem CP (w:World)(nm:ByteArray)(A:Option Addr)(n c:Nat)(cols:List Col)(hc:In w A n c cols)(A':Option Addr)(n' c':Nat)(A2:Option Addr)(n2 c2:Nat)(rows:List Ent)(hr:In w A2 n2 c2 rows):
  Calls Tryz.prog 66 #[.agg #[.string nm,.slice A n c,.slice A' n' c',.slice A2 n2 c2]] w λe w'=>e=.returned (.int .i64 (bP cols rows))/\Below w.heap.size w w':=by
 have HD:=hide (show bP cols rows=if aL rows≠0 then aL rows else if dZ rows=false then 8 else ai (λ_ x=>aG cols x.row) 0 rows from rfl);obtain ⟨R,hR⟩: ∃R,bP cols rows=R:=⟨_,rfl⟩;rw[hR]at HD;rw[hR];clear hR;have h63:=hr.le;go_enter Tryz.func66,Tryz.ntmps66;have HC:=hide hc;clear hc;have HR:=hide hr;clear hr;go_wp2_with fail;obtain ⟨W1,hW1⟩: ∃W,W=w.alloc (.cells #[.string nm,.slice A n c,.slice A' n' c',.slice A2 n2 c2] 29):=⟨_,rfl⟩;obtain ⟨hbW1,fZ,g0,g1,g2,g3⟩:=kr hW1 rfl;rw[<-hW1];clear hW1;have HC:=hide (HC.out.below hbW1);have HR:=hide (HR.out.below hbW1);have tQ:=hide hbW1;clear hbW1;have LR:=lt_of_cell g0;obtain ⟨B,hB⟩: ∃B,aL rows=B:=⟨_,rfl⟩;have xS:=hide hB;obtain ⟨T,hT⟩: ∃T,dZ rows=T:=⟨_,rfl⟩;have Y5:=hide hT;rw[hB,hT]at HD;clear hB hT;refine (Jf _ A2 n2 c2 rows HR.out).mono ?_;rintro e w7 ⟨rfl,dD⟩;have HC:=hide (HC.out.below dD);have HR:=hide (HR.out.below dD);obtain ⟨g0,g1,g2,g3,LR⟩:=wU dD LR g0 g1 g2 g3;have qH:=hide (aa tQ.out dD);clear dD;rw[xS.out];by_cases h0:B=0
 ·subst h0;go_wp2_with fail;refine (FJ _ A2 n2 c2 rows HR.out).mono ?_;rintro e w9 ⟨rfl,fK⟩;have HC:=hide (HC.out.below fK);have HR:=hide (HR.out.below fK);obtain ⟨g0,g1,g2,g3,LR⟩:=wU fK LR g0 g1 g2 g3;have fM:=hide (aa qH.out fK);clear fK;rw[Y5.out];cases T
  ·obtain rfl:R=8:=by rw[HD.out];simp
   go_wp2;all_goals (try (exfalso;go_light;simp_all;done));go_ret;exact ⟨rfl,fM.out⟩
  ·have HD2:Hid (R=ai (λ_ x=>aG cols x.row) 0 rows):=hide (by rw[HD.out];simp);obtain ⟨W3,rfl⟩: ∃W,W=w9:=⟨_,rfl⟩;go_wp2;go_loopw [4] (λi wr=> ∃k:Nat,k<=n2/\i=.int .i64 k/\ai (λ_ x=>aG cols x.row) 0 rows=ai (λ_ x=>aG cols x.row) k (rows.drop k)/\Below W3.heap.size W3 wr) (λi _=>n2-(RowKit.intOf i).toNat)
   case atStart=>exact ⟨0,Nat.zero_le _,rfl,rfl,Below.refl _ _⟩
   case round=>
    obtain ⟨k,hk,rfl,heq,hb⟩:=hrel;have HE:=hide heq;clear heq;have HC:=hide (HC.out.below hb);have HR:=hide (HR.out.below hb);obtain ⟨g0,g1,g2,g3,LR⟩:=wU hb LR g0 g1 g2 g3;have kI:=hide hb;clear hb;by_cases hlt:k<n2
    ·obtain ⟨b,off,y,rfl,hBb,HX,Ax,An,Ac,e0,e1,e2,e3⟩:=HR.out.ent hlt;have k0:(0:Int)<=(k:Int):=by omega
     have k1:(k:Int)<(n2:Int):=by omega
     have HI:=hide e2;have JH:=hide hBb;have E0:=hide e0;have G1:=hide g1;have G3:=hide g3;clear e1 e2;have CY:=hide kI.out;have jk:=hide (aa fM.out kI.out);go_wp2;go_region_held3 (λV=>V.cell? ⟨w.heap.size,1,none⟩=some (.slice A n c)/\V.cell? ⟨w.heap.size,3,none⟩=some (.slice (some ⟨b,off,none⟩) n2 c2)/\V.cell? ⟨b,off+k*2,none⟩=some (.slice Ax An Ac))
      (first|exact ⟨ah uB.out LR G1.out,ah uB.out LR G3.out,ah uB.out JH.out E0.out⟩|exact ⟨g1,g3,e0⟩|go_keep)
      (first|(go_at_call 95;refine (uL _ A Ax n An c Ac cols y.row (by exact HC.out.below (Below.refl _ _).drew) (by exact HI.out.below (Below.refl _ _).drew)).mono ?_;rintro e w9 ⟨rfl,fK⟩;have uB:=hide (aj fK);clear fK))
     have xU:=hide (aa CY.out uB.out);have HBN:=hide (aa jk.out uB.out);by_cases hz:aG cols y.row=0
     ·rw[hz];have HN:Hid (ai (λ_ x=>aG cols x.row) 0 rows=ai (λ_ x=>aG cols x.row) (k+1) (rows.drop (k+1))):=hide (by rw[HE.out,HX.out];exact aY hz);go_wp2;go_roundw
      case rel=>exact ⟨k+1,by omega,by go_num,HN.out,xU.out⟩
      case measure=>simp[RowKit.intOf];omega
     ·have hz':(aG cols y.row != 0)=true:=by simpa using hz
      obtain rfl:R=aG cols y.row:=by rw[HD2.out,HE.out,HX.out];exact aK rfl hz
      go_wp2;all_goals (try (exfalso;go_light;simp_all;done));go_ret;exact ⟨rfl,HBN.out⟩
    ·obtain rfl:R=0:=by rw[HD2.out,HE.out,aI HR.out.len (by omega),ai]
     go_wp2;all_goals (try (exfalso;go_light;simp_all;done));go_ret;exact ⟨rfl,(aa fM.out kI.out)⟩
 ·have q0:(B != 0)=true:=by simpa using h0
  obtain rfl:R=B:=by rw[HD.out];simp[h0]
  go_wp2;all_goals (try (exfalso;go_light;simp_all;done));go_ret;exact ⟨rfl,qH.out⟩
def jJ (x:Chk):Prop:=¬(x.kind<0\/6<x.kind\/x.policy<0\/2<x.policy)/\¬(x.policy=0/\(x.kind=5\/x.kind=6))
theorem jJ.dec {x:Chk}(h:jJ x):decide (x.kind<0)=false/\decide (6<x.kind)=false/\decide (x.policy<0)=false/\decide (2<x.policy)=false:=by
 obtain ⟨h1,_⟩:=h;refine ⟨?_,?_,?_,?_⟩ <;> simp <;> omega
theorem Ai (w:World)(x:Chk)(A:Option Addr)(n c:Nat)(A':Option Addr)(n' c':Nat)(aX:Option Addr)(n'' c'':Nat)(a1 a2 a5:Value)(h:¬jJ x)(cols ocols:List Col)(zs:List Zone):
  Calls Tryz.prog 65 #[.agg (aB x A n c A' n' c' aX n'' c'').toArray,a1,a2,a5] w λe w'=>e=.returned (.int .i64 (aN x cols ocols zs))/\Below w.heap.size w w':=by
 have hA:(decide (x.kind<0)=true/\aN x cols ocols zs=1)\/(decide (x.kind<0)=false/\decide (6<x.kind)=true/\aN x cols ocols zs=1)\/(decide (x.kind<0)=false/\decide (6<x.kind)=false/\decide (x.policy<0)=true/\aN x cols ocols zs=1)
   \/(decide (x.kind<0)=false/\decide (6<x.kind)=false/\decide (x.policy<0)=false/\decide (2<x.policy)=true/\aN x cols ocols zs=1)
   \/(decide (x.kind<0)=false/\decide (6<x.kind)=false/\decide (x.policy<0)=false/\decide (2<x.policy)=false/\(((x.policy==0)=true/\(x.kind==5)=true/\aN x cols ocols zs=7)\/((x.policy==0)=true/\(x.kind==5)=false/\(x.kind==6)=true/\aN x cols ocols zs=7))):=by
  by_cases a1:x.kind<0
  ·exact .inl ⟨by simpa using a1,by rw[aN,if_pos (.inl a1)]⟩
  by_cases a2:6<x.kind
  ·exact .inr (.inl ⟨by simpa using a1,by simpa using a2,by rw[aN,if_pos (.inr (.inl a2))]⟩)
  by_cases a3:x.policy<0
  ·exact .inr (.inr (.inl ⟨by simpa using a1,by simpa using a2,by simpa using a3,by rw[aN,if_pos (.inr (.inr (.inl a3)))]⟩))
  by_cases a4:2<x.policy
  ·exact .inr (.inr (.inr (.inl ⟨by simpa using a1,by simpa using a2,by simpa using a3,by simpa using a4,by rw[aN,if_pos (.inr (.inr (.inr a4)))]⟩)))
  have b:¬(x.kind<0\/6<x.kind\/x.policy<0\/2<x.policy):=by omega
  have d:x.policy=0/\(x.kind=5\/x.kind=6):=by
   rw[jJ]at h;exact Classical.byContradiction λq=>h ⟨b,q⟩
  refine .inr (.inr (.inr (.inr ⟨by simpa using a1,by simpa using a2,by simpa using a3,by simpa using a4,?_⟩)));by_cases a6:x.kind=5
  ·exact .inl ⟨by simpa using d.1,by simpa using a6,by rw[aN,if_neg b,if_pos d]⟩
  ·exact .inr ⟨by simpa using d.1,by simpa using a6,by have:=d.2;simp;omega,by rw[aN,if_neg b,if_pos d]⟩
 clear h;generalize aN x cols ocols zs=R at*;simp only[aB];rcases hA with ⟨d1,rfl⟩|⟨d1,d2,rfl⟩|⟨d1,d2,d3,rfl⟩|⟨d1,d2,d3,d4,rfl⟩|⟨d1,d2,d3,d4,⟨d5,d6,rfl⟩|⟨d5,d6,d7,rfl⟩⟩
 ·go_enter Tryz.func65,Tryz.ntmps65;go_wp2_with fail;obtain ⟨W1,hW1⟩: ∃W,W=w.alloc (.cells #[.string x.name,.string x.table,.int .i64 x.kind,.slice A n c,.string x.other,.slice A' n' c',.int .i64 x.low,.int .i64 x.high,.slice aX n'' c'',.int .i64 x.ln,.int .i64 x.ld,.int .i64 x.mn,.int .i64 x.md,.int .i64 x.policy] 48):=⟨_,rfl⟩;obtain ⟨hbW1,fZ,g0,g1,g2,g3,g4,g5,g6,g7,g8,g9,g10,g11,g12,g13⟩:=bT hW1 rfl;rw[<-hW1];clear hW1;have lN:=hide hbW1;clear hbW1;have LR:=lt_of_cell g0;go_wp2;all_goals (try (exfalso;go_light;simp_all;done));go_ret;exact ⟨rfl,lN.out⟩
 ·go_enter Tryz.func65,Tryz.ntmps65;go_wp2_with fail;obtain ⟨W1,hW1⟩: ∃W,W=w.alloc (.cells #[.string x.name,.string x.table,.int .i64 x.kind,.slice A n c,.string x.other,.slice A' n' c',.int .i64 x.low,.int .i64 x.high,.slice aX n'' c'',.int .i64 x.ln,.int .i64 x.ld,.int .i64 x.mn,.int .i64 x.md,.int .i64 x.policy] 48):=⟨_,rfl⟩;obtain ⟨hbW1,fZ,g0,g1,g2,g3,g4,g5,g6,g7,g8,g9,g10,g11,g12,g13⟩:=bT hW1 rfl;rw[<-hW1];clear hW1;have iM:=hide hbW1;clear hbW1;have LR:=lt_of_cell g0;go_wp2;all_goals (try (exfalso;go_light;simp_all;done));go_ret;exact ⟨rfl,iM.out⟩
 ·go_enter Tryz.func65,Tryz.ntmps65;go_wp2_with fail;obtain ⟨W1,hW1⟩: ∃W,W=w.alloc (.cells #[.string x.name,.string x.table,.int .i64 x.kind,.slice A n c,.string x.other,.slice A' n' c',.int .i64 x.low,.int .i64 x.high,.slice aX n'' c'',.int .i64 x.ln,.int .i64 x.ld,.int .i64 x.mn,.int .i64 x.md,.int .i64 x.policy] 48):=⟨_,rfl⟩;obtain ⟨hbW1,fZ,g0,g1,g2,g3,g4,g5,g6,g7,g8,g9,g10,g11,g12,g13⟩:=bT hW1 rfl;rw[<-hW1];clear hW1;have oF:=hide hbW1;clear hbW1;have LR:=lt_of_cell g0;go_wp2;all_goals (try (exfalso;go_light;simp_all;done));go_ret;exact ⟨rfl,oF.out⟩
 ·go_enter Tryz.func65,Tryz.ntmps65;go_wp2_with fail;obtain ⟨W1,hW1⟩: ∃W,W=w.alloc (.cells #[.string x.name,.string x.table,.int .i64 x.kind,.slice A n c,.string x.other,.slice A' n' c',.int .i64 x.low,.int .i64 x.high,.slice aX n'' c'',.int .i64 x.ln,.int .i64 x.ld,.int .i64 x.mn,.int .i64 x.md,.int .i64 x.policy] 48):=⟨_,rfl⟩;obtain ⟨hbW1,fZ,g0,g1,g2,g3,g4,g5,g6,g7,g8,g9,g10,g11,g12,g13⟩:=bT hW1 rfl;rw[<-hW1];clear hW1;have lW:=hide hbW1;clear hbW1;have LR:=lt_of_cell g0;go_wp2;all_goals (try (exfalso;go_light;simp_all;done));go_ret;exact ⟨rfl,lW.out⟩
 ·go_enter Tryz.func65,Tryz.ntmps65;go_wp2_with fail;obtain ⟨W1,hW1⟩: ∃W,W=w.alloc (.cells #[.string x.name,.string x.table,.int .i64 x.kind,.slice A n c,.string x.other,.slice A' n' c',.int .i64 x.low,.int .i64 x.high,.slice aX n'' c'',.int .i64 x.ln,.int .i64 x.ld,.int .i64 x.mn,.int .i64 x.md,.int .i64 x.policy] 48):=⟨_,rfl⟩;obtain ⟨hbW1,fZ,g0,g1,g2,g3,g4,g5,g6,g7,g8,g9,g10,g11,g12,g13⟩:=bT hW1 rfl;rw[<-hW1];clear hW1;have kL:=hide hbW1;clear hbW1;have LR:=lt_of_cell g0;go_wp2;all_goals (try (exfalso;go_light;simp_all;done));go_ret;exact ⟨rfl,kL.out⟩
 ·go_enter Tryz.func65,Tryz.ntmps65;go_wp2_with fail;obtain ⟨W1,hW1⟩: ∃W,W=w.alloc (.cells #[.string x.name,.string x.table,.int .i64 x.kind,.slice A n c,.string x.other,.slice A' n' c',.int .i64 x.low,.int .i64 x.high,.slice aX n'' c'',.int .i64 x.ln,.int .i64 x.ld,.int .i64 x.mn,.int .i64 x.md,.int .i64 x.policy] 48):=⟨_,rfl⟩;obtain ⟨hbW1,fZ,g0,g1,g2,g3,g4,g5,g6,g7,g8,g9,g10,g11,g12,g13⟩:=bT hW1 rfl;rw[<-hW1];clear hW1;have tQ:=hide hbW1;clear hbW1;have LR:=lt_of_cell g0;go_wp2;all_goals (try (exfalso;go_light;simp_all;done));go_ret;exact ⟨rfl,tQ.out⟩
section
variable (w:World)(x:Chk)(A:Option Addr)(n c:Nat)(hn:In w A n c x.cols)(A':Option Addr)(n' c':Nat)(hn':In w A' n' c' x.ocols)(aX:Option Addr)(n'' c'':Nat)(hq:In w aX n'' c'' x.cond)(A1:Option Addr)(n1 c1:Nat)(cols:List Col)(hc:In w A1 n1 c1 cols)(A2:Option Addr)(n2 c2:Nat)(ocols:List Col)(ho:In w A2 n2 c2 ocols)(A5:Option Addr)(n5 c5:Nat)(zs:List Zone)
include w x A n c hn A' n' c' hn' aX n'' c'' hq A1 n1 c1 cols hc A2 n2 c2 ocols ho A5 n5 c5 zs
theorem vH (hz:In w A5 n5 c5 zs)(hb0:n<=4096)(hb1:n'<=4096)(hb2:n1<=4096)(hb3:n2<=4096)(hp:jJ x)(h4:¬x.kind=4)(h5:¬x.kind=5)(hw:(((x.policy==0)=true/\(x.kind==6)=false/\(x.kind==2)=true)\/((x.policy==0)=false/\(x.kind==2)=true))):
  Calls Tryz.prog 65 #[.agg (aB x A n c A' n' c' aX n'' c'').toArray,.slice A1 n1 c1,.slice A2 n2 c2,.slice A5 n5 c5] w λe w'=>e=.returned (.int .i64 (aN x cols ocols zs))/\Below w.heap.size w w':=by
 have _:=hq;rcases hw with ⟨p0,h6,h2⟩|⟨p0,h2⟩
 all_goals (
  have HD0:=hide (show aN x cols ocols zs=if aC cols≠0 then aC cols else jK x cols ocols from by
   rw[ib x cols ocols zs hp.1 hp.2];have:jg x.kind=false:=by rw[jg];simp[h4,h5]
   rw[this];simp)
  rw[qf x cols ocols]at HD0;have HI1:=hide λW hx hy=>ja W A1 n1 c1 cols hx A n c x.cols hy (by omega) (by omega);have HI2:=hide λW hx hy=>ja W A2 n2 c2 ocols hx A' n' c' x.ocols hy (by omega) (by omega);have HR1:=hide (λh=>lH (cols:=cols) (names:=x.cols) h);have HR2:=hide (λh=>lH (cols:=ocols) (names:=x.ocols) h);have yu:=hide (Nat.le_trans (jH cols x.cols) (by rw[hn.len];exact hb0));have yw:=hide (Nat.le_trans (jH ocols x.ocols) (by rw[hn'.len];exact hb1));have Gm:=hide hc.len;have oG:=hide ho.len;obtain ⟨R,hR⟩: ∃R,aN x cols ocols zs=R:=⟨_,rfl⟩;obtain ⟨I1,hI1⟩: ∃I,bi cols x.cols=I:=⟨_,rfl⟩;obtain ⟨I2,hI2⟩: ∃I,bi ocols x.ocols=I:=⟨_,rfl⟩;obtain ⟨U,hU⟩: ∃U,gH x.kind=U:=⟨_,rfl⟩;rw[hR,hI1,hI2,hU]at HD0;rw[hI1]at HI1 HR1 yu;rw[hI2]at HI2 HR2 yw;rw[hR];have HU:=hide hU;clear hR hI1 hI2 hU;obtain ⟨ie,is⟩:=I1;obtain ⟨oe,os⟩:=I2;simp only at HD0 HI1 HI2 HR1 HR2 yu yw;obtain ⟨K0,Ho⟩: ∃K,(cols.getD (is.getD 0 0).toNat default).kind=K:=⟨_,rfl⟩;rw[Ho]at HD0;have PI:=hide Ho;clear Ho;obtain ⟨CE,Dv⟩: ∃CE,aC ocols=CE:=⟨_,rfl⟩;rw[Dv]at HD0;have I4:=hide Dv;obtain ⟨C1,vN⟩: ∃CE,aC cols=CE:=⟨_,rfl⟩;rw[vN]at HD0;have Mg:=hide vN;obtain ⟨sg,hsg⟩: ∃s,(x.kind==2 || x.kind==6)=s:=⟨_,rfl⟩;rw[hsg]at HD0;clear Dv vN;obtain rfl:sg=true:=by rw[<-hsg,h2];rfl
  obtain ⟨d1,d2,d3,d4⟩:=hp.dec;have e4:(x.kind==4)=false:=by simpa using h4
  have e5:(x.kind==5)=false:=by simpa using h5
  clear hsg h4 h5 hp;simp only[aB];go_enter Tryz.func65,Tryz.ntmps65;have HN:=hide hn;clear hn;have fD:=hide hn';clear hn';have HC:=hide hc;clear hc;have HO:=hide ho;clear ho;go_wp2_with fail;obtain ⟨W1,hW1⟩: ∃W,W=w.alloc (.cells #[.string x.name,.string x.table,.int .i64 x.kind,.slice A n c,.string x.other,.slice A' n' c',.int .i64 x.low,.int .i64 x.high,.slice aX n'' c'',.int .i64 x.ln,.int .i64 x.ld,.int .i64 x.mn,.int .i64 x.md,.int .i64 x.policy] 48):=⟨_,rfl⟩;obtain ⟨hbW1,fZ,g0,g1,g2,g3,g4,g5,g6,g7,g8,g9,g10,g11,g12,g13⟩:=bT hW1 rfl;rw[<-hW1];clear hW1;have HN:=hide (HN.out.below hbW1);have fD:=hide (fD.out.below hbW1);have HC:=hide (HC.out.below hbW1);have HO:=hide (HO.out.below hbW1);have kP:=hide hbW1;clear hbW1;have LR:=lt_of_cell g0;go_wp2_with fail;refine (jF _ A1 n1 c1 cols HC.out).mono ?_;rintro e w6 ⟨rfl,rfl⟩;rw[Mg.out];by_cases hc1:C1=0;rotate_left
  ·have q0:(C1 != 0)=true:=by simpa using hc1
   obtain rfl:R=C1:=by rw[HD0.out,if_pos hc1]
   go_wp2;all_goals (try (exfalso;go_light;simp_all;done));go_ret;exact ⟨rfl,kP.out⟩
  subst hc1;have HD:=hide (show R=bQ true U ie is K0 CE oe os ((List.zip is os).any (mW cols ocols)) from by rw[HD0.out];simp);go_wp2_with fail;refine (HI1.out _ (by exact HC.out) (by exact HN.out)).mono ?_;rintro e w1 ⟨⟨v,rfl,hov⟩,hb1⟩;obtain ⟨A4,c4,rfl⟩:=hov.form;obtain ⟨m,hm⟩: ∃m,is.length=m:=⟨_,rfl⟩;have uW:=eu hov rfl;rw[hm]at uW⊢;have HM:=hide hm;clear hov hm;have HN:=hide (HN.out.below hb1);have fD:=hide (fD.out.below hb1);have HC:=hide (HC.out.below hb1);have HO:=hide (HO.out.below hb1);obtain ⟨g0,g1,g2,g3,g4,g5,g6,g7,g8,g9,g10,g11,g12,g13,LR⟩:=dR hb1 LR g0 g1 g2 g3 g4 g5 g6 g7 g8 g9 g10 g11 g12 g13;have qH:=hide (aa kP.out hb1);clear hb1;have HK:=hide uW;clear uW;by_cases h0:ie=0;rotate_left
  ·have q0:(ie != 0)=true:=by simpa using h0
   obtain rfl:R=ie:=by rw[HD.out,bQ,if_pos h0]
   go_wp2;all_goals (try (exfalso;go_light;simp_all;done));go_ret;exact ⟨rfl,qH.out⟩
  subst h0;by_cases hmz:m=0
  ·subst hmz;obtain rfl:R=8:=by rw[HD.out,bQ];simp[HM.out]
   go_wp2;all_goals (try (exfalso;go_light;simp_all;done));go_ret;exact ⟨rfl,qH.out⟩
  have qz:((m:Int)==0)=false:=by simpa using hmz
  have pO:=hide hmz;by_cases hm1:1<m
  ·have q1:decide (1<(m:Int))=true:=by simp;omega
   obtain rfl:R=8:=by rw[HD.out,bQ];simp[HM.out,hm1]
   go_wp2;all_goals (try (exfalso;go_light;simp_all;done));go_ret;exact ⟨rfl,qH.out⟩
  have q1:decide (1<(m:Int))=false:=by simp;omega
  have vQ:=hide hm1;obtain ⟨b0,o0,j0,rfl,TB,HX0,e0,_⟩:=HK.out.int (k:=0) (by omega);rw[Nat.add_zero]at e0;have hr0:=HR1.out (by first|rfl|trivial) j0 (aH HX0.out);rw[Gm.out]at hr0;obtain ⟨i0,rfl⟩: ∃i:Nat,j0=(i:Int):=⟨j0.toNat,by omega⟩;obtain ⟨bc,oc,y0,rfl,TC,HZ0,_,p0,_,_⟩:=HC.out.col (k:=i0) (by omega);have i00:(0:Int)<=(i0:Int):=by omega
  have i01:(i0:Int)<(n1:Int):=hr0.2;have z01:(0:Int)<(m:Int):=by omega
  obtain ⟨k5,hk5⟩: ∃q,y0.kind=q:=⟨_,rfl⟩;have e5:K0=k5:=by
   rw[<-PI.out,eT HX0.out,<-hk5];simp only[Int.toNat_natCast];rw[eT HZ0.out]
  rw[hk5]at p0;subst e5;clear hk5 hr0 HX0 HZ0;by_cases hk2:K0=2;rotate_left
  ·have q2:(K0 != 2)=true:=by simpa using hk2
   obtain rfl:R=7:=by rw[HD.out,bQ];simp[HM.out,pO.out,vQ.out,hk2]
   go_wp2;all_goals (try (exfalso;go_light;simp_all;done));go_ret;exact ⟨rfl,qH.out⟩
  subst hk2;have q2:((2:Int) != 2)=false:=by decide
  go_wp2_with fail;refine (sM _ x A n c A' n' c' aX n'' c'').mono ?_;rintro e w9 ⟨rfl,fK⟩;have HN:=hide (HN.out.below fK);have fD:=hide (fD.out.below fK);have HC:=hide (HC.out.below fK);have HO:=hide (HO.out.below fK);have HK:=hide (HK.out.below fK);obtain ⟨g0,g1,g2,g3,g4,g5,g6,g7,g8,g9,g10,g11,g12,g13,LR⟩:=dR fK LR g0 g1 g2 g3 g4 g5 g6 g7 g8 g9 g10 g11 g12 g13;have fM:=hide (aa qH.out fK);clear fK;rw[HU.out];cases U
  ·obtain rfl:R=0:=by rw[HD.out,bQ];simp[HM.out,pO.out,vQ.out]
   go_wp2;all_goals (try (exfalso;go_light;simp_all;done));go_ret;exact ⟨rfl,fM.out⟩
  go_wp2_with fail;refine (jF _ A2 n2 c2 ocols HO.out).mono ?_;rintro e w6 ⟨rfl,rfl⟩;rw[I4.out];by_cases hce:CE=0
  ·subst hce;go_wp2_with fail;refine (HI2.out _ (by exact HO.out) (by exact fD.out)).mono ?_;rintro e w7 ⟨⟨v2,rfl,mH⟩,dD⟩;obtain ⟨A5,c5,rfl⟩:=mH.form;obtain ⟨m2,hm2⟩: ∃m,os.length=m:=⟨_,rfl⟩;have zl:=eu mH rfl;rw[hm2]at zl⊢;have vL:=hide hm2;clear mH hm2;have HN:=hide (HN.out.below dD);have HC:=hide (HC.out.below dD);have HO:=hide (HO.out.below dD);have HK:=hide (HK.out.below dD);obtain ⟨g0,g1,g2,g3,g4,g5,g6,g7,g8,g9,g10,g11,g12,g13,LR⟩:=dR dD LR g0 g1 g2 g3 g4 g5 g6 g7 g8 g9 g10 g11 g12 g13;have kI:=hide (aa fM.out dD);clear dD;have vK:=hide zl;clear zl;by_cases hoe:oe=0
   ·subst hoe;by_cases hmm:m=m2
    ·subst hmm;have HD2:Hid (R=if (List.zip is os).any (mW cols ocols)=true then 7 else 0):=hide (by rw[HD.out,bQ];simp[HM.out,pO.out,vQ.out,vL.out]);obtain ⟨W5,rfl⟩: ∃W,W=w7:=⟨_,rfl⟩;have h63:=HK.out.le;go_wp2;go_loopw [20] (λi wr=> ∃k:Nat,k<=m/\i=.int .i64 k/\(List.zip is os).any (mW cols ocols)=((List.zip is os).drop k).any (mW cols ocols)/\Below W5.heap.size W5 wr) (λi _=>m-(RowKit.intOf i).toNat)
     case atStart=>exact ⟨0,Nat.zero_le _,rfl,rfl,Below.refl _ _⟩
     case round=>
      obtain ⟨k,hk,rfl,heq,hb⟩:=hrel;have HE:=hide heq;clear heq;have HN:=hide (HN.out.below hb);have HC:=hide (HC.out.below hb);have HO:=hide (HO.out.below hb);have HK:=hide (HK.out.below hb);have vK:=hide (vK.out.below hb);obtain ⟨g0,g1,g2,g3,g4,g5,g6,g7,g8,g9,g10,g11,g12,g13,LR⟩:=dR hb LR g0 g1 g2 g3 g4 g5 g6 g7 g8 g9 g10 g11 g12 g13;have jD:=hide hb;clear hb;clear g0 g1 g2 g3 g4 g5 g6 g7 g8 g9 g10 g11 g12 g13;by_cases hlt:k<m
      ·obtain ⟨b,off,j1,uT,hBb,HX,e0,_⟩:=HK.out.int hlt
       first|(subst uT)|(injection uT with uT;injection uT with hA5 hA6;subst hA5;subst hA6)
       obtain ⟨b2,KU,j2,rfl,Hm,HY,f0,_⟩:=vK.out.int hlt;have hr1:=HR1.out (by first|rfl|trivial) j1 (aH HX.out);have hr2:=HR2.out (by first|rfl|trivial) j2 (aH HY.out);rw[Gm.out]at hr1;rw[oG.out]at hr2;obtain ⟨i1,rfl⟩: ∃i:Nat,j1=(i:Int):=⟨j1.toNat,by omega⟩;obtain ⟨i2,rfl⟩: ∃i:Nat,j2=(i:Int):=⟨j2.toNat,by omega⟩;obtain ⟨b3,D5,y1,hA1,Nt,HZ1,_,p1,_,_⟩:=HC.out.col (k:=i1) (by omega)
       first|(subst hA1)|(injection hA1 with hA1;injection hA1 with hA7 hA8;subst hA7;subst hA8)
       obtain ⟨b4,Om,y2,rfl,Nu,HZ2,_,q1,_,_⟩:=HO.out.col (k:=i2) (by omega);have EF:Hid ((List.zip is os).drop k=((i1:Int),(i2:Int)) :: (List.zip is os).drop (k+1)):=hide (by
        rw[List.zip,List.drop_zipWith,HX.out,HY.out,List.zipWith_cons_cons,List.drop_zipWith])
       have pI:Hid (mW cols ocols ((i1:Int),(i2:Int))=(y1.kind != y2.kind)):=hide (by
        rw[mW];simp only[Int.toNat_natCast];rw[eT HZ1.out,eT HZ2.out])
       have k0:(0:Int)<=(k:Int):=by omega
       have k1:(k:Int)<(m:Int):=by omega
       have WP:(0:Int)<=(i1:Int):=by omega
       have i11:(i1:Int)<(n1:Int):=hr1.2;have i20:(0:Int)<=(i2:Int):=by omega
       have i21:(i2:Int)<(n2:Int):=hr2.2;have jk:=hide jD.out;have oD:=hide (aa kI.out jD.out);clear hr1 hr2 HZ1 HZ2 HX HY;obtain ⟨k3,hk3⟩: ∃q,y1.kind=q:=⟨_,rfl⟩;obtain ⟨k4,hk4⟩: ∃q,y2.kind=q:=⟨_,rfl⟩;rw[hk3]at p1 pI;rw[hk4]at q1 pI;clear hk3 hk4;go_wp2;go_quiet (fail);by_cases hq:k3=k4
       ·subst hq;have HN:Hid ((List.zip is os).any (mW cols ocols)=((List.zip is os).drop (k+1)).any (mW cols ocols)):=hide (by rw[HE.out,EF.out,List.any_cons,pI.out];simp);go_wp2;all_goals (try (exfalso;go_light;simp_all;done));go_roundw
        case rel=>exact ⟨k+1,by omega,by go_num,HN.out,below_drewN jk.out _⟩
        case measure=>simp[RowKit.intOf];omega
       ·have hq2:(k3 != k4)=true:=by simpa using hq
        obtain rfl:R=7:=by rw[HD2.out,HE.out,EF.out,List.any_cons,pI.out,hq2];simp
        go_wp2;all_goals (try (exfalso;go_light;simp_all;done));go_ret;exact ⟨rfl,below_drewN oD.out _⟩
      ·obtain rfl:R=0:=by rw[HD2.out,HE.out,List.drop_eq_nil_of_le (by rw[List.length_zip,HM.out,vL.out];omega)];rfl
       have oD:=hide (aa kI.out jD.out);go_wp2;all_goals (try (exfalso;go_light;simp_all;done));go_ret;exact ⟨rfl,oD.out⟩
    ·have q5:((m:Int) != (m2:Int))=true:=by simp;omega
     obtain rfl:R=8:=by rw[HD.out,bQ];simp[HM.out,pO.out,vQ.out,vL.out,hmm]
     go_wp2;all_goals (try (exfalso;go_light;simp_all;done));go_ret;exact ⟨rfl,kI.out⟩
   ·have q4:(oe != 0)=true:=by simpa using hoe
    obtain rfl:R=oe:=by rw[HD.out,bQ];simp[HM.out,pO.out,vQ.out,hoe]
    go_wp2;all_goals (try (exfalso;go_light;simp_all;done));go_ret;exact ⟨rfl,kI.out⟩
  ·have q3:(CE != 0)=true:=by simpa using hce
   obtain rfl:R=CE:=by rw[HD.out,bQ];simp[HM.out,pO.out,vQ.out,hce]
   go_wp2;all_goals (try (exfalso;go_light;simp_all;done));go_ret;exact ⟨rfl,fM.out⟩)
theorem vI (hz:In w A5 n5 c5 zs)(hb0:n<=4096)(hb1:n'<=4096)(hb2:n1<=4096)(hb3:n2<=4096)(hp:jJ x)(h4:¬x.kind=4)(h5:¬x.kind=5)(hw:(((x.policy==0)=true/\(x.kind==6)=false/\(x.kind==2)=false)\/((x.policy==0)=false/\(x.kind==2)=false/\(x.kind==6)=false))):
  Calls Tryz.prog 65 #[.agg (aB x A n c A' n' c' aX n'' c'').toArray,.slice A1 n1 c1,.slice A2 n2 c2,.slice A5 n5 c5] w λe w'=>e=.returned (.int .i64 (aN x cols ocols zs))/\Below w.heap.size w w':=by
 have _:=hq;rcases hw with ⟨p0,h6,h2⟩|⟨p0,h2,h6⟩
 all_goals (
  have HD0:=hide (show aN x cols ocols zs=if aC cols≠0 then aC cols else jK x cols ocols from by
   rw[ib x cols ocols zs hp.1 hp.2];have:jg x.kind=false:=by rw[jg];simp[h4,h5]
   rw[this];simp)
  rw[qf x cols ocols]at HD0;have HI1:=hide λW hx hy=>ja W A1 n1 c1 cols hx A n c x.cols hy (by omega) (by omega);have HI2:=hide λW hx hy=>ja W A2 n2 c2 ocols hx A' n' c' x.ocols hy (by omega) (by omega);have HR1:=hide (λh=>lH (cols:=cols) (names:=x.cols) h);have HR2:=hide (λh=>lH (cols:=ocols) (names:=x.ocols) h);have yu:=hide (Nat.le_trans (jH cols x.cols) (by rw[hn.len];exact hb0));have yw:=hide (Nat.le_trans (jH ocols x.ocols) (by rw[hn'.len];exact hb1));have Gm:=hide hc.len;have oG:=hide ho.len;obtain ⟨R,hR⟩: ∃R,aN x cols ocols zs=R:=⟨_,rfl⟩;obtain ⟨I1,hI1⟩: ∃I,bi cols x.cols=I:=⟨_,rfl⟩;obtain ⟨I2,hI2⟩: ∃I,bi ocols x.ocols=I:=⟨_,rfl⟩;obtain ⟨U,hU⟩: ∃U,gH x.kind=U:=⟨_,rfl⟩;rw[hR,hI1,hI2,hU]at HD0;rw[hI1]at HI1 HR1 yu;rw[hI2]at HI2 HR2 yw;rw[hR];have HU:=hide hU;clear hR hI1 hI2 hU;obtain ⟨ie,is⟩:=I1;obtain ⟨oe,os⟩:=I2;simp only at HD0 HI1 HI2 HR1 HR2 yu yw;obtain ⟨K0,Ho⟩: ∃K,(cols.getD (is.getD 0 0).toNat default).kind=K:=⟨_,rfl⟩;rw[Ho]at HD0;have PI:=hide Ho;clear Ho;obtain ⟨CE,Dv⟩: ∃CE,aC ocols=CE:=⟨_,rfl⟩;rw[Dv]at HD0;have I4:=hide Dv;obtain ⟨C1,vN⟩: ∃CE,aC cols=CE:=⟨_,rfl⟩;rw[vN]at HD0;have Mg:=hide vN;obtain ⟨sg,hsg⟩: ∃s,(x.kind==2 || x.kind==6)=s:=⟨_,rfl⟩;rw[hsg]at HD0;clear Dv vN;obtain rfl:sg=false:=by rw[<-hsg,h2,h6];rfl
  obtain ⟨d1,d2,d3,d4⟩:=hp.dec;have e4:(x.kind==4)=false:=by simpa using h4
  have e5:(x.kind==5)=false:=by simpa using h5
  clear hsg h4 h5 hp;simp only[aB];go_enter Tryz.func65,Tryz.ntmps65;have HN:=hide hn;clear hn;have fD:=hide hn';clear hn';have HC:=hide hc;clear hc;have HO:=hide ho;clear ho;go_wp2_with fail;obtain ⟨W1,hW1⟩: ∃W,W=w.alloc (.cells #[.string x.name,.string x.table,.int .i64 x.kind,.slice A n c,.string x.other,.slice A' n' c',.int .i64 x.low,.int .i64 x.high,.slice aX n'' c'',.int .i64 x.ln,.int .i64 x.ld,.int .i64 x.mn,.int .i64 x.md,.int .i64 x.policy] 48):=⟨_,rfl⟩;obtain ⟨hbW1,fZ,g0,g1,g2,g3,g4,g5,g6,g7,g8,g9,g10,g11,g12,g13⟩:=bT hW1 rfl;rw[<-hW1];clear hW1;have HN:=hide (HN.out.below hbW1);have fD:=hide (fD.out.below hbW1);have HC:=hide (HC.out.below hbW1);have HO:=hide (HO.out.below hbW1);have qN:=hide hbW1;clear hbW1;have LR:=lt_of_cell g0;go_wp2_with fail;refine (jF _ A1 n1 c1 cols HC.out).mono ?_;rintro e w6 ⟨rfl,rfl⟩;rw[Mg.out];by_cases hc1:C1=0;rotate_left
  ·have q0:(C1 != 0)=true:=by simpa using hc1
   obtain rfl:R=C1:=by rw[HD0.out,if_pos hc1]
   go_wp2;all_goals (try (exfalso;go_light;simp_all;done));go_ret;exact ⟨rfl,qN.out⟩
  subst hc1;have HD:=hide (show R=bQ false U ie is K0 CE oe os ((List.zip is os).any (mW cols ocols)) from by rw[HD0.out];simp);go_wp2_with fail;refine (HI1.out _ (by exact HC.out) (by exact HN.out)).mono ?_;rintro e w1 ⟨⟨v,rfl,hov⟩,hb1⟩;obtain ⟨A4,c4,rfl⟩:=hov.form;obtain ⟨m,hm⟩: ∃m,is.length=m:=⟨_,rfl⟩;have uW:=eu hov rfl;rw[hm]at uW⊢;have HM:=hide hm;clear hov hm;have HN:=hide (HN.out.below hb1);have fD:=hide (fD.out.below hb1);have HC:=hide (HC.out.below hb1);have HO:=hide (HO.out.below hb1);obtain ⟨g0,g1,g2,g3,g4,g5,g6,g7,g8,g9,g10,g11,g12,g13,LR⟩:=dR hb1 LR g0 g1 g2 g3 g4 g5 g6 g7 g8 g9 g10 g11 g12 g13;have xG:=hide (aa qN.out hb1);clear hb1;have HK:=hide uW;clear uW;by_cases h0:ie=0;rotate_left
  ·have q0:(ie != 0)=true:=by simpa using h0
   obtain rfl:R=ie:=by rw[HD.out,bQ,if_pos h0]
   go_wp2;all_goals (try (exfalso;go_light;simp_all;done));go_ret;exact ⟨rfl,xG.out⟩
  subst h0;by_cases hmz:m=0
  ·subst hmz;obtain rfl:R=8:=by rw[HD.out,bQ];simp[HM.out]
   go_wp2;all_goals (try (exfalso;go_light;simp_all;done));go_ret;exact ⟨rfl,xG.out⟩
  have qz:((m:Int)==0)=false:=by simpa using hmz
  have pO:=hide hmz;go_wp2_with fail;refine (sM _ x A n c A' n' c' aX n'' c'').mono ?_;rintro e w15 ⟨rfl,Fu⟩;have HN:=hide (HN.out.below Fu);have fD:=hide (fD.out.below Fu);have HC:=hide (HC.out.below Fu);have HO:=hide (HO.out.below Fu);have HK:=hide (HK.out.below Fu);obtain ⟨g0,g1,g2,g3,g4,g5,g6,g7,g8,g9,g10,g11,g12,g13,LR⟩:=dR Fu LR g0 g1 g2 g3 g4 g5 g6 g7 g8 g9 g10 g11 g12 g13;have lQ:=hide (aa xG.out Fu);clear Fu;rw[HU.out];cases U
  ·obtain rfl:R=0:=by rw[HD.out,bQ];simp[HM.out,pO.out]
   go_wp2;all_goals (try (exfalso;go_light;simp_all;done));go_ret;exact ⟨rfl,lQ.out⟩
  go_wp2_with fail;refine (jF _ A2 n2 c2 ocols HO.out).mono ?_;rintro e w6 ⟨rfl,rfl⟩;rw[I4.out];by_cases hce:CE=0
  ·subst hce;go_wp2_with fail;refine (HI2.out _ (by exact HO.out) (by exact fD.out)).mono ?_;rintro e w7 ⟨⟨v2,rfl,mH⟩,dD⟩;obtain ⟨A5,c5,rfl⟩:=mH.form;obtain ⟨m2,hm2⟩: ∃m,os.length=m:=⟨_,rfl⟩;have zl:=eu mH rfl;rw[hm2]at zl⊢;have vL:=hide hm2;clear mH hm2;have HN:=hide (HN.out.below dD);have HC:=hide (HC.out.below dD);have HO:=hide (HO.out.below dD);have HK:=hide (HK.out.below dD);obtain ⟨g0,g1,g2,g3,g4,g5,g6,g7,g8,g9,g10,g11,g12,g13,LR⟩:=dR dD LR g0 g1 g2 g3 g4 g5 g6 g7 g8 g9 g10 g11 g12 g13;have j5:=hide (aa lQ.out dD);clear dD;have vK:=hide zl;clear zl;by_cases hoe:oe=0
   ·subst hoe;by_cases hmm:m=m2
    ·subst hmm;have HD2:Hid (R=if (List.zip is os).any (mW cols ocols)=true then 7 else 0):=hide (by rw[HD.out,bQ];simp[HM.out,pO.out,vL.out]);obtain ⟨W5,rfl⟩: ∃W,W=w7:=⟨_,rfl⟩;have h63:=HK.out.le;go_wp2;go_loopw [20] (λi wr=> ∃k:Nat,k<=m/\i=.int .i64 k/\(List.zip is os).any (mW cols ocols)=((List.zip is os).drop k).any (mW cols ocols)/\Below W5.heap.size W5 wr) (λi _=>m-(RowKit.intOf i).toNat)
     case atStart=>exact ⟨0,Nat.zero_le _,rfl,rfl,Below.refl _ _⟩
     case round=>
      obtain ⟨k,hk,rfl,heq,hb⟩:=hrel;have HE:=hide heq;clear heq;have HN:=hide (HN.out.below hb);have HC:=hide (HC.out.below hb);have HO:=hide (HO.out.below hb);have HK:=hide (HK.out.below hb);have vK:=hide (vK.out.below hb);obtain ⟨g0,g1,g2,g3,g4,g5,g6,g7,g8,g9,g10,g11,g12,g13,LR⟩:=dR hb LR g0 g1 g2 g3 g4 g5 g6 g7 g8 g9 g10 g11 g12 g13;have xH:=hide hb;clear hb;clear g0 g1 g2 g3 g4 g5 g6 g7 g8 g9 g10 g11 g12 g13;by_cases hlt:k<m
      ·obtain ⟨b,off,j1,uT,hBb,HX,e0,_⟩:=HK.out.int hlt
       first|(subst uT)|(injection uT with uT;injection uT with hA5 hA6;subst hA5;subst hA6)
       obtain ⟨b2,KU,j2,rfl,Hm,HY,f0,_⟩:=vK.out.int hlt;have hr1:=HR1.out (by first|rfl|trivial) j1 (aH HX.out);have hr2:=HR2.out (by first|rfl|trivial) j2 (aH HY.out);rw[Gm.out]at hr1;rw[oG.out]at hr2;obtain ⟨i1,rfl⟩: ∃i:Nat,j1=(i:Int):=⟨j1.toNat,by omega⟩;obtain ⟨i2,rfl⟩: ∃i:Nat,j2=(i:Int):=⟨j2.toNat,by omega⟩;obtain ⟨b3,D5,y1,hA1,Nt,HZ1,_,p1,_,_⟩:=HC.out.col (k:=i1) (by omega)
       first|(subst hA1)|(injection hA1 with hA1;injection hA1 with hA7 hA8;subst hA7;subst hA8)
       obtain ⟨b4,Om,y2,rfl,Nu,HZ2,_,q1,_,_⟩:=HO.out.col (k:=i2) (by omega);have EF:Hid ((List.zip is os).drop k=((i1:Int),(i2:Int)) :: (List.zip is os).drop (k+1)):=hide (by
        rw[List.zip,List.drop_zipWith,HX.out,HY.out,List.zipWith_cons_cons,List.drop_zipWith])
       have pI:Hid (mW cols ocols ((i1:Int),(i2:Int))=(y1.kind != y2.kind)):=hide (by
        rw[mW];simp only[Int.toNat_natCast];rw[eT HZ1.out,eT HZ2.out])
       have k0:(0:Int)<=(k:Int):=by omega
       have k1:(k:Int)<(m:Int):=by omega
       have WP:(0:Int)<=(i1:Int):=by omega
       have i11:(i1:Int)<(n1:Int):=hr1.2;have i20:(0:Int)<=(i2:Int):=by omega
       have i21:(i2:Int)<(n2:Int):=hr2.2;have jk:=hide xH.out;have oD:=hide (aa j5.out xH.out);clear hr1 hr2 HZ1 HZ2 HX HY;obtain ⟨k3,hk3⟩: ∃q,y1.kind=q:=⟨_,rfl⟩;obtain ⟨k4,hk4⟩: ∃q,y2.kind=q:=⟨_,rfl⟩;rw[hk3]at p1 pI;rw[hk4]at q1 pI;clear hk3 hk4;go_wp2;go_quiet (fail);by_cases hq:k3=k4
       ·subst hq;have HN:Hid ((List.zip is os).any (mW cols ocols)=((List.zip is os).drop (k+1)).any (mW cols ocols)):=hide (by rw[HE.out,EF.out,List.any_cons,pI.out];simp);go_wp2;all_goals (try (exfalso;go_light;simp_all;done));go_roundw
        case rel=>exact ⟨k+1,by omega,by go_num,HN.out,below_drewN jk.out _⟩
        case measure=>simp[RowKit.intOf];omega
       ·have hq2:(k3 != k4)=true:=by simpa using hq
        obtain rfl:R=7:=by rw[HD2.out,HE.out,EF.out,List.any_cons,pI.out,hq2];simp
        go_wp2;all_goals (try (exfalso;go_light;simp_all;done));go_ret;exact ⟨rfl,below_drewN oD.out _⟩
      ·obtain rfl:R=0:=by rw[HD2.out,HE.out,List.drop_eq_nil_of_le (by rw[List.length_zip,HM.out,vL.out];omega)];rfl
       have oD:=hide (aa j5.out xH.out);go_wp2;all_goals (try (exfalso;go_light;simp_all;done));go_ret;exact ⟨rfl,oD.out⟩
    ·have q5:((m:Int) != (m2:Int))=true:=by simp;omega
     obtain rfl:R=8:=by rw[HD.out,bQ];simp[HM.out,pO.out,vL.out,hmm]
     go_wp2;all_goals (try (exfalso;go_light;simp_all;done));go_ret;exact ⟨rfl,j5.out⟩
   ·have q4:(oe != 0)=true:=by simpa using hoe
    obtain rfl:R=oe:=by rw[HD.out,bQ];simp[HM.out,pO.out,hoe]
    go_wp2;all_goals (try (exfalso;go_light;simp_all;done));go_ret;exact ⟨rfl,j5.out⟩
  ·have q3:(CE != 0)=true:=by simpa using hce
   obtain rfl:R=CE:=by rw[HD.out,bQ];simp[HM.out,pO.out,hce]
   go_wp2;all_goals (try (exfalso;go_light;simp_all;done));go_ret;exact ⟨rfl,lQ.out⟩)
theorem BG (hz:In w A5 n5 c5 zs)(hb0:n<=4096)(hb1:n'<=4096)(hb2:n1<=4096)(hb3:n2<=4096)(hp:jJ x)(h4:¬x.kind=4)(h5:¬x.kind=5)(p0:(x.policy==0)=false)(h2:(x.kind==2)=false)(h6:(x.kind==6)=true):
  Calls Tryz.prog 65 #[.agg (aB x A n c A' n' c' aX n'' c'').toArray,.slice A1 n1 c1,.slice A2 n2 c2,.slice A5 n5 c5] w λe w'=>e=.returned (.int .i64 (aN x cols ocols zs))/\Below w.heap.size w w':=by
 have _:=hq;have HD0:=hide (show aN x cols ocols zs=if aC cols≠0 then aC cols else jK x cols ocols from by
  rw[ib x cols ocols zs hp.1 hp.2];have:jg x.kind=false:=by rw[jg];simp[h4,h5]
  rw[this];simp)
 rw[qf x cols ocols]at HD0;have HI1:=hide λW hx hy=>ja W A1 n1 c1 cols hx A n c x.cols hy (by omega) (by omega);have HI2:=hide λW hx hy=>ja W A2 n2 c2 ocols hx A' n' c' x.ocols hy (by omega) (by omega);have HR1:=hide (λh=>lH (cols:=cols) (names:=x.cols) h);have HR2:=hide (λh=>lH (cols:=ocols) (names:=x.ocols) h);have yu:=hide (Nat.le_trans (jH cols x.cols) (by rw[hn.len];exact hb0));have yw:=hide (Nat.le_trans (jH ocols x.ocols) (by rw[hn'.len];exact hb1));have Gm:=hide hc.len;have oG:=hide ho.len;obtain ⟨R,hR⟩: ∃R,aN x cols ocols zs=R:=⟨_,rfl⟩;obtain ⟨I1,hI1⟩: ∃I,bi cols x.cols=I:=⟨_,rfl⟩;obtain ⟨I2,hI2⟩: ∃I,bi ocols x.ocols=I:=⟨_,rfl⟩;obtain ⟨U,hU⟩: ∃U,gH x.kind=U:=⟨_,rfl⟩;rw[hR,hI1,hI2,hU]at HD0;rw[hI1]at HI1 HR1 yu;rw[hI2]at HI2 HR2 yw;rw[hR];have HU:=hide hU;clear hR hI1 hI2 hU;obtain ⟨ie,is⟩:=I1;obtain ⟨oe,os⟩:=I2;simp only at HD0 HI1 HI2 HR1 HR2 yu yw;obtain ⟨K0,Ho⟩: ∃K,(cols.getD (is.getD 0 0).toNat default).kind=K:=⟨_,rfl⟩;rw[Ho]at HD0;have PI:=hide Ho;clear Ho;obtain ⟨CE,Dv⟩: ∃CE,aC ocols=CE:=⟨_,rfl⟩;rw[Dv]at HD0;have I4:=hide Dv;obtain ⟨C1,vN⟩: ∃CE,aC cols=CE:=⟨_,rfl⟩;rw[vN]at HD0;have Mg:=hide vN;obtain ⟨sg,hsg⟩: ∃s,(x.kind==2 || x.kind==6)=s:=⟨_,rfl⟩;rw[hsg]at HD0;clear Dv vN;obtain rfl:sg=true:=by rw[<-hsg,h2,h6];rfl
 obtain ⟨d1,d2,d3,d4⟩:=hp.dec;have e4:(x.kind==4)=false:=by simpa using h4
 have e5:(x.kind==5)=false:=by simpa using h5
 clear hsg h4 h5 hp;simp only[aB];go_enter Tryz.func65,Tryz.ntmps65;have HN:=hide hn;clear hn;have fD:=hide hn';clear hn';have HC:=hide hc;clear hc;have HO:=hide ho;clear ho;go_wp2_with fail;obtain ⟨W1,hW1⟩: ∃W,W=w.alloc (.cells #[.string x.name,.string x.table,.int .i64 x.kind,.slice A n c,.string x.other,.slice A' n' c',.int .i64 x.low,.int .i64 x.high,.slice aX n'' c'',.int .i64 x.ln,.int .i64 x.ld,.int .i64 x.mn,.int .i64 x.md,.int .i64 x.policy] 48):=⟨_,rfl⟩;obtain ⟨hbW1,fZ,g0,g1,g2,g3,g4,g5,g6,g7,g8,g9,g10,g11,g12,g13⟩:=bT hW1 rfl;rw[<-hW1];clear hW1;have HN:=hide (HN.out.below hbW1);have fD:=hide (fD.out.below hbW1);have HC:=hide (HC.out.below hbW1);have HO:=hide (HO.out.below hbW1);have kN:=hide hbW1;clear hbW1;have LR:=lt_of_cell g0;go_wp2_with fail;refine (jF _ A1 n1 c1 cols HC.out).mono ?_;rintro e w6 ⟨rfl,rfl⟩;rw[Mg.out];by_cases hc1:C1=0;rotate_left
 ·have q0:(C1 != 0)=true:=by simpa using hc1
  obtain rfl:R=C1:=by rw[HD0.out,if_pos hc1]
  go_wp2;all_goals (try (exfalso;go_light;simp_all;done));go_ret;exact ⟨rfl,kN.out⟩
 subst hc1;have HD:=hide (show R=bQ true U ie is K0 CE oe os ((List.zip is os).any (mW cols ocols)) from by rw[HD0.out];simp);go_wp2_with fail;refine (HI1.out _ (by exact HC.out) (by exact HN.out)).mono ?_;rintro e w1 ⟨⟨v,rfl,hov⟩,hb1⟩;obtain ⟨A4,c4,rfl⟩:=hov.form;obtain ⟨m,hm⟩: ∃m,is.length=m:=⟨_,rfl⟩;have uW:=eu hov rfl;rw[hm]at uW⊢;have HM:=hide hm;clear hov hm;have HN:=hide (HN.out.below hb1);have fD:=hide (fD.out.below hb1);have HC:=hide (HC.out.below hb1);have HO:=hide (HO.out.below hb1);obtain ⟨g0,g1,g2,g3,g4,g5,g6,g7,g8,g9,g10,g11,g12,g13,LR⟩:=dR hb1 LR g0 g1 g2 g3 g4 g5 g6 g7 g8 g9 g10 g11 g12 g13;have jE:=hide (aa kN.out hb1);clear hb1;have HK:=hide uW;clear uW;by_cases h0:ie=0;rotate_left
 ·have q0:(ie != 0)=true:=by simpa using h0
  obtain rfl:R=ie:=by rw[HD.out,bQ,if_pos h0]
  go_wp2;all_goals (try (exfalso;go_light;simp_all;done));go_ret;exact ⟨rfl,jE.out⟩
 subst h0;by_cases hmz:m=0
 ·subst hmz;obtain rfl:R=8:=by rw[HD.out,bQ];simp[HM.out]
  go_wp2;all_goals (try (exfalso;go_light;simp_all;done));go_ret;exact ⟨rfl,jE.out⟩
 have qz:((m:Int)==0)=false:=by simpa using hmz
 have pO:=hide hmz;by_cases hm1:1<m
 ·have q1:decide (1<(m:Int))=true:=by simp;omega
  obtain rfl:R=8:=by rw[HD.out,bQ];simp[HM.out,hm1]
  go_wp2;all_goals (try (exfalso;go_light;simp_all;done));go_ret;exact ⟨rfl,jE.out⟩
 have q1:decide (1<(m:Int))=false:=by simp;omega
 have vQ:=hide hm1;obtain ⟨b0,o0,j0,rfl,TB,HX0,e0,_⟩:=HK.out.int (k:=0) (by omega);rw[Nat.add_zero]at e0;have hr0:=HR1.out (by first|rfl|trivial) j0 (aH HX0.out);rw[Gm.out]at hr0;obtain ⟨i0,rfl⟩: ∃i:Nat,j0=(i:Int):=⟨j0.toNat,by omega⟩;obtain ⟨bc,oc,y0,rfl,TC,HZ0,_,p0,_,_⟩:=HC.out.col (k:=i0) (by omega);have i00:(0:Int)<=(i0:Int):=by omega
 have i01:(i0:Int)<(n1:Int):=hr0.2;have z01:(0:Int)<(m:Int):=by omega
 obtain ⟨k5,hk5⟩: ∃q,y0.kind=q:=⟨_,rfl⟩;have e5:K0=k5:=by
  rw[<-PI.out,eT HX0.out,<-hk5];simp only[Int.toNat_natCast];rw[eT HZ0.out]
 rw[hk5]at p0;subst e5;clear hk5 hr0 HX0 HZ0;by_cases hk2:K0=2;rotate_left
 ·have q2:(K0 != 2)=true:=by simpa using hk2
  obtain rfl:R=7:=by rw[HD.out,bQ];simp[HM.out,pO.out,vQ.out,hk2]
  go_wp2;all_goals (try (exfalso;go_light;simp_all;done));go_ret;exact ⟨rfl,jE.out⟩
 subst hk2;have q2:((2:Int) != 2)=false:=by decide
 go_wp2_with fail;refine (sM _ x A n c A' n' c' aX n'' c'').mono ?_;rintro e w21 ⟨rfl,rA⟩;have HN:=hide (HN.out.below rA);have fD:=hide (fD.out.below rA);have HC:=hide (HC.out.below rA);have HO:=hide (HO.out.below rA);have HK:=hide (HK.out.below rA);obtain ⟨g0,g1,g2,g3,g4,g5,g6,g7,g8,g9,g10,g11,g12,g13,LR⟩:=dR rA LR g0 g1 g2 g3 g4 g5 g6 g7 g8 g9 g10 g11 g12 g13;have gZ:=hide (aa jE.out rA);clear rA;rw[HU.out];cases U
 ·obtain rfl:R=0:=by rw[HD.out,bQ];simp[HM.out,pO.out,vQ.out]
  go_wp2;all_goals (try (exfalso;go_light;simp_all;done));go_ret;exact ⟨rfl,gZ.out⟩
 go_wp2_with fail;refine (jF _ A2 n2 c2 ocols HO.out).mono ?_;rintro e w6 ⟨rfl,rfl⟩;rw[I4.out];by_cases hce:CE=0
 ·subst hce;go_wp2_with fail;refine (HI2.out _ (by exact HO.out) (by exact fD.out)).mono ?_;rintro e w7 ⟨⟨v2,rfl,mH⟩,dD⟩;obtain ⟨A5,c5,rfl⟩:=mH.form;obtain ⟨m2,hm2⟩: ∃m,os.length=m:=⟨_,rfl⟩;have zl:=eu mH rfl;rw[hm2]at zl⊢;have vL:=hide hm2;clear mH hm2;have HN:=hide (HN.out.below dD);have HC:=hide (HC.out.below dD);have HO:=hide (HO.out.below dD);have HK:=hide (HK.out.below dD);obtain ⟨g0,g1,g2,g3,g4,g5,g6,g7,g8,g9,g10,g11,g12,g13,LR⟩:=dR dD LR g0 g1 g2 g3 g4 g5 g6 g7 g8 g9 g10 g11 g12 g13;have qO:=hide (aa gZ.out dD);clear dD;have vK:=hide zl;clear zl;by_cases hoe:oe=0
  ·subst hoe;by_cases hmm:m=m2
   ·subst hmm;have HD2:Hid (R=if (List.zip is os).any (mW cols ocols)=true then 7 else 0):=hide (by rw[HD.out,bQ];simp[HM.out,pO.out,vQ.out,vL.out]);obtain ⟨W5,rfl⟩: ∃W,W=w7:=⟨_,rfl⟩;have h63:=HK.out.le;go_wp2;go_loopw [20] (λi wr=> ∃k:Nat,k<=m/\i=.int .i64 k/\(List.zip is os).any (mW cols ocols)=((List.zip is os).drop k).any (mW cols ocols)/\Below W5.heap.size W5 wr) (λi _=>m-(RowKit.intOf i).toNat)
    case atStart=>exact ⟨0,Nat.zero_le _,rfl,rfl,Below.refl _ _⟩
    case round=>
     obtain ⟨k,hk,rfl,heq,hb⟩:=hrel;have HE:=hide heq;clear heq;have HN:=hide (HN.out.below hb);have HC:=hide (HC.out.below hb);have HO:=hide (HO.out.below hb);have HK:=hide (HK.out.below hb);have vK:=hide (vK.out.below hb);obtain ⟨g0,g1,g2,g3,g4,g5,g6,g7,g8,g9,g10,g11,g12,g13,LR⟩:=dR hb LR g0 g1 g2 g3 g4 g5 g6 g7 g8 g9 g10 g11 g12 g13;have fO:=hide hb;clear hb;clear g0 g1 g2 g3 g4 g5 g6 g7 g8 g9 g10 g11 g12 g13;by_cases hlt:k<m
     ·obtain ⟨b,off,j1,uT,hBb,HX,e0,_⟩:=HK.out.int hlt
      first|(subst uT)|(injection uT with uT;injection uT with hA5 hA6;subst hA5;subst hA6)
      obtain ⟨b2,KU,j2,rfl,Hm,HY,f0,_⟩:=vK.out.int hlt;have hr1:=HR1.out (by first|rfl|trivial) j1 (aH HX.out);have hr2:=HR2.out (by first|rfl|trivial) j2 (aH HY.out);rw[Gm.out]at hr1;rw[oG.out]at hr2;obtain ⟨i1,rfl⟩: ∃i:Nat,j1=(i:Int):=⟨j1.toNat,by omega⟩;obtain ⟨i2,rfl⟩: ∃i:Nat,j2=(i:Int):=⟨j2.toNat,by omega⟩;obtain ⟨b3,D5,y1,hA1,Nt,HZ1,_,p1,_,_⟩:=HC.out.col (k:=i1) (by omega)
      first|(subst hA1)|(injection hA1 with hA1;injection hA1 with hA7 hA8;subst hA7;subst hA8)
      obtain ⟨b4,Om,y2,rfl,Nu,HZ2,_,q1,_,_⟩:=HO.out.col (k:=i2) (by omega);have EF:Hid ((List.zip is os).drop k=((i1:Int),(i2:Int)) :: (List.zip is os).drop (k+1)):=hide (by
       rw[List.zip,List.drop_zipWith,HX.out,HY.out,List.zipWith_cons_cons,List.drop_zipWith])
      have pI:Hid (mW cols ocols ((i1:Int),(i2:Int))=(y1.kind != y2.kind)):=hide (by
       rw[mW];simp only[Int.toNat_natCast];rw[eT HZ1.out,eT HZ2.out])
      have k0:(0:Int)<=(k:Int):=by omega
      have k1:(k:Int)<(m:Int):=by omega
      have WP:(0:Int)<=(i1:Int):=by omega
      have i11:(i1:Int)<(n1:Int):=hr1.2;have i20:(0:Int)<=(i2:Int):=by omega
      have i21:(i2:Int)<(n2:Int):=hr2.2;have jk:=hide fO.out;have oD:=hide (aa qO.out fO.out);clear hr1 hr2 HZ1 HZ2 HX HY;obtain ⟨k3,hk3⟩: ∃q,y1.kind=q:=⟨_,rfl⟩;obtain ⟨k4,hk4⟩: ∃q,y2.kind=q:=⟨_,rfl⟩;rw[hk3]at p1 pI;rw[hk4]at q1 pI;clear hk3 hk4;go_wp2;go_quiet (fail);by_cases hq:k3=k4
      ·subst hq;have HN:Hid ((List.zip is os).any (mW cols ocols)=((List.zip is os).drop (k+1)).any (mW cols ocols)):=hide (by rw[HE.out,EF.out,List.any_cons,pI.out];simp);go_wp2;all_goals (try (exfalso;go_light;simp_all;done));go_roundw
       case rel=>exact ⟨k+1,by omega,by go_num,HN.out,below_drewN jk.out _⟩
       case measure=>simp[RowKit.intOf];omega
      ·have hq2:(k3 != k4)=true:=by simpa using hq
       obtain rfl:R=7:=by rw[HD2.out,HE.out,EF.out,List.any_cons,pI.out,hq2];simp
       go_wp2;all_goals (try (exfalso;go_light;simp_all;done));go_ret;exact ⟨rfl,below_drewN oD.out _⟩
     ·obtain rfl:R=0:=by rw[HD2.out,HE.out,List.drop_eq_nil_of_le (by rw[List.length_zip,HM.out,vL.out];omega)];rfl
      have oD:=hide (aa qO.out fO.out);go_wp2;all_goals (try (exfalso;go_light;simp_all;done));go_ret;exact ⟨rfl,oD.out⟩
   ·have q5:((m:Int) != (m2:Int))=true:=by simp;omega
    obtain rfl:R=8:=by rw[HD.out,bQ];simp[HM.out,pO.out,vQ.out,vL.out,hmm]
    go_wp2;all_goals (try (exfalso;go_light;simp_all;done));go_ret;exact ⟨rfl,qO.out⟩
  ·have q4:(oe != 0)=true:=by simpa using hoe
   obtain rfl:R=oe:=by rw[HD.out,bQ];simp[HM.out,pO.out,vQ.out,hoe]
   go_wp2;all_goals (try (exfalso;go_light;simp_all;done));go_ret;exact ⟨rfl,qO.out⟩
 ·have q3:(CE != 0)=true:=by simpa using hce
  obtain rfl:R=CE:=by rw[HD.out,bQ];simp[HM.out,pO.out,vQ.out,hce]
  go_wp2;all_goals (try (exfalso;go_light;simp_all;done));go_ret;exact ⟨rfl,gZ.out⟩
theorem xQ (hz:In w A5 n5 c5 zs)(hb0:n<=4096)(hb1:n'<=4096)(hb2:n1<=4096)(hb3:n2<=4096)(hp:jJ x)(h4:¬x.kind=4)(h5:¬x.kind=5):
  Calls Tryz.prog 65 #[.agg (aB x A n c A' n' c' aX n'' c'').toArray,.slice A1 n1 c1,.slice A2 n2 c2,.slice A5 n5 c5] w λe w'=>e=.returned (.int .i64 (aN x cols ocols zs))/\Below w.heap.size w w':=by
 cases p0:(x.policy==0)
 ·cases q1:(x.kind==2)
  ·cases q2:(x.kind==6)
   ·exact vI w x A n c hn A' n' c' hn' aX n'' c'' hq A1 n1 c1 cols hc A2 n2 c2 ocols ho A5 n5 c5 zs hz hb0 hb1 hb2 hb3 hp h4 h5 (.inr ⟨p0,q1,q2⟩)
   ·exact BG w x A n c hn A' n' c' hn' aX n'' c'' hq A1 n1 c1 cols hc A2 n2 c2 ocols ho A5 n5 c5 zs hz hb0 hb1 hb2 hb3 hp h4 h5 p0 q1 q2
  ·exact vH w x A n c hn A' n' c' hn' aX n'' c'' hq A1 n1 c1 cols hc A2 n2 c2 ocols ho A5 n5 c5 zs hz hb0 hb1 hb2 hb3 hp h4 h5 (.inr ⟨p0,q1⟩)
 ·have q2:(x.kind==6)=false:=by
   have h0:x.policy=0:=by simpa using p0
   have:=hp.2;simp only[beq_eq_false_iff_ne];omega
  cases q1:(x.kind==2)
  ·exact vI w x A n c hn A' n' c' hn' aX n'' c'' hq A1 n1 c1 cols hc A2 n2 c2 ocols ho A5 n5 c5 zs hz hb0 hb1 hb2 hb3 hp h4 h5 (.inl ⟨p0,q2,q1⟩)
  ·exact vH w x A n c hn A' n' c' hn' aX n'' c'' hq A1 n1 c1 cols hc A2 n2 c2 ocols ho A5 n5 c5 zs hz hb0 hb1 hb2 hb3 hp h4 h5 (.inl ⟨p0,q2,q1⟩)
end
end Go.Proofs.YtopjjlmfilgngaaGreatDoor
