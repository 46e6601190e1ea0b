/-
  warehouseref28.UsesOther, table, holds. (Printed by gen_valr.py.) warehouseref28.Validate. (Printed by gen_valr.py.)
-/
import Derived.Test.YtggejcekmehocaaGreatDoorChkA
import Derived.Test.YtggejcekmehocaaGreatDoorGay
import Derived.Test.YtggejcekmehocaaGreatDoorGaz
import Derived.Test.YtggejcekmehocaaGreatDoorTypR
namespace Go.Proofs.YtggejcekmehocaaGreatDoor
set_option maxHeartbeats 4000000
set_option maxRecDepth 100000
open Go.RowKit
set_option linter.unusedSimpArgs false
set_option linter.unusedVariables false
theorem tu (w:World)(x:Chk)(A:Option Addr)(n c:Nat)(A':Option Addr)(n' c':Nat)(aK:Option Addr)(n'' c'':Nat):Calls Tryz.prog 40 #[.agg (ak x A n c A' n' c' aK n'' c'').toArray] w λe w'=>e=.returned (.bool (cK x.kind))/\Below w.heap.size w w':=by
 rw[cK];simp only[ak];cases h3:(x.kind==3)
 ·go_enter Tryz.func40,Tryz.ntmps40;go_wp2_with fail;obtain ⟨W1,hW1⟩: ∃W,W=w.alloc (.cells #[.string x.name,.string x.table,.int .i64 x.kind,.slice A n c,.string x.other,.slice A' n' c',.int .i64 x.low,.int .i64 x.high,.slice aK n'' c'',.int .i64 x.ln,.int .i64 x.ld,.int .i64 x.mn,.int .i64 x.md,.int .i64 x.policy] 27):=⟨_,rfl⟩;obtain ⟨hbW1,gB,g0,g1,g2,g3,g4,g5,g6,g7,g8,g9,g10,g11,g12,g13⟩:=bM hW1 rfl;rw[<-hW1];clear hW1;have p8:=hide hbW1;clear hbW1;have LR:=lt_of_cell g0;go_wp2;go_ret;exact ⟨au (by simp),p8.out⟩
 ·go_enter Tryz.func40,Tryz.ntmps40;go_wp2_with fail;obtain ⟨W1,hW1⟩: ∃W,W=w.alloc (.cells #[.string x.name,.string x.table,.int .i64 x.kind,.slice A n c,.string x.other,.slice A' n' c',.int .i64 x.low,.int .i64 x.high,.slice aK n'' c'',.int .i64 x.ln,.int .i64 x.ld,.int .i64 x.mn,.int .i64 x.md,.int .i64 x.policy] 27):=⟨_,rfl⟩;obtain ⟨hbW1,gB,g0,g1,g2,g3,g4,g5,g6,g7,g8,g9,g10,g11,g12,g13⟩:=bM hW1 rfl;rw[<-hW1];clear hW1;have fq:=hide hbW1;clear hbW1;have LR:=lt_of_cell g0;go_wp2;go_ret;exact ⟨au (by simp),fq.out⟩
theorem Ju (w:World)(x:Chk)(A:Option Addr)(n c:Nat)(A':Option Addr)(n' c':Nat)(aK:Option Addr)(n'' c'':Nat)(hq:In w aK n'' c'' x.cond)(A1:Option Addr)(n1 c1:Nat)(cols:List Col)(hc:In w A1 n1 c1 cols)(A2:Option Addr)(n2 c2:Nat)(zs:List Zone)(hz:In w A2 n2 c2 zs)(A3:Option Addr)(n3 c3:Nat)(row:List Val)(hr:In w A3 n3 c3 row):
  Calls Tryz.prog 68 #[.agg (ak x A n c A' n' c' aK n'' c'').toArray,.slice A1 n1 c1,.slice A2 n2 c2,.slice A3 n3 c3] w λe w'=>e=.returned (.bool (oK x.cond cols row zs))/\Below w.heap.size w w':=by
 have HE:=hide λW hq hc hr hz=>Lp W aK n'' c'' x.cond hq A1 n1 c1 cols hc A3 n3 c3 row hr A2 n2 c2 zs hz;have HV:=hide (iX (xC x.cond cols row zs));have HD:=hide (show oK x.cond cols row zs=((gp x.cond cols row zs).1==0&&truth (gp x.cond cols row zs).2==1) from rfl);obtain ⟨R,hR⟩: ∃R,oK x.cond cols row zs=R:=⟨_,rfl⟩;obtain ⟨E,hE⟩: ∃E,gp x.cond cols row zs=E:=⟨_,rfl⟩;rw[hR]at HD;rw[hE]at HE HV HD;rw[hR];clear hR hE;obtain ⟨ee,vk,vn,vs⟩:=E;simp only[Val.cells]at HE HV HD;simp only[ak];go_enter Tryz.func68,Tryz.ntmps68;have HQ:=hide hq;clear hq;have HC:=hide hc;clear hc;have HR:=hide hr;clear hr;have HZ:=hide hz;clear hz;go_wp2_with fail;obtain ⟨W1,hW1⟩: ∃W,W=w.alloc (.cells #[.string x.name,.string x.table,.int .i64 x.kind,.slice A n c,.string x.other,.slice A' n' c',.int .i64 x.low,.int .i64 x.high,.slice aK n'' c'',.int .i64 x.ln,.int .i64 x.ld,.int .i64 x.mn,.int .i64 x.md,.int .i64 x.policy] 27):=⟨_,rfl⟩;obtain ⟨hbW1,gB,g0,g1,g2,g3,g4,g5,g6,g7,g8,g9,g10,g11,g12,g13⟩:=bM hW1 rfl;rw[<-hW1];clear hW1;have HQ:=hide (HQ.out.below hbW1);have HC:=hide (HC.out.below hbW1);have HR:=hide (HR.out.below hbW1);have HZ:=hide (HZ.out.below hbW1);have uH:=hide hbW1;clear hbW1;have LR:=lt_of_cell g0;refine (HE.out _ HQ.out HC.out HR.out HZ.out).mono ?_;rintro e w4 ⟨rfl,hb4⟩;obtain ⟨g0,g1,g2,g3,g4,g5,g6,g7,g8,g9,g10,g11,g12,g13,LR⟩:=dD hb4 LR g0 g1 g2 g3 g4 g5 g6 g7 g8 g9 g10 g11 g12 g13;have qj:=hide (aa uH.out hb4);clear hb4;clear g1 g2 g3 g4 g5 g6 g7 g8 g9 g10 g11 g12 g13;by_cases h0:ee=0
 ·subst h0;go_wp2_with fail;refine (Hf ⟨vk,vn,vs⟩ HV.out _).mono ?_;rintro e w3 ⟨rfl,hb3⟩;have HB3:=hide (aa qj.out (aa ae hb3));obtain ⟨T,hT⟩: ∃T,truth ⟨vk,vn,vs⟩=T:=⟨_,rfl⟩;rw[hT]at HD⊢;clear hT hb3;go_wp2;go_ret;exact ⟨au (by rw[HD.out];simp),HB3.out⟩
 ·have q:(ee==0)=false:=by simpa using h0
  obtain rfl:R=false:=by rw[HD.out,q];rfl
  have HB3:=hide (aa qj.out (ae (o:=.cells #[.int .i64 vk,.int .i64 vn,.string vs] 74)));go_wp2;all_goals (try (exfalso;go_light;simp_all;done));go_ret;exact ⟨rfl,HB3.out⟩
theorem BZ (w:World)(nm:ByteArray)(A:Option Addr)(n c:Nat)(cols:List Col)(hc:In w A n c cols)(A':Option Addr)(n' c':Nat)(A2:Option Addr)(n2 c2:Nat)(rows:List Ent)(hr:In w A2 n2 c2 rows):
  Calls Tryz.prog 81 #[.agg #[.string nm,.slice A n c,.slice A' n' c',.slice A2 n2 c2]] w λe w'=>e=.returned (.int .i64 (dh cols rows))/\Below w.heap.size w w':=by
 have HD:=hide (show dh cols rows=if ay rows≠0 then ay rows else if dS rows=false then 8 else ah (λ_ x=>aC cols x.row) 0 rows from rfl);obtain ⟨R,hR⟩: ∃R,dh cols rows=R:=⟨_,rfl⟩;rw[hR]at HD;rw[hR];clear hR;have h63:=hr.le;go_enter Tryz.func81,Tryz.ntmps81;have HC:=hide hc;clear hc;have HR:=hide hr;clear hr;go_wp2_with fail;obtain ⟨W1,hW1⟩: ∃W,W=w.alloc (.cells #[.string nm,.slice A n c,.slice A' n' c',.slice A2 n2 c2] 32):=⟨_,rfl⟩;obtain ⟨hbW1,gB,g0,g1,g2,g3⟩:=qx hW1 rfl;rw[<-hW1];clear hW1;have HC:=hide (HC.out.below hbW1);have HR:=hide (HR.out.below hbW1);have ul:=hide hbW1;clear hbW1;have LR:=lt_of_cell g0;obtain ⟨B,hB⟩: ∃B,ay rows=B:=⟨_,rfl⟩;have Wn:=hide hB;obtain ⟨T,hT⟩: ∃T,dS rows=T:=⟨_,rfl⟩;have Xd:=hide hT;rw[hB,hT]at HD;clear hB hT;refine (yt _ A2 n2 c2 rows HR.out).mono ?_;rintro e w7 ⟨rfl,cu⟩;have HC:=hide (HC.out.below cu);have HR:=hide (HR.out.below cu);obtain ⟨g0,g1,g2,g3,LR⟩:=xz cu LR g0 g1 g2 g3;have qU:=hide (aa ul.out cu);clear cu;rw[Wn.out];by_cases h0:B=0
 ·subst h0;go_wp2_with fail;refine (EO _ A2 n2 c2 rows HR.out).mono ?_;rintro e w9 ⟨rfl,dZ⟩;have HC:=hide (HC.out.below dZ);have HR:=hide (HR.out.below dZ);obtain ⟨g0,g1,g2,g3,LR⟩:=xz dZ LR g0 g1 g2 g3;have gL:=hide (aa qU.out dZ);clear dZ;rw[Xd.out];cases T
  ·obtain rfl:R=8:=by rw[HD.out];simp
   go_wp2;all_goals (try (exfalso;go_light;simp_all;done));go_ret;exact ⟨rfl,gL.out⟩
  ·have HD2:Hid (R=ah (λ_ x=>aC cols x.row) 0 rows):=hide (by rw[HD.out];simp);obtain ⟨W3,rfl⟩: ∃W,W=w9:=⟨_,rfl⟩;go_wp2;go_loopw [4] (λi wr=> ∃k:Nat,k<=n2/\i=.int .i64 k/\ah (λ_ x=>aC cols x.row) 0 rows=ah (λ_ x=>aC cols x.row) k (rows.drop k)/\Below W3.heap.size W3 wr) (λi _=>n2-(RowKit.intOf i).toNat)
   case atStart=>exact ⟨0,Nat.zero_le _,rfl,rfl,Below.refl _ _⟩
   case round=>
    obtain ⟨k,hk,rfl,heq,hb⟩:=hrel;have HE:=hide heq;clear heq;have HC:=hide (HC.out.below hb);have HR:=hide (HR.out.below hb);obtain ⟨g0,g1,g2,g3,LR⟩:=xz hb LR g0 g1 g2 g3;have jv:=hide hb;clear hb;by_cases hlt:k<n2
    ·obtain ⟨b,off,y,rfl,hBb,HX,Ax,An,Ac,e0,e1,e2,e3⟩:=HR.out.ent hlt;have k0:(0:Int)<=(k:Int):=by omega
     have k1:(k:Int)<(n2:Int):=by omega
     have HI:=hide e2;have FM:=hide hBb;have E0:=hide e0;have G1:=hide g1;have G3:=hide g3;clear e1 e2;have Hy:=hide jv.out;have jZ:=hide (aa gL.out jv.out);go_wp2;go_region_held3 (λV=>V.cell? ⟨w.heap.size,1,none⟩=some (.slice A n c)/\V.cell? ⟨w.heap.size,3,none⟩=some (.slice (some ⟨b,off,none⟩) n2 c2)/\V.cell? ⟨b,off+k*2,none⟩=some (.slice Ax An Ac))
      (first|exact ⟨bat tF.out LR G1.out,bat tF.out LR G3.out,bat tF.out FM.out E0.out⟩|exact ⟨g1,g3,e0⟩|go_keep)
      (first|(go_at_call 122;refine (uX _ A Ax n An c Ac cols y.row (by exact HC.out.below (Below.refl _ _).drew) (by exact HI.out.below (Below.refl _ _).drew)).mono ?_;rintro e w9 ⟨rfl,dZ⟩;have tF:=hide (below_undrew dZ);clear dZ))
     have Bp:=hide (aa Hy.out tF.out);have Zc:=hide (aa jZ.out tF.out);by_cases hz:aC cols y.row=0
     ·rw[hz];have HN:Hid (ah (λ_ x=>aC cols x.row) 0 rows=ah (λ_ x=>aC cols x.row) (k+1) (rows.drop (k+1))):=hide (by rw[HE.out,HX.out];exact aT hz);go_wp2;go_roundw
      case rel=>exact ⟨k+1,by omega,by go_num,HN.out,Bp.out⟩
      case measure=>simp[RowKit.intOf];omega
     ·have hz':(aC cols y.row != 0)=true:=by simpa using hz
      obtain rfl:R=aC cols y.row:=by rw[HD2.out,HE.out,HX.out];exact aH rfl hz
      go_wp2;all_goals (try (exfalso;go_light;simp_all;done));go_ret;exact ⟨rfl,Zc.out⟩
    ·obtain rfl:R=0:=by rw[HD2.out,HE.out,aJ HR.out.len (by omega),ah]
     go_wp2;all_goals (try (exfalso;go_light;simp_all;done));go_ret;exact ⟨rfl,(aa gL.out jv.out)⟩
 ·have q0:(B != 0)=true:=by simpa using h0
  obtain rfl:R=B:=by rw[HD.out];simp[h0]
  go_wp2;all_goals (try (exfalso;go_light;simp_all;done));go_ret;exact ⟨rfl,qU.out⟩
def jH (x:Chk):Prop:=¬(x.kind<0\/6<x.kind\/x.policy<0\/2<x.policy)/\¬(x.policy=0/\(x.kind=5\/x.kind=6))
theorem jH.dec {x:Chk}(h:jH x):decide (x.kind<0)=false/\decide (6<x.kind)=false/\decide (x.policy<0)=false/\decide (2<x.policy)=false:=by
 obtain ⟨h1,_⟩:=h;refine ⟨?_,?_,?_,?_⟩ <;> simp <;> omega
theorem Ae (w:World)(x:Chk)(A:Option Addr)(n c:Nat)(A':Option Addr)(n' c':Nat)(aK:Option Addr)(n'' c'':Nat)(a1 a2 a5:Value)(h:¬jH x)(cols ocols:List Col)(zs:List Zone):
  Calls Tryz.prog 80 #[.agg (ak x A n c A' n' c' aK n'' c'').toArray,a1,a2,a5] w λe w'=>e=.returned (.int .i64 (aR x cols ocols zs))/\Below w.heap.size w w':=by
 have hA:(decide (x.kind<0)=true/\aR x cols ocols zs=1)\/(decide (x.kind<0)=false/\decide (6<x.kind)=true/\aR x cols ocols zs=1)\/(decide (x.kind<0)=false/\decide (6<x.kind)=false/\decide (x.policy<0)=true/\aR x cols ocols zs=1)
   \/(decide (x.kind<0)=false/\decide (6<x.kind)=false/\decide (x.policy<0)=false/\decide (2<x.policy)=true/\aR x cols ocols zs=1)
   \/(decide (x.kind<0)=false/\decide (6<x.kind)=false/\decide (x.policy<0)=false/\decide (2<x.policy)=false/\(((x.policy==0)=true/\(x.kind==5)=true/\aR x cols ocols zs=7)\/((x.policy==0)=true/\(x.kind==5)=false/\(x.kind==6)=true/\aR x cols ocols zs=7))):=by
  by_cases a1:x.kind<0
  ·exact .inl ⟨by simpa using a1,by rw[aR,if_pos (.inl a1)]⟩
  by_cases a2:6<x.kind
  ·exact .inr (.inl ⟨by simpa using a1,by simpa using a2,by rw[aR,if_pos (.inr (.inl a2))]⟩)
  by_cases a3:x.policy<0
  ·exact .inr (.inr (.inl ⟨by simpa using a1,by simpa using a2,by simpa using a3,by rw[aR,if_pos (.inr (.inr (.inl a3)))]⟩))
  by_cases a4:2<x.policy
  ·exact .inr (.inr (.inr (.inl ⟨by simpa using a1,by simpa using a2,by simpa using a3,by simpa using a4,by rw[aR,if_pos (.inr (.inr (.inr a4)))]⟩)))
  have b:¬(x.kind<0\/6<x.kind\/x.policy<0\/2<x.policy):=by omega
  have d:x.policy=0/\(x.kind=5\/x.kind=6):=by
   rw[jH]at h;exact Classical.byContradiction λq=>h ⟨b,q⟩
  refine .inr (.inr (.inr (.inr ⟨by simpa using a1,by simpa using a2,by simpa using a3,by simpa using a4,?_⟩)));by_cases a6:x.kind=5
  ·exact .inl ⟨by simpa using d.1,by simpa using a6,by rw[aR,if_neg b,if_pos d]⟩
  ·exact .inr ⟨by simpa using d.1,by simpa using a6,by have:=d.2;simp;omega,by rw[aR,if_neg b,if_pos d]⟩
 clear h;generalize aR x cols ocols zs=R at*;simp only[ak];rcases hA with ⟨d1,rfl⟩|⟨d1,d2,rfl⟩|⟨d1,d2,d3,rfl⟩|⟨d1,d2,d3,d4,rfl⟩|⟨d1,d2,d3,d4,⟨d5,d6,rfl⟩|⟨d5,d6,d7,rfl⟩⟩
 ·go_enter Tryz.func80,Tryz.ntmps80;go_wp2_with fail;obtain ⟨W1,hW1⟩: ∃W,W=w.alloc (.cells #[.string x.name,.string x.table,.int .i64 x.kind,.slice A n c,.string x.other,.slice A' n' c',.int .i64 x.low,.int .i64 x.high,.slice aK n'' c'',.int .i64 x.ln,.int .i64 x.ld,.int .i64 x.mn,.int .i64 x.md,.int .i64 x.policy] 27):=⟨_,rfl⟩;obtain ⟨hbW1,gB,g0,g1,g2,g3,g4,g5,g6,g7,g8,g9,g10,g11,g12,g13⟩:=bM hW1 rfl;rw[<-hW1];clear hW1;have p8:=hide hbW1;clear hbW1;have LR:=lt_of_cell g0;go_wp2;all_goals (try (exfalso;go_light;simp_all;done));go_ret;exact ⟨rfl,p8.out⟩
 ·go_enter Tryz.func80,Tryz.ntmps80;go_wp2_with fail;obtain ⟨W1,hW1⟩: ∃W,W=w.alloc (.cells #[.string x.name,.string x.table,.int .i64 x.kind,.slice A n c,.string x.other,.slice A' n' c',.int .i64 x.low,.int .i64 x.high,.slice aK n'' c'',.int .i64 x.ln,.int .i64 x.ld,.int .i64 x.mn,.int .i64 x.md,.int .i64 x.policy] 27):=⟨_,rfl⟩;obtain ⟨hbW1,gB,g0,g1,g2,g3,g4,g5,g6,g7,g8,g9,g10,g11,g12,g13⟩:=bM hW1 rfl;rw[<-hW1];clear hW1;have fq:=hide hbW1;clear hbW1;have LR:=lt_of_cell g0;go_wp2;all_goals (try (exfalso;go_light;simp_all;done));go_ret;exact ⟨rfl,fq.out⟩
 ·go_enter Tryz.func80,Tryz.ntmps80;go_wp2_with fail;obtain ⟨W1,hW1⟩: ∃W,W=w.alloc (.cells #[.string x.name,.string x.table,.int .i64 x.kind,.slice A n c,.string x.other,.slice A' n' c',.int .i64 x.low,.int .i64 x.high,.slice aK n'' c'',.int .i64 x.ln,.int .i64 x.ld,.int .i64 x.mn,.int .i64 x.md,.int .i64 x.policy] 27):=⟨_,rfl⟩;obtain ⟨hbW1,gB,g0,g1,g2,g3,g4,g5,g6,g7,g8,g9,g10,g11,g12,g13⟩:=bM hW1 rfl;rw[<-hW1];clear hW1;have uH:=hide hbW1;clear hbW1;have LR:=lt_of_cell g0;go_wp2;all_goals (try (exfalso;go_light;simp_all;done));go_ret;exact ⟨rfl,uH.out⟩
 ·go_enter Tryz.func80,Tryz.ntmps80;go_wp2_with fail;obtain ⟨W1,hW1⟩: ∃W,W=w.alloc (.cells #[.string x.name,.string x.table,.int .i64 x.kind,.slice A n c,.string x.other,.slice A' n' c',.int .i64 x.low,.int .i64 x.high,.slice aK n'' c'',.int .i64 x.ln,.int .i64 x.ld,.int .i64 x.mn,.int .i64 x.md,.int .i64 x.policy] 27):=⟨_,rfl⟩;obtain ⟨hbW1,gB,g0,g1,g2,g3,g4,g5,g6,g7,g8,g9,g10,g11,g12,g13⟩:=bM hW1 rfl;rw[<-hW1];clear hW1;have kK:=hide hbW1;clear hbW1;have LR:=lt_of_cell g0;go_wp2;all_goals (try (exfalso;go_light;simp_all;done));go_ret;exact ⟨rfl,kK.out⟩
 ·go_enter Tryz.func80,Tryz.ntmps80;go_wp2_with fail;obtain ⟨W1,hW1⟩: ∃W,W=w.alloc (.cells #[.string x.name,.string x.table,.int .i64 x.kind,.slice A n c,.string x.other,.slice A' n' c',.int .i64 x.low,.int .i64 x.high,.slice aK n'' c'',.int .i64 x.ln,.int .i64 x.ld,.int .i64 x.mn,.int .i64 x.md,.int .i64 x.policy] 27):=⟨_,rfl⟩;obtain ⟨hbW1,gB,g0,g1,g2,g3,g4,g5,g6,g7,g8,g9,g10,g11,g12,g13⟩:=bM hW1 rfl;rw[<-hW1];clear hW1;have qj:=hide hbW1;clear hbW1;have LR:=lt_of_cell g0;go_wp2;all_goals (try (exfalso;go_light;simp_all;done));go_ret;exact ⟨rfl,qj.out⟩
 ·go_enter Tryz.func80,Tryz.ntmps80;go_wp2_with fail;obtain ⟨W1,hW1⟩: ∃W,W=w.alloc (.cells #[.string x.name,.string x.table,.int .i64 x.kind,.slice A n c,.string x.other,.slice A' n' c',.int .i64 x.low,.int .i64 x.high,.slice aK n'' c'',.int .i64 x.ln,.int .i64 x.ld,.int .i64 x.mn,.int .i64 x.md,.int .i64 x.policy] 27):=⟨_,rfl⟩;obtain ⟨hbW1,gB,g0,g1,g2,g3,g4,g5,g6,g7,g8,g9,g10,g11,g12,g13⟩:=bM hW1 rfl;rw[<-hW1];clear hW1;have ul:=hide hbW1;clear hbW1;have LR:=lt_of_cell g0;go_wp2;all_goals (try (exfalso;go_light;simp_all;done));go_ret;exact ⟨rfl,ul.out⟩
section
variable (w:World)(x:Chk)(A:Option Addr)(n c:Nat)(hn:In w A n c x.cols)(A':Option Addr)(n' c':Nat)(hn':In w A' n' c' x.ocols)(aK:Option Addr)(n'' c'':Nat)(hq:In w aK n'' c'' x.cond)(A1:Option Addr)(n1 c1:Nat)(cols:List Col)(hc:In w A1 n1 c1 cols)(A2:Option Addr)(n2 c2:Nat)(ocols:List Col)(ho:In w A2 n2 c2 ocols)(A5:Option Addr)(n5 c5:Nat)(zs:List Zone)
include w x A n c hn A' n' c' hn' aK n'' c'' hq A1 n1 c1 cols hc A2 n2 c2 ocols ho A5 n5 c5 zs
theorem vW (hz:In w A5 n5 c5 zs)(hb0:n<=4096)(hb1:n'<=4096)(hb2:n1<=4096)(hb3:n2<=4096)(hp:jH x)(h4:¬x.kind=4)(h5:¬x.kind=5)(hw:(((x.policy==0)=true/\(x.kind==6)=false/\(x.kind==2)=true)\/((x.policy==0)=false/\(x.kind==2)=true))):
  Calls Tryz.prog 80 #[.agg (ak x A n c A' n' c' aK n'' c'').toArray,.slice A1 n1 c1,.slice A2 n2 c2,.slice A5 n5 c5] w λe w'=>e=.returned (.int .i64 (aR x cols ocols zs))/\Below w.heap.size w w':=by
 have _:=hq;rcases hw with ⟨p0,h6,h2⟩|⟨p0,h2⟩
 all_goals (
  have HD0:=hide (show aR x cols ocols zs=if aA cols≠0 then aA cols else kz x cols ocols from by
   rw[gD x cols ocols zs hp.1 hp.2];have:iW x.kind=false:=by rw[iW];simp[h4,h5]
   rw[this];simp)
  rw[qB x cols ocols]at HD0;have HI1:=hide λW hx hy=>iM W A1 n1 c1 cols hx A n c x.cols hy (by omega) (by omega);have HI2:=hide λW hx hy=>iM W A2 n2 c2 ocols hx A' n' c' x.ocols hy (by omega) (by omega);have HR1:=hide (λh=>lU (cols:=cols) (names:=x.cols) h);have HR2:=hide (λh=>lU (cols:=ocols) (names:=x.ocols) h);have yG:=hide (Nat.le_trans (iN cols x.cols) (by rw[hn.len];exact hb0));have yH:=hide (Nat.le_trans (iN ocols x.ocols) (by rw[hn'.len];exact hb1));have IR:=hide hc.len;have oP:=hide ho.len;obtain ⟨R,hR⟩: ∃R,aR x cols ocols zs=R:=⟨_,rfl⟩;obtain ⟨I1,hI1⟩: ∃I,aW cols x.cols=I:=⟨_,rfl⟩;obtain ⟨I2,hI2⟩: ∃I,aW ocols x.ocols=I:=⟨_,rfl⟩;obtain ⟨U,hU⟩: ∃U,cK x.kind=U:=⟨_,rfl⟩;rw[hR,hI1,hI2,hU]at HD0;rw[hI1]at HI1 HR1 yG;rw[hI2]at HI2 HR2 yH;rw[hR];have HU:=hide hU;clear hR hI1 hI2 hU;obtain ⟨ie,is⟩:=I1;obtain ⟨oe,os⟩:=I2;simp only at HD0 HI1 HI2 HR1 HR2 yG yH;obtain ⟨K0,Gz⟩: ∃K,(cols.getD (is.getD 0 0).toNat default).kind=K:=⟨_,rfl⟩;rw[Gz]at HD0;have NU:=hide Gz;clear Gz;obtain ⟨CE,CY⟩: ∃CE,aA ocols=CE:=⟨_,rfl⟩;rw[CY]at HD0;have Hu:=hide CY;obtain ⟨C1,wm⟩: ∃CE,aA cols=CE:=⟨_,rfl⟩;rw[wm]at HD0;have FQ:=hide wm;obtain ⟨sg,hsg⟩: ∃s,(x.kind==2 || x.kind==6)=s:=⟨_,rfl⟩;rw[hsg]at HD0;clear CY wm;obtain rfl:sg=true:=by rw[<-hsg,h2];rfl
  obtain ⟨d1,d2,d3,d4⟩:=hp.dec;have e4:(x.kind==4)=false:=by simpa using h4
  have e5:(x.kind==5)=false:=by simpa using h5
  clear hsg h4 h5 hp;simp only[ak];go_enter Tryz.func80,Tryz.ntmps80;have HN:=hide hn;clear hn;have eY:=hide hn';clear hn';have HC:=hide hc;clear hc;have HO:=hide ho;clear ho;go_wp2_with fail;obtain ⟨W1,hW1⟩: ∃W,W=w.alloc (.cells #[.string x.name,.string x.table,.int .i64 x.kind,.slice A n c,.string x.other,.slice A' n' c',.int .i64 x.low,.int .i64 x.high,.slice aK n'' c'',.int .i64 x.ln,.int .i64 x.ld,.int .i64 x.mn,.int .i64 x.md,.int .i64 x.policy] 27):=⟨_,rfl⟩;obtain ⟨hbW1,gB,g0,g1,g2,g3,g4,g5,g6,g7,g8,g9,g10,g11,g12,g13⟩:=bM hW1 rfl;rw[<-hW1];clear hW1;have HN:=hide (HN.out.below hbW1);have eY:=hide (eY.out.below hbW1);have HC:=hide (HC.out.below hbW1);have HO:=hide (HO.out.below hbW1);have mH:=hide hbW1;clear hbW1;have LR:=lt_of_cell g0;go_wp2_with fail;refine (jC _ A1 n1 c1 cols HC.out).mono ?_;rintro e w6 ⟨rfl,rfl⟩;rw[FQ.out];by_cases hc1:C1=0;rotate_left
  ·have q0:(C1 != 0)=true:=by simpa using hc1
   obtain rfl:R=C1:=by rw[HD0.out,if_pos hc1]
   go_wp2;all_goals (try (exfalso;go_light;simp_all;done));go_ret;exact ⟨rfl,mH.out⟩
  subst hc1;have HD:=hide (show R=bE true U ie is K0 CE oe os ((List.zip is os).any (nR cols ocols)) from by rw[HD0.out];simp);go_wp2_with fail;refine (HI1.out _ (by exact HC.out) (by exact HN.out)).mono ?_;rintro e w1 ⟨⟨v,rfl,hov⟩,hb1⟩;obtain ⟨A4,c4,rfl⟩:=hov.form;obtain ⟨m,hm⟩: ∃m,is.length=m:=⟨_,rfl⟩;have zo:=ol_in hov rfl;rw[hm]at zo⊢;have HM:=hide hm;clear hov hm;have HN:=hide (HN.out.below hb1);have eY:=hide (eY.out.below hb1);have HC:=hide (HC.out.below hb1);have HO:=hide (HO.out.below hb1);obtain ⟨g0,g1,g2,g3,g4,g5,g6,g7,g8,g9,g10,g11,g12,g13,LR⟩:=dD hb1 LR g0 g1 g2 g3 g4 g5 g6 g7 g8 g9 g10 g11 g12 g13;have qU:=hide (aa mH.out hb1);clear hb1;have HK:=hide zo;clear zo;by_cases h0:ie=0;rotate_left
  ·have q0:(ie != 0)=true:=by simpa using h0
   obtain rfl:R=ie:=by rw[HD.out,bE,if_pos h0]
   go_wp2;all_goals (try (exfalso;go_light;simp_all;done));go_ret;exact ⟨rfl,qU.out⟩
  subst h0;by_cases hmz:m=0
  ·subst hmz;obtain rfl:R=8:=by rw[HD.out,bE];simp[HM.out]
   go_wp2;all_goals (try (exfalso;go_light;simp_all;done));go_ret;exact ⟨rfl,qU.out⟩
  have qz:((m:Int)==0)=false:=by simpa using hmz
  have qd:=hide hmz;by_cases hm1:1<m
  ·have q1:decide (1<(m:Int))=true:=by simp;omega
   obtain rfl:R=8:=by rw[HD.out,bE];simp[HM.out,hm1]
   go_wp2;all_goals (try (exfalso;go_light;simp_all;done));go_ret;exact ⟨rfl,qU.out⟩
  have q1:decide (1<(m:Int))=false:=by simp;omega
  have wy:=hide hm1;obtain ⟨b0,o0,j0,rfl,O8,HX0,e0,_⟩:=HK.out.int (k:=0) (by omega);rw[Nat.add_zero]at e0;have hr0:=HR1.out (by first|rfl|trivial) j0 (mem_of_drop HX0.out);rw[IR.out]at hr0;obtain ⟨i0,rfl⟩: ∃i:Nat,j0=(i:Int):=⟨j0.toNat,by omega⟩;obtain ⟨bc,oc,y0,rfl,RH,HZ0,_,p0,_,_⟩:=HC.out.col (k:=i0) (by omega);have XX:(0:Int)<=(i0:Int):=by omega
  have XY:(i0:Int)<(n1:Int):=hr0.2;have Yf:(0:Int)<(m:Int):=by omega
  obtain ⟨k5,hk5⟩: ∃q,y0.kind=q:=⟨_,rfl⟩;have e5:K0=k5:=by
   rw[<-NU.out,dQ HX0.out,<-hk5];simp only[Int.toNat_natCast];rw[dQ HZ0.out]
  rw[hk5]at p0;subst e5;clear hk5 hr0 HX0 HZ0;by_cases hk2:K0=2;rotate_left
  ·have q2:(K0 != 2)=true:=by simpa using hk2
   obtain rfl:R=7:=by rw[HD.out,bE];simp[HM.out,qd.out,wy.out,hk2]
   go_wp2;all_goals (try (exfalso;go_light;simp_all;done));go_ret;exact ⟨rfl,qU.out⟩
  subst hk2;have q2:((2:Int) != 2)=false:=by decide
  go_wp2_with fail;refine (tu _ x A n c A' n' c' aK n'' c'').mono ?_;rintro e w9 ⟨rfl,dZ⟩;have HN:=hide (HN.out.below dZ);have eY:=hide (eY.out.below dZ);have HC:=hide (HC.out.below dZ);have HO:=hide (HO.out.below dZ);have HK:=hide (HK.out.below dZ);obtain ⟨g0,g1,g2,g3,g4,g5,g6,g7,g8,g9,g10,g11,g12,g13,LR⟩:=dD dZ LR g0 g1 g2 g3 g4 g5 g6 g7 g8 g9 g10 g11 g12 g13;have gL:=hide (aa qU.out dZ);clear dZ;rw[HU.out];cases U
  ·obtain rfl:R=0:=by rw[HD.out,bE];simp[HM.out,qd.out,wy.out]
   go_wp2;all_goals (try (exfalso;go_light;simp_all;done));go_ret;exact ⟨rfl,gL.out⟩
  go_wp2_with fail;refine (jC _ A2 n2 c2 ocols HO.out).mono ?_;rintro e w6 ⟨rfl,rfl⟩;rw[Hu.out];by_cases hce:CE=0
  ·subst hce;go_wp2_with fail;refine (HI2.out _ (by exact HO.out) (by exact eY.out)).mono ?_;rintro e w7 ⟨⟨v2,rfl,nH⟩,cu⟩;obtain ⟨A5,c5,rfl⟩:=nH.form;obtain ⟨m2,hm2⟩: ∃m,os.length=m:=⟨_,rfl⟩;have zn:=ol_in nH rfl;rw[hm2]at zn⊢;have qc:=hide hm2;clear nH hm2;have HN:=hide (HN.out.below cu);have HC:=hide (HC.out.below cu);have HO:=hide (HO.out.below cu);have HK:=hide (HK.out.below cu);obtain ⟨g0,g1,g2,g3,g4,g5,g6,g7,g8,g9,g10,g11,g12,g13,LR⟩:=dD cu LR g0 g1 g2 g3 g4 g5 g6 g7 g8 g9 g10 g11 g12 g13;have jv:=hide (aa gL.out cu);clear cu;have xx:=hide zn;clear zn;by_cases hoe:oe=0
   ·subst hoe;by_cases hmm:m=m2
    ·subst hmm;have HD2:Hid (R=if (List.zip is os).any (nR cols ocols)=true then 7 else 0):=hide (by rw[HD.out,bE];simp[HM.out,qd.out,wy.out,qc.out]);obtain ⟨W5,rfl⟩: ∃W,W=w7:=⟨_,rfl⟩;have h63:=HK.out.le;go_wp2;go_loopw [20] (λi wr=> ∃k:Nat,k<=m/\i=.int .i64 k/\(List.zip is os).any (nR cols ocols)=((List.zip is os).drop k).any (nR cols ocols)/\Below W5.heap.size W5 wr) (λi _=>m-(RowKit.intOf i).toNat)
     case atStart=>exact ⟨0,Nat.zero_le _,rfl,rfl,Below.refl _ _⟩
     case round=>
      obtain ⟨k,hk,rfl,heq,hb⟩:=hrel;have HE:=hide heq;clear heq;have HN:=hide (HN.out.below hb);have HC:=hide (HC.out.below hb);have HO:=hide (HO.out.below hb);have HK:=hide (HK.out.below hb);have xx:=hide (xx.out.below hb);obtain ⟨g0,g1,g2,g3,g4,g5,g6,g7,g8,g9,g10,g11,g12,g13,LR⟩:=dD hb LR g0 g1 g2 g3 g4 g5 g6 g7 g8 g9 g10 g11 g12 g13;have jw:=hide hb;clear hb;clear g0 g1 g2 g3 g4 g5 g6 g7 g8 g9 g10 g11 g12 g13;by_cases hlt:k<m
      ·obtain ⟨b,off,j1,vg,hBb,HX,e0,_⟩:=HK.out.int hlt
       first|(subst vg)|(injection vg with vg;injection vg with hA5 hA6;subst hA5;subst hA6)
       obtain ⟨b2,MQ,j2,rfl,LW,HY,f0,_⟩:=xx.out.int hlt;have hr1:=HR1.out (by first|rfl|trivial) j1 (mem_of_drop HX.out);have hr2:=HR2.out (by first|rfl|trivial) j2 (mem_of_drop HY.out);rw[IR.out]at hr1;rw[oP.out]at hr2;obtain ⟨i1,rfl⟩: ∃i:Nat,j1=(i:Int):=⟨j1.toNat,by omega⟩;obtain ⟨i2,rfl⟩: ∃i:Nat,j2=(i:Int):=⟨j2.toNat,by omega⟩;obtain ⟨b3,Dn,y1,hA1,LY,HZ1,_,p1,_,_⟩:=HC.out.col (k:=i1) (by omega)
       first|(subst hA1)|(injection hA1 with hA1;injection hA1 with hA7 hA8;subst hA7;subst hA8)
       obtain ⟨b4,MR,y2,rfl,L8,HZ2,_,q1,_,_⟩:=HO.out.col (k:=i2) (by omega);have DR:Hid ((List.zip is os).drop k=((i1:Int),(i2:Int)) :: (List.zip is os).drop (k+1)):=hide (by
        rw[List.zip,List.drop_zipWith,HX.out,HY.out,List.zipWith_cons_cons,List.drop_zipWith])
       have uK:Hid (nR cols ocols ((i1:Int),(i2:Int))=(y1.kind != y2.kind)):=hide (by
        rw[nR];simp only[Int.toNat_natCast];rw[dQ HZ1.out,dQ HZ2.out])
       have k0:(0:Int)<=(k:Int):=by omega
       have k1:(k:Int)<(m:Int):=by omega
       have UX:(0:Int)<=(i1:Int):=by omega
       have i11:(i1:Int)<(n1:Int):=hr1.2;have i20:(0:Int)<=(i2:Int):=by omega
       have i21:(i2:Int)<(n2:Int):=hr2.2;have jZ:=hide jw.out;have tH:=hide (aa jv.out jw.out);clear hr1 hr2 HZ1 HZ2 HX HY;obtain ⟨k3,hk3⟩: ∃q,y1.kind=q:=⟨_,rfl⟩;obtain ⟨k4,hk4⟩: ∃q,y2.kind=q:=⟨_,rfl⟩;rw[hk3]at p1 uK;rw[hk4]at q1 uK;clear hk3 hk4;go_wp2;go_quiet (fail);by_cases hq:k3=k4
       ·subst hq;have HN:Hid ((List.zip is os).any (nR cols ocols)=((List.zip is os).drop (k+1)).any (nR cols ocols)):=hide (by rw[HE.out,DR.out,List.any_cons,uK.out];simp);go_wp2;all_goals (try (exfalso;go_light;simp_all;done));go_roundw
        case rel=>exact ⟨k+1,by omega,by go_num,HN.out,below_drewN jZ.out _⟩
        case measure=>simp[RowKit.intOf];omega
       ·have hq2:(k3 != k4)=true:=by simpa using hq
        obtain rfl:R=7:=by rw[HD2.out,HE.out,DR.out,List.any_cons,uK.out,hq2];simp
        go_wp2;all_goals (try (exfalso;go_light;simp_all;done));go_ret;exact ⟨rfl,below_drewN tH.out _⟩
      ·obtain rfl:R=0:=by rw[HD2.out,HE.out,List.drop_eq_nil_of_le (by rw[List.length_zip,HM.out,qc.out];omega)];rfl
       have tH:=hide (aa jv.out jw.out);go_wp2;all_goals (try (exfalso;go_light;simp_all;done));go_ret;exact ⟨rfl,tH.out⟩
    ·have q5:((m:Int) != (m2:Int))=true:=by simp;omega
     obtain rfl:R=8:=by rw[HD.out,bE];simp[HM.out,qd.out,wy.out,qc.out,hmm]
     go_wp2;all_goals (try (exfalso;go_light;simp_all;done));go_ret;exact ⟨rfl,jv.out⟩
   ·have q4:(oe != 0)=true:=by simpa using hoe
    obtain rfl:R=oe:=by rw[HD.out,bE];simp[HM.out,qd.out,wy.out,hoe]
    go_wp2;all_goals (try (exfalso;go_light;simp_all;done));go_ret;exact ⟨rfl,jv.out⟩
  ·have q3:(CE != 0)=true:=by simpa using hce
   obtain rfl:R=CE:=by rw[HD.out,bE];simp[HM.out,qd.out,wy.out,hce]
   go_wp2;all_goals (try (exfalso;go_light;simp_all;done));go_ret;exact ⟨rfl,gL.out⟩)
theorem vX (hz:In w A5 n5 c5 zs)(hb0:n<=4096)(hb1:n'<=4096)(hb2:n1<=4096)(hb3:n2<=4096)(hp:jH x)(h4:¬x.kind=4)(h5:¬x.kind=5)(hw:(((x.policy==0)=true/\(x.kind==6)=false/\(x.kind==2)=false)\/((x.policy==0)=false/\(x.kind==2)=false/\(x.kind==6)=false))):
  Calls Tryz.prog 80 #[.agg (ak x A n c A' n' c' aK n'' c'').toArray,.slice A1 n1 c1,.slice A2 n2 c2,.slice A5 n5 c5] w λe w'=>e=.returned (.int .i64 (aR x cols ocols zs))/\Below w.heap.size w w':=by
 have _:=hq;rcases hw with ⟨p0,h6,h2⟩|⟨p0,h2,h6⟩
 all_goals (
  have HD0:=hide (show aR x cols ocols zs=if aA cols≠0 then aA cols else kz x cols ocols from by
   rw[gD x cols ocols zs hp.1 hp.2];have:iW x.kind=false:=by rw[iW];simp[h4,h5]
   rw[this];simp)
  rw[qB x cols ocols]at HD0;have HI1:=hide λW hx hy=>iM W A1 n1 c1 cols hx A n c x.cols hy (by omega) (by omega);have HI2:=hide λW hx hy=>iM W A2 n2 c2 ocols hx A' n' c' x.ocols hy (by omega) (by omega);have HR1:=hide (λh=>lU (cols:=cols) (names:=x.cols) h);have HR2:=hide (λh=>lU (cols:=ocols) (names:=x.ocols) h);have yG:=hide (Nat.le_trans (iN cols x.cols) (by rw[hn.len];exact hb0));have yH:=hide (Nat.le_trans (iN ocols x.ocols) (by rw[hn'.len];exact hb1));have IR:=hide hc.len;have oP:=hide ho.len;obtain ⟨R,hR⟩: ∃R,aR x cols ocols zs=R:=⟨_,rfl⟩;obtain ⟨I1,hI1⟩: ∃I,aW cols x.cols=I:=⟨_,rfl⟩;obtain ⟨I2,hI2⟩: ∃I,aW ocols x.ocols=I:=⟨_,rfl⟩;obtain ⟨U,hU⟩: ∃U,cK x.kind=U:=⟨_,rfl⟩;rw[hR,hI1,hI2,hU]at HD0;rw[hI1]at HI1 HR1 yG;rw[hI2]at HI2 HR2 yH;rw[hR];have HU:=hide hU;clear hR hI1 hI2 hU;obtain ⟨ie,is⟩:=I1;obtain ⟨oe,os⟩:=I2;simp only at HD0 HI1 HI2 HR1 HR2 yG yH;obtain ⟨K0,Gz⟩: ∃K,(cols.getD (is.getD 0 0).toNat default).kind=K:=⟨_,rfl⟩;rw[Gz]at HD0;have NU:=hide Gz;clear Gz;obtain ⟨CE,CY⟩: ∃CE,aA ocols=CE:=⟨_,rfl⟩;rw[CY]at HD0;have Hu:=hide CY;obtain ⟨C1,wm⟩: ∃CE,aA cols=CE:=⟨_,rfl⟩;rw[wm]at HD0;have FQ:=hide wm;obtain ⟨sg,hsg⟩: ∃s,(x.kind==2 || x.kind==6)=s:=⟨_,rfl⟩;rw[hsg]at HD0;clear CY wm;obtain rfl:sg=false:=by rw[<-hsg,h2,h6];rfl
  obtain ⟨d1,d2,d3,d4⟩:=hp.dec;have e4:(x.kind==4)=false:=by simpa using h4
  have e5:(x.kind==5)=false:=by simpa using h5
  clear hsg h4 h5 hp;simp only[ak];go_enter Tryz.func80,Tryz.ntmps80;have HN:=hide hn;clear hn;have eY:=hide hn';clear hn';have HC:=hide hc;clear hc;have HO:=hide ho;clear ho;go_wp2_with fail;obtain ⟨W1,hW1⟩: ∃W,W=w.alloc (.cells #[.string x.name,.string x.table,.int .i64 x.kind,.slice A n c,.string x.other,.slice A' n' c',.int .i64 x.low,.int .i64 x.high,.slice aK n'' c'',.int .i64 x.ln,.int .i64 x.ld,.int .i64 x.mn,.int .i64 x.md,.int .i64 x.policy] 27):=⟨_,rfl⟩;obtain ⟨hbW1,gB,g0,g1,g2,g3,g4,g5,g6,g7,g8,g9,g10,g11,g12,g13⟩:=bM hW1 rfl;rw[<-hW1];clear hW1;have HN:=hide (HN.out.below hbW1);have eY:=hide (eY.out.below hbW1);have HC:=hide (HC.out.below hbW1);have HO:=hide (HO.out.below hbW1);have jy:=hide hbW1;clear hbW1;have LR:=lt_of_cell g0;go_wp2_with fail;refine (jC _ A1 n1 c1 cols HC.out).mono ?_;rintro e w6 ⟨rfl,rfl⟩;rw[FQ.out];by_cases hc1:C1=0;rotate_left
  ·have q0:(C1 != 0)=true:=by simpa using hc1
   obtain rfl:R=C1:=by rw[HD0.out,if_pos hc1]
   go_wp2;all_goals (try (exfalso;go_light;simp_all;done));go_ret;exact ⟨rfl,jy.out⟩
  subst hc1;have HD:=hide (show R=bE false U ie is K0 CE oe os ((List.zip is os).any (nR cols ocols)) from by rw[HD0.out];simp);go_wp2_with fail;refine (HI1.out _ (by exact HC.out) (by exact HN.out)).mono ?_;rintro e w1 ⟨⟨v,rfl,hov⟩,hb1⟩;obtain ⟨A4,c4,rfl⟩:=hov.form;obtain ⟨m,hm⟩: ∃m,is.length=m:=⟨_,rfl⟩;have zo:=ol_in hov rfl;rw[hm]at zo⊢;have HM:=hide hm;clear hov hm;have HN:=hide (HN.out.below hb1);have eY:=hide (eY.out.below hb1);have HC:=hide (HC.out.below hb1);have HO:=hide (HO.out.below hb1);obtain ⟨g0,g1,g2,g3,g4,g5,g6,g7,g8,g9,g10,g11,g12,g13,LR⟩:=dD hb1 LR g0 g1 g2 g3 g4 g5 g6 g7 g8 g9 g10 g11 g12 g13;have qi:=hide (aa jy.out hb1);clear hb1;have HK:=hide zo;clear zo;by_cases h0:ie=0;rotate_left
  ·have q0:(ie != 0)=true:=by simpa using h0
   obtain rfl:R=ie:=by rw[HD.out,bE,if_pos h0]
   go_wp2;all_goals (try (exfalso;go_light;simp_all;done));go_ret;exact ⟨rfl,qi.out⟩
  subst h0;by_cases hmz:m=0
  ·subst hmz;obtain rfl:R=8:=by rw[HD.out,bE];simp[HM.out]
   go_wp2;all_goals (try (exfalso;go_light;simp_all;done));go_ret;exact ⟨rfl,qi.out⟩
  have qz:((m:Int)==0)=false:=by simpa using hmz
  have qd:=hide hmz;go_wp2_with fail;refine (tu _ x A n c A' n' c' aK n'' c'').mono ?_;rintro e Y5 ⟨rfl,zl⟩;have HN:=hide (HN.out.below zl);have eY:=hide (eY.out.below zl);have HC:=hide (HC.out.below zl);have HO:=hide (HO.out.below zl);have HK:=hide (HK.out.below zl);obtain ⟨g0,g1,g2,g3,g4,g5,g6,g7,g8,g9,g10,g11,g12,g13,LR⟩:=dD zl LR g0 g1 g2 g3 g4 g5 g6 g7 g8 g9 g10 g11 g12 g13;have nS:=hide (aa qi.out zl);clear zl;rw[HU.out];cases U
  ·obtain rfl:R=0:=by rw[HD.out,bE];simp[HM.out,qd.out]
   go_wp2;all_goals (try (exfalso;go_light;simp_all;done));go_ret;exact ⟨rfl,nS.out⟩
  go_wp2_with fail;refine (jC _ A2 n2 c2 ocols HO.out).mono ?_;rintro e w6 ⟨rfl,rfl⟩;rw[Hu.out];by_cases hce:CE=0
  ·subst hce;go_wp2_with fail;refine (HI2.out _ (by exact HO.out) (by exact eY.out)).mono ?_;rintro e w7 ⟨⟨v2,rfl,nH⟩,cu⟩;obtain ⟨A5,c5,rfl⟩:=nH.form;obtain ⟨m2,hm2⟩: ∃m,os.length=m:=⟨_,rfl⟩;have zn:=ol_in nH rfl;rw[hm2]at zn⊢;have qc:=hide hm2;clear nH hm2;have HN:=hide (HN.out.below cu);have HC:=hide (HC.out.below cu);have HO:=hide (HO.out.below cu);have HK:=hide (HK.out.below cu);obtain ⟨g0,g1,g2,g3,g4,g5,g6,g7,g8,g9,g10,g11,g12,g13,LR⟩:=dD cu LR g0 g1 g2 g3 g4 g5 g6 g7 g8 g9 g10 g11 g12 g13;have ma:=hide (aa nS.out cu);clear cu;have xx:=hide zn;clear zn;by_cases hoe:oe=0
   ·subst hoe;by_cases hmm:m=m2
    ·subst hmm;have HD2:Hid (R=if (List.zip is os).any (nR cols ocols)=true then 7 else 0):=hide (by rw[HD.out,bE];simp[HM.out,qd.out,qc.out]);obtain ⟨W5,rfl⟩: ∃W,W=w7:=⟨_,rfl⟩;have h63:=HK.out.le;go_wp2;go_loopw [20] (λi wr=> ∃k:Nat,k<=m/\i=.int .i64 k/\(List.zip is os).any (nR cols ocols)=((List.zip is os).drop k).any (nR cols ocols)/\Below W5.heap.size W5 wr) (λi _=>m-(RowKit.intOf i).toNat)
     case atStart=>exact ⟨0,Nat.zero_le _,rfl,rfl,Below.refl _ _⟩
     case round=>
      obtain ⟨k,hk,rfl,heq,hb⟩:=hrel;have HE:=hide heq;clear heq;have HN:=hide (HN.out.below hb);have HC:=hide (HC.out.below hb);have HO:=hide (HO.out.below hb);have HK:=hide (HK.out.below hb);have xx:=hide (xx.out.below hb);obtain ⟨g0,g1,g2,g3,g4,g5,g6,g7,g8,g9,g10,g11,g12,g13,LR⟩:=dD hb LR g0 g1 g2 g3 g4 g5 g6 g7 g8 g9 g10 g11 g12 g13;have xU:=hide hb;clear hb;clear g0 g1 g2 g3 g4 g5 g6 g7 g8 g9 g10 g11 g12 g13;by_cases hlt:k<m
      ·obtain ⟨b,off,j1,vg,hBb,HX,e0,_⟩:=HK.out.int hlt
       first|(subst vg)|(injection vg with vg;injection vg with hA5 hA6;subst hA5;subst hA6)
       obtain ⟨b2,MQ,j2,rfl,LW,HY,f0,_⟩:=xx.out.int hlt;have hr1:=HR1.out (by first|rfl|trivial) j1 (mem_of_drop HX.out);have hr2:=HR2.out (by first|rfl|trivial) j2 (mem_of_drop HY.out);rw[IR.out]at hr1;rw[oP.out]at hr2;obtain ⟨i1,rfl⟩: ∃i:Nat,j1=(i:Int):=⟨j1.toNat,by omega⟩;obtain ⟨i2,rfl⟩: ∃i:Nat,j2=(i:Int):=⟨j2.toNat,by omega⟩;obtain ⟨b3,Dn,y1,hA1,LY,HZ1,_,p1,_,_⟩:=HC.out.col (k:=i1) (by omega)
       first|(subst hA1)|(injection hA1 with hA1;injection hA1 with hA7 hA8;subst hA7;subst hA8)
       obtain ⟨b4,MR,y2,rfl,L8,HZ2,_,q1,_,_⟩:=HO.out.col (k:=i2) (by omega);have DR:Hid ((List.zip is os).drop k=((i1:Int),(i2:Int)) :: (List.zip is os).drop (k+1)):=hide (by
        rw[List.zip,List.drop_zipWith,HX.out,HY.out,List.zipWith_cons_cons,List.drop_zipWith])
       have uK:Hid (nR cols ocols ((i1:Int),(i2:Int))=(y1.kind != y2.kind)):=hide (by
        rw[nR];simp only[Int.toNat_natCast];rw[dQ HZ1.out,dQ HZ2.out])
       have k0:(0:Int)<=(k:Int):=by omega
       have k1:(k:Int)<(m:Int):=by omega
       have UX:(0:Int)<=(i1:Int):=by omega
       have i11:(i1:Int)<(n1:Int):=hr1.2;have i20:(0:Int)<=(i2:Int):=by omega
       have i21:(i2:Int)<(n2:Int):=hr2.2;have jZ:=hide xU.out;have tH:=hide (aa ma.out xU.out);clear hr1 hr2 HZ1 HZ2 HX HY;obtain ⟨k3,hk3⟩: ∃q,y1.kind=q:=⟨_,rfl⟩;obtain ⟨k4,hk4⟩: ∃q,y2.kind=q:=⟨_,rfl⟩;rw[hk3]at p1 uK;rw[hk4]at q1 uK;clear hk3 hk4;go_wp2;go_quiet (fail);by_cases hq:k3=k4
       ·subst hq;have HN:Hid ((List.zip is os).any (nR cols ocols)=((List.zip is os).drop (k+1)).any (nR cols ocols)):=hide (by rw[HE.out,DR.out,List.any_cons,uK.out];simp);go_wp2;all_goals (try (exfalso;go_light;simp_all;done));go_roundw
        case rel=>exact ⟨k+1,by omega,by go_num,HN.out,below_drewN jZ.out _⟩
        case measure=>simp[RowKit.intOf];omega
       ·have hq2:(k3 != k4)=true:=by simpa using hq
        obtain rfl:R=7:=by rw[HD2.out,HE.out,DR.out,List.any_cons,uK.out,hq2];simp
        go_wp2;all_goals (try (exfalso;go_light;simp_all;done));go_ret;exact ⟨rfl,below_drewN tH.out _⟩
      ·obtain rfl:R=0:=by rw[HD2.out,HE.out,List.drop_eq_nil_of_le (by rw[List.length_zip,HM.out,qc.out];omega)];rfl
       have tH:=hide (aa ma.out xU.out);go_wp2;all_goals (try (exfalso;go_light;simp_all;done));go_ret;exact ⟨rfl,tH.out⟩
    ·have q5:((m:Int) != (m2:Int))=true:=by simp;omega
     obtain rfl:R=8:=by rw[HD.out,bE];simp[HM.out,qd.out,qc.out,hmm]
     go_wp2;all_goals (try (exfalso;go_light;simp_all;done));go_ret;exact ⟨rfl,ma.out⟩
   ·have q4:(oe != 0)=true:=by simpa using hoe
    obtain rfl:R=oe:=by rw[HD.out,bE];simp[HM.out,qd.out,hoe]
    go_wp2;all_goals (try (exfalso;go_light;simp_all;done));go_ret;exact ⟨rfl,ma.out⟩
  ·have q3:(CE != 0)=true:=by simpa using hce
   obtain rfl:R=CE:=by rw[HD.out,bE];simp[HM.out,qd.out,hce]
   go_wp2;all_goals (try (exfalso;go_light;simp_all;done));go_ret;exact ⟨rfl,nS.out⟩)
theorem Bd (hz:In w A5 n5 c5 zs)(hb0:n<=4096)(hb1:n'<=4096)(hb2:n1<=4096)(hb3:n2<=4096)(hp:jH x)(h4:¬x.kind=4)(h5:¬x.kind=5)(p0:(x.policy==0)=false)(h2:(x.kind==2)=false)(h6:(x.kind==6)=true):
  Calls Tryz.prog 80 #[.agg (ak x A n c A' n' c' aK n'' c'').toArray,.slice A1 n1 c1,.slice A2 n2 c2,.slice A5 n5 c5] w λe w'=>e=.returned (.int .i64 (aR x cols ocols zs))/\Below w.heap.size w w':=by
 have _:=hq;have HD0:=hide (show aR x cols ocols zs=if aA cols≠0 then aA cols else kz x cols ocols from by
  rw[gD x cols ocols zs hp.1 hp.2];have:iW x.kind=false:=by rw[iW];simp[h4,h5]
  rw[this];simp)
 rw[qB x cols ocols]at HD0;have HI1:=hide λW hx hy=>iM W A1 n1 c1 cols hx A n c x.cols hy (by omega) (by omega);have HI2:=hide λW hx hy=>iM W A2 n2 c2 ocols hx A' n' c' x.ocols hy (by omega) (by omega);have HR1:=hide (λh=>lU (cols:=cols) (names:=x.cols) h);have HR2:=hide (λh=>lU (cols:=ocols) (names:=x.ocols) h);have yG:=hide (Nat.le_trans (iN cols x.cols) (by rw[hn.len];exact hb0));have yH:=hide (Nat.le_trans (iN ocols x.ocols) (by rw[hn'.len];exact hb1));have IR:=hide hc.len;have oP:=hide ho.len;obtain ⟨R,hR⟩: ∃R,aR x cols ocols zs=R:=⟨_,rfl⟩;obtain ⟨I1,hI1⟩: ∃I,aW cols x.cols=I:=⟨_,rfl⟩;obtain ⟨I2,hI2⟩: ∃I,aW ocols x.ocols=I:=⟨_,rfl⟩;obtain ⟨U,hU⟩: ∃U,cK x.kind=U:=⟨_,rfl⟩;rw[hR,hI1,hI2,hU]at HD0;rw[hI1]at HI1 HR1 yG;rw[hI2]at HI2 HR2 yH;rw[hR];have HU:=hide hU;clear hR hI1 hI2 hU;obtain ⟨ie,is⟩:=I1;obtain ⟨oe,os⟩:=I2;simp only at HD0 HI1 HI2 HR1 HR2 yG yH;obtain ⟨K0,Gz⟩: ∃K,(cols.getD (is.getD 0 0).toNat default).kind=K:=⟨_,rfl⟩;rw[Gz]at HD0;have NU:=hide Gz;clear Gz;obtain ⟨CE,CY⟩: ∃CE,aA ocols=CE:=⟨_,rfl⟩;rw[CY]at HD0;have Hu:=hide CY;obtain ⟨C1,wm⟩: ∃CE,aA cols=CE:=⟨_,rfl⟩;rw[wm]at HD0;have FQ:=hide wm;obtain ⟨sg,hsg⟩: ∃s,(x.kind==2 || x.kind==6)=s:=⟨_,rfl⟩;rw[hsg]at HD0;clear CY wm;obtain rfl:sg=true:=by rw[<-hsg,h2,h6];rfl
 obtain ⟨d1,d2,d3,d4⟩:=hp.dec;have e4:(x.kind==4)=false:=by simpa using h4
 have e5:(x.kind==5)=false:=by simpa using h5
 clear hsg h4 h5 hp;simp only[ak];go_enter Tryz.func80,Tryz.ntmps80;have HN:=hide hn;clear hn;have eY:=hide hn';clear hn';have HC:=hide hc;clear hc;have HO:=hide ho;clear ho;go_wp2_with fail;obtain ⟨W1,hW1⟩: ∃W,W=w.alloc (.cells #[.string x.name,.string x.table,.int .i64 x.kind,.slice A n c,.string x.other,.slice A' n' c',.int .i64 x.low,.int .i64 x.high,.slice aK n'' c'',.int .i64 x.ln,.int .i64 x.ld,.int .i64 x.mn,.int .i64 x.md,.int .i64 x.policy] 27):=⟨_,rfl⟩;obtain ⟨hbW1,gB,g0,g1,g2,g3,g4,g5,g6,g7,g8,g9,g10,g11,g12,g13⟩:=bM hW1 rfl;rw[<-hW1];clear hW1;have HN:=hide (HN.out.below hbW1);have eY:=hide (eY.out.below hbW1);have HC:=hide (HC.out.below hbW1);have HO:=hide (HO.out.below hbW1);have dW:=hide hbW1;clear hbW1;have LR:=lt_of_cell g0;go_wp2_with fail;refine (jC _ A1 n1 c1 cols HC.out).mono ?_;rintro e w6 ⟨rfl,rfl⟩;rw[FQ.out];by_cases hc1:C1=0;rotate_left
 ·have q0:(C1 != 0)=true:=by simpa using hc1
  obtain rfl:R=C1:=by rw[HD0.out,if_pos hc1]
  go_wp2;all_goals (try (exfalso;go_light;simp_all;done));go_ret;exact ⟨rfl,dW.out⟩
 subst hc1;have HD:=hide (show R=bE true U ie is K0 CE oe os ((List.zip is os).any (nR cols ocols)) from by rw[HD0.out];simp);go_wp2_with fail;refine (HI1.out _ (by exact HC.out) (by exact HN.out)).mono ?_;rintro e w1 ⟨⟨v,rfl,hov⟩,hb1⟩;obtain ⟨A4,c4,rfl⟩:=hov.form;obtain ⟨m,hm⟩: ∃m,is.length=m:=⟨_,rfl⟩;have zo:=ol_in hov rfl;rw[hm]at zo⊢;have HM:=hide hm;clear hov hm;have HN:=hide (HN.out.below hb1);have eY:=hide (eY.out.below hb1);have HC:=hide (HC.out.below hb1);have HO:=hide (HO.out.below hb1);obtain ⟨g0,g1,g2,g3,g4,g5,g6,g7,g8,g9,g10,g11,g12,g13,LR⟩:=dD hb1 LR g0 g1 g2 g3 g4 g5 g6 g7 g8 g9 g10 g11 g12 g13;have gM:=hide (aa dW.out hb1);clear hb1;have HK:=hide zo;clear zo;by_cases h0:ie=0;rotate_left
 ·have q0:(ie != 0)=true:=by simpa using h0
  obtain rfl:R=ie:=by rw[HD.out,bE,if_pos h0]
  go_wp2;all_goals (try (exfalso;go_light;simp_all;done));go_ret;exact ⟨rfl,gM.out⟩
 subst h0;by_cases hmz:m=0
 ·subst hmz;obtain rfl:R=8:=by rw[HD.out,bE];simp[HM.out]
  go_wp2;all_goals (try (exfalso;go_light;simp_all;done));go_ret;exact ⟨rfl,gM.out⟩
 have qz:((m:Int)==0)=false:=by simpa using hmz
 have qd:=hide hmz;by_cases hm1:1<m
 ·have q1:decide (1<(m:Int))=true:=by simp;omega
  obtain rfl:R=8:=by rw[HD.out,bE];simp[HM.out,hm1]
  go_wp2;all_goals (try (exfalso;go_light;simp_all;done));go_ret;exact ⟨rfl,gM.out⟩
 have q1:decide (1<(m:Int))=false:=by simp;omega
 have wy:=hide hm1;obtain ⟨b0,o0,j0,rfl,O8,HX0,e0,_⟩:=HK.out.int (k:=0) (by omega);rw[Nat.add_zero]at e0;have hr0:=HR1.out (by first|rfl|trivial) j0 (mem_of_drop HX0.out);rw[IR.out]at hr0;obtain ⟨i0,rfl⟩: ∃i:Nat,j0=(i:Int):=⟨j0.toNat,by omega⟩;obtain ⟨bc,oc,y0,rfl,RH,HZ0,_,p0,_,_⟩:=HC.out.col (k:=i0) (by omega);have XX:(0:Int)<=(i0:Int):=by omega
 have XY:(i0:Int)<(n1:Int):=hr0.2;have Yf:(0:Int)<(m:Int):=by omega
 obtain ⟨k5,hk5⟩: ∃q,y0.kind=q:=⟨_,rfl⟩;have e5:K0=k5:=by
  rw[<-NU.out,dQ HX0.out,<-hk5];simp only[Int.toNat_natCast];rw[dQ HZ0.out]
 rw[hk5]at p0;subst e5;clear hk5 hr0 HX0 HZ0;by_cases hk2:K0=2;rotate_left
 ·have q2:(K0 != 2)=true:=by simpa using hk2
  obtain rfl:R=7:=by rw[HD.out,bE];simp[HM.out,qd.out,wy.out,hk2]
  go_wp2;all_goals (try (exfalso;go_light;simp_all;done));go_ret;exact ⟨rfl,gM.out⟩
 subst hk2;have q2:((2:Int) != 2)=false:=by decide
 go_wp2_with fail;refine (tu _ x A n c A' n' c' aK n'' c'').mono ?_;rintro e Y6 ⟨rfl,jL⟩;have HN:=hide (HN.out.below jL);have eY:=hide (eY.out.below jL);have HC:=hide (HC.out.below jL);have HO:=hide (HO.out.below jL);have HK:=hide (HK.out.below jL);obtain ⟨g0,g1,g2,g3,g4,g5,g6,g7,g8,g9,g10,g11,g12,g13,LR⟩:=dD jL LR g0 g1 g2 g3 g4 g5 g6 g7 g8 g9 g10 g11 g12 g13;have mG:=hide (aa gM.out jL);clear jL;rw[HU.out];cases U
 ·obtain rfl:R=0:=by rw[HD.out,bE];simp[HM.out,qd.out,wy.out]
  go_wp2;all_goals (try (exfalso;go_light;simp_all;done));go_ret;exact ⟨rfl,mG.out⟩
 go_wp2_with fail;refine (jC _ A2 n2 c2 ocols HO.out).mono ?_;rintro e w6 ⟨rfl,rfl⟩;rw[Hu.out];by_cases hce:CE=0
 ·subst hce;go_wp2_with fail;refine (HI2.out _ (by exact HO.out) (by exact eY.out)).mono ?_;rintro e w7 ⟨⟨v2,rfl,nH⟩,cu⟩;obtain ⟨A5,c5,rfl⟩:=nH.form;obtain ⟨m2,hm2⟩: ∃m,os.length=m:=⟨_,rfl⟩;have zn:=ol_in nH rfl;rw[hm2]at zn⊢;have qc:=hide hm2;clear nH hm2;have HN:=hide (HN.out.below cu);have HC:=hide (HC.out.below cu);have HO:=hide (HO.out.below cu);have HK:=hide (HK.out.below cu);obtain ⟨g0,g1,g2,g3,g4,g5,g6,g7,g8,g9,g10,g11,g12,g13,LR⟩:=dD cu LR g0 g1 g2 g3 g4 g5 g6 g7 g8 g9 g10 g11 g12 g13;have kL:=hide (aa mG.out cu);clear cu;have xx:=hide zn;clear zn;by_cases hoe:oe=0
  ·subst hoe;by_cases hmm:m=m2
   ·subst hmm;have HD2:Hid (R=if (List.zip is os).any (nR cols ocols)=true then 7 else 0):=hide (by rw[HD.out,bE];simp[HM.out,qd.out,wy.out,qc.out]);obtain ⟨W5,rfl⟩: ∃W,W=w7:=⟨_,rfl⟩;have h63:=HK.out.le;go_wp2;go_loopw [20] (λi wr=> ∃k:Nat,k<=m/\i=.int .i64 k/\(List.zip is os).any (nR cols ocols)=((List.zip is os).drop k).any (nR cols ocols)/\Below W5.heap.size W5 wr) (λi _=>m-(RowKit.intOf i).toNat)
    case atStart=>exact ⟨0,Nat.zero_le _,rfl,rfl,Below.refl _ _⟩
    case round=>
     obtain ⟨k,hk,rfl,heq,hb⟩:=hrel;have HE:=hide heq;clear heq;have HN:=hide (HN.out.below hb);have HC:=hide (HC.out.below hb);have HO:=hide (HO.out.below hb);have HK:=hide (HK.out.below hb);have xx:=hide (xx.out.below hb);obtain ⟨g0,g1,g2,g3,g4,g5,g6,g7,g8,g9,g10,g11,g12,g13,LR⟩:=dD hb LR g0 g1 g2 g3 g4 g5 g6 g7 g8 g9 g10 g11 g12 g13;have iA:=hide hb;clear hb;clear g0 g1 g2 g3 g4 g5 g6 g7 g8 g9 g10 g11 g12 g13;by_cases hlt:k<m
     ·obtain ⟨b,off,j1,vg,hBb,HX,e0,_⟩:=HK.out.int hlt
      first|(subst vg)|(injection vg with vg;injection vg with hA5 hA6;subst hA5;subst hA6)
      obtain ⟨b2,MQ,j2,rfl,LW,HY,f0,_⟩:=xx.out.int hlt;have hr1:=HR1.out (by first|rfl|trivial) j1 (mem_of_drop HX.out);have hr2:=HR2.out (by first|rfl|trivial) j2 (mem_of_drop HY.out);rw[IR.out]at hr1;rw[oP.out]at hr2;obtain ⟨i1,rfl⟩: ∃i:Nat,j1=(i:Int):=⟨j1.toNat,by omega⟩;obtain ⟨i2,rfl⟩: ∃i:Nat,j2=(i:Int):=⟨j2.toNat,by omega⟩;obtain ⟨b3,Dn,y1,hA1,LY,HZ1,_,p1,_,_⟩:=HC.out.col (k:=i1) (by omega)
      first|(subst hA1)|(injection hA1 with hA1;injection hA1 with hA7 hA8;subst hA7;subst hA8)
      obtain ⟨b4,MR,y2,rfl,L8,HZ2,_,q1,_,_⟩:=HO.out.col (k:=i2) (by omega);have DR:Hid ((List.zip is os).drop k=((i1:Int),(i2:Int)) :: (List.zip is os).drop (k+1)):=hide (by
       rw[List.zip,List.drop_zipWith,HX.out,HY.out,List.zipWith_cons_cons,List.drop_zipWith])
      have uK:Hid (nR cols ocols ((i1:Int),(i2:Int))=(y1.kind != y2.kind)):=hide (by
       rw[nR];simp only[Int.toNat_natCast];rw[dQ HZ1.out,dQ HZ2.out])
      have k0:(0:Int)<=(k:Int):=by omega
      have k1:(k:Int)<(m:Int):=by omega
      have UX:(0:Int)<=(i1:Int):=by omega
      have i11:(i1:Int)<(n1:Int):=hr1.2;have i20:(0:Int)<=(i2:Int):=by omega
      have i21:(i2:Int)<(n2:Int):=hr2.2;have jZ:=hide iA.out;have tH:=hide (aa kL.out iA.out);clear hr1 hr2 HZ1 HZ2 HX HY;obtain ⟨k3,hk3⟩: ∃q,y1.kind=q:=⟨_,rfl⟩;obtain ⟨k4,hk4⟩: ∃q,y2.kind=q:=⟨_,rfl⟩;rw[hk3]at p1 uK;rw[hk4]at q1 uK;clear hk3 hk4;go_wp2;go_quiet (fail);by_cases hq:k3=k4
      ·subst hq;have HN:Hid ((List.zip is os).any (nR cols ocols)=((List.zip is os).drop (k+1)).any (nR cols ocols)):=hide (by rw[HE.out,DR.out,List.any_cons,uK.out];simp);go_wp2;all_goals (try (exfalso;go_light;simp_all;done));go_roundw
       case rel=>exact ⟨k+1,by omega,by go_num,HN.out,below_drewN jZ.out _⟩
       case measure=>simp[RowKit.intOf];omega
      ·have hq2:(k3 != k4)=true:=by simpa using hq
       obtain rfl:R=7:=by rw[HD2.out,HE.out,DR.out,List.any_cons,uK.out,hq2];simp
       go_wp2;all_goals (try (exfalso;go_light;simp_all;done));go_ret;exact ⟨rfl,below_drewN tH.out _⟩
     ·obtain rfl:R=0:=by rw[HD2.out,HE.out,List.drop_eq_nil_of_le (by rw[List.length_zip,HM.out,qc.out];omega)];rfl
      have tH:=hide (aa kL.out iA.out);go_wp2;all_goals (try (exfalso;go_light;simp_all;done));go_ret;exact ⟨rfl,tH.out⟩
   ·have q5:((m:Int) != (m2:Int))=true:=by simp;omega
    obtain rfl:R=8:=by rw[HD.out,bE];simp[HM.out,qd.out,wy.out,qc.out,hmm]
    go_wp2;all_goals (try (exfalso;go_light;simp_all;done));go_ret;exact ⟨rfl,kL.out⟩
  ·have q4:(oe != 0)=true:=by simpa using hoe
   obtain rfl:R=oe:=by rw[HD.out,bE];simp[HM.out,qd.out,wy.out,hoe]
   go_wp2;all_goals (try (exfalso;go_light;simp_all;done));go_ret;exact ⟨rfl,kL.out⟩
 ·have q3:(CE != 0)=true:=by simpa using hce
  obtain rfl:R=CE:=by rw[HD.out,bE];simp[HM.out,qd.out,wy.out,hce]
  go_wp2;all_goals (try (exfalso;go_light;simp_all;done));go_ret;exact ⟨rfl,mG.out⟩
theorem yl (hz:In w A5 n5 c5 zs)(hb0:n<=4096)(hb1:n'<=4096)(hb2:n1<=4096)(hb3:n2<=4096)(hp:jH x)(h4:¬x.kind=4)(h5:¬x.kind=5):
  Calls Tryz.prog 80 #[.agg (ak x A n c A' n' c' aK n'' c'').toArray,.slice A1 n1 c1,.slice A2 n2 c2,.slice A5 n5 c5] w λe w'=>e=.returned (.int .i64 (aR x cols ocols zs))/\Below w.heap.size w w':=by
 cases p0:(x.policy==0)
 ·cases q1:(x.kind==2)
  ·cases q2:(x.kind==6)
   ·exact vX w x A n c hn A' n' c' hn' aK n'' c'' hq A1 n1 c1 cols hc A2 n2 c2 ocols ho A5 n5 c5 zs hz hb0 hb1 hb2 hb3 hp h4 h5 (.inr ⟨p0,q1,q2⟩)
   ·exact Bd w x A n c hn A' n' c' hn' aK n'' c'' hq A1 n1 c1 cols hc A2 n2 c2 ocols ho A5 n5 c5 zs hz hb0 hb1 hb2 hb3 hp h4 h5 p0 q1 q2
  ·exact vW w x A n c hn A' n' c' hn' aK n'' c'' hq A1 n1 c1 cols hc A2 n2 c2 ocols ho A5 n5 c5 zs hz hb0 hb1 hb2 hb3 hp h4 h5 (.inr ⟨p0,q1⟩)
 ·have q2:(x.kind==6)=false:=by
   have h0:x.policy=0:=by simpa using p0
   have:=hp.2;simp only[beq_eq_false_iff_ne];omega
  cases q1:(x.kind==2)
  ·exact vX w x A n c hn A' n' c' hn' aK n'' c'' hq A1 n1 c1 cols hc A2 n2 c2 ocols ho A5 n5 c5 zs hz hb0 hb1 hb2 hb3 hp h4 h5 (.inl ⟨p0,q2,q1⟩)
  ·exact vW w x A n c hn A' n' c' hn' aK n'' c'' hq A1 n1 c1 cols hc A2 n2 c2 ocols ho A5 n5 c5 zs hz hb0 hb1 hb2 hb3 hp h4 h5 (.inl ⟨p0,q2,q1⟩)
end
end Go.Proofs.YtggejcekmehocaaGreatDoor
