/-
  Kinds of operands: scalar.kind's methods, scalar.common, slices.ContainsFunc over kinds; the reference's fits and common. partition.day, Day, check; warehouseref22.Day, days. warehouseworld.Place, Zone, SameInts.
-/
import Derived.Test.YtopjjlmfilgngaaGreatDoorProg
import Derived.Test.YtopjjlmfilgngaaGreatDoorStk
import Derived.Test.YtopjjlmfilgngaaGreatDoorGaa
import Derived.Test.YtopjjlmfilgngaaGreatDoorGak
import Derived.Test.YtopjjlmfilgngaaGreatDoorGaj
import Derived.Test.YtopjjlmfilgngaaGreatDoorGad
import Derived.Test.YtopjjlmfilgngaaGreatDoorGae
namespace Go.Proofs.YtopjjlmfilgngaaGreatDoor
set_option maxHeartbeats 1000000
set_option maxRecDepth 100000
open Go.RowKit
set_option linter.unusedSimpArgs false
set_option linter.unusedVariables false
def Kd.cells (x:Kd):List Value:=[.int .i64 x.kind,.bool x.null]
instance:Rep Kd where
 size:=2
 rd _ _ cs x:=cs=x.cells/\eZ x.kind
 len h:=by rw[h.1];rfl
 keep _ h:=h
 mono _ h:=h
instance:Flat Kd where
 cs x:=x.cells
 ok x:=eZ x.kind
 rd_mk _ _ _ h:=⟨rfl,h⟩
 cs_len _:=rfl
 cs_one v u hu:=by simp[Kd.cells]at hu;rcases hu with rfl|rfl <;> rfl
 pos:=by decide
theorem In.kd {w:World}{A:Option Addr}{n c k:Nat}{xs:List Kd}(h:In w A n c xs)(hk:k<n): ∃b off x,A=some ⟨b,off,none⟩/\b<w.heap.size/\Hid (xs.drop k=x :: xs.drop (k+1))/\
  w.cell? ⟨b,off+k*2,none⟩=some (.int .i64 x.kind)/\w.cell? ⟨b,off+k*2+1,none⟩=some (.bool x.null)/\eZ x.kind:=by
 obtain ⟨b,off,x,e,hb,hx,cs,⟨rfl,hv⟩,hc⟩:=h.get hk;exact ⟨b,off,x,e,hb,hx,hc 0 (by simp[Kd.cells]),hc 1 (by simp[Kd.cells]),hv⟩
theorem Nc (k:Int)(b:Bool)(need:Int)(w:World):Calls Tryz.prog 239 #[.agg #[.int .i64 k,.bool b],.int .i64 need] w λe w'=>e=.returned (.bool (fits ⟨k,b⟩ need))/\Below w.heap.size w w':=by
 go_enter Tryz.func239,Tryz.ntmps239;go_wp2;all_goals (go_ret;refine ⟨ay ?_,ae⟩;go_light;simp_all[fits])
theorem iA (k:Int)(b:Bool)(need:Int)(w:World):Calls Tryz.prog 157 #[.agg #[.int .i64 k,.bool b],.int .i64 need] w λe w'=>e=.returned (.bool (fits ⟨k,b⟩ need))/\Below w.heap.size w w':=by
 go_enter Tryz.func157,Tryz.ntmps157;go_wp2;all_goals (go_ret;refine ⟨ay ?_,ae⟩;go_light;simp_all[fits])
theorem GX (k k':Int)(b b':Bool)(w:World):Calls Tryz.prog 240 #[.agg #[.int .i64 k,.bool b],.agg #[.int .i64 k',.bool b']] w λe w'=>e=.returned (.tuple #[.int .i64 (common ⟨k,b⟩ ⟨k',b'⟩).1,.bool (common ⟨k,b⟩ ⟨k',b'⟩).2])/\Below w.heap.size w w':=by
 by_cases h0:k=0
 ·subst h0;go_enter Tryz.func240,Tryz.ntmps240;go_wp2;go_ret2;exact ⟨by simp[common],below_alloc2⟩
 ·have q:(k==0)=false:=by simpa using h0
  have HC:Hid (common ⟨k,b⟩ ⟨k',b'⟩=(k,fits ⟨k',b'⟩ k)):=hide (by simp[common,h0]);clear h0;go_enter Tryz.func240,Tryz.ntmps240;go_wp2;go_region_held3 (λV=>V.cell? ⟨w.heap.size,0,none⟩=some (.int .i64 k)/\V.cell? ⟨w.heap.size+1,0,none⟩=some (.int .i64 k')/\V.cell? ⟨w.heap.size+1,1,none⟩=some (.bool b')/\Below w.heap.size w V) (first|exact ⟨by go_keep,by go_keep,by go_keep,below_alloc2.drew⟩|exact ⟨ah hb1 (by simp;omega) (by simp[go_sem]),ah hb1 (by simp) (by simp[go_sem]),ah hb1 (by simp) (by simp[go_sem]),aa below_alloc2.drew hb1⟩) (first|(go_at_call 239;refine (Nc _ _ _ _).mono ?_;rintro e w1 ⟨rfl,hb1⟩));go_wp2;go_ret2;exact ⟨by rw[HC.out];rfl,aa below_alloc2.drew hb1⟩
theorem mD (k k':Int)(b b':Bool)(w:World):Calls Tryz.prog 156 #[.agg #[.int .i64 k,.bool b],.agg #[.int .i64 k',.bool b']] w λe w'=>e=.returned (.tuple #[.int .i64 (common ⟨k,b⟩ ⟨k',b'⟩).1,.bool (common ⟨k,b⟩ ⟨k',b'⟩).2])/\Below w.heap.size w w':=by
 by_cases h0:k=0
 ·subst h0;go_enter Tryz.func156,Tryz.ntmps156;go_wp2;go_ret2;exact ⟨by simp[common],below_alloc2⟩
 ·have q:(k==0)=false:=by simpa using h0
  have HC:Hid (common ⟨k,b⟩ ⟨k',b'⟩=(k,fits ⟨k',b'⟩ k)):=hide (by simp[common,h0]);clear h0;go_enter Tryz.func156,Tryz.ntmps156;go_wp2;go_region_held3 (λV=>V.cell? ⟨w.heap.size,0,none⟩=some (.int .i64 k)/\V.cell? ⟨w.heap.size+1,0,none⟩=some (.int .i64 k')/\V.cell? ⟨w.heap.size+1,1,none⟩=some (.bool b')/\Below w.heap.size w V) (first|exact ⟨by go_keep,by go_keep,by go_keep,below_alloc2.drew⟩|exact ⟨ah hb1 (by simp;omega) (by simp[go_sem]),ah hb1 (by simp) (by simp[go_sem]),ah hb1 (by simp) (by simp[go_sem]),aa below_alloc2.drew hb1⟩) (first|(go_at_call 157;refine (iA _ _ _ _).mono ?_;rintro e w1 ⟨rfl,hb1⟩));go_wp2;go_ret2;exact ⟨by rw[HC.out];rfl,aa below_alloc2.drew hb1⟩
theorem Tg (k:Int)(b:Bool)(w:World):Calls Tryz.prog 238 #[.agg #[.int .i64 k,.bool b]] w λe w'=>e=.returned (.bool b)/\Below w.heap.size w w':=by
 go_enter Tryz.func238,Tryz.ntmps238;go_wp2;go_ret;exact ⟨rfl,ae⟩
def ql:Nat->List Kd->Int
 | _,[]=> -1
 |k,x :: l=>if x.null then k else ql (k+1) l
theorem zL: ∀(l:List Kd) (k:Nat),decide (0<=ql k l)=l.any Kd.null
 | [],_=>rfl
 |x :: l,k=>by
  rw[ql,List.any_cons];cases h:x.null
  ·simpa using zL l (k+1)
  ·simp
theorem DC (w:World)(A:Option Addr)(n c:Nat)(xs:List Kd)(hx:In w A n c xs):
  Calls Tryz.prog 255 #[.slice A n c,.func (.func 238) #[] #[]] w
   λe w'=>e=.returned (.int .i64 (ql 0 xs))/\Below w.heap.size w w':=by
 have h63:=hx.le;go_enter Tryz.func255,Tryz.ntmps255;go_wp2;go_loopw [8] (λi wr=> ∃k:Nat,k<=n/\i=.int .i64 k/\ql 0 xs=ql k (xs.drop k)/\Below w.heap.size w wr) (λi _=>n-(intOf i).toNat)
 case atStart=>exact ⟨0,Nat.zero_le _,rfl,rfl,Below.refl _ _⟩
 case round=>
  obtain ⟨k,hk,rfl,heq,hb⟩:=hrel;have HE:=hide heq;clear heq;by_cases hlt':k<n
  ·obtain ⟨b,off,x,rfl,hB,HX,e0,e1,e3⟩:=(hx.below hb).kd hlt';go_wp2_with fail;refine (Tg _ _ _).mono ?_;rintro e w1 ⟨rfl,hb1⟩;have hbb:=aa hb hb1;clear hb1 e0 e1;cases hz:x.null
   ·go_wp2;go_roundw
    case rel=>exact ⟨k+1,by omega,by go_num,by rw[HE.out,HX.out,ql,if_neg (by simp[hz])],hbb⟩
    case measure=>simp[intOf];omega
   ·go_wp2;go_ret;exact ⟨ax (by rw[HE.out,HX.out,ql,if_pos hz]),hbb⟩
  ·go_wp2;go_ret;exact ⟨ax (by rw[HE.out,aI hx.len (by omega),ql]),hb⟩
theorem xL (w:World)(A:Option Addr)(n c:Nat)(xs:List Kd)(hx:In w A n c xs):
  Calls Tryz.prog 237 #[.slice A n c,.func (.func 238) #[] #[]] w
   λe w'=>e=.returned (.bool (xs.any Kd.null))/\Below w.heap.size w w':=by
 have HN:=hide (zL xs 0);go_enter Tryz.func237,Tryz.ntmps237;go_wp2_with fail;refine (DC _ _ _ _ xs hx).mono ?_;rintro e w1 ⟨rfl,hb1⟩;go_wp2;go_ret;exact ⟨ay HN.out,hb1⟩
theorem qx {cols:List Col}{row:List Val}(h:aG cols row=0):row.length=cols.length:=by
 by_cases h1:row.length=cols.length
 ·exact h1
 ·rw[aG,if_pos h1]at h;omega
theorem Oy (x n:Int)(hn:1<=n):(x.tmod n+n).tmod n=x % n/\ -n<x.tmod n/\x.tmod n<n:=by
 have h1:x.tmod n<n:=Int.tmod_lt_of_pos x (by omega);have h2: -n<x.tmod n:=by
  have h:=Int.tmod_lt_of_pos (-x) (show 0<n by omega);rw[Int.neg_tmod]at h;omega
 refine ⟨?_,h2,h1⟩;rw[Int.tmod_eq_emod_of_nonneg (by omega),Int.add_emod_right];have h3:=Int.mul_tdiv_add_tmod x n
 calc x.tmod n % n=(x.tmod n+n*x.tdiv n) % n:=by rw[Int.add_mul_emod_self_left]
  _=x % n:=by rw[show x.tmod n+n*x.tdiv n=x by omega]
theorem ul (x n:Int)(hn:1<=n)(hm:n<=1099511627776)(w:World):Calls Tryz.prog 12 #[.int .i64 x,.int .i64 n] w λe w'=>e=.returned (.int .i64 (x % n))/\w'=w:=by
 obtain ⟨h1,h2,h3⟩:=Oy x n hn;have q1:IntKind.i64.wrap (x.tmod n+n)=x.tmod n+n:=IntWalk.i64_in _ (by omega);have q2:IntKind.i64.wrap (x.tmod n)=x.tmod n:=IntWalk.i64_in _ (by omega);have h4:0<=x % n:=Int.emod_nonneg _ (by omega);have h5:x % n<n:=Int.emod_lt_of_pos _ (by omega);have q3:IntKind.i64.wrap (x % n)=x % n:=IntWalk.i64_in _ (by omega);have hn0:¬n=0:=by omega
 go_enter Tryz.func12,Tryz.ntmps12;go_wp2;all_goals (try (exfalso;go_light;simp_all;done));go_ret;exact ⟨rfl,rfl⟩
instance (n:Int):Decidable (eZ n):=inferInstanceAs (Decidable (_/\_))
end Go.Proofs.YtopjjlmfilgngaaGreatDoor
