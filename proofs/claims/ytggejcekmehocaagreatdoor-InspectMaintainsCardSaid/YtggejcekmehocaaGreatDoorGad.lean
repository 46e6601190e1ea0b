/-
  schema.IsName and warehouseref5.IsName. schema.Index (slices.IndexFunc over columns) and warehouseref5.Index. schema.Validate and warehouseref5.Validate. Package warehouseref1: Valid, Compare, CompareRows. Package value: Valid, Compare, CompareRows; package cmp's Or and Compare. expr.Arity and warehouseref8.Arity: both return arity. warehousebase: At, Moment, Value, Cell, Row: what they build is well-formed. warehousebase: Cell and Row: they fit their columns. schema.CheckRow and warehouseref5.CheckRow. warehousebase.Row: the row fits the columns and lies in a new block. Checked arithmetic: package exact's and the reference's, at integers from -2^30 to 2^30 (larger ones never come in); truth values. Package warehouseref1: CompareRows. bag.formed and warehouseref6.fits. slices.CompareFunc over values, value.CompareRows. bag.Validate, bag.IsTable; warehouseref6.Validate, positive, IsTable. Values of conditions, numbers and moments: scalar.boolean, number, moment and the reference's truth, number, moment. scalar.logic and warehouseref9.logic: they return logicV; a result block of three cells. (Printed by gen_logic.py.) Division: exact.divide, Divide, Modulo and the reference's, at integers from -2^30 to 2^30.
-/
import Derived.Test.YtggejcekmehocaaGreatDoorProg
import Derived.Test.YtggejcekmehocaaGreatDoorGac
import Derived.Test.YtggejcekmehocaaGreatDoorGaa
namespace Go.Proofs.YtggejcekmehocaaGreatDoor
set_option maxHeartbeats 2000000
set_option maxRecDepth 100000
open Go.RowKit
set_option linter.unusedSimpArgs false
set_option linter.unusedVariables false
theorem pE (s:ByteArray)(i:Nat)(h:i<s.size):dY s i=(s[i]'h).toNat:=by
 have h':i<s.data.toList.length:=by simpa using h
 have:s.data.toList.getD i 0=s[i]'h:=by rw[List.getD,List.getElem?_eq_getElem h'];rfl
 rw[dY,this]
theorem JH (P:Program)(w:World)(s:ByteArray)(pos:Nat)(h:pos<s.size):
  ∃c wd:Nat,(∀ty,(Instr.next (.pointer (some ⟨w.heap.size,0,none⟩)) true ty).run P (w.iter s pos)=.ok (.tuple #[.bool true,.int .i64 pos,.int .i32 (c:Int)]) (w.iter s (pos+wd)))/\
   (c<128->c=dY s pos/\wd=1)/\(128<=c->128<=dY s pos)/\c<=2147483647:=by
 refine ⟨_,_,λty=>run_next_any w s pos ty h,λhc=>?_,λhc=>?_,decode_le s pos⟩
 ·by_cases ha:(s[pos]'h).toNat<128
  ·rw[decode_ascii s pos h ha,pE s pos h];exact ⟨rfl,rfl⟩
  ·have:=(decode_high s pos h (by omega)).1;omega
 ·by_cases ha:(s[pos]'h).toNat<128
  ·rw[decode_ascii s pos h ha]at hc;have:128<=(s[pos]'h).toNat:=hc;omega
  ·rw[pE s pos h];omega
theorem ug (s:ByteArray)(i:Nat)(h:i<s.size):fJ s (s.size-i) i=(gJ (dY s i) i&&fJ s (s.size-(i+1)) (i+1)):=by
 rw[show s.size-i=(s.size-(i+1))+1 from by omega,fJ]
theorem dG (s:ByteArray)(i:Nat)(h:i<s.size)(hb:gJ (dY s i) i=false):fJ s (s.size-i) i=false:=by
 rw[ug s i h,hb];rfl
theorem bY (s:ByteArray)(i:Nat)(h:i<s.size)(hb:gJ (dY s i) i=true):fJ s (s.size-i) i=fJ s (s.size-(i+1)) (i+1):=by
 rw[ug s i h,hb];rfl
theorem jX (c i:Nat)(h:128<=c):gJ c i=false:=by
 have h1:¬c<=122:=by omega
 have h2:¬c=95:=by omega
 have h3:¬c<=57:=by omega
 simp[gJ,h1,h2,h3]
theorem bg (c i:Nat):gJ c i=true↔(97<=c/\c<=122)\/(0<i/\(c=95\/(48<=c/\c<=57))):=by simp only[gJ,Bool.or_eq_true,Bool.and_eq_true,decide_eq_true_eq]
theorem Dm (s:ByteArray):(!s.toList.isEmpty)=decide (0<s.size):=by
 rw[ByteArray.toList_eq];have:s.size=s.data.toList.length:=rfl;rw[this];cases s.data.toList <;> simp
theorem nI (s:ByteArray)(hs:Str s)(w:World):
  Calls Tryz.prog 166 #[.string s] w λe w'=>e=.returned (.bool (bH s))/\Below w.heap.size w w':=by
 unfold Str at hs;go_enter Tryz.func166,Tryz.ntmps166;by_cases hl:s.size<=24
 ·go_wp2;go_loopw [3] (λ_ wr=> ∃pos:Nat,pos<=s.size/\wr=w.iter s pos/\fJ s s.size 0=fJ s (s.size-pos) pos) (λ_ wr=>s.size-wr.iterPos w.heap.size)
  case atStart=>exact ⟨0,by omega,rfl,rfl⟩
  case round=>
   obtain ⟨pos,hpos,rfl,heq⟩:=hrel;have HE:=hide heq;clear heq;by_cases hp:pos<s.size
   ·obtain ⟨c,wd,hnx,h1,h2,h3⟩:=JH Tryz.prog w s pos hp;have H1:=hide h1;clear h1;cases hA:decide ((97:Int)<=(c:Int))
    ·cases hC:((pos:Int)==0)
     ·cases hD:((c:Int)==95)
      ·cases hE:decide ((c:Int)<48)
       ·cases hF:decide ((57:Int)<(c:Int))
        ·go_wp2;all_goals (try (exfalso;go_light;(try simp only[decide_eq_true_eq,decide_eq_false_iff_not,beq_iff_eq,beq_eq_false_iff_ne,ne_eq,Bool.not_eq_true',Bool.not_eq_false']at*);omega));all_goals
          go_roundw
          case rel=>
           go_light
           (try simp only[decide_eq_true_eq,decide_eq_false_iff_not,beq_iff_eq,beq_eq_false_iff_ne,ne_eq]at*);obtain ⟨e1,rfl⟩:=H1.out (by omega);refine ⟨pos+1,by omega,rfl,?_⟩;rw[HE.out];exact bY s pos hp (by rw[<-e1];exact (bg c pos).2 (by omega))
          case measure=>
           go_light
           (try simp only[decide_eq_true_eq,decide_eq_false_iff_not,beq_iff_eq,beq_eq_false_iff_ne,ne_eq]at*);obtain ⟨e1,rfl⟩:=H1.out (by omega);simp;omega
        ·go_wp2;all_goals (try (exfalso;go_light;(try simp only[decide_eq_true_eq,decide_eq_false_iff_not,beq_iff_eq,beq_eq_false_iff_ne,ne_eq,Bool.not_eq_true',Bool.not_eq_false']at*);omega));all_goals
          go_ret;refine ⟨au ?_,ae⟩;go_light;have hbad:gJ (dY s pos) pos=false:=by
           by_cases hc:c<128
           ·rw[<-(H1.out hc).1];refine Bool.eq_false_iff.2 λh=>?_;have h':=(bg c pos).1 h
            (try simp only[decide_eq_true_eq,decide_eq_false_iff_not,beq_iff_eq,beq_eq_false_iff_ne,ne_eq]at*) <;> omega
           ·exact jX _ _ (h2 (by omega))
          rw[bH,HE.out,dG s pos hp hbad];simp
       ·go_wp2;all_goals (try (exfalso;go_light;(try simp only[decide_eq_true_eq,decide_eq_false_iff_not,beq_iff_eq,beq_eq_false_iff_ne,ne_eq,Bool.not_eq_true',Bool.not_eq_false']at*);omega));all_goals
         go_ret;refine ⟨au ?_,ae⟩;go_light;have hbad:gJ (dY s pos) pos=false:=by
          by_cases hc:c<128
          ·rw[<-(H1.out hc).1];refine Bool.eq_false_iff.2 λh=>?_;have h':=(bg c pos).1 h
           (try simp only[decide_eq_true_eq,decide_eq_false_iff_not,beq_iff_eq,beq_eq_false_iff_ne,ne_eq]at*) <;> omega
          ·exact jX _ _ (h2 (by omega))
         rw[bH,HE.out,dG s pos hp hbad];simp
      ·go_wp2;all_goals (try (exfalso;go_light;(try simp only[decide_eq_true_eq,decide_eq_false_iff_not,beq_iff_eq,beq_eq_false_iff_ne,ne_eq,Bool.not_eq_true',Bool.not_eq_false']at*);omega));all_goals
        go_roundw
        case rel=>
         go_light
         (try simp only[decide_eq_true_eq,decide_eq_false_iff_not,beq_iff_eq,beq_eq_false_iff_ne,ne_eq]at*);obtain ⟨e1,rfl⟩:=H1.out (by omega);refine ⟨pos+1,by omega,rfl,?_⟩;rw[HE.out];exact bY s pos hp (by rw[<-e1];exact (bg c pos).2 (by omega))
        case measure=>
         go_light
         (try simp only[decide_eq_true_eq,decide_eq_false_iff_not,beq_iff_eq,beq_eq_false_iff_ne,ne_eq]at*);obtain ⟨e1,rfl⟩:=H1.out (by omega);simp;omega
     ·go_wp2;all_goals (try (exfalso;go_light;(try simp only[decide_eq_true_eq,decide_eq_false_iff_not,beq_iff_eq,beq_eq_false_iff_ne,ne_eq,Bool.not_eq_true',Bool.not_eq_false']at*);omega));all_goals
       go_ret;refine ⟨au ?_,ae⟩;go_light;have hbad:gJ (dY s pos) pos=false:=by
        by_cases hc:c<128
        ·rw[<-(H1.out hc).1];refine Bool.eq_false_iff.2 λh=>?_;have h':=(bg c pos).1 h
         (try simp only[decide_eq_true_eq,decide_eq_false_iff_not,beq_iff_eq,beq_eq_false_iff_ne,ne_eq]at*) <;> omega
        ·exact jX _ _ (h2 (by omega))
       rw[bH,HE.out,dG s pos hp hbad];simp
    ·cases hB:decide ((c:Int)<=122)
     ·cases hC:((pos:Int)==0)
      ·cases hD:((c:Int)==95)
       ·cases hE:decide ((c:Int)<48)
        ·cases hF:decide ((57:Int)<(c:Int))
         ·go_wp2;all_goals (try (exfalso;go_light;(try simp only[decide_eq_true_eq,decide_eq_false_iff_not,beq_iff_eq,beq_eq_false_iff_ne,ne_eq,Bool.not_eq_true',Bool.not_eq_false']at*);omega));all_goals
           go_roundw
           case rel=>
            go_light
            (try simp only[decide_eq_true_eq,decide_eq_false_iff_not,beq_iff_eq,beq_eq_false_iff_ne,ne_eq]at*);obtain ⟨e1,rfl⟩:=H1.out (by omega);refine ⟨pos+1,by omega,rfl,?_⟩;rw[HE.out];exact bY s pos hp (by rw[<-e1];exact (bg c pos).2 (by omega))
           case measure=>
            go_light
            (try simp only[decide_eq_true_eq,decide_eq_false_iff_not,beq_iff_eq,beq_eq_false_iff_ne,ne_eq]at*);obtain ⟨e1,rfl⟩:=H1.out (by omega);simp;omega
         ·go_wp2;all_goals (try (exfalso;go_light;(try simp only[decide_eq_true_eq,decide_eq_false_iff_not,beq_iff_eq,beq_eq_false_iff_ne,ne_eq,Bool.not_eq_true',Bool.not_eq_false']at*);omega));all_goals
           go_ret;refine ⟨au ?_,ae⟩;go_light;have hbad:gJ (dY s pos) pos=false:=by
            by_cases hc:c<128
            ·rw[<-(H1.out hc).1];refine Bool.eq_false_iff.2 λh=>?_;have h':=(bg c pos).1 h
             (try simp only[decide_eq_true_eq,decide_eq_false_iff_not,beq_iff_eq,beq_eq_false_iff_ne,ne_eq]at*) <;> omega
            ·exact jX _ _ (h2 (by omega))
           rw[bH,HE.out,dG s pos hp hbad];simp
        ·go_wp2;all_goals (try (exfalso;go_light;(try simp only[decide_eq_true_eq,decide_eq_false_iff_not,beq_iff_eq,beq_eq_false_iff_ne,ne_eq,Bool.not_eq_true',Bool.not_eq_false']at*);omega));all_goals
          go_ret;refine ⟨au ?_,ae⟩;go_light;have hbad:gJ (dY s pos) pos=false:=by
           by_cases hc:c<128
           ·rw[<-(H1.out hc).1];refine Bool.eq_false_iff.2 λh=>?_;have h':=(bg c pos).1 h
            (try simp only[decide_eq_true_eq,decide_eq_false_iff_not,beq_iff_eq,beq_eq_false_iff_ne,ne_eq]at*) <;> omega
           ·exact jX _ _ (h2 (by omega))
          rw[bH,HE.out,dG s pos hp hbad];simp
       ·go_wp2;all_goals (try (exfalso;go_light;(try simp only[decide_eq_true_eq,decide_eq_false_iff_not,beq_iff_eq,beq_eq_false_iff_ne,ne_eq,Bool.not_eq_true',Bool.not_eq_false']at*);omega));all_goals
         go_roundw
         case rel=>
          go_light
          (try simp only[decide_eq_true_eq,decide_eq_false_iff_not,beq_iff_eq,beq_eq_false_iff_ne,ne_eq]at*);obtain ⟨e1,rfl⟩:=H1.out (by omega);refine ⟨pos+1,by omega,rfl,?_⟩;rw[HE.out];exact bY s pos hp (by rw[<-e1];exact (bg c pos).2 (by omega))
         case measure=>
          go_light
          (try simp only[decide_eq_true_eq,decide_eq_false_iff_not,beq_iff_eq,beq_eq_false_iff_ne,ne_eq]at*);obtain ⟨e1,rfl⟩:=H1.out (by omega);simp;omega
      ·go_wp2;all_goals (try (exfalso;go_light;(try simp only[decide_eq_true_eq,decide_eq_false_iff_not,beq_iff_eq,beq_eq_false_iff_ne,ne_eq,Bool.not_eq_true',Bool.not_eq_false']at*);omega));all_goals
        go_ret;refine ⟨au ?_,ae⟩;go_light;have hbad:gJ (dY s pos) pos=false:=by
         by_cases hc:c<128
         ·rw[<-(H1.out hc).1];refine Bool.eq_false_iff.2 λh=>?_;have h':=(bg c pos).1 h
          (try simp only[decide_eq_true_eq,decide_eq_false_iff_not,beq_iff_eq,beq_eq_false_iff_ne,ne_eq]at*) <;> omega
         ·exact jX _ _ (h2 (by omega))
        rw[bH,HE.out,dG s pos hp hbad];simp
     ·go_wp2;all_goals (try (exfalso;go_light;(try simp only[decide_eq_true_eq,decide_eq_false_iff_not,beq_iff_eq,beq_eq_false_iff_ne,ne_eq,Bool.not_eq_true',Bool.not_eq_false']at*);omega));all_goals
       go_roundw
       case rel=>
        go_light
        (try simp only[decide_eq_true_eq,decide_eq_false_iff_not,beq_iff_eq,beq_eq_false_iff_ne,ne_eq]at*);obtain ⟨e1,rfl⟩:=H1.out (by omega);refine ⟨pos+1,by omega,rfl,?_⟩;rw[HE.out];exact bY s pos hp (by rw[<-e1];exact (bg c pos).2 (by omega))
       case measure=>
        go_light
        (try simp only[decide_eq_true_eq,decide_eq_false_iff_not,beq_iff_eq,beq_eq_false_iff_ne,ne_eq]at*);obtain ⟨e1,rfl⟩:=H1.out (by omega);simp;omega
   ·have hnx: ∀ty,(Instr.next (.pointer (some ⟨w.heap.size,0,none⟩)) true ty).run Tryz.prog (w.iter s pos)=_:=λty=>run_next_end w s pos ty hp;go_wp2;go_ret;refine ⟨au ?_,ae⟩;go_light;have:pos=s.size:=by omega
    subst this;rw[bH,HE.out,Nat.sub_self,fJ];rw[Dm];simp[hl]
 ·go_wp2;go_ret;exact ⟨au (by simp[bH,hl]),Below.refl _ _⟩
theorem gI (s:ByteArray)(hs:Str s)(w:World):
  Calls Tryz.prog 152 #[.string s] w λe w'=>e=.returned (.bool (bH s))/\w=w':=by
 unfold Str at hs;go_enter Tryz.func152,Tryz.ntmps152;obtain hl|hl|hl:s.size<1\/24<s.size\/(1<=s.size/\s.size<=24):=by omega
 ·go_wp2;all_goals (try (exfalso;go_light;(try simp only[decide_eq_true_eq,decide_eq_false_iff_not,beq_iff_eq,beq_eq_false_iff_ne,ne_eq,Bool.not_eq_true',Bool.not_eq_false']at*);omega));all_goals
   go_ret;refine ⟨au ?_,rfl⟩;go_light;have h0:¬0<s.size:=by omega
   simp[bH,h0]
 ·go_wp2;all_goals (try (exfalso;go_light;(try simp only[decide_eq_true_eq,decide_eq_false_iff_not,beq_iff_eq,beq_eq_false_iff_ne,ne_eq,Bool.not_eq_true',Bool.not_eq_false']at*);omega));all_goals
   go_ret;refine ⟨au ?_,rfl⟩;go_light;have h0:¬s.size<=24:=by omega
   simp[bH,h0]
 ·obtain ⟨hl1,hl2⟩:=hl;have hz:0<s.size:=by omega
  obtain ⟨d,hd⟩: ∃d,(s[0]'hz).toNat=d:=⟨_,rfl⟩;have HD:Hid (d=dY s 0):=hide (by rw[pE s 0 hz,hd]);have early:(d<97\/122<d)->bH s=false:=λh=>by
   have hbad:gJ (dY s 0) 0=false:=by
    rw[<-HD.out];refine Bool.eq_false_iff.2 λh'=>?_;have:=(bg d 0).1 h';omega
   have:=dG s 0 hz hbad;rw[Nat.sub_zero]at this;rw[bH,this];simp
  cases Vx:decide ((d:Int)<97)
  ·cases hB0:decide ((122:Int)<(d:Int))
   ·go_wp2
    go_loop [3] (λi=> ∃pos:Nat,pos<=s.size/\i=.int .i64 pos/\fJ s s.size 0=fJ s (s.size-pos) pos) (λi=>s.size-(intOf i).toNat)
    case atStart=>exact ⟨0,by omega,rfl,rfl⟩
    case round=>
     obtain ⟨pos,hpos,rfl,heq⟩:=hrel;have HE:=hide heq;clear heq;by_cases hp:pos<s.size
     ·obtain ⟨c,hc⟩: ∃c,(s[pos]'hp).toNat=c:=⟨_,rfl⟩;have HC:Hid (c=dY s pos):=hide (by rw[pE s pos hp,hc]);have h0:pos=0->c=d:=by intro h;subst h;rw[HC.out,HD.out]
      cases hA:decide ((97:Int)<=(c:Int))
      ·cases hE:decide ((48:Int)<=(c:Int))
       ·cases hD:((c:Int)==95)
        ·go_wp2;all_goals (try (exfalso;go_light;(try simp only[decide_eq_true_eq,decide_eq_false_iff_not,beq_iff_eq,beq_eq_false_iff_ne,ne_eq,Bool.not_eq_true',Bool.not_eq_false']at*);omega));all_goals
          go_ret;refine ⟨au ?_,rfl⟩;go_light;have hbad:gJ (dY s pos) pos=false:=by
           rw[<-HC.out];refine Bool.eq_false_iff.2 λh=>?_;have h':=(bg c pos).1 h
           (try simp only[decide_eq_true_eq,decide_eq_false_iff_not,beq_iff_eq,beq_eq_false_iff_ne,ne_eq]at*) <;> omega
          rw[bH,HE.out,dG s pos hp hbad];simp
        ·go_wp2;all_goals (try (exfalso;go_light;(try simp only[decide_eq_true_eq,decide_eq_false_iff_not,beq_iff_eq,beq_eq_false_iff_ne,ne_eq,Bool.not_eq_true',Bool.not_eq_false']at*);omega));all_goals
          go_round
          case rel=>
           go_light
           (try simp only[decide_eq_true_eq,decide_eq_false_iff_not,beq_iff_eq,beq_eq_false_iff_ne,ne_eq]at*);refine ⟨pos+1,by omega,by go_num,?_⟩;rw[HE.out];exact bY s pos hp (by rw[<-HC.out];exact (bg c pos).2 (by omega))
          case measure=>simp[intOf];omega
       ·cases hF:decide ((c:Int)<=57)
        ·cases hD:((c:Int)==95)
         ·go_wp2;all_goals (try (exfalso;go_light;(try simp only[decide_eq_true_eq,decide_eq_false_iff_not,beq_iff_eq,beq_eq_false_iff_ne,ne_eq,Bool.not_eq_true',Bool.not_eq_false']at*);omega));all_goals
           go_ret;refine ⟨au ?_,rfl⟩;go_light;have hbad:gJ (dY s pos) pos=false:=by
            rw[<-HC.out];refine Bool.eq_false_iff.2 λh=>?_;have h':=(bg c pos).1 h
            (try simp only[decide_eq_true_eq,decide_eq_false_iff_not,beq_iff_eq,beq_eq_false_iff_ne,ne_eq]at*) <;> omega
           rw[bH,HE.out,dG s pos hp hbad];simp
         ·go_wp2;all_goals (try (exfalso;go_light;(try simp only[decide_eq_true_eq,decide_eq_false_iff_not,beq_iff_eq,beq_eq_false_iff_ne,ne_eq,Bool.not_eq_true',Bool.not_eq_false']at*);omega));all_goals
           go_round
           case rel=>
            go_light
            (try simp only[decide_eq_true_eq,decide_eq_false_iff_not,beq_iff_eq,beq_eq_false_iff_ne,ne_eq]at*);refine ⟨pos+1,by omega,by go_num,?_⟩;rw[HE.out];exact bY s pos hp (by rw[<-HC.out];exact (bg c pos).2 (by omega))
           case measure=>simp[intOf];omega
        ·go_wp2;all_goals (try (exfalso;go_light;(try simp only[decide_eq_true_eq,decide_eq_false_iff_not,beq_iff_eq,beq_eq_false_iff_ne,ne_eq,Bool.not_eq_true',Bool.not_eq_false']at*);omega));all_goals
          go_round
          case rel=>
           go_light
           (try simp only[decide_eq_true_eq,decide_eq_false_iff_not,beq_iff_eq,beq_eq_false_iff_ne,ne_eq]at*);refine ⟨pos+1,by omega,by go_num,?_⟩;rw[HE.out];exact bY s pos hp (by rw[<-HC.out];exact (bg c pos).2 (by omega))
          case measure=>simp[intOf];omega
      ·cases hB:decide ((c:Int)<=122)
       ·cases hE:decide ((48:Int)<=(c:Int))
        ·cases hD:((c:Int)==95)
         ·go_wp2;all_goals (try (exfalso;go_light;(try simp only[decide_eq_true_eq,decide_eq_false_iff_not,beq_iff_eq,beq_eq_false_iff_ne,ne_eq,Bool.not_eq_true',Bool.not_eq_false']at*);omega));all_goals
           go_ret;refine ⟨au ?_,rfl⟩;go_light;have hbad:gJ (dY s pos) pos=false:=by
            rw[<-HC.out];refine Bool.eq_false_iff.2 λh=>?_;have h':=(bg c pos).1 h
            (try simp only[decide_eq_true_eq,decide_eq_false_iff_not,beq_iff_eq,beq_eq_false_iff_ne,ne_eq]at*) <;> omega
           rw[bH,HE.out,dG s pos hp hbad];simp
         ·go_wp2;all_goals (try (exfalso;go_light;(try simp only[decide_eq_true_eq,decide_eq_false_iff_not,beq_iff_eq,beq_eq_false_iff_ne,ne_eq,Bool.not_eq_true',Bool.not_eq_false']at*);omega));all_goals
           go_round
           case rel=>
            go_light
            (try simp only[decide_eq_true_eq,decide_eq_false_iff_not,beq_iff_eq,beq_eq_false_iff_ne,ne_eq]at*);refine ⟨pos+1,by omega,by go_num,?_⟩;rw[HE.out];exact bY s pos hp (by rw[<-HC.out];exact (bg c pos).2 (by omega))
           case measure=>simp[intOf];omega
        ·cases hF:decide ((c:Int)<=57)
         ·cases hD:((c:Int)==95)
          ·go_wp2;all_goals (try (exfalso;go_light;(try simp only[decide_eq_true_eq,decide_eq_false_iff_not,beq_iff_eq,beq_eq_false_iff_ne,ne_eq,Bool.not_eq_true',Bool.not_eq_false']at*);omega));all_goals
            go_ret;refine ⟨au ?_,rfl⟩;go_light;have hbad:gJ (dY s pos) pos=false:=by
             rw[<-HC.out];refine Bool.eq_false_iff.2 λh=>?_;have h':=(bg c pos).1 h
             (try simp only[decide_eq_true_eq,decide_eq_false_iff_not,beq_iff_eq,beq_eq_false_iff_ne,ne_eq]at*) <;> omega
            rw[bH,HE.out,dG s pos hp hbad];simp
          ·go_wp2;all_goals (try (exfalso;go_light;(try simp only[decide_eq_true_eq,decide_eq_false_iff_not,beq_iff_eq,beq_eq_false_iff_ne,ne_eq,Bool.not_eq_true',Bool.not_eq_false']at*);omega));all_goals
            go_round
            case rel=>
             go_light
             (try simp only[decide_eq_true_eq,decide_eq_false_iff_not,beq_iff_eq,beq_eq_false_iff_ne,ne_eq]at*);refine ⟨pos+1,by omega,by go_num,?_⟩;rw[HE.out];exact bY s pos hp (by rw[<-HC.out];exact (bg c pos).2 (by omega))
            case measure=>simp[intOf];omega
         ·go_wp2;all_goals (try (exfalso;go_light;(try simp only[decide_eq_true_eq,decide_eq_false_iff_not,beq_iff_eq,beq_eq_false_iff_ne,ne_eq,Bool.not_eq_true',Bool.not_eq_false']at*);omega));all_goals
           go_round
           case rel=>
            go_light
            (try simp only[decide_eq_true_eq,decide_eq_false_iff_not,beq_iff_eq,beq_eq_false_iff_ne,ne_eq]at*);refine ⟨pos+1,by omega,by go_num,?_⟩;rw[HE.out];exact bY s pos hp (by rw[<-HC.out];exact (bg c pos).2 (by omega))
           case measure=>simp[intOf];omega
       ·go_wp2;all_goals (try (exfalso;go_light;(try simp only[decide_eq_true_eq,decide_eq_false_iff_not,beq_iff_eq,beq_eq_false_iff_ne,ne_eq,Bool.not_eq_true',Bool.not_eq_false']at*);omega));all_goals
         go_round
         case rel=>
          go_light
          (try simp only[decide_eq_true_eq,decide_eq_false_iff_not,beq_iff_eq,beq_eq_false_iff_ne,ne_eq]at*);refine ⟨pos+1,by omega,by go_num,?_⟩;rw[HE.out];exact bY s pos hp (by rw[<-HC.out];exact (bg c pos).2 (by omega))
         case measure=>simp[intOf];omega
     ·go_wp2;go_ret;refine ⟨au ?_,rfl⟩;go_light;have:pos=s.size:=by omega
      subst this;rw[bH,HE.out,Nat.sub_self,fJ];simp[hl2,hz]
   ·have he:=early (.inr (by simp only[decide_eq_true_eq]at hB0;omega));go_wp2;all_goals (go_ret;exact ⟨au he.symm,rfl⟩)
  ·have he:=early (.inl (by simp only[decide_eq_true_eq]at Vx;omega));go_wp2;all_goals (go_ret;exact ⟨au he.symm,rfl⟩)
theorem Jy (c:Col)(name:ByteArray)(g:Nat)(w:World)(hg:w.cell? ⟨g,0,none⟩=some (.string name))(hlt:g<w.heap.size):
  Calls Tryz.prog 148 #[.agg c.cells.toArray,.pointer (some ⟨g,0,none⟩)] w λe w'=>e=.returned (.bool (c.name.toList==name.toList))/\Below w.heap.size w w':=by
 simp only[Col.cells];go_enter Tryz.func148,Tryz.ntmps148;go_wp2;go_ret;exact ⟨rfl,ae⟩
theorem AO (w:World)(A:Option Addr)(n c:Nat)(xs:List Col)(hx:In w A n c xs)(name:ByteArray)(g:Nat)(hg:w.cell? ⟨g,0,none⟩=some (.string name))(hlt:g<w.heap.size):
  Calls Tryz.prog 147 #[.slice A n c,.func (.func 148) #[] #[.pointer (some ⟨g,0,none⟩)]] w
   λe w'=>e=.returned (.int .i64 (index xs name))/\Below w.heap.size w w':=by
 have h63:=hx.le;go_enter Tryz.func147,Tryz.ntmps147;go_wp2;go_loopw [8] (λi wr=> ∃k:Nat,k<=n/\i=.int .i64 k/\index xs name=aO name k (xs.drop k)/\Below w.heap.size w wr) (λi _=>n-(intOf i).toNat)
 case atStart=>exact ⟨0,Nat.zero_le _,rfl,rfl,Below.refl _ _⟩
 case round=>
  obtain ⟨k,hk,rfl,heq,hb⟩:=hrel;have HE:=hide heq;clear heq;by_cases hlt':k<n
  ·obtain ⟨b,off,x,rfl,hB,HX,e0,e1,e2,e3⟩:=(hx.below hb).col hlt';go_wp2_with fail;refine (Jy x name g _ (bat hb hlt hg) (Nat.lt_of_lt_of_le hlt hb.size)).mono ?_;rintro e w1 ⟨rfl,hb1⟩;have hbb:=aa hb hb1;clear hb1 e0 e1 e2;cases hz:(x.name.toList==name.toList)
   ·go_wp2;go_roundw
    case rel=>exact ⟨k+1,by omega,by go_num,by rw[HE.out,HX.out,aO,if_neg (by simp[hz])],hbb⟩
    case measure=>simp[intOf];omega
   ·go_wp2;go_ret;exact ⟨aj (by rw[HE.out,HX.out,aO,if_pos hz]),hbb⟩
  ·go_wp2;go_ret;exact ⟨aj (by rw[HE.out,aJ hx.len (by omega),aO]),hb⟩
theorem wY (w:World)(A:Option Addr)(n c:Nat)(xs:List Col)(hx:In w A n c xs)(name:ByteArray):
  Calls Tryz.prog 106 #[.slice A n c,.string name] w λe w'=>e=.returned (.int .i64 (index xs name))/\Below w.heap.size w w':=by
 go_enter Tryz.func106,Tryz.ntmps106;go_wp2_with fail;refine (AO _ _ _ _ xs (hx.below ae) name w.heap.size (by simp[go_sem]) (by simp)).mono ?_;rintro e w1 ⟨rfl,hb1⟩;have hbb:=aa ae hb1;go_wp2;go_ret;exact ⟨rfl,hbb⟩
theorem pR (w:World)(A:Option Addr)(n c:Nat)(xs:List Col)(hx:In w A n c xs)(name:ByteArray):
  Calls Tryz.prog 153 #[.slice A n c,.string name] w λe w'=>e=.returned (.int .i64 (index xs name))/\w=w':=by
 have h63:=hx.le;go_enter Tryz.func153,Tryz.ntmps153;go_wp2
 go_loop [5] (λi=> ∃k:Nat,k<=n/\i=.int .i64 k/\index xs name=aO name k (xs.drop k)) (λi=>n-(intOf i).toNat)
 case atStart=>exact ⟨0,Nat.zero_le _,rfl,rfl⟩
 case round=>
  obtain ⟨k,hk,rfl,heq⟩:=hrel;have HE:=hide heq;clear heq;by_cases hlt':k<n
  ·obtain ⟨b,off,x,rfl,hB,HX,e0,e1,e2,e3⟩:=hx.col hlt';cases hz:(x.name.toList==name.toList)
   ·go_wp2
    go_round
    case rel=>exact ⟨k+1,by omega,by go_num,by rw[HE.out,HX.out,aO,if_neg (by simp[hz])]⟩
    case measure=>simp[intOf];omega
   ·go_wp2;go_ret;exact ⟨aj (by rw[HE.out,HX.out,aO,if_pos hz]),rfl⟩
  ·go_wp2;go_ret;exact ⟨aj (by rw[HE.out,aJ hx.len (by omega),aO]),rfl⟩
theorem aT {α:Type}{f:Nat->α->Int}{k:Nat}{x:α}{l:List α}(h:f k x=0):ah f k (x :: l)=ah f (k+1) l:=by simp[ah,h]
theorem aH {α:Type}{f:Nat->α->Int}{k:Nat}{x:α}{l:List α}{e:Int}(h:f k x=e)(he:e≠0):ah f k (x :: l)=e:=by simp[ah,h,he]
theorem Dc (name:ByteArray)(l:List Col): ∀k i,(h:i<l.length)->(l[i].name.toList==name.toList)=true->0<=aO name k l/\aO name k l<=k+i:=by
 induction l with
 |nil=>intro k i h;simp at h
 |cons c l ih=>
  intro k i h he;rw[aO]
  split
  ·exact ⟨by omega,by omega⟩
  ·rename_i hc;cases i with
   |zero=>exact absurd he hc
   |succ i=>
    have:=ih (k+1) i (by simpa using h) (by simpa using he);omega
theorem pG (w:World)(A:Option Addr)(n c:Nat)(xs:List Col)(hx:In w A n c xs):
  Calls Tryz.prog 132 #[.slice A n c] w λe w'=>e=.returned (.int .i64 (aA xs))/\Below w.heap.size w w':=by
 have h63:=hx.le;have hlen:=hide hx.len;go_enter Tryz.func132,Tryz.ntmps132;by_cases hs:n<1\/12<n
 ·have he:Hid (2=aA xs):=hide (by rw[aA,hlen.out,if_pos hs]);rcases hs with hs|hs
  all_goals
   go_wp2;go_ret;exact ⟨aj he.out,Below.refl _ _⟩
 have jQ:Hid (aA xs=ah (fQ xs) 0 xs):=hide (by rw[aA,hlen.out,if_neg hs]);have hs1:1<=n:=by omega
 have hs2:n<=12:=by omega
 clear hs;go_wp2;go_loopw [15] (λi wr=> ∃k:Nat,k<=n/\i=.int .i64 k/\ah (fQ xs) 0 xs=ah (fQ xs) k (xs.drop k)/\Below w.heap.size w wr) (λi _=>n-(intOf i).toNat)
 case atStart=>exact ⟨0,Nat.zero_le _,rfl,rfl,Below.refl _ _⟩
 case round=>
  obtain ⟨k,hk,rfl,heq,hb⟩:=hrel;have HE:=hide heq;clear heq;by_cases hlt:k<n
  ·obtain ⟨b,off,x,rfl,hB,HX,e0,e1,e2,e3⟩:=(hx.below hb).col hlt;go_wp2_with fail;refine (nI x.name e3.1 _).mono ?_;rintro e w1 ⟨rfl,hb1⟩;have hbb:=aa (aa hb ae) hb1;obtain ⟨hc1,hf1⟩:=ai hb1;have hin:=hx.below hbb;clear hb1 e0 e1 e2;obtain ⟨hk1,hk2⟩:=e3.2;cases hnm:bH x.name
   ·go_wp2;go_ret;exact ⟨aj (by rw[jQ.out,HE.out,HX.out];exact (aH (by simp[fQ,hnm]) (by omega)).symm),hbb⟩
   ·by_cases hkd:x.kind<1\/4<x.kind
    ·have he:fQ xs k x=7:=by rw[fQ,if_neg (by simp[hnm]),if_pos hkd]
     have HR:Hid (7=aA xs):=hide (by rw[jQ.out,HE.out,HX.out];exact (aH he (by omega)).symm);clear he;rcases hkd with hkd|hkd
     all_goals
      go_wp2;go_ret;exact ⟨aj HR.out,hbb⟩
    ·have hk3:1<=x.kind:=by omega
     have hk4:x.kind<=4:=by omega
     have HC:Hid (fQ xs k x=if index xs x.name<k then 6 else 0):=hide (by rw[fQ,if_neg (by simp[hnm]),if_neg hkd]);clear hkd;go_wp2_with fail;refine (wY _ _ _ _ xs hin x.name).mono ?_;rintro e w2 ⟨rfl,hb2⟩;have ED:=aa hbb hb2;clear hb2 hc1 hf1;by_cases hi:index xs x.name<k
     ·have HR:Hid (6=aA xs):=hide (by rw[jQ.out,HE.out,HX.out];exact (aH (by rw[HC.out,if_pos hi]) (by omega)).symm);go_wp2;go_ret;exact ⟨aj HR.out,ED⟩
     ·go_wp2;go_roundw
      case rel=>exact ⟨k+1,by omega,by go_num,by rw[HE.out,HX.out];exact aT (by rw[HC.out,if_neg (by omega)]),ED⟩
      case measure=>simp[intOf];omega
  ·go_wp2;go_ret;exact ⟨aj (by rw[jQ.out,HE.out,aJ hx.len (by omega),ah]),hb⟩
theorem index_self {xs:List Col}{k:Nat}{x:Col}{l:List Col}(h:xs.drop k=x :: l):0<=index xs x.name/\index xs x.name<=k:=by
 obtain ⟨h1,h2⟩:=bX h;rw[List.getElem?_eq_getElem h2]at h1;injection h1 with h1;have:=Dc x.name xs 0 k h2 (by rw[h1];simp);rw[index];omega
theorem jC (w:World)(A:Option Addr)(n c:Nat)(xs:List Col)(hx:In w A n c xs):
  Calls Tryz.prog 118 #[.slice A n c] w λe w'=>e=.returned (.int .i64 (aA xs))/\w=w':=by
 have h63:=hx.le;have hlen:=hide hx.len;go_enter Tryz.func118,Tryz.ntmps118;by_cases hs:n<1\/12<n
 ·have he:Hid (2=aA xs):=hide (by rw[aA,hlen.out,if_pos hs]);rcases hs with hs|hs
  all_goals
   go_wp2;go_ret;exact ⟨aj he.out,rfl⟩
 have jQ:Hid (aA xs=ah (fQ xs) 0 xs):=hide (by rw[aA,hlen.out,if_neg hs]);have hs1:1<=n:=by omega
 have hs2:n<=12:=by omega
 clear hs;go_wp2
 go_loop [3] (λi=> ∃k:Nat,k<=n/\i=.int .i64 k/\ah (fQ xs) 0 xs=ah (fQ xs) k (xs.drop k)) (λi=>n-(intOf i).toNat)
 case atStart=>exact ⟨0,Nat.zero_le _,rfl,rfl⟩
 case round=>
  obtain ⟨k,hk,rfl,heq⟩:=hrel;have HE:=hide heq;clear heq;by_cases hlt:k<n
  ·obtain ⟨b,off,x,rfl,hB,HX,e0,e1,e2,e3⟩:=hx.col hlt;obtain ⟨hk1,hk2⟩:=e3.2;cases hnm:bH x.name
   ·go_wp2_with (go_at_call 152;refine (gI x.name e3.1 _).mono ?_;rintro e w' ⟨rfl,rfl⟩);go_ret;exact ⟨aj (by rw[jQ.out,HE.out,HX.out];exact (aH (by simp[fQ,hnm]) (by omega)).symm),rfl⟩
   ·by_cases hkd:x.kind<1\/4<x.kind
    ·have he:fQ xs k x=7:=by rw[fQ,if_neg (by simp[hnm]),if_pos hkd]
     have HR:Hid (7=aA xs):=hide (by rw[jQ.out,HE.out,HX.out];exact (aH he (by omega)).symm);clear he;rcases hkd with hkd|hkd
     all_goals
      go_wp2_with (go_at_call 152;refine (gI x.name e3.1 _).mono ?_;rintro e w' ⟨rfl,rfl⟩);go_ret;exact ⟨aj HR.out,rfl⟩
    ·have hk3:1<=x.kind:=by omega
     have hk4:x.kind<=4:=by omega
     have HC:Hid (fQ xs k x=if index xs x.name<k then 6 else 0):=hide (by rw[fQ,if_neg (by simp[hnm]),if_neg hkd]);clear hkd;obtain ⟨i1,i2⟩:=index_self HX.out;by_cases hi:index xs x.name=k
     ·have HR:Hid (fQ xs k x=0):=hide (by rw[HC.out,if_neg (by omega)]);have hz:(index xs x.name==(k:Int))=true:=by simp[hi]
      have HI:=hide hi;clear hi;go_wp2_with (first|(go_at_call 152;refine (gI x.name e3.1 _).mono ?_;rintro e w' ⟨rfl,rfl⟩)|(go_at_call 153;refine (pR _ _ _ _ xs hx x.name).mono ?_;rintro e w' ⟨rfl,rfl⟩));all_goals (try (exfalso;go_light;simp_all;done))
      go_round
      case rel=>exact ⟨k+1,by omega,by go_num,by rw[HE.out,HX.out];exact aT HR.out⟩
      case measure=>simp[intOf];omega
     ·have HR:Hid (6=aA xs):=hide (by rw[jQ.out,HE.out,HX.out];exact (aH (by rw[HC.out,if_pos (by omega)]) (by omega)).symm);have hz:(index xs x.name==(k:Int))=false:=by simp[hi]
      go_wp2_with (first|(go_at_call 152;refine (gI x.name e3.1 _).mono ?_;rintro e w' ⟨rfl,rfl⟩)|(go_at_call 153;refine (pR _ _ _ _ xs hx x.name).mono ?_;rintro e w' ⟨rfl,rfl⟩));all_goals (try (exfalso;go_light;simp_all;done));go_ret;exact ⟨aj HR.out,rfl⟩
  ·go_wp2;go_ret;exact ⟨aj (by rw[jQ.out,HE.out,aJ hx.len (by omega),ah]),rfl⟩
theorem xu (v:Val)(hv:v.ok)(w:World):
  Calls Tryz.prog 114 #[.agg v.cells.toArray] w λe w'=>e=.returned (.bool (valid v))/\Below w.heap.size w w':=by
 obtain ⟨k,n,s⟩:=v;simp only[Val.cells,Val.ok,Str,fP]at*;obtain ⟨⟨h1,h2⟩,⟨h3,h4⟩,h5⟩:=hv;go_enter Tryz.func114,Tryz.ntmps114;go_wp2;all_goals
  go_ret;refine ⟨au ?_,ae⟩;go_light;simp only[beq_iff_eq,beq_eq_false_iff_ne,ne_eq]at*;try subst k
  simp_all[valid,ek]
 all_goals (try omega);all_goals (try (repeat' split <;> omega))
theorem rW (a b:Int)(w:World):Calls Tryz.prog 117 #[.int .i64 a,.int .i64 b] w λe w'=>e=.returned (.int .i64 (iG a b))/\w=w':=by
 go_enter Tryz.func117,Tryz.ntmps117;go_wp2;all_goals (go_ret;refine ⟨aj ?_,rfl⟩;go_light;simp only[iG];(repeat' split) <;> omega)
theorem bW (a b:Val)(w:World):
  Calls Tryz.prog 116 #[.agg a.cells.toArray,.agg b.cells.toArray] w λe w'=>e=.returned (.int .i64 (aX a b))/\Below w.heap.size w w':=by
 obtain ⟨k,n,s⟩:=a;obtain ⟨k',n',s'⟩:=b;simp only[Val.cells];go_enter Tryz.func116,Tryz.ntmps116;go_wp2_with (go_at_call 117;refine (rW _ _ _).mono ?_;rintro e w' ⟨rfl,rfl⟩);all_goals
  go_ret;refine ⟨aj ?_,below_alloc2⟩;go_light
  (try simp only[bne_iff_ne,ne_eq]at*)
  (first|(simp_all[aX];done)|(simp_all[aX,gZ];done))
theorem pY (v:Val)(hv:v.ok)(w:World):
  Calls Tryz.prog 127 #[.agg v.cells.toArray] w λe w'=>e=.returned (.bool (valid v))/\Below w.heap.size w w':=by
 obtain ⟨k,n,s⟩:=v;simp only[Val.cells,Val.ok,Str,fP]at*;obtain ⟨⟨h1,h2⟩,⟨h3,h4⟩,h5⟩:=hv;go_enter Tryz.func127,Tryz.ntmps127;go_wp2;all_goals
  go_ret;refine ⟨au ?_,ae⟩;go_light;simp only[beq_iff_eq,beq_eq_false_iff_ne,ne_eq]at*;try subst k
  simp_all[valid,ek]
 all_goals (try omega);all_goals (try (repeat' split <;> omega))
theorem Jz (a:Int)(w:World):Calls Tryz.prog 190 #[.int .i64 a] w λe w'=>e=.returned (.bool false)/\w=w':=by
 go_enter Tryz.func190,Tryz.ntmps190;go_wp2;all_goals (go_ret;exact ⟨by simp,rfl⟩)
theorem JA (a:ByteArray)(w:World):Calls Tryz.prog 191 #[.string a] w λe w'=>e=.returned (.bool false)/\w=w':=by
 go_enter Tryz.func191,Tryz.ntmps191;go_wp2;all_goals (go_ret;exact ⟨by simp,rfl⟩)
theorem Oj (a b:Int)(w:World):Calls Tryz.prog 161 #[.int .i64 a,.int .i64 b] w λe w'=>e=.returned (.int .i64 (iG a b))/\w=w':=by
 go_enter Tryz.func161,Tryz.ntmps161;go_wp2_with (go_at_call 190;refine (Jz _ _).mono ?_;rintro e w' ⟨rfl,rfl⟩);all_goals (go_ret;refine ⟨aj ?_,rfl⟩;go_light;simp only[iG];(repeat' split) <;> omega)
theorem Ol (a b:ByteArray)(w:World):Calls Tryz.prog 162 #[.string a,.string b] w λe w'=>e=.returned (.int .i64 (gZ a b))/\w=w':=by
 go_enter Tryz.func162,Tryz.ntmps162;go_wp2_with (go_at_call 191;refine (JA _ _).mono ?_;rintro e w' ⟨rfl,rfl⟩);all_goals (go_ret;refine ⟨aj ?_,rfl⟩;go_light;simp only[gZ];simp_all)
def U3 (a b c:Int):Int:=if a≠0 then a else if b≠0 then b else c
theorem MS (a b c:Int)(w:World)(g:Nat)(h0:w.cell? ⟨g,0,none⟩=some (.int .i64 a))(h1:w.cell? ⟨g,1,none⟩=some (.int .i64 b))(h2:w.cell? ⟨g,2,none⟩=some (.int .i64 c)):
  Calls Tryz.prog 160 #[.slice (some ⟨g,0,none⟩) 3 3] w λe w'=>e=.returned (.int .i64 (U3 a b c))/\w=w':=by
 go_enter Tryz.func160,Tryz.ntmps160;go_wp2
 go_loop [5,8] (λ_ i=> ∃k:Nat,k<=3/\i=.int .i64 k/\(1<=k->a=0)/\(2<=k->b=0)/\(3<=k->c=0)) (λ_ i=>3-(intOf i).toNat)
 case atStart=>exact ⟨0,by omega,rfl,by omega,by omega,by omega⟩
 case round=>
  obtain ⟨k,hk,rfl,ha,hb,hc⟩:=hrel;obtain rfl|rfl|rfl|rfl:k=0\/k=1\/k=2\/k=3:=by omega
  ·clear ha hb hc;go_wp2
   ·go_ret;exact ⟨aj (by go_light;simp_all[U3]),rfl⟩
   ·go_round
    case rel=>exact ⟨1,by omega,by go_num,(by intro _;go_light;simp_all),by omega,by omega⟩
    case measure=>simp[intOf]
  ·have ha:=ha (by omega);subst ha;clear hb hc;go_wp2
   ·go_ret;exact ⟨aj (by go_light;simp_all[U3]),rfl⟩
   ·go_round
    case rel=>exact ⟨2,by omega,by go_num,(by first|trivial|(intro _;rfl)),(by intro _;go_light;simp_all),by omega⟩
    case measure=>simp[intOf]
  ·have ha:=ha (by omega);have hb:=hb (by omega);subst ha hb;clear hc;go_wp2
   ·go_ret;exact ⟨aj (by go_light;simp_all[U3]),rfl⟩
   ·go_round
    case rel=>exact ⟨3,by omega,by go_num,(by first|trivial|(intro _;rfl)),(by first|trivial|(intro _;rfl)),(by intro _;go_light;simp_all)⟩
    case measure=>simp[intOf]
  ·have ha:=ha (by omega);have hb:=hb (by omega);have hc:=hc (by omega);subst ha hb hc;go_wp2;go_ret;exact ⟨aj (by simp[U3]),rfl⟩
theorem CG (a b:Val)(w:World):
  Calls Tryz.prog 125 #[.agg a.cells.toArray,.agg b.cells.toArray] w λe w'=>e=.returned (.int .i64 (aX a b))/\Below w.heap.size w w':=by
 obtain ⟨k,n,s⟩:=a;obtain ⟨k',n',s'⟩:=b;simp only[Val.cells];go_enter Tryz.func125,Tryz.ntmps125;go_wp2_with fail;generalize hW:((w.alloc _).alloc _)=W;have c0:W.cell? ⟨w.heap.size,0,none⟩=some (.int .i64 k):=by subst hW;simp[World.cell?_alloc_lt,go_sem]
 have c1:W.cell? ⟨w.heap.size,1,none⟩=some (.int .i64 n):=by subst hW;simp[World.cell?_alloc_lt,go_sem]
 have c2:W.cell? ⟨w.heap.size,2,none⟩=some (.string s):=by subst hW;simp[World.cell?_alloc_lt,go_sem]
 have d0:W.cell? ⟨w.heap.size+1,0,none⟩=some (.int .i64 k'):=by subst hW;simp[go_sem]
 have d1:W.cell? ⟨w.heap.size+1,1,none⟩=some (.int .i64 n'):=by subst hW;simp[go_sem]
 have d2:W.cell? ⟨w.heap.size+1,2,none⟩=some (.string s'):=by subst hW;simp[go_sem]
 have hb:Below w.heap.size w W:=by subst hW;exact below_alloc2
 clear hW;go_region_held3 (λw'=>w'.cell? ⟨w.heap.size,0,none⟩=some (.int .i64 k)/\w'.cell? ⟨w.heap.size,1,none⟩=some (.int .i64 n)/\w'.cell? ⟨w.heap.size,2,none⟩=some (.string s)
   /\w'.cell? ⟨w.heap.size+1,0,none⟩=some (.int .i64 k')/\w'.cell? ⟨w.heap.size+1,1,none⟩=some (.int .i64 n')/\w'.cell? ⟨w.heap.size+1,2,none⟩=some (.string s')) (go_keep)
  (first|(go_at_call 161;refine (Oj _ _ _).mono ?_;rintro e w' ⟨rfl,rfl⟩)|(go_at_call 162;refine (Ol _ _ _).mono ?_;rintro e w' ⟨rfl,rfl⟩)|(go_at_call 160;refine (MS (iG k k') (iG n n') (gZ s s') _ _ ?_ ?_ ?_).mono ?_;(simp[go_sem]);(simp[go_sem]);(simp[go_sem]);rintro e w' ⟨rfl,rfl⟩))
 go_wp2;go_ret;exact ⟨rfl,(hb.alloc hb.size _).drew⟩
theorem pz (n:Node)(w:World):Calls Tryz.prog 142 #[.agg n.cells.toArray] w λe w'=>e=.returned (.int .i64 (arity n.op n.arity))/\Below w.heap.size w w':=by
 obtain ⟨op,⟨kd,nu,st⟩,nm,ar⟩:=n;simp only[Node.cells];go_enter Tryz.func142,Tryz.ntmps142;go_wp2;all_goals (go_ret;refine ⟨aj ?_,ae⟩;go_light;unfold arity;first|(simp_all;done)|(simp_all;omega)|(repeat' split) <;> omega)
theorem mP (n:Node)(w:World):Calls Tryz.prog 156 #[.agg n.cells.toArray] w λe w'=>e=.returned (.int .i64 (arity n.op n.arity))/\Below w.heap.size w w':=by
 obtain ⟨op,⟨kd,nu,st⟩,nm,ar⟩:=n;simp only[Node.cells];go_enter Tryz.func156,Tryz.ntmps156;go_wp2;all_goals (go_ret;refine ⟨aj ?_,ae⟩;go_light;unfold arity;first|(simp_all;done)|(simp_all;omega)|(repeat' split) <;> omega)
def Made (kind:Int)(v:Val):Prop:=valid v=true/\v.ok/\(1<=kind->kind<=4->v.kind=kind)/\(kind<1\/4<kind->v.kind=0)
theorem vJ:ek ⟨#[]⟩=true:=by rw[ek,ByteArray.toList_eq];rfl
theorem BI {d:Int}(h0:0<=d)(h1:d<=1):Made 1 ⟨1,d,⟨#[]⟩⟩:=by
 refine ⟨?_,⟨⟨by simp only;omega,by simp only;omega⟩,⟨by simp only;omega,by simp only;omega⟩,by simp[Str,ByteArray.size]⟩,λ_ _=>rfl,λh=>by omega⟩;obtain rfl|rfl:d=0\/d=1:=by omega
 all_goals simp[valid,vJ]
theorem EX {d:Int}(h0: -1073741824<=d)(h1:d<=1073741824):Made 2 ⟨2,d,⟨#[]⟩⟩:=by
 refine ⟨?_,⟨⟨by simp only;omega,by simp only;omega⟩,⟨by simp only;omega,by simp only;omega⟩,by simp[Str,ByteArray.size]⟩,λ_ _=>rfl,λh=>by omega⟩;simp[valid,vJ,h0,h1]
theorem BJ {s:ByteArray}(h:s.size<=64):Made 3 ⟨3,0,s⟩:=by
 refine ⟨?_,⟨⟨by simp only;omega,by simp only;omega⟩,⟨by simp only;omega,by simp only;omega⟩,by unfold Str;simp only;omega⟩,λ_ _=>rfl,λh=>by omega⟩;simp[valid,h]
theorem BK {d:Int}(h0:0<=d)(h1:d<=575999999):Made 4 ⟨4,d,⟨#[]⟩⟩:=by
 refine ⟨?_,⟨⟨by simp only;omega,by simp only;omega⟩,⟨by simp only;omega,by simp only;omega⟩,by simp[Str,ByteArray.size]⟩,λ_ _=>rfl,λh=>by omega⟩;simp[valid,vJ,h0,h1]
theorem JE {k:Int}(h:k<1\/4<k):Made k ⟨0,0,⟨#[]⟩⟩:=by
 refine ⟨?_,⟨⟨by simp only;omega,by simp only;omega⟩,⟨by simp only;omega,by simp only;omega⟩,by simp[Str,ByteArray.size]⟩,λ_ _=>by omega,λ_=>rfl⟩;simp[valid,vJ]
def Fits (c:Col)(v:Val):Prop:=v.ok/\bI c v=0
def Col.good (c:Col):Prop:=c.ok/\1<=c.kind/\c.kind<=4
theorem Jj {c:Col}(h:c.nullable=true):Fits c ⟨0,0,⟨#[]⟩⟩:=by
 obtain ⟨h1,h2,_,h4⟩:=JE (k:=0) (by omega);exact ⟨h2,by simp[bI,h1,h]⟩
theorem jU {c:Col}{v:Val}(hc:c.good)(h:Made c.kind v):Fits c v:=by
 obtain ⟨h1,h2,h3,h4⟩:=h;have h5:=h3 hc.2.1 hc.2.2;have:v.kind≠0:=by have:=hc.2.1;omega
 exact ⟨h2,by simp[bI,h1,h5];have:=hc.2.1;omega⟩
theorem getD_drop {α:Type}{xs:List α}{k:Nat}{x d:α}{l:List α}(h:xs.drop k=x :: l):xs.getD k d=x:=by
 rw[List.getD,(bX h).1];rfl
def yh (cols:List Col)(i:Nat)(v:Val):Int:=bI (cols.getD i default) v
theorem yC {cols:List Col}{k:Nat}{y:Col}{l:List Col}{x:Val}(h:cols.drop k=y :: l):yh cols k x=bI y x:=by rw[yh,getD_drop h]
theorem uW (w:World)(A A':Option Addr)(n n' c c':Nat)(cols:List Col)(row:List Val)(hx:In w A n c cols)(hy:In w A' n' c' row):
  Calls Tryz.prog 138 #[.slice A n c,.slice A' n' c'] w λe w'=>e=.returned (.int .i64 (aC cols row))/\Below w.heap.size w w':=by
 have h63:=hx.le;have h63':=hy.le;have hlen:=hide hx.len;have hlen':=hide hy.len;go_enter Tryz.func138,Tryz.ntmps138;cases hs:((n':Int)==(n:Int))
 ·have he:Hid (8=aC cols row):=hide (by rw[aC,hlen.out,hlen'.out,if_pos (by simp at hs;omega)]);go_wp2;all_goals (try (exfalso;go_light;simp_all;done));go_ret;exact ⟨aj he.out,Below.refl _ _⟩
 have jQ:Hid (aC cols row=ah (yh cols) 0 row):=hide (by rw[aC,hlen.out,hlen'.out,if_neg (by simp at hs;omega)];rfl);have hnn:n=n':=by simp at hs;omega
 go_wp2;all_goals (try (exfalso;go_light;simp_all;done));have HN:=hide hnn;clear hs hnn;go_loopw [15] (λi wr=> ∃k:Nat,k<=n'/\i=.int .i64 k/\ah (yh cols) 0 row=ah (yh cols) k (row.drop k)/\Below w.heap.size w wr) (λi _=>n'-(intOf i).toNat)
 case atStart=>exact ⟨0,Nat.zero_le _,rfl,rfl,Below.refl _ _⟩
 case round=>
  obtain ⟨k,hk,rfl,heq,hb⟩:=hrel;have HE:=hide heq;clear heq;by_cases hlt:k<n'
  ·have RO:k<n:=by rw[HN.out];exact hlt
   obtain ⟨b',off',x,rfl,hB',HX,f0,f1,f2,f3⟩:=(hy.below hb).val hlt;obtain ⟨b,off,y,rfl,hB,HY,e0,e1,e2,e3⟩:=(hx.below hb).col RO;go_wp2_with fail;refine (pY x f3 _).mono ?_;rintro e w1 ⟨rfl,hb1⟩;have hbb:=aa (aa (aa hb ae) ae) hb1;obtain ⟨hc1,hf1⟩:=ai hb1;clear hb1 e0 e1 e2 f0 f1 f2;have HC:Hid (ah (yh cols) 0 row=if bI y x=0 then ah (yh cols) (k+1) (row.drop (k+1)) else bI y x):=hide (by
    rw[HE.out,HX.out];by_cases hz:bI y x=0
    ·rw[if_pos hz];exact aT (by rw[yC HY.out,hz])
    ·rw[if_neg hz];exact aH (yC HY.out) hz)
   cases hv:valid x
   ·have he:Hid (8=aC cols row):=hide (by rw[jQ.out,HC.out];simp[bI,hv]);go_wp2;go_ret;exact ⟨aj he.out,hbb⟩
   ·cases hz:(x.kind==0)
    ·cases hq:(x.kind==y.kind)
     ·have he:Hid (7=aC cols row):=hide (by
       have e1:¬x.kind=0:=by simpa using hz
       have e2:¬x.kind=y.kind:=by simpa using hq
       rw[jQ.out,HC.out];simp[bI,hv,e1,e2])
      go_wp2;all_goals (try (exfalso;go_light;simp_all;done));all_goals
       go_ret;exact ⟨aj he.out,hbb⟩
     ·have he:Hid (bI y x=0):=hide (by
       have e1:¬x.kind=0:=by simpa using hz
       have e2:x.kind=y.kind:=by simpa using hq
       simp[bI,hv,<-e2,e1])
      go_wp2;all_goals (try (exfalso;go_light;simp_all;done));all_goals
       go_roundw
       case rel=>exact ⟨k+1,by omega,by go_num,by rw[HC.out,if_pos he.out],hbb⟩
       case measure=>simp[intOf];omega
    ·cases hn:y.nullable
     ·have he:Hid (7=aC cols row):=hide (by
       have e1:x.kind=0:=by simpa using hz
       rw[jQ.out,HC.out];simp[bI,hv,e1,hn])
      go_wp2;all_goals (try (exfalso;go_light;simp_all;done));all_goals
       go_ret;exact ⟨aj he.out,hbb⟩
     ·have he:Hid (bI y x=0):=hide (by
       have e1:x.kind=0:=by simpa using hz
       simp[bI,hv,e1,hn])
      go_wp2;all_goals (try (exfalso;go_light;simp_all;done));all_goals
       go_roundw
       case rel=>exact ⟨k+1,by omega,by go_num,by rw[HC.out,if_pos he.out],hbb⟩
       case measure=>simp[intOf];omega
  ·go_wp2;go_ret;exact ⟨aj (by rw[jQ.out,HE.out,aJ hy.len (by omega),ah]),hb⟩
theorem bD {B:Nat}{a w:World}(h:Below B a w){n:Nat}:Below B a (w.drewN n):=below_drewN h n
theorem uX (w:World)(A A':Option Addr)(n n' c c':Nat)(cols:List Col)(row:List Val)(hx:In w A n c cols)(hy:In w A' n' c' row):
  Calls Tryz.prog 122 #[.slice A n c,.slice A' n' c'] w λe w'=>e=.returned (.int .i64 (aC cols row))/\Below w.heap.size w w':=by
 have h63:=hx.le;have h63':=hy.le;have hlen:=hide hx.len;have hlen':=hide hy.len;go_enter Tryz.func122,Tryz.ntmps122;cases hs:((n:Int)==(n':Int))
 ·have he:Hid (8=aC cols row):=hide (by rw[aC,hlen.out,hlen'.out,if_pos (by simp at hs;omega)]);go_wp2;all_goals (try (exfalso;go_light;simp_all;done));go_ret;exact ⟨aj he.out,Below.refl _ _⟩
 have jQ:Hid (aC cols row=ah (yh cols) 0 row):=hide (by rw[aC,hlen.out,hlen'.out,if_neg (by simp at hs;omega)];rfl);have hnn:n=n':=by simp at hs;omega
 go_wp2;all_goals (try (exfalso;go_light;simp_all;done));have HN:=hide hnn;clear hs hnn;go_loopw [5] (λi wr=> ∃k:Nat,k<=n'/\i=.int .i64 k/\ah (yh cols) 0 row=ah (yh cols) k (row.drop k)/\Below w.heap.size w wr) (λi _=>n'-(intOf i).toNat)
 case atStart=>exact ⟨0,Nat.zero_le _,rfl,rfl,Below.refl _ _⟩
 case round=>
  obtain ⟨k,hk,rfl,heq,hb⟩:=hrel;have HE:=hide heq;clear heq;by_cases hlt:k<n'
  ·have RO:k<n:=by rw[HN.out];exact hlt
   obtain ⟨b',off',x,rfl,hB',HX,f0,f1,f2,f3⟩:=(hy.below hb).val hlt;obtain ⟨b,off,y,rfl,hB,HY,e0,e1,e2,e3⟩:=(hx.below hb).col RO;go_wp2_with fail;refine (xu x f3 _).mono ?_;rintro e w1 ⟨rfl,hb1⟩;have hbb:=aa hb hb1;replace e0:=bat hb1 hB e0;replace e1:=bat hb1 hB e1;replace e2:=bat hb1 hB e2;replace f0:=bat hb1 hB' f0;replace f1:=bat hb1 hB' f1;replace f2:=bat hb1 hB' f2;clear hb1;have g0:(0:Int)<=(k:Int):=by omega
   have g1:(k:Int)<(n:Int):=by omega
   have g2:(k:Int)<(n':Int):=by omega
   have HC:Hid (ah (yh cols) 0 row=if bI y x=0 then ah (yh cols) (k+1) (row.drop (k+1)) else bI y x):=hide (by
    rw[HE.out,HX.out];by_cases hz:bI y x=0
    ·rw[if_pos hz];exact aT (by rw[yC HY.out,hz])
    ·rw[if_neg hz];exact aH (yC HY.out) hz)
   cases hv:valid x
   ·have he:Hid (8=aC cols row):=hide (by rw[jQ.out,HC.out];simp[bI,hv]);go_wp2;go_ret
    first|exact ⟨aj he.out,hbb⟩|exact ⟨aj he.out,bD hbb⟩
   ·cases hz:(x.kind==0)
    ·have hz':(x.kind != 0)=true:=by rw[bne,hz];rfl
     cases hq:(x.kind==y.kind)
     ·have hq':(x.kind != y.kind)=true:=by rw[bne,hq];rfl
      have he:Hid (7=aC cols row):=hide (by
       have e1:¬x.kind=0:=by simpa using hz
       have e2:¬x.kind=y.kind:=by simpa using hq
       rw[jQ.out,HC.out];simp[bI,hv,e1,e2])
      go_wp2;go_quiet (fail);go_wp2;all_goals (try (exfalso;go_light;simp_all;done));all_goals
       go_ret
       first|exact ⟨aj he.out,hbb⟩|exact ⟨aj he.out,bD hbb⟩
     ·have hq':(x.kind != y.kind)=false:=by rw[bne,hq];rfl
      have he:Hid (bI y x=0):=hide (by
       have e1:¬x.kind=0:=by simpa using hz
       have e2:x.kind=y.kind:=by simpa using hq
       simp[bI,hv,<-e2,e1])
      go_wp2;go_quiet (fail);go_wp2;all_goals (try (exfalso;go_light;simp_all;done));all_goals
       go_roundw
       case rel=>exact ⟨k+1,by omega,by go_num,by rw[HC.out,if_pos he.out],bD hbb⟩
       case measure=>simp[intOf];omega
    ·have hz':(x.kind != 0)=false:=by rw[bne,hz];rfl
     cases hn:y.nullable
     ·have he:Hid (7=aC cols row):=hide (by
       have e1:x.kind=0:=by simpa using hz
       rw[jQ.out,HC.out];simp[bI,hv,e1,hn])
      go_wp2;go_quiet (fail);go_wp2;all_goals (try (exfalso;go_light;simp_all;done));all_goals
       go_ret
       first|exact ⟨aj he.out,hbb⟩|exact ⟨aj he.out,bD hbb⟩
     ·have he:Hid (bI y x=0):=hide (by
       have e1:x.kind=0:=by simpa using hz
       simp[bI,hv,e1,hn])
      go_wp2;go_quiet (fail);go_wp2;all_goals (try (exfalso;go_light;simp_all;done));all_goals
       go_roundw
       case rel=>exact ⟨k+1,by omega,by go_num,by rw[HC.out,if_pos he.out],bD hbb⟩
       case measure=>simp[intOf];omega
  ·go_wp2;go_ret;exact ⟨aj (by rw[jQ.out,HE.out,aJ hy.len (by omega),ah]),hb⟩
theorem lZ:(Tryz.prog.info? 74).map (λi=>(i.zero,i.size,i.bytes))=some (some (.agg #[.int .i64 0,.int .i64 0,.string ⟨#[]⟩]),3,32):=by kernel_rfl
def Part (w:World)(g:Nat)(cols:List Col)(vs:List Val):Prop:=
 (∀i,(h:i<vs.length)->At w (λ_=>False) g (i*3) vs[i])/\ ∀i,(h:i<vs.length)->(h':i<cols.length)->Fits cols[i] vs[i]
theorem Part.below {w w':World}{g:Nat}{cols:List Col}{vs:List Val}(h:Part w g cols vs)(hg:g<w.heap.size)(hb:Below w.heap.size w w'):Part w' g cols vs:=
 ⟨λi hi=>by
  obtain ⟨cs,hr,hc⟩:=h.1 i hi;exact ⟨cs,hr,λj hj=>bat hb hg (hc j hj)⟩,h.2⟩
theorem Part.add {w:World}{g:Nat}{cols:List Col}{vs:List Val}{v:Val}{u0 u1 u2:Value}(h:Part w g cols vs)(hv:v.ok)(hk:vs.length<cols.length)(hf:Fits cols[vs.length] v)(h0:w.cell? ⟨g,vs.length*3,none⟩=some u0)(h1:w.cell? ⟨g,vs.length*3+1,none⟩=some u1)(h2:w.cell? ⟨g,vs.length*3+2,none⟩=some u2):
  Part (((w.setCell ⟨g,vs.length*3,none⟩ (.int .i64 v.kind)).setCell ⟨g,vs.length*3+1,none⟩ (.int .i64 v.num)).setCell ⟨g,vs.length*3+2,none⟩ (.string v.str)) g cols (vs++[v]):=by
 refine ⟨λi hi=>?_,λi hi hi'=>?_⟩
 ·rw[List.length_append]at hi;by_cases hl:i<vs.length
  ·obtain ⟨cs,⟨rfl,hr⟩,hc⟩:=h.1 i hl;rw[List.getElem_append_left hl];refine ⟨_,⟨rfl,hr⟩,λj hj=>?_⟩;have hj3:j<3:=hj;exact af (af (af (hc j hj) (.inr (by omega))) (.inr (by omega))) (.inr (by omega))
  ·obtain rfl:i=vs.length:=by simp at hi;omega
   rw[List.getElem_append_right (Nat.le_refl _)];simp only[Nat.sub_self,List.getElem_cons_zero];refine ⟨v.cells,⟨rfl,hv⟩,λj hj=>?_⟩;have hj3:j<3:=hj;obtain rfl|rfl|rfl:j=0\/j=1\/j=2:=by omega
   ·exact af (af (dA h0) (.inr (by omega))) (.inr (by omega))
   ·exact af (dA (af h1 (.inr (by omega)))) (.inr (by omega))
   ·exact dA (af (af h2 (.inr (by omega))) (.inr (by omega)))
 ·rw[List.length_append]at hi;by_cases hl:i<vs.length
  ·rw[List.getElem_append_left hl];exact h.2 i hl hi'
  ·obtain rfl:i=vs.length:=by simp at hi;omega
   rw[List.getElem_append_right (Nat.le_refl _)];simpa using hf
theorem uf {α:Type}{f:Nat->α->Int}{l:List α}: ∀k,(∀i,(h:i<l.length)->f (k+i) l[i]=0)->ah f k l=0:=by
 induction l with
 |nil=>intro k _;rfl
 |cons x l ih=>
  intro k h;have h0:=h 0 (by simp);rw[aT (by simpa using h0)];exact ih (k+1) λi hi=>by
   have:=h (i+1) (by simpa using hi);rw[show k+1+i=k+(i+1) from by omega];simpa using this
theorem Fp {cols:List Col}{vs:List Val}(hl:vs.length=cols.length)(h: ∀i,(h:i<vs.length)->(h':i<cols.length)->Fits cols[i] vs[i]):aC cols vs=0:=by
 rw[aC,if_neg (by simp[hl])];refine uf 0 λi hi=>?_;have:=(h i hi (by omega)).2;simp only[Nat.zero_add];rw[List.getD,List.getElem?_eq_getElem (by omega)];exact this
def aD (n:Int):Prop:= -1073741824<=n/\n<=1073741824
theorem sV (a:Int)(w:World):Calls Tryz.prog 146 #[.int .i64 a] w λe w'=>e=.returned (.bool (bC a))/\w=w':=by
 go_enter Tryz.func146,Tryz.ntmps146;go_wp2;all_goals (go_ret;refine ⟨au ?_,rfl⟩;go_light;unfold bC;first|(simp_all;done)|(simp_all;omega))
theorem nN (a:Int)(w:World):Calls Tryz.prog 151 #[.int .i64 a] w λe w'=>e=.returned (.bool (bC a))/\w=w':=by
 go_enter Tryz.func151,Tryz.ntmps151;go_wp2;all_goals (go_ret;refine ⟨au ?_,rfl⟩;go_light;unfold bC;first|(simp_all;done)|(simp_all;omega))
theorem fF {a:Int}(h:aD a):bC a=true:=by unfold aD at h;simp[bC];omega
def chk (r:Int):Int×Bool:=if bC r then (r,true) else (0,false)
theorem K4 {a b:Int}(ha:aD a)(hb:aD b):wI a b=chk (a+b):=by simp[wI,chk,fF ha,fF hb]
theorem Na {a b:Int}(ha:aD a)(hb:aD b):nO a b=chk (a-b):=by simp[nO,chk,fF ha,fF hb]
theorem MK {a b:Int}(ha:aD a)(hb:aD b):wZ a b=chk (a*b):=by simp[wZ,chk,fF ha,fF hb]
theorem qA (a b r:Int)(ha:aD a)(hb:aD b)(w:World):Calls Tryz.prog 240 #[.int .i64 a,.int .i64 b,.int .i64 r] w λe w'=>e=.returned (.tuple #[.int .i64 (chk r).1,.bool (chk r).2])/\w=w':=by
 have s1:=fF ha;have s2:=fF hb;go_enter Tryz.func240,Tryz.ntmps240;cases h:bC r
 ·go_wp2_with (go_at_call 151;refine (nN _ _).mono ?_;rintro e w' ⟨rfl,rfl⟩);go_ret2;exact ⟨by simp[chk,h],rfl⟩
 ·go_wp2_with (go_at_call 151;refine (nN _ _).mono ?_;rintro e w' ⟨rfl,rfl⟩);go_ret2;exact ⟨by simp[chk,h],rfl⟩
theorem ML {a b:Int}(ha:aD a)(hb:aD b): -1152921504606846976<=a*b/\a*b<=1152921504606846976:=by
 have h:(a*b).natAbs<=1073741824*1073741824:=by
  rw[Int.natAbs_mul];exact Nat.mul_le_mul (by unfold aD at ha;omega) (by unfold aD at hb;omega)
 omega
theorem Og (a b:Int)(ha:aD a)(hb:aD b)(w:World):Calls Tryz.prog 244 #[.int .i64 a,.int .i64 b] w λe w'=>e=.returned (.tuple #[.int .i64 (wI a b).1,.bool (wI a b).2])/\w=w':=by
 rw[K4 ha hb];have hw:IntKind.i64.wrap (a+b)=a+b:=IntWalk.i64_in _ (by unfold aD at ha hb;omega);go_enter Tryz.func244,Tryz.ntmps244;go_wp2_with (go_at_call 240;(try rw[hw]);refine (qA _ _ _ ha hb _).mono ?_;rintro e w' ⟨rfl,rfl⟩);go_ret2;exact ⟨rfl,rfl⟩
theorem IK (a b:Int)(ha:aD a)(hb:aD b)(w:World):Calls Tryz.prog 223 #[.int .i64 a,.int .i64 b] w λe w'=>e=.returned (.tuple #[.int .i64 (nO a b).1,.bool (nO a b).2])/\w=w':=by
 rw[Na ha hb];have hw:IntKind.i64.wrap (a-b)=a-b:=IntWalk.i64_in _ (by unfold aD at ha hb;omega);go_enter Tryz.func223,Tryz.ntmps223;go_wp2_with (go_at_call 240;(try rw[hw]);refine (qA _ _ _ ha hb _).mono ?_;rintro e w' ⟨rfl,rfl⟩);go_ret2;exact ⟨rfl,rfl⟩
theorem Pn (a b:Int)(ha:aD a)(hb:aD b)(w:World):Calls Tryz.prog 245 #[.int .i64 a,.int .i64 b] w λe w'=>e=.returned (.tuple #[.int .i64 (wZ a b).1,.bool (wZ a b).2])/\w=w':=by
 rw[MK ha hb];have hm: -1152921504606846976<=a*b/\a*b<=1152921504606846976:=ML ha hb;have hw:IntKind.i64.wrap (a*b)=a*b:=IntWalk.i64_in _ (by unfold aD at ha hb;omega);go_enter Tryz.func245,Tryz.ntmps245;go_wp2_with (go_at_call 240;(try rw[hw]);refine (qA _ _ _ ha hb _).mono ?_;rintro e w' ⟨rfl,rfl⟩);go_ret2;exact ⟨rfl,rfl⟩
theorem J2 (v:Val)(hv:v.ok)(w:World):Calls Tryz.prog 104 #[.agg v.cells.toArray] w λe w'=>e=.returned (.int .i64 (truth v))/\Below w.heap.size w w':=by
 obtain ⟨k,n,s⟩:=v;have hv':=hv;simp only[Val.cells];by_cases h1:k=1
 ·subst h1;have HT:Hid (truth ⟨1,n,s⟩=if valid ⟨1,n,s⟩=true then n else -1):=hide (by simp[truth]);cases hvd:valid ⟨1,n,s⟩;all_goals
   rw[hvd]at HT;go_enter Tryz.func104,Tryz.ntmps104;go_wp2_with fail;refine (pY ⟨1,n,s⟩ hv' _).mono ?_;rintro e w1 ⟨rfl,hb1⟩;have hbb:=aa ae hb1;have g1:=bat (b:=w.heap.size) (o:=1) (v:=.int .i64 n) hb1 (by simp) (by simp[go_sem]);clear hb1;rw[hvd];go_wp2;go_ret;exact ⟨aj (by rw[HT.out];simp),hbb⟩
 ·have HT:Hid (truth ⟨k,n,s⟩= -1):=hide (by simp[truth,h1]);have q:(k != 1)=true:=by simpa using h1
  clear h1;go_enter Tryz.func104,Tryz.ntmps104;go_wp2;go_ret;exact ⟨aj HT.out.symm,ae⟩
theorem Hf (v:Val)(hv:v.ok)(w:World):Calls Tryz.prog 109 #[.agg v.cells.toArray] w λe w'=>e=.returned (.int .i64 (truth v))/\Below w.heap.size w w':=by
 obtain ⟨k,n,s⟩:=v;simp only[Val.cells];go_enter Tryz.func109,Tryz.ntmps109;go_wp2;all_goals (go_ret;refine ⟨aj ?_,ae⟩;go_light;(try simp only[bne_iff_ne,ne_eq,beq_iff_eq,beq_eq_false_iff_ne]at*);simp_all[truth,valid,ek])
theorem qV (w:World)(A A':Option Addr)(n n' c c':Nat)(xs ys:List Val)(hx:In w A n c xs)(hy:In w A' n' c' ys):
  Calls Tryz.prog 79 #[.slice A n c,.slice A' n' c'] w λe w'=>e=.returned (.int .i64 (ax xs ys))/\Below w.heap.size w w':=by
 have h63:=hx.le;have h63':=hy.le;go_enter Tryz.func79,Tryz.ntmps79;go_wp2;go_loopw [5] (λi wr=> ∃k:Nat,k<=n/\k<=n'/\i=.int .i64 k/\ax xs ys=ax (xs.drop k) (ys.drop k)/\Below w.heap.size w wr) (λi _=>n-(intOf i).toNat)
 case atStart=>exact ⟨0,Nat.zero_le _,Nat.zero_le _,rfl,rfl,Below.refl _ _⟩
 case round=>
  obtain ⟨k,hk,hk',rfl,heq,hb⟩:=hrel;have HE:=hide heq;clear heq;by_cases hlt:k<n
  ·by_cases hlt':k<n'
   ·obtain ⟨b,off,x,rfl,hB,HX,e0,e1,e2,e3⟩:=(hx.below hb).val hlt;obtain ⟨b',off',y,rfl,hB',HY,f0,f1,f2,f3⟩:=(hy.below hb).val hlt';go_wp2_with fail;go_region_held3 (λw'=>Below wr.heap.size wr w'/\w'.cell? ⟨b,off+k*3,none⟩=some (.int .i64 x.kind)/\w'.cell? ⟨b,off+k*3+1,none⟩=some (.int .i64 x.num)/\w'.cell? ⟨b,off+k*3+2,none⟩=some (.string x.str)/\w'.cell? ⟨b',off'+k*3,none⟩=some (.int .i64 y.kind)/\w'.cell? ⟨b',off'+k*3+1,none⟩=some (.int .i64 y.num)/\w'.cell? ⟨b',off'+k*3+2,none⟩=some (.string y.str)) (first|exact ⟨(Below.refl _ _).drew,e0,e1,e2,f0,f1,f2⟩|(have hq:=below_undrew hb1;exact ⟨hq,bat hq hB e0,bat hq hB e1,bat hq hB e2,bat hq hB' f0,bat hq hB' f1,bat hq hB' f2⟩)) (first|(go_at_call 116;refine (bW x y _).mono ?_;rintro e w1 ⟨rfl,hb1⟩));have hbb:=aa hb (below_undrew hb1);clear hb1 e0 e1 e2 f0 f1 f2;by_cases hz:aX x y=0
    ·rw[hz];go_wp2;go_roundw
     case rel=>exact ⟨k+1,by omega,by omega,by go_num,by rw[HE.out,HX.out,HY.out,ax,if_neg (by simp[hz])],hbb⟩
     case measure=>simp[intOf];omega
    ·have hz':(aX x y==0)=false:=by simp[hz]
     go_wp2;go_ret;exact ⟨aj (by rw[HE.out,HX.out,HY.out,ax,if_pos hz]),hbb⟩
   ·go_wp2_with (go_at_call 117;refine (rW _ _ _).mono ?_;rintro e w' ⟨rfl,rfl⟩);go_ret;refine ⟨aj ?_,hb⟩;have hy0:=aJ hy.len (show n'<=k by omega);rw[HE.out,hy0];have:xs.drop k≠[]:=by intro h;have:=congrArg List.length h;rw[List.length_drop,hx.len]at this;simp at this;omega
    match h:xs.drop k with
    | []=>exact absurd h this
    | _ :: _=>rw[ax];simp[iG];omega
  ·have hkn:n<=k:=by omega
   go_wp2_with (go_at_call 117;refine (rW _ _ _).mono ?_;rintro e w' ⟨rfl,rfl⟩);go_ret;refine ⟨aj ?_,hb⟩;rw[HE.out,aJ hx.len hkn];by_cases hlt':n<n'
   ·have:ys.drop k≠[]:=by intro h;have:=congrArg List.length h;rw[List.length_drop,hy.len]at this;simp at this;omega
    match h:ys.drop k with
    | []=>exact absurd h this
    | _ :: _=>rw[ax];simp[iG];omega
   ·rw[aJ hy.len (by omega),ax];have:n=n':=by omega
    simp[iG,this]
def lY (_:Nat)(v:Val):Int:=if valid v then 0 else 8
theorem nE (x:Ent):aQ x=if 12<x.row.length\/x.count < -65536\/65536<x.count then 2 else ah lY 0 x.row:=rfl
theorem Gw (w:World)(A:Option Addr)(n c:Nat)(x:Ent)(hx:In w A n c x.row)(hc:fP x.count):
  Calls Tryz.prog 149 #[.agg #[.slice A n c,.int .i64 x.count]] w λe w'=>e=.returned (.int .i64 (aQ x))/\Below w.heap.size w w':=by
 obtain ⟨row,m⟩:=x;have h63:=hx.le;have hlen:=hide hx.len;unfold fP at hc;obtain ⟨hm1,hm2⟩:=hc;simp only at hx hlen hm1 hm2⊢;go_enter Tryz.func149,Tryz.ntmps149;by_cases hs:12<n\/m < -65536\/65536<m
 ·have he:Hid (2=aQ ⟨row,m⟩):=hide (by rw[nE,hlen.out,if_pos hs]);by_cases h1:12<n
  ·go_wp2;all_goals (go_ret;exact ⟨aj he.out,ae⟩)
  ·by_cases h2:m < -65536
   ·go_wp2;all_goals (go_ret;exact ⟨aj he.out,ae⟩)
   ·have h3:65536<m:=by omega
    go_wp2;all_goals (go_ret;exact ⟨aj he.out,ae⟩)
 have jQ:Hid (aQ ⟨row,m⟩=ah lY 0 row):=hide (by rw[nE,hlen.out,if_neg hs]);have h1:n<=12:=by omega
 have h2: -65536<=m:=by omega
 have h3:m<=65536:=by omega
 clear hs;go_wp2;go_loopw [22] (λi wr=> ∃k:Nat,k<=n/\i=.int .i64 k/\ah lY 0 row=ah lY k (row.drop k)/\Below w.heap.size w wr) (λi _=>n-(intOf i).toNat)
 case atStart=>exact ⟨0,Nat.zero_le _,rfl,rfl,ae⟩
 case round=>
  obtain ⟨k,hk,rfl,heq,hb⟩:=hrel;have HE:=hide heq;clear heq;by_cases hlt:k<n
  ·obtain ⟨b,off,x,rfl,hB,HX,f0,f1,f2,f3⟩:=(hx.below hb).val hlt;go_wp2_with fail;refine (pY x f3 _).mono ?_;rintro e w1 ⟨rfl,hb1⟩;have hbb:=aa (aa hb ae) hb1;clear hb1 f0 f1 f2;cases hv:valid x
   ·have he:Hid (8=aQ ⟨row,m⟩):=hide (by rw[jQ.out,HE.out,HX.out];exact (aH (by simp[lY,hv]) (by omega)).symm);go_wp2;go_ret;exact ⟨aj he.out,hbb⟩
   ·go_wp2;go_roundw
    case rel=>exact ⟨k+1,by omega,by go_num,by rw[HE.out,HX.out];exact aT (by simp[lY,hv]),hbb⟩
    case measure=>simp[intOf];omega
  ·go_wp2;go_ret;exact ⟨aj (by rw[jQ.out,HE.out,aJ hx.len (by omega),ah]),hb⟩
theorem lu (m:Int)(w:World):Calls Tryz.prog 78 #[.int .i64 m] w λe w'=>e=.returned (.bool (decide (-65536<=m)&&decide (m<=65536)))/\w=w':=by
 go_enter Tryz.func78,Tryz.ntmps78;go_wp2;all_goals (go_ret;refine ⟨au ?_,rfl⟩;go_light;first|(simp_all;done)|(simp_all;omega))
theorem BB (w:World)(A:Option Addr)(n c:Nat)(x:Ent)(hx:In w A n c x.row)(hc:fP x.count):
  Calls Tryz.prog 76 #[.agg #[.slice A n c,.int .i64 x.count]] w λe w'=>e=.returned (.int .i64 (aQ x))/\Below w.heap.size w w':=by
 obtain ⟨row,m⟩:=x;have h63:=hx.le;have hlen:=hide hx.len;unfold fP at hc;obtain ⟨hm1,hm2⟩:=hc;simp only at hx hlen hm1 hm2⊢;go_enter Tryz.func76,Tryz.ntmps76;by_cases hs:12<n\/m < -65536\/65536<m
 ·have he:Hid (2=aQ ⟨row,m⟩):=hide (by rw[nE,hlen.out,if_pos hs]);by_cases h1:12<n
  ·go_wp2;all_goals (go_ret;exact ⟨aj he.out,ae⟩)
  ·by_cases h2:m < -65536
   ·have hq:decide ((-65536:Int)<=m)=false:=by simp;omega
    go_wp2_with (go_at_call 78;refine (lu _ _).mono ?_;rintro e w' ⟨rfl,rfl⟩);all_goals (try (exfalso;go_light;simp_all;done));all_goals (go_ret;exact ⟨aj he.out,ae⟩)
   ·have h3:65536<m:=by omega
    have hq:decide (m<=(65536:Int))=false:=by simp;omega
    go_wp2_with (go_at_call 78;refine (lu _ _).mono ?_;rintro e w' ⟨rfl,rfl⟩);all_goals (try (exfalso;go_light;simp_all;done));all_goals (go_ret;exact ⟨aj he.out,ae⟩)
 have jQ:Hid (aQ ⟨row,m⟩=ah lY 0 row):=hide (by rw[nE,hlen.out,if_neg hs]);have h1:n<=12:=by omega
 have h2: -65536<=m:=by omega
 have h3:m<=65536:=by omega
 clear hs;go_wp2_with (go_at_call 78;refine (lu _ _).mono ?_;rintro e w' ⟨rfl,rfl⟩);all_goals (try (exfalso;go_light;simp_all;done));go_loopw [3] (λi wr=> ∃k:Nat,k<=n/\i=.int .i64 k/\ah lY 0 row=ah lY k (row.drop k)/\Below (w.alloc (.cells #[.slice A n c,.int .i64 m] 61)).heap.size (w.alloc (.cells #[.slice A n c,.int .i64 m] 61)) wr) (λi _=>n-(intOf i).toNat)
 case atStart=>exact ⟨0,Nat.zero_le _,rfl,rfl,Below.refl _ _⟩
 case round=>
  obtain ⟨k,hk,rfl,heq,hb0⟩:=hrel;have HE:=hide heq;clear heq;have hb:Below w.heap.size w wr:=aa ae hb0;have g0:wr.cell? ⟨w.heap.size,0,none⟩=some (.slice A n c):=bat hb0 (by simp) (by simp[go_sem]);have HB0:=hide hb0;clear hb0;by_cases hlt:k<n
  ·obtain ⟨b,off,x,rfl,hB,HX,f0,f1,f2,f3⟩:=(hx.below hb).val hlt;go_wp2_with fail;refine (xu x f3 _).mono ?_;rintro e w1 ⟨rfl,hb1⟩;have hbb:=aa hb hb1;have HB1:=hide (aa HB0.out hb1);clear hb1 f0 f1 f2;cases hv:valid x
   ·have he:Hid (8=aQ ⟨row,m⟩):=hide (by rw[jQ.out,HE.out,HX.out];exact (aH (by simp[lY,hv]) (by omega)).symm);go_wp2;go_ret;exact ⟨aj he.out,hbb⟩
   ·go_wp2;go_roundw
    case rel=>exact ⟨k+1,by omega,by go_num,by rw[HE.out,HX.out];exact aT (by simp[lY,hv]),HB1.out⟩
    case measure=>simp[intOf];omega
  ·go_wp2;go_ret;exact ⟨aj (by rw[jQ.out,HE.out,aJ hx.len (by omega),ah]),hb⟩
theorem xY (w:World)(A A':Option Addr)(n n' c c':Nat)(xs ys:List Val)(hx:In w A n c xs)(hy:In w A' n' c' ys):
  Calls Tryz.prog 124 #[.slice A n c,.slice A' n' c',.func (.func 125) #[] #[]] w
   λe w'=>e=.returned (.int .i64 (ax xs ys))/\Below w.heap.size w w':=by
 have h63:=hx.le;have h63':=hy.le;go_enter Tryz.func124,Tryz.ntmps124;go_wp2;go_loopw [13] (λi wr=> ∃k:Nat,k<=n/\k<=n'/\i=.int .i64 k/\ax xs ys=ax (xs.drop k) (ys.drop k)/\Below w.heap.size w wr) (λi _=>n-(intOf i).toNat)
 case atStart=>exact ⟨0,Nat.zero_le _,Nat.zero_le _,rfl,rfl,Below.refl _ _⟩
 case round=>
  obtain ⟨k,hk,hk',rfl,heq,hb⟩:=hrel;have HE:=hide heq;clear heq;by_cases hlt:k<n
  ·obtain ⟨b,off,x,rfl,hB,HX,e0,e1,e2,e3⟩:=(hx.below hb).val hlt;by_cases hlt':k<n'
   ·obtain ⟨b',off',y,rfl,hB',HY,f0,f1,f2,f3⟩:=(hy.below hb).val hlt';go_wp2_with fail;refine (CG x y _).mono ?_;rintro e w1 ⟨rfl,hb1⟩;have hbb:=aa (aa (aa hb ae) ae) hb1;clear hb1 e0 e1 e2 f0 f1 f2;by_cases hz:aX x y=0
    ·rw[hz];go_wp2;go_roundw
     case rel=>exact ⟨k+1,by omega,by omega,by go_num,by rw[HE.out,HX.out,HY.out,ax,if_neg (by simp[hz])],hbb⟩
     case measure=>simp[intOf];omega
    ·have hz':(aX x y==0)=false:=by simp[hz]
     go_wp2;go_ret;exact ⟨aj (by rw[HE.out,HX.out,HY.out,ax,if_pos hz]),hbb⟩
   ·go_wp2;go_ret;exact ⟨aj (by rw[HE.out,HX.out,aJ hy.len (by omega),ax]),hb.alloc hb.size _⟩
  ·have hkn:n<=k:=by omega
   by_cases hlt':n<n'
   ·go_wp2;go_ret;refine ⟨aj ?_,hb⟩;rw[HE.out,aJ hx.len hkn];have:ys.drop k≠[]:=by intro h;have:=congrArg List.length h;rw[List.length_drop,hy.len]at this;simp at this;omega
    match h:ys.drop k with
    | []=>exact absurd h this
    | _ :: _=>rw[ax]
   ·go_wp2;go_ret;refine ⟨aj ?_,hb⟩;rw[HE.out,aJ hx.len hkn,aJ hy.len (by omega),ax]
theorem mh (w:World)(A A':Option Addr)(n n' c c':Nat)(xs ys:List Val)(hx:In w A n c xs)(hy:In w A' n' c' ys):
  Calls Tryz.prog 84 #[.slice A n c,.slice A' n' c'] w λe w'=>e=.returned (.int .i64 (ax xs ys))/\Below w.heap.size w w':=by
 go_enter Tryz.func84,Tryz.ntmps84;go_wp2_with fail;refine (xY _ _ _ _ _ _ _ xs ys hx hy).mono ?_;rintro e w1 ⟨rfl,hb1⟩;go_wp2;go_ret;exact ⟨rfl,hb1⟩
theorem In.prev {w:World}{A:Option Addr}{n c k:Nat}{b:List Ent}(h:In w A n c b)(hk:k<n)(h0:0<k): ∃bl off A' n' c' y,A=some ⟨bl,off,none⟩/\bl<w.heap.size/\
  w.cell? ⟨bl,off+(k-1)*2,none⟩=some (.slice A' n' c')/\In w A' n' c' y/\Hid ((b.getD (k-1) default).row=y):=by
 obtain ⟨bl,off,x,e,hb,hx,A',n',c',h1,h2,h3,h4⟩:=h.ent (show k-1<n by omega);exact ⟨bl,off,A',n',c',x.row,e,hb,h1,h3,hide (by rw[getD_drop hx.out])⟩
theorem fG (b:List Ent)(i:Nat)(x:Ent):dm b i x=if aQ x≠0 then aQ x else if x.count=0 then 8 else if 0<i/\0<=ax (b.getD (i-1) default).row x.row then 14 else 0:=rfl
theorem yo (w:World)(A:Option Addr)(n c:Nat)(bs:List Ent)(hx:In w A n c bs):
  Calls Tryz.prog 107 #[.slice A n c] w λe w'=>e=.returned (.int .i64 (ay bs))/\Below w.heap.size w w':=by
 have h63:=hx.le;have hlen:=hide hx.len;go_enter Tryz.func107,Tryz.ntmps107;by_cases hs:4096<n
 ·have he:Hid (2=ay bs):=hide (by rw[ay,hlen.out,if_pos hs]);go_wp2;go_ret;exact ⟨aj he.out,Below.refl _ _⟩
 have jQ:Hid (ay bs=ah (dm bs) 0 bs):=hide (by rw[ay,hlen.out,if_neg hs]);have hs1:n<=4096:=by omega
 clear hs;go_wp2;go_loopw [11] (λi wr=> ∃k:Nat,k<=n/\i=.int .i64 k/\ah (dm bs) 0 bs=ah (dm bs) k (bs.drop k)/\Below w.heap.size w wr) (λi _=>n-(intOf i).toNat)
 case atStart=>exact ⟨0,Nat.zero_le _,rfl,rfl,Below.refl _ _⟩
 case round=>
  obtain ⟨k,hk,rfl,heq,hb⟩:=hrel;have HE:=hide heq;clear heq;by_cases hlt:k<n
  ·obtain ⟨b,off,x,rfl,hB,HX,A',n',c',e0,e1,e2,e3⟩:=(hx.below hb).ent hlt;go_wp2_with fail;refine (Gw _ A' n' c' x (e2.below ae) e3).mono ?_;rintro e w1 ⟨rfl,hb1⟩;have hbb:=aa (aa hb ae) hb1;have g0:w1.cell? ⟨wr.heap.size,0,none⟩=some (.slice A' n' c'):=bat hb1 (by simp) (by simp[go_sem]);have g1:w1.cell? ⟨wr.heap.size,1,none⟩=some (.int .i64 x.count):=bat hb1 (by simp) (by simp[go_sem]);have hin1:=e2.below (aa ae hb1);have hsz:wr.heap.size<w1.heap.size:=by have:=hb1.size;simp at this;omega
   obtain ⟨hm1,hm2⟩:=e3;clear hb1 e0 e1 e2;by_cases hz:aQ x=0
   ·rw[hz];have HC:Hid (ah (dm bs) 0 bs=if x.count=0 then 8 else if 0<k/\0<=ax (bs.getD (k-1) default).row x.row then 14 else ah (dm bs) (k+1) (bs.drop (k+1))):=hide (by
     rw[HE.out,HX.out];by_cases q1:x.count=0
     ·rw[if_pos q1];exact aH (by rw[fG,if_neg (by simp[hz]),if_pos q1]) (by omega)
     ·by_cases q2:0<k/\0<=ax (bs.getD (k-1) default).row x.row
      ·rw[if_neg q1,if_pos q2];exact aH (by rw[fG,if_neg (by simp[hz]),if_neg q1,if_pos q2]) (by omega)
      ·rw[if_neg q1,if_neg q2];exact aT (by rw[fG,if_neg (by simp[hz]),if_neg q1,if_neg q2]))
    clear hz;cases hq:(x.count==0)
    ·have hq1:¬x.count=0:=by simpa using hq
     by_cases h0:0<k
     ·obtain ⟨bl,off',A0,n0,c0,pr,e,hbl,f0,f1,HP⟩:=In.prev (hx.below hbb) hlt h0;injection e with e;injection e with e_1 e_2;subst e_1 e_2;have i0:(0:Int)<(k:Int):=by omega
      have i1:(0:Int)<=(k:Int)-1:=by omega
      have i2:(k:Int)-1<(n:Int):=by omega
      have i3:((k:Int)-1).toNat=k-1:=by omega
      have i5:(1:Int)<=(k:Int):=by omega
      have i6:(k:Int)<=(n:Int):=by omega
      have i4:IntKind.i64.wrap ((k:Int)-1)=(k:Int)-1:=IntWalk.i64_in _ (by omega);go_wp2_with fail;go_region_held3 (λw'=>w'.cell? ⟨b,off+(k-1)*2,none⟩=some (.slice A0 n0 c0)/\w'.cell? ⟨wr.heap.size,0,none⟩=some (.slice A' n' c')) (first|exact ⟨f0,g0⟩|(have hq:=below_undrew hb2;exact ⟨bat hq hbl f0,bat hq hsz g0⟩)) (first|(go_at_call 84;refine (mh _ A0 A' n0 n' c0 c' pr x.row (by exact f1) (by exact hin1)).mono ?_;rintro e w2 ⟨rfl,hb2⟩));have ED:=aa hbb (below_undrew hb2);clear hb2 i4 i3 i2 i1;by_cases hcmp:0<=ax pr x.row
      ·have he:Hid (14=ay bs):=hide (by rw[jQ.out,HC.out,HP.out,if_neg hq1,if_pos ⟨h0,hcmp⟩]);have hd:decide (0<=ax pr x.row)=true:=by simp;omega
       go_wp2;all_goals (try (exfalso;go_light;simp_all;done));go_ret;exact ⟨aj he.out,ED⟩
      ·have he:Hid (ah (dm bs) 0 bs=ah (dm bs) (k+1) (bs.drop (k+1))):=hide (by rw[HC.out,HP.out,if_neg hq1,if_neg (λh=>hcmp h.2)]);have hd:decide (0<=ax pr x.row)=false:=by simp;omega
       go_wp2;all_goals (try (exfalso;go_light;simp_all;done));go_roundw
       case rel=>exact ⟨k+1,by omega,by go_num,he.out,ED⟩
       case measure=>simp[intOf];omega
     ·have h0':k=0:=by omega
      have he:Hid (ah (dm bs) 0 bs=ah (dm bs) (k+1) (bs.drop (k+1))):=hide (by rw[HC.out,if_neg hq1,if_neg (λh=>h0 h.1)]);subst h0';go_wp2;go_quiet (fail);go_wp2;go_roundw
      case rel=>exact ⟨0+1,by omega,by go_num,he.out,bD hbb⟩
      case measure=>simp[intOf];omega
    ·have he:Hid (8=ay bs):=hide (by rw[jQ.out,HC.out,if_pos (by simpa using hq)]);go_wp2;go_ret;exact ⟨aj he.out,hbb⟩
   ·have hz':(aQ x==0)=false:=by simp[hz]
    have he:Hid (aQ x=ay bs):=hide (by rw[jQ.out,HE.out,HX.out];exact (aH (by rw[fG,if_pos hz]) hz).symm);go_wp2;all_goals (try (exfalso;go_light;simp_all;done));go_ret;exact ⟨aj he.out,hbb⟩
  ·go_wp2;go_ret;exact ⟨aj (by rw[jQ.out,HE.out,aJ hx.len (by omega),ah]),hb⟩
theorem Bu (b:Bool)(w:World):Calls Tryz.prog 175 #[.bool b] w λe w'=>e=.returned (.agg (eF b).cells.toArray)/\Below w.heap.size w w':=by
 cases b;all_goals
  go_enter Tryz.func175,Tryz.ntmps175;go_wp2
 ·refine bodyPost_ret (v:=.agg (eF false).cells.toArray) (by simp[results,Tryz.results175,go_sem,Val.cells,eF]) rfl ⟨rfl,by exact ae⟩
 ·refine bodyPost_ret (v:=.agg (eF true).cells.toArray) (by simp[results,Tryz.results175,go_sem,Val.cells,eF]) rfl ⟨rfl,by exact ae⟩
theorem sI (b:Bool)(w:World):Calls Tryz.prog 221 #[.bool b] w λe w'=>e=.returned (.agg (eF b).cells.toArray)/\Below w.heap.size w w':=by
 cases b;all_goals
  go_enter Tryz.func221,Tryz.ntmps221;go_wp2
 ·refine bodyPost_ret (v:=.agg (eF false).cells.toArray) (by simp[results,Tryz.results221,go_sem,Val.cells,eF]) rfl ⟨rfl,by exact ae⟩
 ·refine bodyPost_ret (v:=.agg (eF true).cells.toArray) (by simp[results,Tryz.results221,go_sem,Val.cells,eF]) rfl ⟨rfl,by exact ae⟩
theorem pV (n:Int)(ok:Bool)(w:World):Calls Tryz.prog 222 #[.int .i64 n,.bool ok] w λe w'=>e=.returned (.agg (jO n ok).cells.toArray)/\Below w.heap.size w w':=by
 cases ok;all_goals
  go_enter Tryz.func222,Tryz.ntmps222;go_wp2
 ·refine bodyPost_ret (v:=.agg (jO n false).cells.toArray) (by simp[results,Tryz.results222,go_sem,Val.cells,jO,bi]) rfl ⟨rfl,by exact ae⟩
 ·refine bodyPost_ret (v:=.agg (jO n true).cells.toArray) (by simp[results,Tryz.results222,go_sem,Val.cells,jO]) rfl ⟨rfl,by exact ae⟩
theorem E8 (n:Int)(w:World):Calls Tryz.prog 243 #[.int .i64 n] w λe w'=>e=.returned (.agg (tO n).cells.toArray)/\Below w.heap.size w w':=by
 by_cases h:n<0\/575999999<n
 ·have HM:Hid (tO n=bi):=hide (by rw[tO,if_pos h]);rcases h with h|h
  all_goals
   go_enter Tryz.func243,Tryz.ntmps243;go_wp2;refine bodyPost_ret (v:=.agg bi.cells.toArray) (by simp[results,Tryz.results243,go_sem,Val.cells,bi]) rfl ⟨by rw[HM.out],by exact ae⟩
 ·have HM:Hid (tO n=⟨4,n,⟨#[]⟩⟩):=hide (by rw[tO,if_neg h]);have h1:0<=n:=by omega
  have h2:n<=575999999:=by omega
  clear h;go_enter Tryz.func243,Tryz.ntmps243;go_wp2;refine bodyPost_ret (v:=.agg (Val.cells ⟨4,n,⟨#[]⟩⟩).toArray) (by simp[results,Tryz.results243,go_sem,Val.cells]) rfl ⟨by rw[HM.out],by exact ae⟩
structure Zr (w:World) (g:Nat):Prop where
 c0:w.cell? ⟨g,0,none⟩=some (.int .i64 0)
 c1:w.cell? ⟨g,1,none⟩=some (.int .i64 0)
 c2:w.cell? ⟨g,2,none⟩=some (.string ⟨#[]⟩)
 f0:w.frozen? ⟨g,0,none⟩=false
 f1:w.frozen? ⟨g,1,none⟩=false
 f2:w.frozen? ⟨g,2,none⟩=false
 lt:g<w.heap.size
theorem Zr.below {w w':World}{g:Nat}(h:Zr w g)(hb:Below w.heap.size w w'):Zr w' g:=
 ⟨bat hb h.lt h.c0,bat hb h.lt h.c1,bat hb h.lt h.c2,((ai hb).2 _ _ h.lt).trans h.f0,((ai hb).2 _ _ h.lt).trans h.f1,((ai hb).2 _ _ h.lt).trans h.f2,by have:=hb.size;have:=h.lt;omega⟩
theorem Zr.made (w:World)(t:TypeId):Zr (w.alloc (.cells #[.int .i64 0,.int .i64 0,.string ⟨#[]⟩] t)) w.heap.size:=by
 constructor <;> simp[go_sem]
theorem qZ {fn:Func}{p:Tmp}{R:Ending->World->Prop}{a:Act}{w:World}{g:Nat}{k n:Int}{s:ByteArray}(h:fn.results= #[.cell p 74])(Z:Zr w g)(hp:a.tmps.getD p undef=.pointer (some ⟨g,0,none⟩))(hd:a.defers=[])(hR:R (.returned (.agg (Val.cells ⟨k,n,s⟩).toArray)) (((w.setCell ⟨g,0,none⟩ (.int .i64 k)).setCell ⟨g,1,none⟩ (.int .i64 n)).setCell ⟨g,2,none⟩ (.string s))):
  bodyPost Tryz.prog fn R .ret a (((w.setCell ⟨g,0,none⟩ (.int .i64 k)).setCell ⟨g,1,none⟩ (.int .i64 n)).setCell ⟨g,2,none⟩ (.string s)):=
 bodyPost_ret (bA (cs:=Val.cells ⟨k,n,s⟩) h _ _ g _ hp (bQ Z.c0 Z.c1 Z.c2) Tryz.underlying74 rfl (by kernel_rfl)) hd hR
def V3 (w:World)(b o:Nat)(v:Val):Prop:=w.cell? ⟨b,o,none⟩=some (.int .i64 v.kind)/\w.cell? ⟨b,o+1,none⟩=some (.int .i64 v.num)/\w.cell? ⟨b,o+2,none⟩=some (.string v.str)
theorem V3.below {w w':World}{b o:Nat}{v:Val}(h:V3 w b o v)(hb:Below w.heap.size w w')(hl:b<w.heap.size):V3 w' b o v:=⟨bat hb hl h.1,bat hb hl h.2.1,bat hb hl h.2.2⟩
theorem below_alloc3 {w:World}{o o' o'':Obj}:Below w.heap.size w (((w.alloc o).alloc o').alloc o''):=aa below_alloc2 ae
theorem kJ (w:World)(xk xn yk yn:Int)(xs ys:ByteArray): ∃w0,w0=(((w.alloc (.cells #[.int .i64 xk,.int .i64 xn,.string xs] 74)).alloc (.cells #[.int .i64 yk,.int .i64 yn,.string ys] 74)).alloc (.cells #[.int .i64 0,.int .i64 0,.string ⟨#[]⟩] 74))/\
  V3 w0 w.heap.size 0 ⟨xk,xn,xs⟩/\V3 w0 (w.heap.size+1) 0 ⟨yk,yn,ys⟩/\Hid (Zr w0 (w.heap.size+1+1))/\Below w.heap.size w w0:=by
 refine ⟨_,rfl,?_,?_,?_,below_alloc3⟩
 ·exact V3.below (w:=w.alloc (.cells #[.int .i64 xk,.int .i64 xn,.string xs] 74)) ⟨by simp[go_sem],by simp[go_sem],by simp[go_sem]⟩ below_alloc2 (by simp)
 ·exact V3.below (w:=(w.alloc (.cells #[.int .i64 xk,.int .i64 xn,.string xs] 74)).alloc (.cells #[.int .i64 yk,.int .i64 yn,.string ys] 74)) ⟨by simp[go_sem],by simp[go_sem],by simp[go_sem]⟩ ae (by simp)
 ·exact hide (by have:=Zr.made ((w.alloc (.cells #[.int .i64 xk,.int .i64 xn,.string xs] 74)).alloc (.cells #[.int .i64 yk,.int .i64 yn,.string ys] 74)) 74;simpa using this)
theorem Du (w:World)(op kd nu ar:Int)(st nm:ByteArray): ∃w0,w0=((w.alloc (.cells #[.int .i64 op,.int .i64 kd,.int .i64 nu,.string st,.string nm,.int .i64 ar] 77)).alloc (.cells #[.int .i64 0,.int .i64 0,.string ⟨#[]⟩] 74))/\Hid (Zr w0 (w.heap.size+1))/\
  w0.cell? ⟨w.heap.size,0,none⟩=some (.int .i64 op)/\w0.cell? ⟨w.heap.size,1,none⟩=some (.int .i64 kd)/\w0.cell? ⟨w.heap.size,2,none⟩=some (.int .i64 nu)/\w0.cell? ⟨w.heap.size,3,none⟩=some (.string st)/\w0.cell? ⟨w.heap.size,4,none⟩=some (.string nm)/\w0.cell? ⟨w.heap.size,5,none⟩=some (.int .i64 ar)/\Below w.heap.size w w0:=
 ⟨_,rfl,hide (by have:=Zr.made (w.alloc (.cells #[.int .i64 op,.int .i64 kd,.int .i64 nu,.string st,.string nm,.int .i64 ar] 77)) 74;simpa using this),by simp[go_sem],by simp[go_sem],by simp[go_sem],by simp[go_sem],by simp[go_sem],by simp[go_sem],below_alloc2⟩
theorem aG {B g:Nat}{w w':World}(h:Below B w w')(hg:B<=g)(u v x:Value):Below B w (((w'.setCell ⟨g,0,none⟩ u).setCell ⟨g,1,none⟩ v).setCell ⟨g,2,none⟩ x):=((h.setCell hg _).setCell hg _).setCell hg _
theorem Pv {a b:Int}(ha:aD a)(h0:b≠0): -1073741824<=a.tdiv b/\a.tdiv b<=1073741824:=by
 have h:(a.tdiv b).natAbs<=a.natAbs:=by
  rw[Int.natAbs_tdiv];exact Nat.div_le_self _ _
 unfold aD at ha;omega
theorem Pw {a b:Int}(hb:aD b)(h0:b≠0):(a.tmod b).natAbs<b.natAbs:=by
 rw[Int.natAbs_tmod];exact Nat.mod_lt _ (by omega)
theorem zf {a b:Int}(h0:b≠0):
  (a.tmod b≠0/\(decide (a.tmod b<0) != decide (b<0))=true->a.fdiv b=a.tdiv b-1/\a.fmod b=a.tmod b+b)/\
  (¬(a.tmod b≠0/\(decide (a.tmod b<0) != decide (b<0))=true)->a.fdiv b=a.tdiv b/\a.fmod b=a.tmod b):=by
 have h1:=Int.tmod_add_mul_tdiv a b;have h2:(a.tmod b).natAbs<b.natAbs:=by rw[Int.natAbs_tmod];exact Nat.mod_lt _ (by omega)
 generalize a.tmod b=r at*;generalize a.tdiv b=q at*;have e:b*(q-1)=b*q-b:=by rw[Int.mul_sub,Int.mul_one]
 constructor
 ·rintro ⟨hr,hs⟩;rcases Int.lt_or_gt_of_ne h0 with hb|hb
  ·have:¬r<0:=by intro q;simp[q,hb]at hs
   exact (Int.fdiv_fmod_unique' hb).2 ⟨by rw[e];omega,by omega,by omega⟩
  ·have:r<0:=by
    by_cases q:r<0
    ·exact q
    ·exfalso;simp[q,show ¬b<0 by omega]at hs
   exact (Int.fdiv_fmod_unique (by omega)).2 ⟨by rw[e];omega,by omega,by omega⟩
 ·intro hn;rcases Int.lt_or_gt_of_ne h0 with hb|hb
  ·have:r<=0:=by
    by_cases q:r<=0
    ·exact q
    ·exact absurd ⟨by omega,by simp[hb];omega⟩ hn
   exact (Int.fdiv_fmod_unique' hb).2 ⟨h1,by omega,by omega⟩
  ·have:0<=r:=by
    by_cases q:0<=r
    ·exact q
    ·exact absurd ⟨by omega,by simp[show ¬b<0 by omega];omega⟩ hn
   exact (Int.fdiv_fmod_unique (by omega)).2 ⟨h1,by omega,by omega⟩
theorem Bz (a:Int):um a 0=(0,false)/\uz a 0=(0,false):=by simp[um,uz]
theorem Ir {a b:Int}(ha:aD a)(hb:aD b)(h0:b≠0):um a b=(a.fdiv b,true)/\uz a b=(a.fmod b,true):=by simp[um,uz,fF ha,fF hb,h0]
theorem ze (a b:Int)(ha:aD a)(hb:aD b)(h0:0<b)(w:World):Calls Tryz.prog 255 #[.int .i64 a,.int .i64 b] w λe w'=>e=.returned (.int .i64 (a.fdiv b))/\w=w':=by
 have hne:b≠0:=by omega
 have HF:=hide (zf (a:=a) hne);have q0:(b==0)=false:=by simpa using hne
 have hd:=Pv ha hne;have hm:=Pw (a:=a) hb hne;have hw0:IntKind.i64.wrap (a.tdiv b)=a.tdiv b:=IntWalk.i64_in _ (by omega);have hw1:IntKind.i64.wrap (a.tdiv b-1)=a.tdiv b-1:=IntWalk.i64_in _ (by omega);have hw3:IntKind.i64.wrap (a.tmod b)=a.tmod b:=IntWalk.i64_in _ (by unfold aD at hb;omega);by_cases h1:a.tmod b<0
 ·have HR:=hide (HF.out.1 ⟨by omega,by simp[h1,show ¬b<0 by omega]⟩);go_enter Tryz.func255,Tryz.ntmps255;go_wp2;go_ret;exact ⟨aj (by rw[HR.out.1] <;> rfl),rfl⟩
 ·have HR:=hide (HF.out.2 (by rintro ⟨_,h⟩;simp[h1,show ¬b<0 by omega]at h));go_enter Tryz.func255,Tryz.ntmps255;go_wp2;go_ret;exact ⟨aj (by rw[HR.out.1] <;> rfl),rfl⟩
theorem CP (a b:Int)(ha:aD a)(hb:aD b)(w:World):Calls Tryz.prog 246 #[.int .i64 a,.int .i64 b] w λe w'=>e=.returned (.tuple #[.int .i64 (um a b).1,.bool (um a b).2])/\w=w':=by
 have s1:=fF ha;have s2:=fF hb;by_cases h0:b=0
 ·subst h0;have HD:=hide (Bz a);go_enter Tryz.func246,Tryz.ntmps246;go_wp2_with (go_at_call 151;refine (nN _ _).mono ?_;rintro e w' ⟨rfl,rfl⟩);go_ret2;exact ⟨by rw[HD.out.1] <;> rfl,rfl⟩
 ·have HD:=hide (Ir ha hb h0);have q0:(b==0)=false:=by simpa using h0
  have n1:IntKind.i64.wrap (-a)= -a:=IntWalk.i64_in _ (by unfold aD at ha;omega);have n2:IntKind.i64.wrap (-b)= -b:=IntWalk.i64_in _ (by unfold aD at hb;omega);by_cases h1:b<0
  ·go_enter Tryz.func246,Tryz.ntmps246;go_wp2_with (first|(go_at_call 151;refine (nN _ _).mono ?_;rintro e w' ⟨rfl,rfl⟩)|(go_at_call 255;(try rw[n1]);(try rw[n2]);refine (ze (-a) (-b) (by unfold aD at*;omega) (by unfold aD at*;omega) (by omega) _).mono ?_;rintro e w' ⟨rfl,rfl⟩));go_ret2;exact ⟨by rw[HD.out.1] <;> rfl,rfl⟩
  ·go_enter Tryz.func246,Tryz.ntmps246;go_wp2_with (first|(go_at_call 151;refine (nN _ _).mono ?_;rintro e w' ⟨rfl,rfl⟩)|(go_at_call 255;refine (ze a b ha hb (by omega) _).mono ?_;rintro e w' ⟨rfl,rfl⟩));go_ret2;exact ⟨by rw[HD.out.1] <;> rfl,rfl⟩
theorem Pm (a b:Int)(ha:aD a)(hb:aD b)(w:World):Calls Tryz.prog 247 #[.int .i64 a,.int .i64 b] w λe w'=>e=.returned (.tuple #[.int .i64 (uz a b).1,.bool (uz a b).2])/\w=w':=by
 by_cases h0:b=0
 ·subst h0;have HD:=hide (Bz a);go_enter Tryz.func247,Tryz.ntmps247;go_wp2_with (go_at_call 246;refine (CP a 0 ha hb _).mono ?_;rintro e w' ⟨rfl,rfl⟩;rw[HD.out.1]);go_ret2;exact ⟨by rw[HD.out.2] <;> rfl,rfl⟩
 ·have HD:=hide (Ir ha hb h0);have e1:=Int.fmod_add_mul_fdiv a b;have hm:a.fmod b=a-b*a.fdiv b:=by omega
  have HM:=hide hm;have hq:=Int.natAbs_fdiv_le_natAbs a b;have hq2:aD (a.fdiv b):=by unfold aD at*;omega
  have EE:=ML hb hq2;have n1:IntKind.i64.wrap (b*a.fdiv b)=b*a.fdiv b:=IntWalk.i64_in _ (by omega);have n2:IntKind.i64.wrap (a-b*a.fdiv b)=a-b*a.fdiv b:=IntWalk.i64_in _ (by unfold aD at ha;omega);clear e1 hm hq hq2;go_enter Tryz.func247,Tryz.ntmps247;go_wp2_with (go_at_call 246;refine (CP a b ha hb _).mono ?_;rintro e w' ⟨rfl,rfl⟩;rw[HD.out.1]);go_ret2;exact ⟨by rw[HD.out.2,HM.out] <;> rfl,rfl⟩
end Go.Proofs.YtggejcekmehocaaGreatDoor
