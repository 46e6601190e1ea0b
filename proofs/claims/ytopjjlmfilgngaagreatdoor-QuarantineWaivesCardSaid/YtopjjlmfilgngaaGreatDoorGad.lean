/-
  schema.IsName and warehouseref5.IsName. schema.Index (slices.IndexFunc over columns) and warehouseref5.Index. schema.Validate and warehouseref5.Validate. Package warehouseref1: Valid, Compare, CompareRows. Package value: Valid, Compare, CompareRows; package cmp's Or and Compare. expr.Arity and warehouseref8.Arity: both return arity. warehousebase: At, Moment, Value, Cell, Row: what they build is well-formed. warehousebase: Cell and Row: they fit their columns. schema.CheckRow and warehouseref5.CheckRow. warehousebase.Row: the row fits the columns and lies in a new block. Checked arithmetic: package exact's and the reference's, at integers from -2^30 to 2^30 (larger ones never come in); truth values. bag.formed and warehouseref6.fits. slices.CompareFunc over values, value.CompareRows. bag.Validate, bag.IsTable; warehouseref6.Validate, positive, IsTable. Package warehouseref1: CompareRows. Values of conditions, numbers and moments: scalar.boolean, number, moment and the reference's truth, number, moment. scalar.logic and warehouseref9.logic: they return logicV; a result block of three cells. (Printed by gen_logic.py.) Division: exact.divide, Divide, Modulo and the reference's, at integers from -2^30 to 2^30. warehouseref1.SameRow, warehouseref6.Count.
-/
import Derived.Test.YtopjjlmfilgngaaGreatDoorProg
import Derived.Test.YtopjjlmfilgngaaGreatDoorGac
import Derived.Test.YtopjjlmfilgngaaGreatDoorGaa
namespace Go.Proofs.YtopjjlmfilgngaaGreatDoor
set_option maxHeartbeats 2000000
set_option maxRecDepth 100000
open Go.RowKit
set_option linter.unusedSimpArgs false
set_option linter.unusedVariables false
theorem oI (s:ByteArray)(i:Nat)(h:i<s.size):eY s i=(s[i]'h).toNat:=by
 have h':i<s.data.toList.length:=by simpa using h
 have:s.data.toList.getD i 0=s[i]'h:=by rw[List.getD,List.getElem?_eq_getElem h'];rfl
 rw[eY,this]
theorem KP (P:Program)(w:World)(s:ByteArray)(pos:Nat)(h:pos<s.size):
  ∃c wd:Nat,(∀ty,(Instr.next (.pointer (some ⟨w.heap.size,0,none⟩)) true ty).run P (w.iter s pos)=.ok (.tuple #[.bool true,.int .i64 pos,.int .i32 (c:Int)]) (w.iter s (pos+wd)))/\
   (c<128->c=eY s pos/\wd=1)/\(128<=c->128<=eY s pos)/\c<=2147483647:=by
 refine ⟨_,_,λty=>run_next_any w s pos ty h,λhc=>?_,λhc=>?_,decode_le s pos⟩
 ·by_cases ha:(s[pos]'h).toNat<128
  ·rw[decode_ascii s pos h ha,oI s pos h];exact ⟨rfl,rfl⟩
  ·have:=(decode_high s pos h (by omega)).1;omega
 ·by_cases ha:(s[pos]'h).toNat<128
  ·rw[decode_ascii s pos h ha]at hc;have:128<=(s[pos]'h).toNat:=hc;omega
  ·rw[oI s pos h];omega
theorem tJ (s:ByteArray)(i:Nat)(h:i<s.size):gD s (s.size-i) i=(iq (eY s i) i&&gD s (s.size-(i+1)) (i+1)):=by
 rw[show s.size-i=(s.size-(i+1))+1 from by omega,gD]
theorem dV (s:ByteArray)(i:Nat)(h:i<s.size)(hb:iq (eY s i) i=false):gD s (s.size-i) i=false:=by
 rw[tJ s i h,hb];rfl
theorem dA (s:ByteArray)(i:Nat)(h:i<s.size)(hb:iq (eY s i) i=true):gD s (s.size-i) i=gD s (s.size-(i+1)) (i+1):=by
 rw[tJ s i h,hb];rfl
theorem jX (c i:Nat)(h:128<=c):iq c i=false:=by
 have h1:¬c<=122:=by omega
 have h2:¬c=95:=by omega
 have h3:¬c<=57:=by omega
 simp[iq,h1,h2,h3]
theorem bD (c i:Nat):iq c i=true↔(97<=c/\c<=122)\/(0<i/\(c=95\/(48<=c/\c<=57))):=by simp only[iq,Bool.or_eq_true,Bool.and_eq_true,decide_eq_true_eq]
theorem DY (s:ByteArray):(!s.toList.isEmpty)=decide (0<s.size):=by
 rw[ByteArray.toList_eq];have:s.size=s.data.toList.length:=rfl;rw[this];cases s.data.toList <;> simp
theorem mK (s:ByteArray)(hs:Str s)(w:World):
  Calls Tryz.prog 184 #[.string s] w λe w'=>e=.returned (.bool (bV s))/\Below w.heap.size w w':=by
 unfold Str at hs;go_enter Tryz.func184,Tryz.ntmps184;by_cases hl:s.size<=24
 ·go_wp2;go_loopw [3] (λ_ wr=> ∃pos:Nat,pos<=s.size/\wr=w.iter s pos/\gD s s.size 0=gD s (s.size-pos) pos) (λ_ wr=>s.size-wr.iterPos w.heap.size)
  case atStart=>exact ⟨0,by omega,rfl,rfl⟩
  case round=>
   obtain ⟨pos,hpos,rfl,heq⟩:=hrel;have HE:=hide heq;clear heq;by_cases hp:pos<s.size
   ·obtain ⟨c,wd,hnx,h1,h2,h3⟩:=KP Tryz.prog w s pos hp;have H1:=hide h1;clear h1;cases hA:decide ((97:Int)<=(c:Int))
    ·cases hC:((pos:Int)==0)
     ·cases hD:((c:Int)==95)
      ·cases hE:decide ((c:Int)<48)
       ·cases hF:decide ((57:Int)<(c:Int))
        ·go_wp2;all_goals (try (exfalso;go_light;(try simp only[decide_eq_true_eq,decide_eq_false_iff_not,beq_iff_eq,beq_eq_false_iff_ne,ne_eq,Bool.not_eq_true',Bool.not_eq_false']at*);omega));all_goals
          go_roundw
          case rel=>
           go_light
           (try simp only[decide_eq_true_eq,decide_eq_false_iff_not,beq_iff_eq,beq_eq_false_iff_ne,ne_eq]at*);obtain ⟨e1,rfl⟩:=H1.out (by omega);refine ⟨pos+1,by omega,rfl,?_⟩;rw[HE.out];exact dA s pos hp (by rw[<-e1];exact (bD c pos).2 (by omega))
          case measure=>
           go_light
           (try simp only[decide_eq_true_eq,decide_eq_false_iff_not,beq_iff_eq,beq_eq_false_iff_ne,ne_eq]at*);obtain ⟨e1,rfl⟩:=H1.out (by omega);simp;omega
        ·go_wp2;all_goals (try (exfalso;go_light;(try simp only[decide_eq_true_eq,decide_eq_false_iff_not,beq_iff_eq,beq_eq_false_iff_ne,ne_eq,Bool.not_eq_true',Bool.not_eq_false']at*);omega));all_goals
          go_ret;refine ⟨ay ?_,ae⟩;go_light;have hbad:iq (eY s pos) pos=false:=by
           by_cases hc:c<128
           ·rw[<-(H1.out hc).1];refine Bool.eq_false_iff.2 λh=>?_;have h':=(bD c pos).1 h
            (try simp only[decide_eq_true_eq,decide_eq_false_iff_not,beq_iff_eq,beq_eq_false_iff_ne,ne_eq]at*) <;> omega
           ·exact jX _ _ (h2 (by omega))
          rw[bV,HE.out,dV s pos hp hbad];simp
       ·go_wp2;all_goals (try (exfalso;go_light;(try simp only[decide_eq_true_eq,decide_eq_false_iff_not,beq_iff_eq,beq_eq_false_iff_ne,ne_eq,Bool.not_eq_true',Bool.not_eq_false']at*);omega));all_goals
         go_ret;refine ⟨ay ?_,ae⟩;go_light;have hbad:iq (eY s pos) pos=false:=by
          by_cases hc:c<128
          ·rw[<-(H1.out hc).1];refine Bool.eq_false_iff.2 λh=>?_;have h':=(bD c pos).1 h
           (try simp only[decide_eq_true_eq,decide_eq_false_iff_not,beq_iff_eq,beq_eq_false_iff_ne,ne_eq]at*) <;> omega
          ·exact jX _ _ (h2 (by omega))
         rw[bV,HE.out,dV s pos hp hbad];simp
      ·go_wp2;all_goals (try (exfalso;go_light;(try simp only[decide_eq_true_eq,decide_eq_false_iff_not,beq_iff_eq,beq_eq_false_iff_ne,ne_eq,Bool.not_eq_true',Bool.not_eq_false']at*);omega));all_goals
        go_roundw
        case rel=>
         go_light
         (try simp only[decide_eq_true_eq,decide_eq_false_iff_not,beq_iff_eq,beq_eq_false_iff_ne,ne_eq]at*);obtain ⟨e1,rfl⟩:=H1.out (by omega);refine ⟨pos+1,by omega,rfl,?_⟩;rw[HE.out];exact dA s pos hp (by rw[<-e1];exact (bD c pos).2 (by omega))
        case measure=>
         go_light
         (try simp only[decide_eq_true_eq,decide_eq_false_iff_not,beq_iff_eq,beq_eq_false_iff_ne,ne_eq]at*);obtain ⟨e1,rfl⟩:=H1.out (by omega);simp;omega
     ·go_wp2;all_goals (try (exfalso;go_light;(try simp only[decide_eq_true_eq,decide_eq_false_iff_not,beq_iff_eq,beq_eq_false_iff_ne,ne_eq,Bool.not_eq_true',Bool.not_eq_false']at*);omega));all_goals
       go_ret;refine ⟨ay ?_,ae⟩;go_light;have hbad:iq (eY s pos) pos=false:=by
        by_cases hc:c<128
        ·rw[<-(H1.out hc).1];refine Bool.eq_false_iff.2 λh=>?_;have h':=(bD c pos).1 h
         (try simp only[decide_eq_true_eq,decide_eq_false_iff_not,beq_iff_eq,beq_eq_false_iff_ne,ne_eq]at*) <;> omega
        ·exact jX _ _ (h2 (by omega))
       rw[bV,HE.out,dV s pos hp hbad];simp
    ·cases hB:decide ((c:Int)<=122)
     ·cases hC:((pos:Int)==0)
      ·cases hD:((c:Int)==95)
       ·cases hE:decide ((c:Int)<48)
        ·cases hF:decide ((57:Int)<(c:Int))
         ·go_wp2;all_goals (try (exfalso;go_light;(try simp only[decide_eq_true_eq,decide_eq_false_iff_not,beq_iff_eq,beq_eq_false_iff_ne,ne_eq,Bool.not_eq_true',Bool.not_eq_false']at*);omega));all_goals
           go_roundw
           case rel=>
            go_light
            (try simp only[decide_eq_true_eq,decide_eq_false_iff_not,beq_iff_eq,beq_eq_false_iff_ne,ne_eq]at*);obtain ⟨e1,rfl⟩:=H1.out (by omega);refine ⟨pos+1,by omega,rfl,?_⟩;rw[HE.out];exact dA s pos hp (by rw[<-e1];exact (bD c pos).2 (by omega))
           case measure=>
            go_light
            (try simp only[decide_eq_true_eq,decide_eq_false_iff_not,beq_iff_eq,beq_eq_false_iff_ne,ne_eq]at*);obtain ⟨e1,rfl⟩:=H1.out (by omega);simp;omega
         ·go_wp2;all_goals (try (exfalso;go_light;(try simp only[decide_eq_true_eq,decide_eq_false_iff_not,beq_iff_eq,beq_eq_false_iff_ne,ne_eq,Bool.not_eq_true',Bool.not_eq_false']at*);omega));all_goals
           go_ret;refine ⟨ay ?_,ae⟩;go_light;have hbad:iq (eY s pos) pos=false:=by
            by_cases hc:c<128
            ·rw[<-(H1.out hc).1];refine Bool.eq_false_iff.2 λh=>?_;have h':=(bD c pos).1 h
             (try simp only[decide_eq_true_eq,decide_eq_false_iff_not,beq_iff_eq,beq_eq_false_iff_ne,ne_eq]at*) <;> omega
            ·exact jX _ _ (h2 (by omega))
           rw[bV,HE.out,dV s pos hp hbad];simp
        ·go_wp2;all_goals (try (exfalso;go_light;(try simp only[decide_eq_true_eq,decide_eq_false_iff_not,beq_iff_eq,beq_eq_false_iff_ne,ne_eq,Bool.not_eq_true',Bool.not_eq_false']at*);omega));all_goals
          go_ret;refine ⟨ay ?_,ae⟩;go_light;have hbad:iq (eY s pos) pos=false:=by
           by_cases hc:c<128
           ·rw[<-(H1.out hc).1];refine Bool.eq_false_iff.2 λh=>?_;have h':=(bD c pos).1 h
            (try simp only[decide_eq_true_eq,decide_eq_false_iff_not,beq_iff_eq,beq_eq_false_iff_ne,ne_eq]at*) <;> omega
           ·exact jX _ _ (h2 (by omega))
          rw[bV,HE.out,dV s pos hp hbad];simp
       ·go_wp2;all_goals (try (exfalso;go_light;(try simp only[decide_eq_true_eq,decide_eq_false_iff_not,beq_iff_eq,beq_eq_false_iff_ne,ne_eq,Bool.not_eq_true',Bool.not_eq_false']at*);omega));all_goals
         go_roundw
         case rel=>
          go_light
          (try simp only[decide_eq_true_eq,decide_eq_false_iff_not,beq_iff_eq,beq_eq_false_iff_ne,ne_eq]at*);obtain ⟨e1,rfl⟩:=H1.out (by omega);refine ⟨pos+1,by omega,rfl,?_⟩;rw[HE.out];exact dA s pos hp (by rw[<-e1];exact (bD c pos).2 (by omega))
         case measure=>
          go_light
          (try simp only[decide_eq_true_eq,decide_eq_false_iff_not,beq_iff_eq,beq_eq_false_iff_ne,ne_eq]at*);obtain ⟨e1,rfl⟩:=H1.out (by omega);simp;omega
      ·go_wp2;all_goals (try (exfalso;go_light;(try simp only[decide_eq_true_eq,decide_eq_false_iff_not,beq_iff_eq,beq_eq_false_iff_ne,ne_eq,Bool.not_eq_true',Bool.not_eq_false']at*);omega));all_goals
        go_ret;refine ⟨ay ?_,ae⟩;go_light;have hbad:iq (eY s pos) pos=false:=by
         by_cases hc:c<128
         ·rw[<-(H1.out hc).1];refine Bool.eq_false_iff.2 λh=>?_;have h':=(bD c pos).1 h
          (try simp only[decide_eq_true_eq,decide_eq_false_iff_not,beq_iff_eq,beq_eq_false_iff_ne,ne_eq]at*) <;> omega
         ·exact jX _ _ (h2 (by omega))
        rw[bV,HE.out,dV s pos hp hbad];simp
     ·go_wp2;all_goals (try (exfalso;go_light;(try simp only[decide_eq_true_eq,decide_eq_false_iff_not,beq_iff_eq,beq_eq_false_iff_ne,ne_eq,Bool.not_eq_true',Bool.not_eq_false']at*);omega));all_goals
       go_roundw
       case rel=>
        go_light
        (try simp only[decide_eq_true_eq,decide_eq_false_iff_not,beq_iff_eq,beq_eq_false_iff_ne,ne_eq]at*);obtain ⟨e1,rfl⟩:=H1.out (by omega);refine ⟨pos+1,by omega,rfl,?_⟩;rw[HE.out];exact dA s pos hp (by rw[<-e1];exact (bD c pos).2 (by omega))
       case measure=>
        go_light
        (try simp only[decide_eq_true_eq,decide_eq_false_iff_not,beq_iff_eq,beq_eq_false_iff_ne,ne_eq]at*);obtain ⟨e1,rfl⟩:=H1.out (by omega);simp;omega
   ·have hnx: ∀ty,(Instr.next (.pointer (some ⟨w.heap.size,0,none⟩)) true ty).run Tryz.prog (w.iter s pos)=_:=λty=>run_next_end w s pos ty hp;go_wp2;go_ret;refine ⟨ay ?_,ae⟩;go_light;have:pos=s.size:=by omega
    subst this;rw[bV,HE.out,Nat.sub_self,gD];rw[DY];simp[hl]
 ·go_wp2;go_ret;exact ⟨ay (by simp[bV,hl]),Below.refl _ _⟩
theorem il (s:ByteArray)(hs:Str s)(w:World):
  Calls Tryz.prog 127 #[.string s] w λe w'=>e=.returned (.bool (bV s))/\w=w':=by
 unfold Str at hs;go_enter Tryz.func127,Tryz.ntmps127;obtain hl|hl|hl:s.size<1\/24<s.size\/(1<=s.size/\s.size<=24):=by omega
 ·go_wp2;all_goals (try (exfalso;go_light;(try simp only[decide_eq_true_eq,decide_eq_false_iff_not,beq_iff_eq,beq_eq_false_iff_ne,ne_eq,Bool.not_eq_true',Bool.not_eq_false']at*);omega));all_goals
   go_ret;refine ⟨ay ?_,rfl⟩;go_light;have h0:¬0<s.size:=by omega
   simp[bV,h0]
 ·go_wp2;all_goals (try (exfalso;go_light;(try simp only[decide_eq_true_eq,decide_eq_false_iff_not,beq_iff_eq,beq_eq_false_iff_ne,ne_eq,Bool.not_eq_true',Bool.not_eq_false']at*);omega));all_goals
   go_ret;refine ⟨ay ?_,rfl⟩;go_light;have h0:¬s.size<=24:=by omega
   simp[bV,h0]
 ·obtain ⟨hl1,hl2⟩:=hl;have hz:0<s.size:=by omega
  obtain ⟨d,hd⟩: ∃d,(s[0]'hz).toNat=d:=⟨_,rfl⟩;have HD:Hid (d=eY s 0):=hide (by rw[oI s 0 hz,hd]);have early:(d<97\/122<d)->bV s=false:=λh=>by
   have hbad:iq (eY s 0) 0=false:=by
    rw[<-HD.out];refine Bool.eq_false_iff.2 λh'=>?_;have:=(bD d 0).1 h';omega
   have:=dV s 0 hz hbad;rw[Nat.sub_zero]at this;rw[bV,this];simp
  cases XQ:decide ((d:Int)<97)
  ·cases hB0:decide ((122:Int)<(d:Int))
   ·go_wp2
    go_loop [3] (λi=> ∃pos:Nat,pos<=s.size/\i=.int .i64 pos/\gD s s.size 0=gD s (s.size-pos) pos) (λi=>s.size-(intOf i).toNat)
    case atStart=>exact ⟨0,by omega,rfl,rfl⟩
    case round=>
     obtain ⟨pos,hpos,rfl,heq⟩:=hrel;have HE:=hide heq;clear heq;by_cases hp:pos<s.size
     ·obtain ⟨c,hc⟩: ∃c,(s[pos]'hp).toNat=c:=⟨_,rfl⟩;have HC:Hid (c=eY s pos):=hide (by rw[oI s pos hp,hc]);have h0:pos=0->c=d:=by intro h;subst h;rw[HC.out,HD.out]
      cases hA:decide ((97:Int)<=(c:Int))
      ·cases hE:decide ((48:Int)<=(c:Int))
       ·cases hD:((c:Int)==95)
        ·go_wp2;all_goals (try (exfalso;go_light;(try simp only[decide_eq_true_eq,decide_eq_false_iff_not,beq_iff_eq,beq_eq_false_iff_ne,ne_eq,Bool.not_eq_true',Bool.not_eq_false']at*);omega));all_goals
          go_ret;refine ⟨ay ?_,rfl⟩;go_light;have hbad:iq (eY s pos) pos=false:=by
           rw[<-HC.out];refine Bool.eq_false_iff.2 λh=>?_;have h':=(bD c pos).1 h
           (try simp only[decide_eq_true_eq,decide_eq_false_iff_not,beq_iff_eq,beq_eq_false_iff_ne,ne_eq]at*) <;> omega
          rw[bV,HE.out,dV s pos hp hbad];simp
        ·go_wp2;all_goals (try (exfalso;go_light;(try simp only[decide_eq_true_eq,decide_eq_false_iff_not,beq_iff_eq,beq_eq_false_iff_ne,ne_eq,Bool.not_eq_true',Bool.not_eq_false']at*);omega));all_goals
          go_round
          case rel=>
           go_light
           (try simp only[decide_eq_true_eq,decide_eq_false_iff_not,beq_iff_eq,beq_eq_false_iff_ne,ne_eq]at*);refine ⟨pos+1,by omega,by go_num,?_⟩;rw[HE.out];exact dA s pos hp (by rw[<-HC.out];exact (bD c pos).2 (by omega))
          case measure=>simp[intOf];omega
       ·cases hF:decide ((c:Int)<=57)
        ·cases hD:((c:Int)==95)
         ·go_wp2;all_goals (try (exfalso;go_light;(try simp only[decide_eq_true_eq,decide_eq_false_iff_not,beq_iff_eq,beq_eq_false_iff_ne,ne_eq,Bool.not_eq_true',Bool.not_eq_false']at*);omega));all_goals
           go_ret;refine ⟨ay ?_,rfl⟩;go_light;have hbad:iq (eY s pos) pos=false:=by
            rw[<-HC.out];refine Bool.eq_false_iff.2 λh=>?_;have h':=(bD c pos).1 h
            (try simp only[decide_eq_true_eq,decide_eq_false_iff_not,beq_iff_eq,beq_eq_false_iff_ne,ne_eq]at*) <;> omega
           rw[bV,HE.out,dV s pos hp hbad];simp
         ·go_wp2;all_goals (try (exfalso;go_light;(try simp only[decide_eq_true_eq,decide_eq_false_iff_not,beq_iff_eq,beq_eq_false_iff_ne,ne_eq,Bool.not_eq_true',Bool.not_eq_false']at*);omega));all_goals
           go_round
           case rel=>
            go_light
            (try simp only[decide_eq_true_eq,decide_eq_false_iff_not,beq_iff_eq,beq_eq_false_iff_ne,ne_eq]at*);refine ⟨pos+1,by omega,by go_num,?_⟩;rw[HE.out];exact dA s pos hp (by rw[<-HC.out];exact (bD c pos).2 (by omega))
           case measure=>simp[intOf];omega
        ·go_wp2;all_goals (try (exfalso;go_light;(try simp only[decide_eq_true_eq,decide_eq_false_iff_not,beq_iff_eq,beq_eq_false_iff_ne,ne_eq,Bool.not_eq_true',Bool.not_eq_false']at*);omega));all_goals
          go_round
          case rel=>
           go_light
           (try simp only[decide_eq_true_eq,decide_eq_false_iff_not,beq_iff_eq,beq_eq_false_iff_ne,ne_eq]at*);refine ⟨pos+1,by omega,by go_num,?_⟩;rw[HE.out];exact dA s pos hp (by rw[<-HC.out];exact (bD c pos).2 (by omega))
          case measure=>simp[intOf];omega
      ·cases hB:decide ((c:Int)<=122)
       ·cases hE:decide ((48:Int)<=(c:Int))
        ·cases hD:((c:Int)==95)
         ·go_wp2;all_goals (try (exfalso;go_light;(try simp only[decide_eq_true_eq,decide_eq_false_iff_not,beq_iff_eq,beq_eq_false_iff_ne,ne_eq,Bool.not_eq_true',Bool.not_eq_false']at*);omega));all_goals
           go_ret;refine ⟨ay ?_,rfl⟩;go_light;have hbad:iq (eY s pos) pos=false:=by
            rw[<-HC.out];refine Bool.eq_false_iff.2 λh=>?_;have h':=(bD c pos).1 h
            (try simp only[decide_eq_true_eq,decide_eq_false_iff_not,beq_iff_eq,beq_eq_false_iff_ne,ne_eq]at*) <;> omega
           rw[bV,HE.out,dV s pos hp hbad];simp
         ·go_wp2;all_goals (try (exfalso;go_light;(try simp only[decide_eq_true_eq,decide_eq_false_iff_not,beq_iff_eq,beq_eq_false_iff_ne,ne_eq,Bool.not_eq_true',Bool.not_eq_false']at*);omega));all_goals
           go_round
           case rel=>
            go_light
            (try simp only[decide_eq_true_eq,decide_eq_false_iff_not,beq_iff_eq,beq_eq_false_iff_ne,ne_eq]at*);refine ⟨pos+1,by omega,by go_num,?_⟩;rw[HE.out];exact dA s pos hp (by rw[<-HC.out];exact (bD c pos).2 (by omega))
           case measure=>simp[intOf];omega
        ·cases hF:decide ((c:Int)<=57)
         ·cases hD:((c:Int)==95)
          ·go_wp2;all_goals (try (exfalso;go_light;(try simp only[decide_eq_true_eq,decide_eq_false_iff_not,beq_iff_eq,beq_eq_false_iff_ne,ne_eq,Bool.not_eq_true',Bool.not_eq_false']at*);omega));all_goals
            go_ret;refine ⟨ay ?_,rfl⟩;go_light;have hbad:iq (eY s pos) pos=false:=by
             rw[<-HC.out];refine Bool.eq_false_iff.2 λh=>?_;have h':=(bD c pos).1 h
             (try simp only[decide_eq_true_eq,decide_eq_false_iff_not,beq_iff_eq,beq_eq_false_iff_ne,ne_eq]at*) <;> omega
            rw[bV,HE.out,dV s pos hp hbad];simp
          ·go_wp2;all_goals (try (exfalso;go_light;(try simp only[decide_eq_true_eq,decide_eq_false_iff_not,beq_iff_eq,beq_eq_false_iff_ne,ne_eq,Bool.not_eq_true',Bool.not_eq_false']at*);omega));all_goals
            go_round
            case rel=>
             go_light
             (try simp only[decide_eq_true_eq,decide_eq_false_iff_not,beq_iff_eq,beq_eq_false_iff_ne,ne_eq]at*);refine ⟨pos+1,by omega,by go_num,?_⟩;rw[HE.out];exact dA s pos hp (by rw[<-HC.out];exact (bD c pos).2 (by omega))
            case measure=>simp[intOf];omega
         ·go_wp2;all_goals (try (exfalso;go_light;(try simp only[decide_eq_true_eq,decide_eq_false_iff_not,beq_iff_eq,beq_eq_false_iff_ne,ne_eq,Bool.not_eq_true',Bool.not_eq_false']at*);omega));all_goals
           go_round
           case rel=>
            go_light
            (try simp only[decide_eq_true_eq,decide_eq_false_iff_not,beq_iff_eq,beq_eq_false_iff_ne,ne_eq]at*);refine ⟨pos+1,by omega,by go_num,?_⟩;rw[HE.out];exact dA s pos hp (by rw[<-HC.out];exact (bD c pos).2 (by omega))
           case measure=>simp[intOf];omega
       ·go_wp2;all_goals (try (exfalso;go_light;(try simp only[decide_eq_true_eq,decide_eq_false_iff_not,beq_iff_eq,beq_eq_false_iff_ne,ne_eq,Bool.not_eq_true',Bool.not_eq_false']at*);omega));all_goals
         go_round
         case rel=>
          go_light
          (try simp only[decide_eq_true_eq,decide_eq_false_iff_not,beq_iff_eq,beq_eq_false_iff_ne,ne_eq]at*);refine ⟨pos+1,by omega,by go_num,?_⟩;rw[HE.out];exact dA s pos hp (by rw[<-HC.out];exact (bD c pos).2 (by omega))
         case measure=>simp[intOf];omega
     ·go_wp2;go_ret;refine ⟨ay ?_,rfl⟩;go_light;have:pos=s.size:=by omega
      subst this;rw[bV,HE.out,Nat.sub_self,gD];simp[hl2,hz]
   ·have he:=early (.inr (by simp only[decide_eq_true_eq]at hB0;omega));go_wp2;all_goals (go_ret;exact ⟨ay he.symm,rfl⟩)
  ·have he:=early (.inl (by simp only[decide_eq_true_eq]at XQ;omega));go_wp2;all_goals (go_ret;exact ⟨ay he.symm,rfl⟩)
theorem Kq (c:Col)(name:ByteArray)(g:Nat)(w:World)(hg:w.cell? ⟨g,0,none⟩=some (.string name))(hlt:g<w.heap.size):
  Calls Tryz.prog 182 #[.agg c.cells.toArray,.pointer (some ⟨g,0,none⟩)] w λe w'=>e=.returned (.bool (c.name.toList==name.toList))/\Below w.heap.size w w':=by
 simp only[Col.cells];go_enter Tryz.func182,Tryz.ntmps182;go_wp2;go_ret;exact ⟨rfl,ae⟩
theorem Bq (w:World)(A:Option Addr)(n c:Nat)(xs:List Col)(hx:In w A n c xs)(name:ByteArray)(g:Nat)(hg:w.cell? ⟨g,0,none⟩=some (.string name))(hlt:g<w.heap.size):
  Calls Tryz.prog 181 #[.slice A n c,.func (.func 182) #[] #[.pointer (some ⟨g,0,none⟩)]] w
   λe w'=>e=.returned (.int .i64 (index xs name))/\Below w.heap.size w w':=by
 have h63:=hx.le;go_enter Tryz.func181,Tryz.ntmps181;go_wp2;go_loopw [8] (λi wr=> ∃k:Nat,k<=n/\i=.int .i64 k/\index xs name=aR name k (xs.drop k)/\Below w.heap.size w wr) (λi _=>n-(intOf i).toNat)
 case atStart=>exact ⟨0,Nat.zero_le _,rfl,rfl,Below.refl _ _⟩
 case round=>
  obtain ⟨k,hk,rfl,heq,hb⟩:=hrel;have HE:=hide heq;clear heq;by_cases hlt':k<n
  ·obtain ⟨b,off,x,rfl,hB,HX,e0,e1,e2,e3⟩:=(hx.below hb).col hlt';go_wp2_with fail;refine (Kq x name g _ (ah hb hlt hg) (Nat.lt_of_lt_of_le hlt hb.size)).mono ?_;rintro e w1 ⟨rfl,hb1⟩;have hbb:=aa hb hb1;clear hb1 e0 e1 e2;cases hz:(x.name.toList==name.toList)
   ·go_wp2;go_roundw
    case rel=>exact ⟨k+1,by omega,by go_num,by rw[HE.out,HX.out,aR,if_neg (by simp[hz])],hbb⟩
    case measure=>simp[intOf];omega
   ·go_wp2;go_ret;exact ⟨ax (by rw[HE.out,HX.out,aR,if_pos hz]),hbb⟩
  ·go_wp2;go_ret;exact ⟨ax (by rw[HE.out,aI hx.len (by omega),aR]),hb⟩
theorem wF (w:World)(A:Option Addr)(n c:Nat)(xs:List Col)(hx:In w A n c xs)(name:ByteArray):
  Calls Tryz.prog 139 #[.slice A n c,.string name] w λe w'=>e=.returned (.int .i64 (index xs name))/\Below w.heap.size w w':=by
 go_enter Tryz.func139,Tryz.ntmps139;go_wp2_with fail;refine (Bq _ _ _ _ xs (hx.below ae) name w.heap.size (by simp[go_sem]) (by simp)).mono ?_;rintro e w1 ⟨rfl,hb1⟩;have hbb:=aa ae hb1;go_wp2;go_ret;exact ⟨rfl,hbb⟩
theorem oU (w:World)(A:Option Addr)(n c:Nat)(xs:List Col)(hx:In w A n c xs)(name:ByteArray):
  Calls Tryz.prog 128 #[.slice A n c,.string name] w λe w'=>e=.returned (.int .i64 (index xs name))/\w=w':=by
 have h63:=hx.le;go_enter Tryz.func128,Tryz.ntmps128;go_wp2
 go_loop [5] (λi=> ∃k:Nat,k<=n/\i=.int .i64 k/\index xs name=aR name k (xs.drop k)) (λi=>n-(intOf i).toNat)
 case atStart=>exact ⟨0,Nat.zero_le _,rfl,rfl⟩
 case round=>
  obtain ⟨k,hk,rfl,heq⟩:=hrel;have HE:=hide heq;clear heq;by_cases hlt':k<n
  ·obtain ⟨b,off,x,rfl,hB,HX,e0,e1,e2,e3⟩:=hx.col hlt';cases hz:(x.name.toList==name.toList)
   ·go_wp2
    go_round
    case rel=>exact ⟨k+1,by omega,by go_num,by rw[HE.out,HX.out,aR,if_neg (by simp[hz])]⟩
    case measure=>simp[intOf];omega
   ·go_wp2;go_ret;exact ⟨ax (by rw[HE.out,HX.out,aR,if_pos hz]),rfl⟩
  ·go_wp2;go_ret;exact ⟨ax (by rw[HE.out,aI hx.len (by omega),aR]),rfl⟩
theorem aY {α:Type}{f:Nat->α->Int}{k:Nat}{x:α}{l:List α}(h:f k x=0):ai f k (x :: l)=ai f (k+1) l:=by simp[ai,h]
theorem aK {α:Type}{f:Nat->α->Int}{k:Nat}{x:α}{l:List α}{e:Int}(h:f k x=e)(he:e≠0):ai f k (x :: l)=e:=by simp[ai,h,he]
theorem Dz (name:ByteArray)(l:List Col): ∀k i,(h:i<l.length)->(l[i].name.toList==name.toList)=true->0<=aR name k l/\aR name k l<=k+i:=by
 induction l with
 |nil=>intro k i h;simp at h
 |cons c l ih=>
  intro k i h he;rw[aR]
  split
  ·exact ⟨by omega,by omega⟩
  ·rename_i hc;cases i with
   |zero=>exact absurd he hc
   |succ i=>
    have:=ih (k+1) i (by simpa using h) (by simpa using he);omega
theorem oJ (w:World)(A:Option Addr)(n c:Nat)(xs:List Col)(hx:In w A n c xs):
  Calls Tryz.prog 143 #[.slice A n c] w λe w'=>e=.returned (.int .i64 (aC xs))/\Below w.heap.size w w':=by
 have h63:=hx.le;have hlen:=hide hx.len;go_enter Tryz.func143,Tryz.ntmps143;by_cases hs:n<1\/12<n
 ·have he:Hid (2=aC xs):=hide (by rw[aC,hlen.out,if_pos hs]);rcases hs with hs|hs
  all_goals
   go_wp2;go_ret;exact ⟨ax he.out,Below.refl _ _⟩
 have jR:Hid (aC xs=ai (gK xs) 0 xs):=hide (by rw[aC,hlen.out,if_neg hs]);have hs1:1<=n:=by omega
 have hs2:n<=12:=by omega
 clear hs;go_wp2;go_loopw [15] (λi wr=> ∃k:Nat,k<=n/\i=.int .i64 k/\ai (gK xs) 0 xs=ai (gK xs) k (xs.drop k)/\Below w.heap.size w wr) (λi _=>n-(intOf i).toNat)
 case atStart=>exact ⟨0,Nat.zero_le _,rfl,rfl,Below.refl _ _⟩
 case round=>
  obtain ⟨k,hk,rfl,heq,hb⟩:=hrel;have HE:=hide heq;clear heq;by_cases hlt:k<n
  ·obtain ⟨b,off,x,rfl,hB,HX,e0,e1,e2,e3⟩:=(hx.below hb).col hlt;go_wp2_with fail;refine (mK x.name e3.1 _).mono ?_;rintro e w1 ⟨rfl,hb1⟩;have hbb:=aa (aa hb ae) hb1;obtain ⟨hc1,hf1⟩:=au hb1;have hin:=hx.below hbb;clear hb1 e0 e1 e2;obtain ⟨hk1,hk2⟩:=e3.2;cases hnm:bV x.name
   ·go_wp2;go_ret;exact ⟨ax (by rw[jR.out,HE.out,HX.out];exact (aK (by simp[gK,hnm]) (by omega)).symm),hbb⟩
   ·by_cases hkd:x.kind<1\/4<x.kind
    ·have he:gK xs k x=7:=by rw[gK,if_neg (by simp[hnm]),if_pos hkd]
     have HR:Hid (7=aC xs):=hide (by rw[jR.out,HE.out,HX.out];exact (aK he (by omega)).symm);clear he;rcases hkd with hkd|hkd
     all_goals
      go_wp2;go_ret;exact ⟨ax HR.out,hbb⟩
    ·have hk3:1<=x.kind:=by omega
     have hk4:x.kind<=4:=by omega
     have HC:Hid (gK xs k x=if index xs x.name<k then 6 else 0):=hide (by rw[gK,if_neg (by simp[hnm]),if_neg hkd]);clear hkd;go_wp2_with fail;refine (wF _ _ _ _ xs hin x.name).mono ?_;rintro e w2 ⟨rfl,hb2⟩;have Fx:=aa hbb hb2;clear hb2 hc1 hf1;by_cases hi:index xs x.name<k
     ·have HR:Hid (6=aC xs):=hide (by rw[jR.out,HE.out,HX.out];exact (aK (by rw[HC.out,if_pos hi]) (by omega)).symm);go_wp2;go_ret;exact ⟨ax HR.out,Fx⟩
     ·go_wp2;go_roundw
      case rel=>exact ⟨k+1,by omega,by go_num,by rw[HE.out,HX.out];exact aY (by rw[HC.out,if_neg (by omega)]),Fx⟩
      case measure=>simp[intOf];omega
  ·go_wp2;go_ret;exact ⟨ax (by rw[jR.out,HE.out,aI hx.len (by omega),ai]),hb⟩
theorem index_self {xs:List Col}{k:Nat}{x:Col}{l:List Col}(h:xs.drop k=x :: l):0<=index xs x.name/\index xs x.name<=k:=by
 obtain ⟨h1,h2⟩:=bX h;rw[List.getElem?_eq_getElem h2]at h1;injection h1 with h1;have:=Dz x.name xs 0 k h2 (by rw[h1];simp);rw[index];omega
theorem jF (w:World)(A:Option Addr)(n c:Nat)(xs:List Col)(hx:In w A n c xs):
  Calls Tryz.prog 91 #[.slice A n c] w λe w'=>e=.returned (.int .i64 (aC xs))/\w=w':=by
 have h63:=hx.le;have hlen:=hide hx.len;go_enter Tryz.func91,Tryz.ntmps91;by_cases hs:n<1\/12<n
 ·have he:Hid (2=aC xs):=hide (by rw[aC,hlen.out,if_pos hs]);rcases hs with hs|hs
  all_goals
   go_wp2;go_ret;exact ⟨ax he.out,rfl⟩
 have jR:Hid (aC xs=ai (gK xs) 0 xs):=hide (by rw[aC,hlen.out,if_neg hs]);have hs1:1<=n:=by omega
 have hs2:n<=12:=by omega
 clear hs;go_wp2
 go_loop [3] (λi=> ∃k:Nat,k<=n/\i=.int .i64 k/\ai (gK xs) 0 xs=ai (gK xs) k (xs.drop k)) (λi=>n-(intOf i).toNat)
 case atStart=>exact ⟨0,Nat.zero_le _,rfl,rfl⟩
 case round=>
  obtain ⟨k,hk,rfl,heq⟩:=hrel;have HE:=hide heq;clear heq;by_cases hlt:k<n
  ·obtain ⟨b,off,x,rfl,hB,HX,e0,e1,e2,e3⟩:=hx.col hlt;obtain ⟨hk1,hk2⟩:=e3.2;cases hnm:bV x.name
   ·go_wp2_with (go_at_call 127;refine (il x.name e3.1 _).mono ?_;rintro e w' ⟨rfl,rfl⟩);go_ret;exact ⟨ax (by rw[jR.out,HE.out,HX.out];exact (aK (by simp[gK,hnm]) (by omega)).symm),rfl⟩
   ·by_cases hkd:x.kind<1\/4<x.kind
    ·have he:gK xs k x=7:=by rw[gK,if_neg (by simp[hnm]),if_pos hkd]
     have HR:Hid (7=aC xs):=hide (by rw[jR.out,HE.out,HX.out];exact (aK he (by omega)).symm);clear he;rcases hkd with hkd|hkd
     all_goals
      go_wp2_with (go_at_call 127;refine (il x.name e3.1 _).mono ?_;rintro e w' ⟨rfl,rfl⟩);go_ret;exact ⟨ax HR.out,rfl⟩
    ·have hk3:1<=x.kind:=by omega
     have hk4:x.kind<=4:=by omega
     have HC:Hid (gK xs k x=if index xs x.name<k then 6 else 0):=hide (by rw[gK,if_neg (by simp[hnm]),if_neg hkd]);clear hkd;obtain ⟨i1,i2⟩:=index_self HX.out;by_cases hi:index xs x.name=k
     ·have HR:Hid (gK xs k x=0):=hide (by rw[HC.out,if_neg (by omega)]);have hz:(index xs x.name==(k:Int))=true:=by simp[hi]
      have HI:=hide hi;clear hi;go_wp2_with (first|(go_at_call 127;refine (il x.name e3.1 _).mono ?_;rintro e w' ⟨rfl,rfl⟩)|(go_at_call 128;refine (oU _ _ _ _ xs hx x.name).mono ?_;rintro e w' ⟨rfl,rfl⟩));all_goals (try (exfalso;go_light;simp_all;done))
      go_round
      case rel=>exact ⟨k+1,by omega,by go_num,by rw[HE.out,HX.out];exact aY HR.out⟩
      case measure=>simp[intOf];omega
     ·have HR:Hid (6=aC xs):=hide (by rw[jR.out,HE.out,HX.out];exact (aK (by rw[HC.out,if_pos (by omega)]) (by omega)).symm);have hz:(index xs x.name==(k:Int))=false:=by simp[hi]
      go_wp2_with (first|(go_at_call 127;refine (il x.name e3.1 _).mono ?_;rintro e w' ⟨rfl,rfl⟩)|(go_at_call 128;refine (oU _ _ _ _ xs hx x.name).mono ?_;rintro e w' ⟨rfl,rfl⟩));all_goals (try (exfalso;go_light;simp_all;done));go_ret;exact ⟨ax HR.out,rfl⟩
  ·go_wp2;go_ret;exact ⟨ax (by rw[jR.out,HE.out,aI hx.len (by omega),ai]),rfl⟩
theorem wO (v:Val)(hv:v.ok)(w:World):
  Calls Tryz.prog 100 #[.agg v.cells.toArray] w λe w'=>e=.returned (.bool (valid v))/\Below w.heap.size w w':=by
 obtain ⟨k,n,s⟩:=v;simp only[Val.cells,Val.ok,Str,eZ]at*;obtain ⟨⟨h1,h2⟩,⟨h3,h4⟩,h5⟩:=hv;go_enter Tryz.func100,Tryz.ntmps100;go_wp2;all_goals
  go_ret;refine ⟨ay ?_,ae⟩;go_light;simp only[beq_iff_eq,beq_eq_false_iff_ne,ne_eq]at*;try subst k
  simp_all[valid,ek]
 all_goals (try omega);all_goals (try (repeat' split <;> omega))
theorem rH (a b:Int)(w:World):Calls Tryz.prog 90 #[.int .i64 a,.int .i64 b] w λe w'=>e=.returned (.int .i64 (iP a b))/\w=w':=by
 go_enter Tryz.func90,Tryz.ntmps90;go_wp2;all_goals (go_ret;refine ⟨ax ?_,rfl⟩;go_light;simp only[iP];(repeat' split) <;> omega)
theorem dz (a b:Val)(w:World):
  Calls Tryz.prog 89 #[.agg a.cells.toArray,.agg b.cells.toArray] w λe w'=>e=.returned (.int .i64 (bA a b))/\Below w.heap.size w w':=by
 obtain ⟨k,n,s⟩:=a;obtain ⟨k',n',s'⟩:=b;simp only[Val.cells];go_enter Tryz.func89,Tryz.ntmps89;go_wp2_with (go_at_call 90;refine (rH _ _ _).mono ?_;rintro e w' ⟨rfl,rfl⟩);all_goals
  go_ret;refine ⟨ax ?_,below_alloc2⟩;go_light
  (try simp only[bne_iff_ne,ne_eq]at*)
  (first|(simp_all[bA];done)|(simp_all[bA,iE];done))
theorem pE (v:Val)(hv:v.ok)(w:World):
  Calls Tryz.prog 86 #[.agg v.cells.toArray] w λe w'=>e=.returned (.bool (valid v))/\Below w.heap.size w w':=by
 obtain ⟨k,n,s⟩:=v;simp only[Val.cells,Val.ok,Str,eZ]at*;obtain ⟨⟨h1,h2⟩,⟨h3,h4⟩,h5⟩:=hv;go_enter Tryz.func86,Tryz.ntmps86;go_wp2;all_goals
  go_ret;refine ⟨ay ?_,ae⟩;go_light;simp only[beq_iff_eq,beq_eq_false_iff_ne,ne_eq]at*;try subst k
  simp_all[valid,ek]
 all_goals (try omega);all_goals (try (repeat' split <;> omega))
theorem Kr (a:Int)(w:World):Calls Tryz.prog 111 #[.int .i64 a] w λe w'=>e=.returned (.bool false)/\w=w':=by
 go_enter Tryz.func111,Tryz.ntmps111;go_wp2;all_goals (go_ret;exact ⟨by simp,rfl⟩)
theorem Kt (a:ByteArray)(w:World):Calls Tryz.prog 112 #[.string a] w λe w'=>e=.returned (.bool false)/\w=w':=by
 go_enter Tryz.func112,Tryz.ntmps112;go_wp2;all_goals (go_ret;exact ⟨by simp,rfl⟩)
theorem P8 (a b:Int)(w:World):Calls Tryz.prog 82 #[.int .i64 a,.int .i64 b] w λe w'=>e=.returned (.int .i64 (iP a b))/\w=w':=by
 go_enter Tryz.func82,Tryz.ntmps82;go_wp2_with (go_at_call 111;refine (Kr _ _).mono ?_;rintro e w' ⟨rfl,rfl⟩);all_goals (go_ret;refine ⟨ax ?_,rfl⟩;go_light;simp only[iP];(repeat' split) <;> omega)
theorem P9 (a b:ByteArray)(w:World):Calls Tryz.prog 83 #[.string a,.string b] w λe w'=>e=.returned (.int .i64 (iE a b))/\w=w':=by
 go_enter Tryz.func83,Tryz.ntmps83;go_wp2_with (go_at_call 112;refine (Kt _ _).mono ?_;rintro e w' ⟨rfl,rfl⟩);all_goals (go_ret;refine ⟨ax ?_,rfl⟩;go_light;simp only[iE];simp_all)
def WV (a b c:Int):Int:=if a≠0 then a else if b≠0 then b else c
theorem Oq (a b c:Int)(w:World)(g:Nat)(h0:w.cell? ⟨g,0,none⟩=some (.int .i64 a))(h1:w.cell? ⟨g,1,none⟩=some (.int .i64 b))(h2:w.cell? ⟨g,2,none⟩=some (.int .i64 c)):
  Calls Tryz.prog 81 #[.slice (some ⟨g,0,none⟩) 3 3] w λe w'=>e=.returned (.int .i64 (WV a b c))/\w=w':=by
 go_enter Tryz.func81,Tryz.ntmps81;go_wp2
 go_loop [5,8] (λ_ i=> ∃k:Nat,k<=3/\i=.int .i64 k/\(1<=k->a=0)/\(2<=k->b=0)/\(3<=k->c=0)) (λ_ i=>3-(intOf i).toNat)
 case atStart=>exact ⟨0,by omega,rfl,by omega,by omega,by omega⟩
 case round=>
  obtain ⟨k,hk,rfl,ha,hb,hc⟩:=hrel;obtain rfl|rfl|rfl|rfl:k=0\/k=1\/k=2\/k=3:=by omega
  ·clear ha hb hc;go_wp2
   ·go_ret;exact ⟨ax (by go_light;simp_all[WV]),rfl⟩
   ·go_round
    case rel=>exact ⟨1,by omega,by go_num,(by intro _;go_light;simp_all),by omega,by omega⟩
    case measure=>simp[intOf]
  ·have ha:=ha (by omega);subst ha;clear hb hc;go_wp2
   ·go_ret;exact ⟨ax (by go_light;simp_all[WV]),rfl⟩
   ·go_round
    case rel=>exact ⟨2,by omega,by go_num,(by first|trivial|(intro _;rfl)),(by intro _;go_light;simp_all),by omega⟩
    case measure=>simp[intOf]
  ·have ha:=ha (by omega);have hb:=hb (by omega);subst ha hb;clear hc;go_wp2
   ·go_ret;exact ⟨ax (by go_light;simp_all[WV]),rfl⟩
   ·go_round
    case rel=>exact ⟨3,by omega,by go_num,(by first|trivial|(intro _;rfl)),(by first|trivial|(intro _;rfl)),(by intro _;go_light;simp_all)⟩
    case measure=>simp[intOf]
  ·have ha:=ha (by omega);have hb:=hb (by omega);have hc:=hc (by omega);subst ha hb hc;go_wp2;go_ret;exact ⟨ax (by simp[WV]),rfl⟩
theorem Dm (a b:Val)(w:World):
  Calls Tryz.prog 58 #[.agg a.cells.toArray,.agg b.cells.toArray] w λe w'=>e=.returned (.int .i64 (bA a b))/\Below w.heap.size w w':=by
 obtain ⟨k,n,s⟩:=a;obtain ⟨k',n',s'⟩:=b;simp only[Val.cells];go_enter Tryz.func58,Tryz.ntmps58;go_wp2_with fail;generalize hW:((w.alloc _).alloc _)=W;have c0:W.cell? ⟨w.heap.size,0,none⟩=some (.int .i64 k):=by subst hW;simp[World.cell?_alloc_lt,go_sem]
 have c1:W.cell? ⟨w.heap.size,1,none⟩=some (.int .i64 n):=by subst hW;simp[World.cell?_alloc_lt,go_sem]
 have c2:W.cell? ⟨w.heap.size,2,none⟩=some (.string s):=by subst hW;simp[World.cell?_alloc_lt,go_sem]
 have d0:W.cell? ⟨w.heap.size+1,0,none⟩=some (.int .i64 k'):=by subst hW;simp[go_sem]
 have d1:W.cell? ⟨w.heap.size+1,1,none⟩=some (.int .i64 n'):=by subst hW;simp[go_sem]
 have d2:W.cell? ⟨w.heap.size+1,2,none⟩=some (.string s'):=by subst hW;simp[go_sem]
 have hb:Below w.heap.size w W:=by subst hW;exact below_alloc2
 clear hW;go_region_held3 (λw'=>w'.cell? ⟨w.heap.size,0,none⟩=some (.int .i64 k)/\w'.cell? ⟨w.heap.size,1,none⟩=some (.int .i64 n)/\w'.cell? ⟨w.heap.size,2,none⟩=some (.string s)
   /\w'.cell? ⟨w.heap.size+1,0,none⟩=some (.int .i64 k')/\w'.cell? ⟨w.heap.size+1,1,none⟩=some (.int .i64 n')/\w'.cell? ⟨w.heap.size+1,2,none⟩=some (.string s')) (go_keep)
  (first|(go_at_call 82;refine (P8 _ _ _).mono ?_;rintro e w' ⟨rfl,rfl⟩)|(go_at_call 83;refine (P9 _ _ _).mono ?_;rintro e w' ⟨rfl,rfl⟩)|(go_at_call 81;refine (Oq (iP k k') (iP n n') (iE s s') _ _ ?_ ?_ ?_).mono ?_;(simp[go_sem]);(simp[go_sem]);(simp[go_sem]);rintro e w' ⟨rfl,rfl⟩))
 go_wp2;go_ret;exact ⟨rfl,(hb.alloc hb.size _).drew⟩
theorem oH (n:Node)(w:World):Calls Tryz.prog 188 #[.agg n.cells.toArray] w λe w'=>e=.returned (.int .i64 (arity n.op n.arity))/\Below w.heap.size w w':=by
 obtain ⟨op,⟨kd,nu,st⟩,nm,ar⟩:=n;simp only[Node.cells];go_enter Tryz.func188,Tryz.ntmps188;go_wp2;all_goals (go_ret;refine ⟨ax ?_,ae⟩;go_light;unfold arity;first|(simp_all;done)|(simp_all;omega)|(repeat' split) <;> omega)
theorem l9 (n:Node)(w:World):Calls Tryz.prog 131 #[.agg n.cells.toArray] w λe w'=>e=.returned (.int .i64 (arity n.op n.arity))/\Below w.heap.size w w':=by
 obtain ⟨op,⟨kd,nu,st⟩,nm,ar⟩:=n;simp only[Node.cells];go_enter Tryz.func131,Tryz.ntmps131;go_wp2;all_goals (go_ret;refine ⟨ax ?_,ae⟩;go_light;unfold arity;first|(simp_all;done)|(simp_all;omega)|(repeat' split) <;> omega)
def Made (kind:Int)(v:Val):Prop:=valid v=true/\v.ok/\(1<=kind->kind<=4->v.kind=kind)/\(kind<1\/4<kind->v.kind=0)
theorem u6:ek ⟨#[]⟩=true:=by rw[ek,ByteArray.toList_eq];rfl
theorem Ct {d:Int}(h0:0<=d)(h1:d<=1):Made 1 ⟨1,d,⟨#[]⟩⟩:=by
 refine ⟨?_,⟨⟨by simp only;omega,by simp only;omega⟩,⟨by simp only;omega,by simp only;omega⟩,by simp[Str,ByteArray.size]⟩,λ_ _=>rfl,λh=>by omega⟩;obtain rfl|rfl:d=0\/d=1:=by omega
 all_goals simp[valid,u6]
theorem FP {d:Int}(h0: -1073741824<=d)(h1:d<=1073741824):Made 2 ⟨2,d,⟨#[]⟩⟩:=by
 refine ⟨?_,⟨⟨by simp only;omega,by simp only;omega⟩,⟨by simp only;omega,by simp only;omega⟩,by simp[Str,ByteArray.size]⟩,λ_ _=>rfl,λh=>by omega⟩;simp[valid,u6,h0,h1]
theorem Cu {s:ByteArray}(h:s.size<=64):Made 3 ⟨3,0,s⟩:=by
 refine ⟨?_,⟨⟨by simp only;omega,by simp only;omega⟩,⟨by simp only;omega,by simp only;omega⟩,by unfold Str;simp only;omega⟩,λ_ _=>rfl,λh=>by omega⟩;simp[valid,h]
theorem Cv {d:Int}(h0:0<=d)(h1:d<=575999999):Made 4 ⟨4,d,⟨#[]⟩⟩:=by
 refine ⟨?_,⟨⟨by simp only;omega,by simp only;omega⟩,⟨by simp only;omega,by simp only;omega⟩,by simp[Str,ByteArray.size]⟩,λ_ _=>rfl,λh=>by omega⟩;simp[valid,u6,h0,h1]
theorem KF {k:Int}(h:k<1\/4<k):Made k ⟨0,0,⟨#[]⟩⟩:=by
 refine ⟨?_,⟨⟨by simp only;omega,by simp only;omega⟩,⟨by simp only;omega,by simp only;omega⟩,by simp[Str,ByteArray.size]⟩,λ_ _=>by omega,λ_=>rfl⟩;simp[valid,u6]
def Fits (c:Col)(v:Val):Prop:=v.ok/\bZ c v=0
def Col.good (c:Col):Prop:=c.ok/\1<=c.kind/\c.kind<=4
theorem Ke {c:Col}(h:c.nullable=true):Fits c ⟨0,0,⟨#[]⟩⟩:=by
 obtain ⟨h1,h2,_,h4⟩:=KF (k:=0) (by omega);exact ⟨h2,by simp[bZ,h1,h]⟩
theorem jU {c:Col}{v:Val}(hc:c.good)(h:Made c.kind v):Fits c v:=by
 obtain ⟨h1,h2,h3,h4⟩:=h;have h5:=h3 hc.2.1 hc.2.2;have:v.kind≠0:=by have:=hc.2.1;omega
 exact ⟨h2,by simp[bZ,h1,h5];have:=hc.2.1;omega⟩
theorem getD_drop {α:Type}{xs:List α}{k:Nat}{x d:α}{l:List α}(h:xs.drop k=x :: l):xs.getD k d=x:=by
 rw[List.getD,(bX h).1];rfl
def xO (cols:List Col)(i:Nat)(v:Val):Int:=bZ (cols.getD i default) v
theorem yh {cols:List Col}{k:Nat}{y:Col}{l:List Col}{x:Val}(h:cols.drop k=y :: l):xO cols k x=bZ y x:=by rw[xO,getD_drop h]
theorem uK (w:World)(A A':Option Addr)(n n' c c':Nat)(cols:List Col)(row:List Val)(hx:In w A n c cols)(hy:In w A' n' c' row):
  Calls Tryz.prog 148 #[.slice A n c,.slice A' n' c'] w λe w'=>e=.returned (.int .i64 (aG cols row))/\Below w.heap.size w w':=by
 have h63:=hx.le;have h63':=hy.le;have hlen:=hide hx.len;have hlen':=hide hy.len;go_enter Tryz.func148,Tryz.ntmps148;cases hs:((n':Int)==(n:Int))
 ·have he:Hid (8=aG cols row):=hide (by rw[aG,hlen.out,hlen'.out,if_pos (by simp at hs;omega)]);go_wp2;all_goals (try (exfalso;go_light;simp_all;done));go_ret;exact ⟨ax he.out,Below.refl _ _⟩
 have jR:Hid (aG cols row=ai (xO cols) 0 row):=hide (by rw[aG,hlen.out,hlen'.out,if_neg (by simp at hs;omega)];rfl);have hnn:n=n':=by simp at hs;omega
 go_wp2;all_goals (try (exfalso;go_light;simp_all;done));have HN:=hide hnn;clear hs hnn;go_loopw [15] (λi wr=> ∃k:Nat,k<=n'/\i=.int .i64 k/\ai (xO cols) 0 row=ai (xO cols) k (row.drop k)/\Below w.heap.size w wr) (λi _=>n'-(intOf i).toNat)
 case atStart=>exact ⟨0,Nat.zero_le _,rfl,rfl,Below.refl _ _⟩
 case round=>
  obtain ⟨k,hk,rfl,heq,hb⟩:=hrel;have HE:=hide heq;clear heq;by_cases hlt:k<n'
  ·have TG:k<n:=by rw[HN.out];exact hlt
   obtain ⟨b',off',x,rfl,hB',HX,f0,f1,f2,f3⟩:=(hy.below hb).val hlt;obtain ⟨b,off,y,rfl,hB,HY,e0,e1,e2,e3⟩:=(hx.below hb).col TG;go_wp2_with fail;refine (pE x f3 _).mono ?_;rintro e w1 ⟨rfl,hb1⟩;have hbb:=aa (aa (aa hb ae) ae) hb1;obtain ⟨hc1,hf1⟩:=au hb1;clear hb1 e0 e1 e2 f0 f1 f2;have HC:Hid (ai (xO cols) 0 row=if bZ y x=0 then ai (xO cols) (k+1) (row.drop (k+1)) else bZ y x):=hide (by
    rw[HE.out,HX.out];by_cases hz:bZ y x=0
    ·rw[if_pos hz];exact aY (by rw[yh HY.out,hz])
    ·rw[if_neg hz];exact aK (yh HY.out) hz)
   cases hv:valid x
   ·have he:Hid (8=aG cols row):=hide (by rw[jR.out,HC.out];simp[bZ,hv]);go_wp2;go_ret;exact ⟨ax he.out,hbb⟩
   ·cases hz:(x.kind==0)
    ·cases hq:(x.kind==y.kind)
     ·have he:Hid (7=aG cols row):=hide (by
       have e1:¬x.kind=0:=by simpa using hz
       have e2:¬x.kind=y.kind:=by simpa using hq
       rw[jR.out,HC.out];simp[bZ,hv,e1,e2])
      go_wp2;all_goals (try (exfalso;go_light;simp_all;done));all_goals
       go_ret;exact ⟨ax he.out,hbb⟩
     ·have he:Hid (bZ y x=0):=hide (by
       have e1:¬x.kind=0:=by simpa using hz
       have e2:x.kind=y.kind:=by simpa using hq
       simp[bZ,hv,<-e2,e1])
      go_wp2;all_goals (try (exfalso;go_light;simp_all;done));all_goals
       go_roundw
       case rel=>exact ⟨k+1,by omega,by go_num,by rw[HC.out,if_pos he.out],hbb⟩
       case measure=>simp[intOf];omega
    ·cases hn:y.nullable
     ·have he:Hid (7=aG cols row):=hide (by
       have e1:x.kind=0:=by simpa using hz
       rw[jR.out,HC.out];simp[bZ,hv,e1,hn])
      go_wp2;all_goals (try (exfalso;go_light;simp_all;done));all_goals
       go_ret;exact ⟨ax he.out,hbb⟩
     ·have he:Hid (bZ y x=0):=hide (by
       have e1:x.kind=0:=by simpa using hz
       simp[bZ,hv,e1,hn])
      go_wp2;all_goals (try (exfalso;go_light;simp_all;done));all_goals
       go_roundw
       case rel=>exact ⟨k+1,by omega,by go_num,by rw[HC.out,if_pos he.out],hbb⟩
       case measure=>simp[intOf];omega
  ·go_wp2;go_ret;exact ⟨ax (by rw[jR.out,HE.out,aI hy.len (by omega),ai]),hb⟩
theorem bY {B:Nat}{a w:World}(h:Below B a w){n:Nat}:Below B a (w.drewN n):=below_drewN h n
theorem uL (w:World)(A A':Option Addr)(n n' c c':Nat)(cols:List Col)(row:List Val)(hx:In w A n c cols)(hy:In w A' n' c' row):
  Calls Tryz.prog 95 #[.slice A n c,.slice A' n' c'] w λe w'=>e=.returned (.int .i64 (aG cols row))/\Below w.heap.size w w':=by
 have h63:=hx.le;have h63':=hy.le;have hlen:=hide hx.len;have hlen':=hide hy.len;go_enter Tryz.func95,Tryz.ntmps95;cases hs:((n:Int)==(n':Int))
 ·have he:Hid (8=aG cols row):=hide (by rw[aG,hlen.out,hlen'.out,if_pos (by simp at hs;omega)]);go_wp2;all_goals (try (exfalso;go_light;simp_all;done));go_ret;exact ⟨ax he.out,Below.refl _ _⟩
 have jR:Hid (aG cols row=ai (xO cols) 0 row):=hide (by rw[aG,hlen.out,hlen'.out,if_neg (by simp at hs;omega)];rfl);have hnn:n=n':=by simp at hs;omega
 go_wp2;all_goals (try (exfalso;go_light;simp_all;done));have HN:=hide hnn;clear hs hnn;go_loopw [5] (λi wr=> ∃k:Nat,k<=n'/\i=.int .i64 k/\ai (xO cols) 0 row=ai (xO cols) k (row.drop k)/\Below w.heap.size w wr) (λi _=>n'-(intOf i).toNat)
 case atStart=>exact ⟨0,Nat.zero_le _,rfl,rfl,Below.refl _ _⟩
 case round=>
  obtain ⟨k,hk,rfl,heq,hb⟩:=hrel;have HE:=hide heq;clear heq;by_cases hlt:k<n'
  ·have TG:k<n:=by rw[HN.out];exact hlt
   obtain ⟨b',off',x,rfl,hB',HX,f0,f1,f2,f3⟩:=(hy.below hb).val hlt;obtain ⟨b,off,y,rfl,hB,HY,e0,e1,e2,e3⟩:=(hx.below hb).col TG;go_wp2_with fail;refine (wO x f3 _).mono ?_;rintro e w1 ⟨rfl,hb1⟩;have hbb:=aa hb hb1;replace e0:=ah hb1 hB e0;replace e1:=ah hb1 hB e1;replace e2:=ah hb1 hB e2;replace f0:=ah hb1 hB' f0;replace f1:=ah hb1 hB' f1;replace f2:=ah hb1 hB' f2;clear hb1;have g0:(0:Int)<=(k:Int):=by omega
   have g1:(k:Int)<(n:Int):=by omega
   have g2:(k:Int)<(n':Int):=by omega
   have HC:Hid (ai (xO cols) 0 row=if bZ y x=0 then ai (xO cols) (k+1) (row.drop (k+1)) else bZ y x):=hide (by
    rw[HE.out,HX.out];by_cases hz:bZ y x=0
    ·rw[if_pos hz];exact aY (by rw[yh HY.out,hz])
    ·rw[if_neg hz];exact aK (yh HY.out) hz)
   cases hv:valid x
   ·have he:Hid (8=aG cols row):=hide (by rw[jR.out,HC.out];simp[bZ,hv]);go_wp2;go_ret
    first|exact ⟨ax he.out,hbb⟩|exact ⟨ax he.out,bY hbb⟩
   ·cases hz:(x.kind==0)
    ·have hz':(x.kind != 0)=true:=by rw[bne,hz];rfl
     cases hq:(x.kind==y.kind)
     ·have hq':(x.kind != y.kind)=true:=by rw[bne,hq];rfl
      have he:Hid (7=aG cols row):=hide (by
       have e1:¬x.kind=0:=by simpa using hz
       have e2:¬x.kind=y.kind:=by simpa using hq
       rw[jR.out,HC.out];simp[bZ,hv,e1,e2])
      go_wp2;go_quiet (fail);go_wp2;all_goals (try (exfalso;go_light;simp_all;done));all_goals
       go_ret
       first|exact ⟨ax he.out,hbb⟩|exact ⟨ax he.out,bY hbb⟩
     ·have hq':(x.kind != y.kind)=false:=by rw[bne,hq];rfl
      have he:Hid (bZ y x=0):=hide (by
       have e1:¬x.kind=0:=by simpa using hz
       have e2:x.kind=y.kind:=by simpa using hq
       simp[bZ,hv,<-e2,e1])
      go_wp2;go_quiet (fail);go_wp2;all_goals (try (exfalso;go_light;simp_all;done));all_goals
       go_roundw
       case rel=>exact ⟨k+1,by omega,by go_num,by rw[HC.out,if_pos he.out],bY hbb⟩
       case measure=>simp[intOf];omega
    ·have hz':(x.kind != 0)=false:=by rw[bne,hz];rfl
     cases hn:y.nullable
     ·have he:Hid (7=aG cols row):=hide (by
       have e1:x.kind=0:=by simpa using hz
       rw[jR.out,HC.out];simp[bZ,hv,e1,hn])
      go_wp2;go_quiet (fail);go_wp2;all_goals (try (exfalso;go_light;simp_all;done));all_goals
       go_ret
       first|exact ⟨ax he.out,hbb⟩|exact ⟨ax he.out,bY hbb⟩
     ·have he:Hid (bZ y x=0):=hide (by
       have e1:x.kind=0:=by simpa using hz
       simp[bZ,hv,e1,hn])
      go_wp2;go_quiet (fail);go_wp2;all_goals (try (exfalso;go_light;simp_all;done));all_goals
       go_roundw
       case rel=>exact ⟨k+1,by omega,by go_num,by rw[HC.out,if_pos he.out],bY hbb⟩
       case measure=>simp[intOf];omega
  ·go_wp2;go_ret;exact ⟨ax (by rw[jR.out,HE.out,aI hy.len (by omega),ai]),hb⟩
theorem lL:(Tryz.prog.info? 36).map (λi=>(i.zero,i.size,i.bytes))=some (some (.agg #[.int .i64 0,.int .i64 0,.string ⟨#[]⟩]),3,32):=by kernel_rfl
def Part (w:World)(g:Nat)(cols:List Col)(vs:List Val):Prop:=
 (∀i,(h:i<vs.length)->At w (λ_=>False) g (i*3) vs[i])/\ ∀i,(h:i<vs.length)->(h':i<cols.length)->Fits cols[i] vs[i]
theorem Part.below {w w':World}{g:Nat}{cols:List Col}{vs:List Val}(h:Part w g cols vs)(hg:g<w.heap.size)(hb:Below w.heap.size w w'):Part w' g cols vs:=
 ⟨λi hi=>by
  obtain ⟨cs,hr,hc⟩:=h.1 i hi;exact ⟨cs,hr,λj hj=>ah hb hg (hc j hj)⟩,h.2⟩
theorem Part.add {w:World}{g:Nat}{cols:List Col}{vs:List Val}{v:Val}{u0 u1 u2:Value}(h:Part w g cols vs)(hv:v.ok)(hk:vs.length<cols.length)(hf:Fits cols[vs.length] v)(h0:w.cell? ⟨g,vs.length*3,none⟩=some u0)(h1:w.cell? ⟨g,vs.length*3+1,none⟩=some u1)(h2:w.cell? ⟨g,vs.length*3+2,none⟩=some u2):
  Part (((w.setCell ⟨g,vs.length*3,none⟩ (.int .i64 v.kind)).setCell ⟨g,vs.length*3+1,none⟩ (.int .i64 v.num)).setCell ⟨g,vs.length*3+2,none⟩ (.string v.str)) g cols (vs++[v]):=by
 refine ⟨λi hi=>?_,λi hi hi'=>?_⟩
 ·rw[List.length_append]at hi;by_cases hl:i<vs.length
  ·obtain ⟨cs,⟨rfl,hr⟩,hc⟩:=h.1 i hl;rw[List.getElem_append_left hl];refine ⟨_,⟨rfl,hr⟩,λj hj=>?_⟩;have Wz:j<3:=hj;exact ag (ag (ag (hc j hj) (.inr (by omega))) (.inr (by omega))) (.inr (by omega))
  ·obtain rfl:i=vs.length:=by simp at hi;omega
   rw[List.getElem_append_right (Nat.le_refl _)];simp only[Nat.sub_self,List.getElem_cons_zero];refine ⟨v.cells,⟨rfl,hv⟩,λj hj=>?_⟩;have Wz:j<3:=hj;obtain rfl|rfl|rfl:j=0\/j=1\/j=2:=by omega
   ·exact ag (ag (cO h0) (.inr (by omega))) (.inr (by omega))
   ·exact ag (cO (ag h1 (.inr (by omega)))) (.inr (by omega))
   ·exact cO (ag (ag h2 (.inr (by omega))) (.inr (by omega)))
 ·rw[List.length_append]at hi;by_cases hl:i<vs.length
  ·rw[List.getElem_append_left hl];exact h.2 i hl hi'
  ·obtain rfl:i=vs.length:=by simp at hi;omega
   rw[List.getElem_append_right (Nat.le_refl _)];simpa using hf
theorem tF {α:Type}{f:Nat->α->Int}{l:List α}: ∀k,(∀i,(h:i<l.length)->f (k+i) l[i]=0)->ai f k l=0:=by
 induction l with
 |nil=>intro k _;rfl
 |cons x l ih=>
  intro k h;have h0:=h 0 (by simp);rw[aY (by simpa using h0)];exact ih (k+1) λi hi=>by
   have:=h (i+1) (by simpa using hi);rw[show k+1+i=k+(i+1) from by omega];simpa using this
theorem F6 {cols:List Col}{vs:List Val}(hl:vs.length=cols.length)(h: ∀i,(h:i<vs.length)->(h':i<cols.length)->Fits cols[i] vs[i]):aG cols vs=0:=by
 rw[aG,if_neg (by simp[hl])];refine tF 0 λi hi=>?_;have:=(h i hi (by omega)).2;simp only[Nat.zero_add];rw[List.getD,List.getElem?_eq_getElem (by omega)];exact this
def aF (n:Int):Prop:= -1073741824<=n/\n<=1073741824
theorem sG (a:Int)(w:World):Calls Tryz.prog 241 #[.int .i64 a] w λe w'=>e=.returned (.bool (bO a))/\w=w':=by
 go_enter Tryz.func241,Tryz.ntmps241;go_wp2;all_goals (go_ret;refine ⟨ay ?_,rfl⟩;go_light;unfold bO;first|(simp_all;done)|(simp_all;omega))
theorem mQ (a:Int)(w:World):Calls Tryz.prog 250 #[.int .i64 a] w λe w'=>e=.returned (.bool (bO a))/\w=w':=by
 go_enter Tryz.func250,Tryz.ntmps250;go_wp2;all_goals (go_ret;refine ⟨ay ?_,rfl⟩;go_light;unfold bO;first|(simp_all;done)|(simp_all;omega))
theorem fV {a:Int}(h:aF a):bO a=true:=by unfold aF at h;simp[bO];omega
def chk (r:Int):Int×Bool:=if bO r then (r,true) else (0,false)
theorem MK {a b:Int}(ha:aF a)(hb:aF b):vV a b=chk (a+b):=by simp[vV,chk,fV ha,fV hb]
theorem OM {a b:Int}(ha:aF a)(hb:aF b):mR a b=chk (a-b):=by simp[mR,chk,fV ha,fV hb]
theorem Ob {a b:Int}(ha:aF a)(hb:aF b):wJ a b=chk (a*b):=by simp[wJ,chk,fV ha,fV hb]
theorem qd (a b r:Int)(ha:aF a)(hb:aF b)(w:World):Calls Tryz.prog 223 #[.int .i64 a,.int .i64 b,.int .i64 r] w λe w'=>e=.returned (.tuple #[.int .i64 (chk r).1,.bool (chk r).2])/\w=w':=by
 have s1:=fV ha;have s2:=fV hb;go_enter Tryz.func223,Tryz.ntmps223;cases h:bO r
 ·go_wp2_with (go_at_call 250;refine (mQ _ _).mono ?_;rintro e w' ⟨rfl,rfl⟩);go_ret2;exact ⟨by simp[chk,h],rfl⟩
 ·go_wp2_with (go_at_call 250;refine (mQ _ _).mono ?_;rintro e w' ⟨rfl,rfl⟩);go_ret2;exact ⟨by simp[chk,h],rfl⟩
theorem Oc {a b:Int}(ha:aF a)(hb:aF b): -1152921504606846976<=a*b/\a*b<=1152921504606846976:=by
 have h:(a*b).natAbs<=1073741824*1073741824:=by
  rw[Int.natAbs_mul];exact Nat.mul_le_mul (by unfold aF at ha;omega) (by unfold aF at hb;omega)
 omega
theorem PZ (a b:Int)(ha:aF a)(hb:aF b)(w:World):Calls Tryz.prog 227 #[.int .i64 a,.int .i64 b] w λe w'=>e=.returned (.tuple #[.int .i64 (vV a b).1,.bool (vV a b).2])/\w=w':=by
 rw[MK ha hb];have hw:IntKind.i64.wrap (a+b)=a+b:=IntWalk.i64_in _ (by unfold aF at ha hb;omega);go_enter Tryz.func227,Tryz.ntmps227;go_wp2_with (go_at_call 223;(try rw[hw]);refine (qd _ _ _ ha hb _).mono ?_;rintro e w' ⟨rfl,rfl⟩);go_ret2;exact ⟨rfl,rfl⟩
theorem JA (a b:Int)(ha:aF a)(hb:aF b)(w:World):Calls Tryz.prog 199 #[.int .i64 a,.int .i64 b] w λe w'=>e=.returned (.tuple #[.int .i64 (mR a b).1,.bool (mR a b).2])/\w=w':=by
 rw[OM ha hb];have hw:IntKind.i64.wrap (a-b)=a-b:=IntWalk.i64_in _ (by unfold aF at ha hb;omega);go_enter Tryz.func199,Tryz.ntmps199;go_wp2_with (go_at_call 223;(try rw[hw]);refine (qd _ _ _ ha hb _).mono ?_;rintro e w' ⟨rfl,rfl⟩);go_ret2;exact ⟨rfl,rfl⟩
theorem Q0 (a b:Int)(ha:aF a)(hb:aF b)(w:World):Calls Tryz.prog 228 #[.int .i64 a,.int .i64 b] w λe w'=>e=.returned (.tuple #[.int .i64 (wJ a b).1,.bool (wJ a b).2])/\w=w':=by
 rw[Ob ha hb];have hm: -1152921504606846976<=a*b/\a*b<=1152921504606846976:=Oc ha hb;have hw:IntKind.i64.wrap (a*b)=a*b:=IntWalk.i64_in _ (by unfold aF at ha hb;omega);go_enter Tryz.func228,Tryz.ntmps228;go_wp2_with (go_at_call 223;(try rw[hw]);refine (qd _ _ _ ha hb _).mono ?_;rintro e w' ⟨rfl,rfl⟩);go_ret2;exact ⟨rfl,rfl⟩
theorem Lh (v:Val)(hv:v.ok)(w:World):Calls Tryz.prog 152 #[.agg v.cells.toArray] w λe w'=>e=.returned (.int .i64 (truth v))/\Below w.heap.size w w':=by
 obtain ⟨k,n,s⟩:=v;have hv':=hv;simp only[Val.cells];by_cases h1:k=1
 ·subst h1;have HT:Hid (truth ⟨1,n,s⟩=if valid ⟨1,n,s⟩=true then n else -1):=hide (by simp[truth]);cases hvd:valid ⟨1,n,s⟩;all_goals
   rw[hvd]at HT;go_enter Tryz.func152,Tryz.ntmps152;go_wp2_with fail;refine (pE ⟨1,n,s⟩ hv' _).mono ?_;rintro e w1 ⟨rfl,hb1⟩;have hbb:=aa ae hb1;have g1:=ah (b:=w.heap.size) (o:=1) (v:=.int .i64 n) hb1 (by simp) (by simp[go_sem]);clear hb1;rw[hvd];go_wp2;go_ret;exact ⟨ax (by rw[HT.out];simp),hbb⟩
 ·have HT:Hid (truth ⟨k,n,s⟩= -1):=hide (by simp[truth,h1]);have q:(k != 1)=true:=by simpa using h1
  clear h1;go_enter Tryz.func152,Tryz.ntmps152;go_wp2;go_ret;exact ⟨ax HT.out.symm,ae⟩
theorem IG (v:Val)(hv:v.ok)(w:World):Calls Tryz.prog 98 #[.agg v.cells.toArray] w λe w'=>e=.returned (.int .i64 (truth v))/\Below w.heap.size w w':=by
 obtain ⟨k,n,s⟩:=v;simp only[Val.cells];go_enter Tryz.func98,Tryz.ntmps98;go_wp2;all_goals (go_ret;refine ⟨ax ?_,ae⟩;go_light;(try simp only[bne_iff_ne,ne_eq,beq_iff_eq,beq_eq_false_iff_ne]at*);simp_all[truth,valid,ek])
def lK (_:Nat)(v:Val):Int:=if valid v then 0 else 8
theorem mF (x:Ent):aV x=if 12<x.row.length\/x.count < -65536\/65536<x.count then 2 else ai lK 0 x.row:=rfl
theorem Hd (w:World)(A:Option Addr)(n c:Nat)(x:Ent)(hx:In w A n c x.row)(hc:eZ x.count):
  Calls Tryz.prog 60 #[.agg #[.slice A n c,.int .i64 x.count]] w λe w'=>e=.returned (.int .i64 (aV x))/\Below w.heap.size w w':=by
 obtain ⟨row,m⟩:=x;have h63:=hx.le;have hlen:=hide hx.len;unfold eZ at hc;obtain ⟨hm1,hm2⟩:=hc;simp only at hx hlen hm1 hm2⊢;go_enter Tryz.func60,Tryz.ntmps60;by_cases hs:12<n\/m < -65536\/65536<m
 ·have he:Hid (2=aV ⟨row,m⟩):=hide (by rw[mF,hlen.out,if_pos hs]);by_cases h1:12<n
  ·go_wp2;all_goals (go_ret;exact ⟨ax he.out,ae⟩)
  ·by_cases h2:m < -65536
   ·go_wp2;all_goals (go_ret;exact ⟨ax he.out,ae⟩)
   ·have h3:65536<m:=by omega
    go_wp2;all_goals (go_ret;exact ⟨ax he.out,ae⟩)
 have jR:Hid (aV ⟨row,m⟩=ai lK 0 row):=hide (by rw[mF,hlen.out,if_neg hs]);have h1:n<=12:=by omega
 have h2: -65536<=m:=by omega
 have h3:m<=65536:=by omega
 clear hs;go_wp2;go_loopw [22] (λi wr=> ∃k:Nat,k<=n/\i=.int .i64 k/\ai lK 0 row=ai lK k (row.drop k)/\Below w.heap.size w wr) (λi _=>n-(intOf i).toNat)
 case atStart=>exact ⟨0,Nat.zero_le _,rfl,rfl,ae⟩
 case round=>
  obtain ⟨k,hk,rfl,heq,hb⟩:=hrel;have HE:=hide heq;clear heq;by_cases hlt:k<n
  ·obtain ⟨b,off,x,rfl,hB,HX,f0,f1,f2,f3⟩:=(hx.below hb).val hlt;go_wp2_with fail;refine (pE x f3 _).mono ?_;rintro e w1 ⟨rfl,hb1⟩;have hbb:=aa (aa hb ae) hb1;clear hb1 f0 f1 f2;cases hv:valid x
   ·have he:Hid (8=aV ⟨row,m⟩):=hide (by rw[jR.out,HE.out,HX.out];exact (aK (by simp[lK,hv]) (by omega)).symm);go_wp2;go_ret;exact ⟨ax he.out,hbb⟩
   ·go_wp2;go_roundw
    case rel=>exact ⟨k+1,by omega,by go_num,by rw[HE.out,HX.out];exact aY (by simp[lK,hv]),hbb⟩
    case measure=>simp[intOf];omega
  ·go_wp2;go_ret;exact ⟨ax (by rw[jR.out,HE.out,aI hx.len (by omega),ai]),hb⟩
theorem lc (m:Int)(w:World):Calls Tryz.prog 75 #[.int .i64 m] w λe w'=>e=.returned (.bool (decide (-65536<=m)&&decide (m<=65536)))/\w=w':=by
 go_enter Tryz.func75,Tryz.ntmps75;go_wp2;all_goals (go_ret;refine ⟨ay ?_,rfl⟩;go_light;first|(simp_all;done)|(simp_all;omega))
theorem Cj (w:World)(A:Option Addr)(n c:Nat)(x:Ent)(hx:In w A n c x.row)(hc:eZ x.count):
  Calls Tryz.prog 72 #[.agg #[.slice A n c,.int .i64 x.count]] w λe w'=>e=.returned (.int .i64 (aV x))/\Below w.heap.size w w':=by
 obtain ⟨row,m⟩:=x;have h63:=hx.le;have hlen:=hide hx.len;unfold eZ at hc;obtain ⟨hm1,hm2⟩:=hc;simp only at hx hlen hm1 hm2⊢;go_enter Tryz.func72,Tryz.ntmps72;by_cases hs:12<n\/m < -65536\/65536<m
 ·have he:Hid (2=aV ⟨row,m⟩):=hide (by rw[mF,hlen.out,if_pos hs]);by_cases h1:12<n
  ·go_wp2;all_goals (go_ret;exact ⟨ax he.out,ae⟩)
  ·by_cases h2:m < -65536
   ·have hq:decide ((-65536:Int)<=m)=false:=by simp;omega
    go_wp2_with (go_at_call 75;refine (lc _ _).mono ?_;rintro e w' ⟨rfl,rfl⟩);all_goals (try (exfalso;go_light;simp_all;done));all_goals (go_ret;exact ⟨ax he.out,ae⟩)
   ·have h3:65536<m:=by omega
    have hq:decide (m<=(65536:Int))=false:=by simp;omega
    go_wp2_with (go_at_call 75;refine (lc _ _).mono ?_;rintro e w' ⟨rfl,rfl⟩);all_goals (try (exfalso;go_light;simp_all;done));all_goals (go_ret;exact ⟨ax he.out,ae⟩)
 have jR:Hid (aV ⟨row,m⟩=ai lK 0 row):=hide (by rw[mF,hlen.out,if_neg hs]);have h1:n<=12:=by omega
 have h2: -65536<=m:=by omega
 have h3:m<=65536:=by omega
 clear hs;go_wp2_with (go_at_call 75;refine (lc _ _).mono ?_;rintro e w' ⟨rfl,rfl⟩);all_goals (try (exfalso;go_light;simp_all;done));go_loopw [3] (λi wr=> ∃k:Nat,k<=n/\i=.int .i64 k/\ai lK 0 row=ai lK k (row.drop k)/\Below (w.alloc (.cells #[.slice A n c,.int .i64 m] 50)).heap.size (w.alloc (.cells #[.slice A n c,.int .i64 m] 50)) wr) (λi _=>n-(intOf i).toNat)
 case atStart=>exact ⟨0,Nat.zero_le _,rfl,rfl,Below.refl _ _⟩
 case round=>
  obtain ⟨k,hk,rfl,heq,hb0⟩:=hrel;have HE:=hide heq;clear heq;have hb:Below w.heap.size w wr:=aa ae hb0;have g0:wr.cell? ⟨w.heap.size,0,none⟩=some (.slice A n c):=ah hb0 (by simp) (by simp[go_sem]);have HB0:=hide hb0;clear hb0;by_cases hlt:k<n
  ·obtain ⟨b,off,x,rfl,hB,HX,f0,f1,f2,f3⟩:=(hx.below hb).val hlt;go_wp2_with fail;refine (wO x f3 _).mono ?_;rintro e w1 ⟨rfl,hb1⟩;have hbb:=aa hb hb1;have HB1:=hide (aa HB0.out hb1);clear hb1 f0 f1 f2;cases hv:valid x
   ·have he:Hid (8=aV ⟨row,m⟩):=hide (by rw[jR.out,HE.out,HX.out];exact (aK (by simp[lK,hv]) (by omega)).symm);go_wp2;go_ret;exact ⟨ax he.out,hbb⟩
   ·go_wp2;go_roundw
    case rel=>exact ⟨k+1,by omega,by go_num,by rw[HE.out,HX.out];exact aY (by simp[lK,hv]),HB1.out⟩
    case measure=>simp[intOf];omega
  ·go_wp2;go_ret;exact ⟨ax (by rw[jR.out,HE.out,aI hx.len (by omega),ai]),hb⟩
theorem xK (w:World)(A A':Option Addr)(n n' c c':Nat)(xs ys:List Val)(hx:In w A n c xs)(hy:In w A' n' c' ys):
  Calls Tryz.prog 57 #[.slice A n c,.slice A' n' c',.func (.func 58) #[] #[]] w
   λe w'=>e=.returned (.int .i64 (aA xs ys))/\Below w.heap.size w w':=by
 have h63:=hx.le;have h63':=hy.le;go_enter Tryz.func57,Tryz.ntmps57;go_wp2;go_loopw [13] (λi wr=> ∃k:Nat,k<=n/\k<=n'/\i=.int .i64 k/\aA xs ys=aA (xs.drop k) (ys.drop k)/\Below w.heap.size w wr) (λi _=>n-(intOf i).toNat)
 case atStart=>exact ⟨0,Nat.zero_le _,Nat.zero_le _,rfl,rfl,Below.refl _ _⟩
 case round=>
  obtain ⟨k,hk,hk',rfl,heq,hb⟩:=hrel;have HE:=hide heq;clear heq;by_cases hlt:k<n
  ·obtain ⟨b,off,x,rfl,hB,HX,e0,e1,e2,e3⟩:=(hx.below hb).val hlt;by_cases hlt':k<n'
   ·obtain ⟨b',off',y,rfl,hB',HY,f0,f1,f2,f3⟩:=(hy.below hb).val hlt';go_wp2_with fail;refine (Dm x y _).mono ?_;rintro e w1 ⟨rfl,hb1⟩;have hbb:=aa (aa (aa hb ae) ae) hb1;clear hb1 e0 e1 e2 f0 f1 f2;by_cases hz:bA x y=0
    ·rw[hz];go_wp2;go_roundw
     case rel=>exact ⟨k+1,by omega,by omega,by go_num,by rw[HE.out,HX.out,HY.out,aA,if_neg (by simp[hz])],hbb⟩
     case measure=>simp[intOf];omega
    ·have hz':(bA x y==0)=false:=by simp[hz]
     go_wp2;go_ret;exact ⟨ax (by rw[HE.out,HX.out,HY.out,aA,if_pos hz]),hbb⟩
   ·go_wp2;go_ret;exact ⟨ax (by rw[HE.out,HX.out,aI hy.len (by omega),aA]),hb.alloc hb.size _⟩
  ·have hkn:n<=k:=by omega
   by_cases hlt':n<n'
   ·go_wp2;go_ret;refine ⟨ax ?_,hb⟩;rw[HE.out,aI hx.len hkn];have:ys.drop k≠[]:=by intro h;have:=congrArg List.length h;rw[List.length_drop,hy.len]at this;simp at this;omega
    match h:ys.drop k with
    | []=>exact absurd h this
    | _ :: _=>rw[aA]
   ·go_wp2;go_ret;refine ⟨ax ?_,hb⟩;rw[HE.out,aI hx.len hkn,aI hy.len (by omega),aA]
theorem qI (w:World)(A A':Option Addr)(n n' c c':Nat)(xs ys:List Val)(hx:In w A n c xs)(hy:In w A' n' c' ys):
  Calls Tryz.prog 31 #[.slice A n c,.slice A' n' c'] w λe w'=>e=.returned (.int .i64 (aA xs ys))/\Below w.heap.size w w':=by
 go_enter Tryz.func31,Tryz.ntmps31;go_wp2_with fail;refine (xK _ _ _ _ _ _ _ xs ys hx hy).mono ?_;rintro e w1 ⟨rfl,hb1⟩;go_wp2;go_ret;exact ⟨rfl,hb1⟩
theorem In.prev {w:World}{A:Option Addr}{n c k:Nat}{b:List Ent}(h:In w A n c b)(hk:k<n)(h0:0<k): ∃bl off A' n' c' y,A=some ⟨bl,off,none⟩/\bl<w.heap.size/\
  w.cell? ⟨bl,off+(k-1)*2,none⟩=some (.slice A' n' c')/\In w A' n' c' y/\Hid ((b.getD (k-1) default).row=y):=by
 obtain ⟨bl,off,x,e,hb,hx,A',n',c',h1,h2,h3,h4⟩:=h.ent (show k-1<n by omega);exact ⟨bl,off,A',n',c',x.row,e,hb,h1,h3,hide (by rw[getD_drop hx.out])⟩
theorem gq (b:List Ent)(i:Nat)(x:Ent):dF b i x=if aV x≠0 then aV x else if x.count=0 then 8 else if 0<i/\0<=aA (b.getD (i-1) default).row x.row then 14 else 0:=rfl
theorem Di (w:World)(A:Option Addr)(n c:Nat)(bs:List Ent)(hx:In w A n c bs):
  Calls Tryz.prog 35 #[.slice A n c] w λe w'=>e=.returned (.int .i64 (aL bs))/\Below w.heap.size w w':=by
 have h63:=hx.le;have hlen:=hide hx.len;go_enter Tryz.func35,Tryz.ntmps35;by_cases hs:4096<n
 ·have he:Hid (2=aL bs):=hide (by rw[aL,hlen.out,if_pos hs]);go_wp2;go_ret;exact ⟨ax he.out,Below.refl _ _⟩
 have jR:Hid (aL bs=ai (dF bs) 0 bs):=hide (by rw[aL,hlen.out,if_neg hs]);have hs1:n<=4096:=by omega
 clear hs;go_wp2;go_loopw [11] (λi wr=> ∃k:Nat,k<=n/\i=.int .i64 k/\ai (dF bs) 0 bs=ai (dF bs) k (bs.drop k)/\Below w.heap.size w wr) (λi _=>n-(intOf i).toNat)
 case atStart=>exact ⟨0,Nat.zero_le _,rfl,rfl,Below.refl _ _⟩
 case round=>
  obtain ⟨k,hk,rfl,heq,hb⟩:=hrel;have HE:=hide heq;clear heq;by_cases hlt:k<n
  ·obtain ⟨b,off,x,rfl,hB,HX,A',n',c',e0,e1,e2,e3⟩:=(hx.below hb).ent hlt;go_wp2_with fail;refine (Hd _ A' n' c' x (e2.below ae) e3).mono ?_;rintro e w1 ⟨rfl,hb1⟩;have hbb:=aa (aa hb ae) hb1;have g0:w1.cell? ⟨wr.heap.size,0,none⟩=some (.slice A' n' c'):=ah hb1 (by simp) (by simp[go_sem]);have g1:w1.cell? ⟨wr.heap.size,1,none⟩=some (.int .i64 x.count):=ah hb1 (by simp) (by simp[go_sem]);have hin1:=e2.below (aa ae hb1);have hsz:wr.heap.size<w1.heap.size:=by have:=hb1.size;simp at this;omega
   obtain ⟨hm1,hm2⟩:=e3;clear hb1 e0 e1 e2;by_cases hz:aV x=0
   ·rw[hz];have HC:Hid (ai (dF bs) 0 bs=if x.count=0 then 8 else if 0<k/\0<=aA (bs.getD (k-1) default).row x.row then 14 else ai (dF bs) (k+1) (bs.drop (k+1))):=hide (by
     rw[HE.out,HX.out];by_cases q1:x.count=0
     ·rw[if_pos q1];exact aK (by rw[gq,if_neg (by simp[hz]),if_pos q1]) (by omega)
     ·by_cases q2:0<k/\0<=aA (bs.getD (k-1) default).row x.row
      ·rw[if_neg q1,if_pos q2];exact aK (by rw[gq,if_neg (by simp[hz]),if_neg q1,if_pos q2]) (by omega)
      ·rw[if_neg q1,if_neg q2];exact aY (by rw[gq,if_neg (by simp[hz]),if_neg q1,if_neg q2]))
    clear hz;cases hq:(x.count==0)
    ·have hq1:¬x.count=0:=by simpa using hq
     by_cases h0:0<k
     ·obtain ⟨bl,off',A0,n0,c0,pr,e,hbl,f0,f1,HP⟩:=In.prev (hx.below hbb) hlt h0;injection e with e;injection e with e_1 e_2;subst e_1 e_2;have i0:(0:Int)<(k:Int):=by omega
      have i1:(0:Int)<=(k:Int)-1:=by omega
      have i2:(k:Int)-1<(n:Int):=by omega
      have i3:((k:Int)-1).toNat=k-1:=by omega
      have i5:(1:Int)<=(k:Int):=by omega
      have i6:(k:Int)<=(n:Int):=by omega
      have i4:IntKind.i64.wrap ((k:Int)-1)=(k:Int)-1:=IntWalk.i64_in _ (by omega);go_wp2_with fail;go_region_held3 (λw'=>w'.cell? ⟨b,off+(k-1)*2,none⟩=some (.slice A0 n0 c0)/\w'.cell? ⟨wr.heap.size,0,none⟩=some (.slice A' n' c')) (first|exact ⟨f0,g0⟩|(have hq:=aj hb2;exact ⟨ah hq hbl f0,ah hq hsz g0⟩)) (first|(go_at_call 31;refine (qI _ A0 A' n0 n' c0 c' pr x.row (by exact f1) (by exact hin1)).mono ?_;rintro e w2 ⟨rfl,hb2⟩));have Fx:=aa hbb (aj hb2);clear hb2 i4 i3 i2 i1;by_cases hcmp:0<=aA pr x.row
      ·have he:Hid (14=aL bs):=hide (by rw[jR.out,HC.out,HP.out,if_neg hq1,if_pos ⟨h0,hcmp⟩]);have hd:decide (0<=aA pr x.row)=true:=by simp;omega
       go_wp2;all_goals (try (exfalso;go_light;simp_all;done));go_ret;exact ⟨ax he.out,Fx⟩
      ·have he:Hid (ai (dF bs) 0 bs=ai (dF bs) (k+1) (bs.drop (k+1))):=hide (by rw[HC.out,HP.out,if_neg hq1,if_neg (λh=>hcmp h.2)]);have hd:decide (0<=aA pr x.row)=false:=by simp;omega
       go_wp2;all_goals (try (exfalso;go_light;simp_all;done));go_roundw
       case rel=>exact ⟨k+1,by omega,by go_num,he.out,Fx⟩
       case measure=>simp[intOf];omega
     ·have h0':k=0:=by omega
      have he:Hid (ai (dF bs) 0 bs=ai (dF bs) (k+1) (bs.drop (k+1))):=hide (by rw[HC.out,if_neg hq1,if_neg (λh=>h0 h.1)]);subst h0';go_wp2;go_quiet (fail);go_wp2;go_roundw
      case rel=>exact ⟨0+1,by omega,by go_num,he.out,bY hbb⟩
      case measure=>simp[intOf];omega
    ·have he:Hid (8=aL bs):=hide (by rw[jR.out,HC.out,if_pos (by simpa using hq)]);go_wp2;go_ret;exact ⟨ax he.out,hbb⟩
   ·have hz':(aV x==0)=false:=by simp[hz]
    have he:Hid (aV x=aL bs):=hide (by rw[jR.out,HE.out,HX.out];exact (aK (by rw[gq,if_pos hz]) hz).symm);go_wp2;all_goals (try (exfalso;go_light;simp_all;done));go_ret;exact ⟨ax he.out,hbb⟩
  ·go_wp2;go_ret;exact ⟨ax (by rw[jR.out,HE.out,aI hx.len (by omega),ai]),hb⟩
theorem lS (w:World)(A A':Option Addr)(n n' c c':Nat)(xs ys:List Val)(hx:In w A n c xs)(hy:In w A' n' c' ys):
  Calls Tryz.prog 64 #[.slice A n c,.slice A' n' c'] w λe w'=>e=.returned (.int .i64 (aA xs ys))/\Below w.heap.size w w':=by
 have h63:=hx.le;have h63':=hy.le;go_enter Tryz.func64,Tryz.ntmps64;go_wp2;go_loopw [5] (λi wr=> ∃k:Nat,k<=n/\k<=n'/\i=.int .i64 k/\aA xs ys=aA (xs.drop k) (ys.drop k)/\Below w.heap.size w wr) (λi _=>n-(intOf i).toNat)
 case atStart=>exact ⟨0,Nat.zero_le _,Nat.zero_le _,rfl,rfl,Below.refl _ _⟩
 case round=>
  obtain ⟨k,hk,hk',rfl,heq,hb⟩:=hrel;have HE:=hide heq;clear heq;by_cases hlt:k<n
  ·by_cases hlt':k<n'
   ·obtain ⟨b,off,x,rfl,hB,HX,e0,e1,e2,e3⟩:=(hx.below hb).val hlt;obtain ⟨b',off',y,rfl,hB',HY,f0,f1,f2,f3⟩:=(hy.below hb).val hlt';go_wp2_with fail;go_region_held3 (λw'=>Below wr.heap.size wr w'/\w'.cell? ⟨b,off+k*3,none⟩=some (.int .i64 x.kind)/\w'.cell? ⟨b,off+k*3+1,none⟩=some (.int .i64 x.num)/\w'.cell? ⟨b,off+k*3+2,none⟩=some (.string x.str)/\w'.cell? ⟨b',off'+k*3,none⟩=some (.int .i64 y.kind)/\w'.cell? ⟨b',off'+k*3+1,none⟩=some (.int .i64 y.num)/\w'.cell? ⟨b',off'+k*3+2,none⟩=some (.string y.str)) (first|exact ⟨(Below.refl _ _).drew,e0,e1,e2,f0,f1,f2⟩|(have hq:=aj hb1;exact ⟨hq,ah hq hB e0,ah hq hB e1,ah hq hB e2,ah hq hB' f0,ah hq hB' f1,ah hq hB' f2⟩)) (first|(go_at_call 89;refine (dz x y _).mono ?_;rintro e w1 ⟨rfl,hb1⟩));have hbb:=aa hb (aj hb1);clear hb1 e0 e1 e2 f0 f1 f2;by_cases hz:bA x y=0
    ·rw[hz];go_wp2;go_roundw
     case rel=>exact ⟨k+1,by omega,by omega,by go_num,by rw[HE.out,HX.out,HY.out,aA,if_neg (by simp[hz])],hbb⟩
     case measure=>simp[intOf];omega
    ·have hz':(bA x y==0)=false:=by simp[hz]
     go_wp2;go_ret;exact ⟨ax (by rw[HE.out,HX.out,HY.out,aA,if_pos hz]),hbb⟩
   ·go_wp2_with (go_at_call 90;refine (rH _ _ _).mono ?_;rintro e w' ⟨rfl,rfl⟩);go_ret;refine ⟨ax ?_,hb⟩;have hy0:=aI hy.len (show n'<=k by omega);rw[HE.out,hy0];have:xs.drop k≠[]:=by intro h;have:=congrArg List.length h;rw[List.length_drop,hx.len]at this;simp at this;omega
    match h:xs.drop k with
    | []=>exact absurd h this
    | _ :: _=>rw[aA];simp[iP];omega
  ·have hkn:n<=k:=by omega
   go_wp2_with (go_at_call 90;refine (rH _ _ _).mono ?_;rintro e w' ⟨rfl,rfl⟩);go_ret;refine ⟨ax ?_,hb⟩;rw[HE.out,aI hx.len hkn];by_cases hlt':n<n'
   ·have:ys.drop k≠[]:=by intro h;have:=congrArg List.length h;rw[List.length_drop,hy.len]at this;simp at this;omega
    match h:ys.drop k with
    | []=>exact absurd h this
    | _ :: _=>rw[aA];simp[iP];omega
   ·rw[aI hy.len (by omega),aA];have:n=n':=by omega
    simp[iP,this]
theorem BZ (b:Bool)(w:World):Calls Tryz.prog 215 #[.bool b] w λe w'=>e=.returned (.agg (fw b).cells.toArray)/\Below w.heap.size w w':=by
 cases b;all_goals
  go_enter Tryz.func215,Tryz.ntmps215;go_wp2
 ·refine bodyPost_ret (v:=.agg (fw false).cells.toArray) (by simp[results,Tryz.results215,go_sem,Val.cells,fw]) rfl ⟨rfl,by exact ae⟩
 ·refine bodyPost_ret (v:=.agg (fw true).cells.toArray) (by simp[results,Tryz.results215,go_sem,Val.cells,fw]) rfl ⟨rfl,by exact ae⟩
theorem rZ (b:Bool)(w:World):Calls Tryz.prog 197 #[.bool b] w λe w'=>e=.returned (.agg (fw b).cells.toArray)/\Below w.heap.size w w':=by
 cases b;all_goals
  go_enter Tryz.func197,Tryz.ntmps197;go_wp2
 ·refine bodyPost_ret (v:=.agg (fw false).cells.toArray) (by simp[results,Tryz.results197,go_sem,Val.cells,fw]) rfl ⟨rfl,by exact ae⟩
 ·refine bodyPost_ret (v:=.agg (fw true).cells.toArray) (by simp[results,Tryz.results197,go_sem,Val.cells,fw]) rfl ⟨rfl,by exact ae⟩
theorem pg (n:Int)(ok:Bool)(w:World):Calls Tryz.prog 198 #[.int .i64 n,.bool ok] w λe w'=>e=.returned (.agg (jQ n ok).cells.toArray)/\Below w.heap.size w w':=by
 cases ok;all_goals
  go_enter Tryz.func198,Tryz.ntmps198;go_wp2
 ·refine bodyPost_ret (v:=.agg (jQ n false).cells.toArray) (by simp[results,Tryz.results198,go_sem,Val.cells,jQ,bG]) rfl ⟨rfl,by exact ae⟩
 ·refine bodyPost_ret (v:=.agg (jQ n true).cells.toArray) (by simp[results,Tryz.results198,go_sem,Val.cells,jQ]) rfl ⟨rfl,by exact ae⟩
theorem FT (n:Int)(w:World):Calls Tryz.prog 226 #[.int .i64 n] w λe w'=>e=.returned (.agg (sS n).cells.toArray)/\Below w.heap.size w w':=by
 by_cases h:n<0\/575999999<n
 ·have HM:Hid (sS n=bG):=hide (by rw[sS,if_pos h]);rcases h with h|h
  all_goals
   go_enter Tryz.func226,Tryz.ntmps226;go_wp2;refine bodyPost_ret (v:=.agg bG.cells.toArray) (by simp[results,Tryz.results226,go_sem,Val.cells,bG]) rfl ⟨by rw[HM.out],by exact ae⟩
 ·have HM:Hid (sS n=⟨4,n,⟨#[]⟩⟩):=hide (by rw[sS,if_neg h]);have h1:0<=n:=by omega
  have h2:n<=575999999:=by omega
  clear h;go_enter Tryz.func226,Tryz.ntmps226;go_wp2;refine bodyPost_ret (v:=.agg (Val.cells ⟨4,n,⟨#[]⟩⟩).toArray) (by simp[results,Tryz.results226,go_sem,Val.cells]) rfl ⟨by rw[HM.out],by exact ae⟩
structure Zr (w:World) (g:Nat):Prop where
 c0:w.cell? ⟨g,0,none⟩=some (.int .i64 0)
 c1:w.cell? ⟨g,1,none⟩=some (.int .i64 0)
 c2:w.cell? ⟨g,2,none⟩=some (.string ⟨#[]⟩)
 f0:w.frozen? ⟨g,0,none⟩=false
 f1:w.frozen? ⟨g,1,none⟩=false
 f2:w.frozen? ⟨g,2,none⟩=false
 lt:g<w.heap.size
theorem Zr.below {w w':World}{g:Nat}(h:Zr w g)(hb:Below w.heap.size w w'):Zr w' g:=
 ⟨ah hb h.lt h.c0,ah hb h.lt h.c1,ah hb h.lt h.c2,((au hb).2 _ _ h.lt).trans h.f0,((au hb).2 _ _ h.lt).trans h.f1,((au hb).2 _ _ h.lt).trans h.f2,by have:=hb.size;have:=h.lt;omega⟩
theorem Zr.made (w:World)(t:TypeId):Zr (w.alloc (.cells #[.int .i64 0,.int .i64 0,.string ⟨#[]⟩] t)) w.heap.size:=by
 constructor <;> simp[go_sem]
theorem qQ {fn:Func}{p:Tmp}{R:Ending->World->Prop}{a:Act}{w:World}{g:Nat}{k n:Int}{s:ByteArray}(h:fn.results= #[.cell p 36])(Z:Zr w g)(hp:a.tmps.getD p undef=.pointer (some ⟨g,0,none⟩))(hd:a.defers=[])(hR:R (.returned (.agg (Val.cells ⟨k,n,s⟩).toArray)) (((w.setCell ⟨g,0,none⟩ (.int .i64 k)).setCell ⟨g,1,none⟩ (.int .i64 n)).setCell ⟨g,2,none⟩ (.string s))):
  bodyPost Tryz.prog fn R .ret a (((w.setCell ⟨g,0,none⟩ (.int .i64 k)).setCell ⟨g,1,none⟩ (.int .i64 n)).setCell ⟨g,2,none⟩ (.string s)):=
 bodyPost_ret (bJ (cs:=Val.cells ⟨k,n,s⟩) h _ _ g _ hp (dM Z.c0 Z.c1 Z.c2) Tryz.underlying36 rfl (by kernel_rfl)) hd hR
def V3 (w:World)(b o:Nat)(v:Val):Prop:=w.cell? ⟨b,o,none⟩=some (.int .i64 v.kind)/\w.cell? ⟨b,o+1,none⟩=some (.int .i64 v.num)/\w.cell? ⟨b,o+2,none⟩=some (.string v.str)
theorem V3.below {w w':World}{b o:Nat}{v:Val}(h:V3 w b o v)(hb:Below w.heap.size w w')(hl:b<w.heap.size):V3 w' b o v:=⟨ah hb hl h.1,ah hb hl h.2.1,ah hb hl h.2.2⟩
theorem below_alloc3 {w:World}{o o' o'':Obj}:Below w.heap.size w (((w.alloc o).alloc o').alloc o''):=aa below_alloc2 ae
theorem kF (w:World)(xk xn yk yn:Int)(xs ys:ByteArray): ∃w0,w0=(((w.alloc (.cells #[.int .i64 xk,.int .i64 xn,.string xs] 36)).alloc (.cells #[.int .i64 yk,.int .i64 yn,.string ys] 36)).alloc (.cells #[.int .i64 0,.int .i64 0,.string ⟨#[]⟩] 36))/\
  V3 w0 w.heap.size 0 ⟨xk,xn,xs⟩/\V3 w0 (w.heap.size+1) 0 ⟨yk,yn,ys⟩/\Hid (Zr w0 (w.heap.size+1+1))/\Below w.heap.size w w0:=by
 refine ⟨_,rfl,?_,?_,?_,below_alloc3⟩
 ·exact V3.below (w:=w.alloc (.cells #[.int .i64 xk,.int .i64 xn,.string xs] 36)) ⟨by simp[go_sem],by simp[go_sem],by simp[go_sem]⟩ below_alloc2 (by simp)
 ·exact V3.below (w:=(w.alloc (.cells #[.int .i64 xk,.int .i64 xn,.string xs] 36)).alloc (.cells #[.int .i64 yk,.int .i64 yn,.string ys] 36)) ⟨by simp[go_sem],by simp[go_sem],by simp[go_sem]⟩ ae (by simp)
 ·exact hide (by have:=Zr.made ((w.alloc (.cells #[.int .i64 xk,.int .i64 xn,.string xs] 36)).alloc (.cells #[.int .i64 yk,.int .i64 yn,.string ys] 36)) 36;simpa using this)
theorem Ef (w:World)(op kd nu ar:Int)(st nm:ByteArray): ∃w0,w0=((w.alloc (.cells #[.int .i64 op,.int .i64 kd,.int .i64 nu,.string st,.string nm,.int .i64 ar] 89)).alloc (.cells #[.int .i64 0,.int .i64 0,.string ⟨#[]⟩] 36))/\Hid (Zr w0 (w.heap.size+1))/\
  w0.cell? ⟨w.heap.size,0,none⟩=some (.int .i64 op)/\w0.cell? ⟨w.heap.size,1,none⟩=some (.int .i64 kd)/\w0.cell? ⟨w.heap.size,2,none⟩=some (.int .i64 nu)/\w0.cell? ⟨w.heap.size,3,none⟩=some (.string st)/\w0.cell? ⟨w.heap.size,4,none⟩=some (.string nm)/\w0.cell? ⟨w.heap.size,5,none⟩=some (.int .i64 ar)/\Below w.heap.size w w0:=
 ⟨_,rfl,hide (by have:=Zr.made (w.alloc (.cells #[.int .i64 op,.int .i64 kd,.int .i64 nu,.string st,.string nm,.int .i64 ar] 89)) 36;simpa using this),by simp[go_sem],by simp[go_sem],by simp[go_sem],by simp[go_sem],by simp[go_sem],by simp[go_sem],below_alloc2⟩
theorem aJ {B g:Nat}{w w':World}(h:Below B w w')(hg:B<=g)(u v x:Value):Below B w (((w'.setCell ⟨g,0,none⟩ u).setCell ⟨g,1,none⟩ v).setCell ⟨g,2,none⟩ x):=((h.setCell hg _).setCell hg _).setCell hg _
theorem Ra {a b:Int}(ha:aF a)(h0:b≠0): -1073741824<=a.tdiv b/\a.tdiv b<=1073741824:=by
 have h:(a.tdiv b).natAbs<=a.natAbs:=by
  rw[Int.natAbs_tdiv];exact Nat.div_le_self _ _
 unfold aF at ha;omega
theorem Rb {a b:Int}(hb:aF b)(h0:b≠0):(a.tmod b).natAbs<b.natAbs:=by
 rw[Int.natAbs_tmod];exact Nat.mod_lt _ (by omega)
theorem yX {a b:Int}(h0:b≠0):
  (a.tmod b≠0/\(decide (a.tmod b<0) != decide (b<0))=true->a.fdiv b=a.tdiv b-1/\a.fmod b=a.tmod b+b)/\
  (¬(a.tmod b≠0/\(decide (a.tmod b<0) != decide (b<0))=true)->a.fdiv b=a.tdiv b/\a.fmod b=a.tmod b):=by
 have h1:=Int.tmod_add_mul_tdiv a b;have h2:(a.tmod b).natAbs<b.natAbs:=by rw[Int.natAbs_tmod];exact Nat.mod_lt _ (by omega)
 generalize a.tmod b=r at*;generalize a.tdiv b=q at*;have e:b*(q-1)=b*q-b:=by rw[Int.mul_sub,Int.mul_one]
 constructor
 ·rintro ⟨hr,hs⟩;rcases Int.lt_or_gt_of_ne h0 with hb|hb
  ·have:¬r<0:=by intro q;simp[q,hb]at hs
   exact (Int.fdiv_fmod_unique' hb).2 ⟨by rw[e];omega,by omega,by omega⟩
  ·have:r<0:=by
    by_cases q:r<0
    ·exact q
    ·exfalso;simp[q,show ¬b<0 by omega]at hs
   exact (Int.fdiv_fmod_unique (by omega)).2 ⟨by rw[e];omega,by omega,by omega⟩
 ·intro hn;rcases Int.lt_or_gt_of_ne h0 with hb|hb
  ·have:r<=0:=by
    by_cases q:r<=0
    ·exact q
    ·exact absurd ⟨by omega,by simp[hb];omega⟩ hn
   exact (Int.fdiv_fmod_unique' hb).2 ⟨h1,by omega,by omega⟩
  ·have:0<=r:=by
    by_cases q:0<=r
    ·exact q
    ·exact absurd ⟨by omega,by simp[show ¬b<0 by omega];omega⟩ hn
   exact (Int.fdiv_fmod_unique (by omega)).2 ⟨h1,by omega,by omega⟩
theorem Ce (a:Int):tV a 0=(0,false)/\uj a 0=(0,false):=by simp[tV,uj]
theorem Jm {a b:Int}(ha:aF a)(hb:aF b)(h0:b≠0):tV a b=(a.fdiv b,true)/\uj a b=(a.fmod b,true):=by simp[tV,uj,fV ha,fV hb,h0]
theorem yU (a b:Int)(ha:aF a)(hb:aF b)(h0:0<b)(w:World):Calls Tryz.prog 252 #[.int .i64 a,.int .i64 b] w λe w'=>e=.returned (.int .i64 (a.fdiv b))/\w=w':=by
 have hne:b≠0:=by omega
 have HF:=hide (yX (a:=a) hne);have q0:(b==0)=false:=by simpa using hne
 have hd:=Ra ha hne;have hm:=Rb (a:=a) hb hne;have hw0:IntKind.i64.wrap (a.tdiv b)=a.tdiv b:=IntWalk.i64_in _ (by omega);have hw1:IntKind.i64.wrap (a.tdiv b-1)=a.tdiv b-1:=IntWalk.i64_in _ (by omega);have hw3:IntKind.i64.wrap (a.tmod b)=a.tmod b:=IntWalk.i64_in _ (by unfold aF at hb;omega);by_cases h1:a.tmod b<0
 ·have HR:=hide (HF.out.1 ⟨by omega,by simp[h1,show ¬b<0 by omega]⟩);go_enter Tryz.func252,Tryz.ntmps252;go_wp2;go_ret;exact ⟨ax (by rw[HR.out.1] <;> rfl),rfl⟩
 ·have HR:=hide (HF.out.2 (by rintro ⟨_,h⟩;simp[h1,show ¬b<0 by omega]at h));go_enter Tryz.func252,Tryz.ntmps252;go_wp2;go_ret;exact ⟨ax (by rw[HR.out.1] <;> rfl),rfl⟩
theorem Dq (a b:Int)(ha:aF a)(hb:aF b)(w:World):Calls Tryz.prog 229 #[.int .i64 a,.int .i64 b] w λe w'=>e=.returned (.tuple #[.int .i64 (tV a b).1,.bool (tV a b).2])/\w=w':=by
 have s1:=fV ha;have s2:=fV hb;by_cases h0:b=0
 ·subst h0;have HD:=hide (Ce a);go_enter Tryz.func229,Tryz.ntmps229;go_wp2_with (go_at_call 250;refine (mQ _ _).mono ?_;rintro e w' ⟨rfl,rfl⟩);go_ret2;exact ⟨by rw[HD.out.1] <;> rfl,rfl⟩
 ·have HD:=hide (Jm ha hb h0);have q0:(b==0)=false:=by simpa using h0
  have n1:IntKind.i64.wrap (-a)= -a:=IntWalk.i64_in _ (by unfold aF at ha;omega);have n2:IntKind.i64.wrap (-b)= -b:=IntWalk.i64_in _ (by unfold aF at hb;omega);by_cases h1:b<0
  ·go_enter Tryz.func229,Tryz.ntmps229;go_wp2_with (first|(go_at_call 250;refine (mQ _ _).mono ?_;rintro e w' ⟨rfl,rfl⟩)|(go_at_call 252;(try rw[n1]);(try rw[n2]);refine (yU (-a) (-b) (by unfold aF at*;omega) (by unfold aF at*;omega) (by omega) _).mono ?_;rintro e w' ⟨rfl,rfl⟩));go_ret2;exact ⟨by rw[HD.out.1] <;> rfl,rfl⟩
  ·go_enter Tryz.func229,Tryz.ntmps229;go_wp2_with (first|(go_at_call 250;refine (mQ _ _).mono ?_;rintro e w' ⟨rfl,rfl⟩)|(go_at_call 252;refine (yU a b ha hb (by omega) _).mono ?_;rintro e w' ⟨rfl,rfl⟩));go_ret2;exact ⟨by rw[HD.out.1] <;> rfl,rfl⟩
theorem QZ (a b:Int)(ha:aF a)(hb:aF b)(w:World):Calls Tryz.prog 230 #[.int .i64 a,.int .i64 b] w λe w'=>e=.returned (.tuple #[.int .i64 (uj a b).1,.bool (uj a b).2])/\w=w':=by
 by_cases h0:b=0
 ·subst h0;have HD:=hide (Ce a);go_enter Tryz.func230,Tryz.ntmps230;go_wp2_with (go_at_call 229;refine (Dq a 0 ha hb _).mono ?_;rintro e w' ⟨rfl,rfl⟩;rw[HD.out.1]);go_ret2;exact ⟨by rw[HD.out.2] <;> rfl,rfl⟩
 ·have HD:=hide (Jm ha hb h0);have e1:=Int.fmod_add_mul_fdiv a b;have hm:a.fmod b=a-b*a.fdiv b:=by omega
  have HM:=hide hm;have hq:=Int.natAbs_fdiv_le_natAbs a b;have hq2:aF (a.fdiv b):=by unfold aF at*;omega
  have RA:=Oc hb hq2;have n1:IntKind.i64.wrap (b*a.fdiv b)=b*a.fdiv b:=IntWalk.i64_in _ (by omega);have n2:IntKind.i64.wrap (a-b*a.fdiv b)=a-b*a.fdiv b:=IntWalk.i64_in _ (by unfold aF at ha;omega);clear e1 hm hq hq2;go_enter Tryz.func230,Tryz.ntmps230;go_wp2_with (go_at_call 229;refine (Dq a b ha hb _).mono ?_;rintro e w' ⟨rfl,rfl⟩;rw[HD.out.1]);go_ret2;exact ⟨by rw[HD.out.2,HM.out] <;> rfl,rfl⟩
theorem Ec (w:World)(A A2:Option Addr)(n n2 c c2:Nat)(xs ys:List Val)(hx:In w A n c xs)(hy:In w A2 n2 c2 ys):
  Calls Tryz.prog 39 #[.slice A n c,.slice A2 n2 c2] w λe w'=>e=.returned (.bool (aA xs ys==0))/\Below w.heap.size w w':=by
 go_enter Tryz.func39,Tryz.ntmps39;have HX:=hide hx;clear hx;have HY:=hide hy;clear hy;go_wp2_with fail;refine (lS _ A A2 n n2 c c2 xs ys HX.out HY.out).mono ?_;rintro e w1 ⟨rfl,hb1⟩;have iM:=hide hb1;clear hb1;have jk:=hide iM.out;have HQ:=hide (rfl:aA xs ys=aA xs ys);go_wp2;go_ret;exact ⟨rfl,jk.out⟩
theorem Cc (w:World)(A:Option Addr)(n c:Nat)(bs:List Ent)(hx:In w A n c bs)(A2:Option Addr)(n2 c2:Nat)(row:List Val)(hy:In w A2 n2 c2 row):
  Calls Tryz.prog 15 #[.slice A n c,.slice A2 n2 c2] w λe w'=>e=.returned (.int .i64 (cntF bs row))/\Below w.heap.size w w':=by
 obtain ⟨R,hR⟩: ∃R,cntF bs row=R:=⟨_,rfl⟩;have HR:=hide hR;rw[hR];clear hR;have HL:=hide hx.len;have h63:=hx.le;go_enter Tryz.func15,Tryz.ntmps15;have HX:=hide hx;clear hx;have HY:=hide hy;clear hy;go_wp2;go_loopw [5] (λi wr=> ∃k:Nat,k<=n/\i=.int .i64 k/\R=cntF (bs.drop k) row/\Below w.heap.size w wr) (λi _=>n-(RowKit.intOf i).toNat)
 case atStart=>exact ⟨0,Nat.zero_le _,rfl,HR.out.symm,Below.refl _ _⟩
 case round=>
  obtain ⟨k,hk,rfl,heq,hb⟩:=hrel;have HE:=hide heq;clear heq;have HX:=hide (HX.out.below hb);have HY:=hide (HY.out.below hb);have oF:=hide hb;clear hb;by_cases hlt:k<n
  ·obtain ⟨b,off,x,rfl,hBb,Pe,Ax,An,Ac,e0,e1,e2,e3⟩:=HX.out.ent hlt;have k0:(0:Int)<=(k:Int):=by omega
   have k1:(k:Int)<(n:Int):=by omega
   have HI:=hide e2;have E0:=hide e0;have E1:=hide e1;clear e2;go_wp2_with fail;refine (Ec _ Ax A2 An n2 Ac c2 x.row row (by exact HI.out) HY.out).mono ?_;rintro e w4 ⟨rfl,hb4⟩;have Vs:=hide hb4;have kL:=hide (aa oF.out hb4);clear hb4;have e0:=ah Vs.out hBb E0.out;have e1:=ah Vs.out hBb E1.out;have CY:=hide kL.out;have jk:=hide kL.out;by_cases hq:aA x.row row=0
   ·obtain rfl:R=x.count:=by rw[HE.out,Pe.out,cntF,if_pos hq]
    have q0:(aA x.row row==0)=true:=by simpa using hq
    rw[q0];clear q0 hq;go_wp2;all_goals (try (exfalso;go_light;simp_all;done));go_ret;exact ⟨rfl,jk.out⟩
   ·have q0:(aA x.row row==0)=false:=by simpa using hq
    have HN:Hid (R=cntF (bs.drop (k+1)) row):=hide (by rw[HE.out,Pe.out,cntF,if_neg hq]);rw[q0];clear q0 hq;go_wp2;all_goals (try (exfalso;go_light;simp_all;done));go_roundw
    case rel=>exact ⟨k+1,by omega,by go_num,HN.out,CY.out⟩
    case measure=>simp[RowKit.intOf];omega
  ·obtain rfl:R=0:=by rw[HE.out,aI HX.out.len (by omega)];rfl
   have jk:=hide oF.out;go_wp2;go_ret;exact ⟨rfl,jk.out⟩
end Go.Proofs.YtopjjlmfilgngaaGreatDoor
