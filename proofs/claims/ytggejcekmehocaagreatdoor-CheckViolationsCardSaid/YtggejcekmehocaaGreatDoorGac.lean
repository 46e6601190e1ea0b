/-
  schema.IsName and warehouseref5.IsName. schema.Index (slices.IndexFunc over columns) and warehouseref5.Index. schema.Validate and warehouseref5.Validate. Package warehouseref1: Valid, Compare, CompareRows. Package value: Valid, Compare, CompareRows; package cmp's Or and Compare. expr.Arity and warehouseref8.Arity: both return arity. warehousebase: At, Moment, Value, Cell, Row: what they build is well-formed. warehousebase: Cell and Row: they fit their columns. schema.CheckRow and warehouseref5.CheckRow. warehousebase.Row: the row fits the columns and lies in a new block. Checked arithmetic: package exact's and the reference's, at integers from -2^30 to 2^30 (larger ones never come in); truth values. bag.formed and warehouseref6.fits. slices.CompareFunc over values, value.CompareRows. bag.Validate, bag.IsTable; warehouseref6.Validate, positive, IsTable. Package warehouseref1: CompareRows. Values of conditions, numbers and moments: scalar.boolean, number, moment and the reference's truth, number, moment. Division: exact.divide, Divide, Modulo and the reference's, at integers from -2^30 to 2^30. warehouseworld.Within: a list of entries is small.
-/
import Derived.Test.YtggejcekmehocaaGreatDoorProg
import Derived.Test.YtggejcekmehocaaGreatDoorGab
import Derived.Test.YtggejcekmehocaaGreatDoorGaa
namespace Go.Proofs.YtggejcekmehocaaGreatDoor
set_option maxHeartbeats 2000000
set_option maxRecDepth 100000
open Go.RowKit
set_option linter.unusedSimpArgs false
set_option linter.unusedVariables false
theorem oh (s:ByteArray)(i:Nat)(h:i<s.size):fq s i=(s[i]'h).toNat:=by
 have h':i<s.data.toList.length:=by simpa using h
 have:s.data.toList.getD i 0=s[i]'h:=by rw[List.getD,List.getElem?_eq_getElem h'];rfl
 rw[fq,this]
theorem JA (P:Program)(w:World)(s:ByteArray)(pos:Nat)(h:pos<s.size):
  ∃c wd:Nat,(∀ty,(Instr.next (.pointer (some ⟨w.heap.size,0,none⟩)) true ty).run P (w.iter s pos)=.ok (.tuple #[.bool true,.int .i64 pos,.int .i32 (c:Int)]) (w.iter s (pos+wd)))/\
   (c<128->c=fq s pos/\wd=1)/\(128<=c->128<=fq s pos)/\c<=2147483647:=by
 refine ⟨_,_,λty=>run_next_any w s pos ty h,λhc=>?_,λhc=>?_,decode_le s pos⟩
 ·by_cases ha:(s[pos]'h).toNat<128
  ·rw[decode_ascii s pos h ha,oh s pos h]
   exact ⟨rfl,rfl⟩
  ·have:=(decode_high s pos h (by omega)).1
   omega
 ·by_cases ha:(s[pos]'h).toNat<128
  ·rw[decode_ascii s pos h ha]at hc
   have:128<=(s[pos]'h).toNat:=hc
   omega
  ·rw[oh s pos h]
   omega
theorem sV (s:ByteArray)(i:Nat)(h:i<s.size):gB s (s.size-i) i=(iB (fq s i) i&&gB s (s.size-(i+1)) (i+1)):=by
 rw[show s.size-i=(s.size-(i+1))+1 from by omega,gB]
theorem eF (s:ByteArray)(i:Nat)(h:i<s.size)(hb:iB (fq s i) i=false):gB s (s.size-i) i=false:=by
 rw[sV s i h,hb];rfl
theorem dK (s:ByteArray)(i:Nat)(h:i<s.size)(hb:iB (fq s i) i=true):gB s (s.size-i) i=gB s (s.size-(i+1)) (i+1):=by
 rw[sV s i h,hb];rfl
theorem j6 (c i:Nat)(h:128<=c):iB c i=false:=by
 have h1:¬c<=122:=by omega
 have h2:¬c=95:=by omega
 have h3:¬c<=57:=by omega
 simp[iB,h1,h2,h3]
theorem bN (c i:Nat):iB c i=true↔(97<=c/\c<=122)\/(0<i/\(c=95\/(48<=c/\c<=57))):=by simp only[iB,Bool.or_eq_true,Bool.and_eq_true,decide_eq_true_eq]
theorem Da (s:ByteArray):(!s.toList.isEmpty)=decide (0<s.size):=by
 rw[ByteArray.toList_eq]
 have:s.size=s.data.toList.length:=rfl
 rw[this]
 cases s.data.toList <;> simp
theorem mP (s:ByteArray)(hs:Str s)(w:World):
  Calls Tryz.prog 166 #[.string s] w λe w'=>e=.returned (.bool (cu s))/\Below w.heap.size w w':=by
 unfold Str at hs
 go_enter Tryz.func166,Tryz.ntmps166
 by_cases hl:s.size<=24
 ·go_wp2
  go_loopw [3] (λ_ wr=> ∃pos:Nat,pos<=s.size/\wr=w.iter s pos/\gB s s.size 0=gB s (s.size-pos) pos) (λ_ wr=>s.size-wr.iterPos w.heap.size)
  case atStart=>exact ⟨0,by omega,rfl,rfl⟩
  case round=>
   obtain ⟨pos,hpos,rfl,heq⟩:=hrel
   have HE:=hide heq
   clear heq
   by_cases hp:pos<s.size
   ·obtain ⟨c,wd,hnx,h1,h2,h3⟩:=JA Tryz.prog w s pos hp
    have H1:=hide h1
    clear h1
    cases hA:decide ((97:Int)<=(c:Int))
    ·cases hC:((pos:Int)==0)
     ·cases hD:((c:Int)==95)
      ·cases hE:decide ((c:Int)<48)
       ·cases hF:decide ((57:Int)<(c:Int))
        ·go_wp2
         all_goals (try (exfalso;go_light;(try simp only[decide_eq_true_eq,decide_eq_false_iff_not,beq_iff_eq,beq_eq_false_iff_ne,ne_eq,Bool.not_eq_true',Bool.not_eq_false']at*);omega))
         all_goals
          go_roundw
          case rel=>
           go_light
           (try simp only[decide_eq_true_eq,decide_eq_false_iff_not,beq_iff_eq,beq_eq_false_iff_ne,ne_eq]at*)
           obtain ⟨e1,rfl⟩:=H1.out (by omega)
           refine ⟨pos+1,by omega,rfl,?_⟩
           rw[HE.out]
           exact dK s pos hp (by rw[<-e1];exact (bN c pos).2 (by omega))
          case measure=>
           go_light
           (try simp only[decide_eq_true_eq,decide_eq_false_iff_not,beq_iff_eq,beq_eq_false_iff_ne,ne_eq]at*)
           obtain ⟨e1,rfl⟩:=H1.out (by omega)
           simp
           omega
        ·go_wp2
         all_goals (try (exfalso;go_light;(try simp only[decide_eq_true_eq,decide_eq_false_iff_not,beq_iff_eq,beq_eq_false_iff_ne,ne_eq,Bool.not_eq_true',Bool.not_eq_false']at*);omega))
         all_goals
          go_ret
          refine ⟨ay ?_,af⟩
          go_light
          have hbad:iB (fq s pos) pos=false:=by
           by_cases hc:c<128
           ·rw[<-(H1.out hc).1]
            refine Bool.eq_false_iff.2 λh=>?_
            have h':=(bN c pos).1 h
            (try simp only[decide_eq_true_eq,decide_eq_false_iff_not,beq_iff_eq,beq_eq_false_iff_ne,ne_eq]at*) <;> omega
           ·exact j6 _ _ (h2 (by omega))
          rw[cu,HE.out,eF s pos hp hbad]
          simp
       ·go_wp2
        all_goals (try (exfalso;go_light;(try simp only[decide_eq_true_eq,decide_eq_false_iff_not,beq_iff_eq,beq_eq_false_iff_ne,ne_eq,Bool.not_eq_true',Bool.not_eq_false']at*);omega))
        all_goals
         go_ret
         refine ⟨ay ?_,af⟩
         go_light
         have hbad:iB (fq s pos) pos=false:=by
          by_cases hc:c<128
          ·rw[<-(H1.out hc).1]
           refine Bool.eq_false_iff.2 λh=>?_
           have h':=(bN c pos).1 h
           (try simp only[decide_eq_true_eq,decide_eq_false_iff_not,beq_iff_eq,beq_eq_false_iff_ne,ne_eq]at*) <;> omega
          ·exact j6 _ _ (h2 (by omega))
         rw[cu,HE.out,eF s pos hp hbad]
         simp
      ·go_wp2
       all_goals (try (exfalso;go_light;(try simp only[decide_eq_true_eq,decide_eq_false_iff_not,beq_iff_eq,beq_eq_false_iff_ne,ne_eq,Bool.not_eq_true',Bool.not_eq_false']at*);omega))
       all_goals
        go_roundw
        case rel=>
         go_light
         (try simp only[decide_eq_true_eq,decide_eq_false_iff_not,beq_iff_eq,beq_eq_false_iff_ne,ne_eq]at*)
         obtain ⟨e1,rfl⟩:=H1.out (by omega)
         refine ⟨pos+1,by omega,rfl,?_⟩
         rw[HE.out]
         exact dK s pos hp (by rw[<-e1];exact (bN c pos).2 (by omega))
        case measure=>
         go_light
         (try simp only[decide_eq_true_eq,decide_eq_false_iff_not,beq_iff_eq,beq_eq_false_iff_ne,ne_eq]at*)
         obtain ⟨e1,rfl⟩:=H1.out (by omega)
         simp
         omega
     ·go_wp2
      all_goals (try (exfalso;go_light;(try simp only[decide_eq_true_eq,decide_eq_false_iff_not,beq_iff_eq,beq_eq_false_iff_ne,ne_eq,Bool.not_eq_true',Bool.not_eq_false']at*);omega))
      all_goals
       go_ret
       refine ⟨ay ?_,af⟩
       go_light
       have hbad:iB (fq s pos) pos=false:=by
        by_cases hc:c<128
        ·rw[<-(H1.out hc).1]
         refine Bool.eq_false_iff.2 λh=>?_
         have h':=(bN c pos).1 h
         (try simp only[decide_eq_true_eq,decide_eq_false_iff_not,beq_iff_eq,beq_eq_false_iff_ne,ne_eq]at*) <;> omega
        ·exact j6 _ _ (h2 (by omega))
       rw[cu,HE.out,eF s pos hp hbad]
       simp
    ·cases hB:decide ((c:Int)<=122)
     ·cases hC:((pos:Int)==0)
      ·cases hD:((c:Int)==95)
       ·cases hE:decide ((c:Int)<48)
        ·cases hF:decide ((57:Int)<(c:Int))
         ·go_wp2
          all_goals (try (exfalso;go_light;(try simp only[decide_eq_true_eq,decide_eq_false_iff_not,beq_iff_eq,beq_eq_false_iff_ne,ne_eq,Bool.not_eq_true',Bool.not_eq_false']at*);omega))
          all_goals
           go_roundw
           case rel=>
            go_light
            (try simp only[decide_eq_true_eq,decide_eq_false_iff_not,beq_iff_eq,beq_eq_false_iff_ne,ne_eq]at*)
            obtain ⟨e1,rfl⟩:=H1.out (by omega)
            refine ⟨pos+1,by omega,rfl,?_⟩
            rw[HE.out]
            exact dK s pos hp (by rw[<-e1];exact (bN c pos).2 (by omega))
           case measure=>
            go_light
            (try simp only[decide_eq_true_eq,decide_eq_false_iff_not,beq_iff_eq,beq_eq_false_iff_ne,ne_eq]at*)
            obtain ⟨e1,rfl⟩:=H1.out (by omega)
            simp
            omega
         ·go_wp2
          all_goals (try (exfalso;go_light;(try simp only[decide_eq_true_eq,decide_eq_false_iff_not,beq_iff_eq,beq_eq_false_iff_ne,ne_eq,Bool.not_eq_true',Bool.not_eq_false']at*);omega))
          all_goals
           go_ret
           refine ⟨ay ?_,af⟩
           go_light
           have hbad:iB (fq s pos) pos=false:=by
            by_cases hc:c<128
            ·rw[<-(H1.out hc).1]
             refine Bool.eq_false_iff.2 λh=>?_
             have h':=(bN c pos).1 h
             (try simp only[decide_eq_true_eq,decide_eq_false_iff_not,beq_iff_eq,beq_eq_false_iff_ne,ne_eq]at*) <;> omega
            ·exact j6 _ _ (h2 (by omega))
           rw[cu,HE.out,eF s pos hp hbad]
           simp
        ·go_wp2
         all_goals (try (exfalso;go_light;(try simp only[decide_eq_true_eq,decide_eq_false_iff_not,beq_iff_eq,beq_eq_false_iff_ne,ne_eq,Bool.not_eq_true',Bool.not_eq_false']at*);omega))
         all_goals
          go_ret
          refine ⟨ay ?_,af⟩
          go_light
          have hbad:iB (fq s pos) pos=false:=by
           by_cases hc:c<128
           ·rw[<-(H1.out hc).1]
            refine Bool.eq_false_iff.2 λh=>?_
            have h':=(bN c pos).1 h
            (try simp only[decide_eq_true_eq,decide_eq_false_iff_not,beq_iff_eq,beq_eq_false_iff_ne,ne_eq]at*) <;> omega
           ·exact j6 _ _ (h2 (by omega))
          rw[cu,HE.out,eF s pos hp hbad]
          simp
       ·go_wp2
        all_goals (try (exfalso;go_light;(try simp only[decide_eq_true_eq,decide_eq_false_iff_not,beq_iff_eq,beq_eq_false_iff_ne,ne_eq,Bool.not_eq_true',Bool.not_eq_false']at*);omega))
        all_goals
         go_roundw
         case rel=>
          go_light
          (try simp only[decide_eq_true_eq,decide_eq_false_iff_not,beq_iff_eq,beq_eq_false_iff_ne,ne_eq]at*)
          obtain ⟨e1,rfl⟩:=H1.out (by omega)
          refine ⟨pos+1,by omega,rfl,?_⟩
          rw[HE.out]
          exact dK s pos hp (by rw[<-e1];exact (bN c pos).2 (by omega))
         case measure=>
          go_light
          (try simp only[decide_eq_true_eq,decide_eq_false_iff_not,beq_iff_eq,beq_eq_false_iff_ne,ne_eq]at*)
          obtain ⟨e1,rfl⟩:=H1.out (by omega)
          simp
          omega
      ·go_wp2
       all_goals (try (exfalso;go_light;(try simp only[decide_eq_true_eq,decide_eq_false_iff_not,beq_iff_eq,beq_eq_false_iff_ne,ne_eq,Bool.not_eq_true',Bool.not_eq_false']at*);omega))
       all_goals
        go_ret
        refine ⟨ay ?_,af⟩
        go_light
        have hbad:iB (fq s pos) pos=false:=by
         by_cases hc:c<128
         ·rw[<-(H1.out hc).1]
          refine Bool.eq_false_iff.2 λh=>?_
          have h':=(bN c pos).1 h
          (try simp only[decide_eq_true_eq,decide_eq_false_iff_not,beq_iff_eq,beq_eq_false_iff_ne,ne_eq]at*) <;> omega
         ·exact j6 _ _ (h2 (by omega))
        rw[cu,HE.out,eF s pos hp hbad]
        simp
     ·go_wp2
      all_goals (try (exfalso;go_light;(try simp only[decide_eq_true_eq,decide_eq_false_iff_not,beq_iff_eq,beq_eq_false_iff_ne,ne_eq,Bool.not_eq_true',Bool.not_eq_false']at*);omega))
      all_goals
       go_roundw
       case rel=>
        go_light
        (try simp only[decide_eq_true_eq,decide_eq_false_iff_not,beq_iff_eq,beq_eq_false_iff_ne,ne_eq]at*)
        obtain ⟨e1,rfl⟩:=H1.out (by omega)
        refine ⟨pos+1,by omega,rfl,?_⟩
        rw[HE.out]
        exact dK s pos hp (by rw[<-e1];exact (bN c pos).2 (by omega))
       case measure=>
        go_light
        (try simp only[decide_eq_true_eq,decide_eq_false_iff_not,beq_iff_eq,beq_eq_false_iff_ne,ne_eq]at*)
        obtain ⟨e1,rfl⟩:=H1.out (by omega)
        simp
        omega
   ·have hnx: ∀ty,(Instr.next (.pointer (some ⟨w.heap.size,0,none⟩)) true ty).run Tryz.prog (w.iter s pos)=_:=λty=>run_next_end w s pos ty hp
    go_wp2
    go_ret
    refine ⟨ay ?_,af⟩
    go_light
    have:pos=s.size:=by omega
    subst this
    rw[cu,HE.out,Nat.sub_self,gB]
    rw[Da]
    simp[hl]
 ·go_wp2
  go_ret
  exact ⟨ay (by simp[cu,hl]),Below.refl _ _⟩
theorem iR (s:ByteArray)(hs:Str s)(w:World):
  Calls Tryz.prog 152 #[.string s] w λe w'=>e=.returned (.bool (cu s))/\w=w':=by
 unfold Str at hs
 go_enter Tryz.func152,Tryz.ntmps152
 obtain hl|hl|hl:s.size<1\/24<s.size\/(1<=s.size/\s.size<=24):=by omega
 ·go_wp2
  all_goals (try (exfalso;go_light;(try simp only[decide_eq_true_eq,decide_eq_false_iff_not,beq_iff_eq,beq_eq_false_iff_ne,ne_eq,Bool.not_eq_true',Bool.not_eq_false']at*);omega))
  all_goals
   go_ret
   refine ⟨ay ?_,rfl⟩
   go_light
   have h0:¬0<s.size:=by omega
   simp[cu,h0]
 ·go_wp2
  all_goals (try (exfalso;go_light;(try simp only[decide_eq_true_eq,decide_eq_false_iff_not,beq_iff_eq,beq_eq_false_iff_ne,ne_eq,Bool.not_eq_true',Bool.not_eq_false']at*);omega))
  all_goals
   go_ret
   refine ⟨ay ?_,rfl⟩
   go_light
   have h0:¬s.size<=24:=by omega
   simp[cu,h0]
 ·obtain ⟨hl1,hl2⟩:=hl
  have hz:0<s.size:=by omega
  obtain ⟨d,hd⟩: ∃d,(s[0]'hz).toNat=d:=⟨_,rfl⟩
  have HD:Hid (d=fq s 0):=hide (by rw[oh s 0 hz,hd])
  have early:(d<97\/122<d)->cu s=false:=λh=>by
   have hbad:iB (fq s 0) 0=false:=by
    rw[<-HD.out]
    refine Bool.eq_false_iff.2 λh'=>?_
    have:=(bN d 0).1 h'
    omega
   have:=eF s 0 hz hbad
   rw[Nat.sub_zero]at this
   rw[cu,this]
   simp
  cases VJ:decide ((d:Int)<97)
  ·cases hB0:decide ((122:Int)<(d:Int))
   ·go_wp2
    go_loop [3] (λi=> ∃pos:Nat,pos<=s.size/\i=.int .i64 pos/\gB s s.size 0=gB s (s.size-pos) pos) (λi=>s.size-(intOf i).toNat)
    case atStart=>exact ⟨0,by omega,rfl,rfl⟩
    case round=>
     obtain ⟨pos,hpos,rfl,heq⟩:=hrel
     have HE:=hide heq
     clear heq
     by_cases hp:pos<s.size
     ·obtain ⟨c,hc⟩: ∃c,(s[pos]'hp).toNat=c:=⟨_,rfl⟩
      have HC:Hid (c=fq s pos):=hide (by rw[oh s pos hp,hc])
      have h0:pos=0->c=d:=by intro h;subst h;rw[HC.out,HD.out]
      cases hA:decide ((97:Int)<=(c:Int))
      ·cases hE:decide ((48:Int)<=(c:Int))
       ·cases hD:((c:Int)==95)
        ·go_wp2
         all_goals (try (exfalso;go_light;(try simp only[decide_eq_true_eq,decide_eq_false_iff_not,beq_iff_eq,beq_eq_false_iff_ne,ne_eq,Bool.not_eq_true',Bool.not_eq_false']at*);omega))
         all_goals
          go_ret
          refine ⟨ay ?_,rfl⟩
          go_light
          have hbad:iB (fq s pos) pos=false:=by
           rw[<-HC.out]
           refine Bool.eq_false_iff.2 λh=>?_
           have h':=(bN c pos).1 h
           (try simp only[decide_eq_true_eq,decide_eq_false_iff_not,beq_iff_eq,beq_eq_false_iff_ne,ne_eq]at*) <;> omega
          rw[cu,HE.out,eF s pos hp hbad]
          simp
        ·go_wp2
         all_goals (try (exfalso;go_light;(try simp only[decide_eq_true_eq,decide_eq_false_iff_not,beq_iff_eq,beq_eq_false_iff_ne,ne_eq,Bool.not_eq_true',Bool.not_eq_false']at*);omega))
         all_goals
          go_round
          case rel=>
           go_light
           (try simp only[decide_eq_true_eq,decide_eq_false_iff_not,beq_iff_eq,beq_eq_false_iff_ne,ne_eq]at*)
           refine ⟨pos+1,by omega,by go_num,?_⟩
           rw[HE.out]
           exact dK s pos hp (by rw[<-HC.out];exact (bN c pos).2 (by omega))
          case measure=>simp[intOf];omega
       ·cases hF:decide ((c:Int)<=57)
        ·cases hD:((c:Int)==95)
         ·go_wp2
          all_goals (try (exfalso;go_light;(try simp only[decide_eq_true_eq,decide_eq_false_iff_not,beq_iff_eq,beq_eq_false_iff_ne,ne_eq,Bool.not_eq_true',Bool.not_eq_false']at*);omega))
          all_goals
           go_ret
           refine ⟨ay ?_,rfl⟩
           go_light
           have hbad:iB (fq s pos) pos=false:=by
            rw[<-HC.out]
            refine Bool.eq_false_iff.2 λh=>?_
            have h':=(bN c pos).1 h
            (try simp only[decide_eq_true_eq,decide_eq_false_iff_not,beq_iff_eq,beq_eq_false_iff_ne,ne_eq]at*) <;> omega
           rw[cu,HE.out,eF s pos hp hbad]
           simp
         ·go_wp2
          all_goals (try (exfalso;go_light;(try simp only[decide_eq_true_eq,decide_eq_false_iff_not,beq_iff_eq,beq_eq_false_iff_ne,ne_eq,Bool.not_eq_true',Bool.not_eq_false']at*);omega))
          all_goals
           go_round
           case rel=>
            go_light
            (try simp only[decide_eq_true_eq,decide_eq_false_iff_not,beq_iff_eq,beq_eq_false_iff_ne,ne_eq]at*)
            refine ⟨pos+1,by omega,by go_num,?_⟩
            rw[HE.out]
            exact dK s pos hp (by rw[<-HC.out];exact (bN c pos).2 (by omega))
           case measure=>simp[intOf];omega
        ·go_wp2
         all_goals (try (exfalso;go_light;(try simp only[decide_eq_true_eq,decide_eq_false_iff_not,beq_iff_eq,beq_eq_false_iff_ne,ne_eq,Bool.not_eq_true',Bool.not_eq_false']at*);omega))
         all_goals
          go_round
          case rel=>
           go_light
           (try simp only[decide_eq_true_eq,decide_eq_false_iff_not,beq_iff_eq,beq_eq_false_iff_ne,ne_eq]at*)
           refine ⟨pos+1,by omega,by go_num,?_⟩
           rw[HE.out]
           exact dK s pos hp (by rw[<-HC.out];exact (bN c pos).2 (by omega))
          case measure=>simp[intOf];omega
      ·cases hB:decide ((c:Int)<=122)
       ·cases hE:decide ((48:Int)<=(c:Int))
        ·cases hD:((c:Int)==95)
         ·go_wp2
          all_goals (try (exfalso;go_light;(try simp only[decide_eq_true_eq,decide_eq_false_iff_not,beq_iff_eq,beq_eq_false_iff_ne,ne_eq,Bool.not_eq_true',Bool.not_eq_false']at*);omega))
          all_goals
           go_ret
           refine ⟨ay ?_,rfl⟩
           go_light
           have hbad:iB (fq s pos) pos=false:=by
            rw[<-HC.out]
            refine Bool.eq_false_iff.2 λh=>?_
            have h':=(bN c pos).1 h
            (try simp only[decide_eq_true_eq,decide_eq_false_iff_not,beq_iff_eq,beq_eq_false_iff_ne,ne_eq]at*) <;> omega
           rw[cu,HE.out,eF s pos hp hbad]
           simp
         ·go_wp2
          all_goals (try (exfalso;go_light;(try simp only[decide_eq_true_eq,decide_eq_false_iff_not,beq_iff_eq,beq_eq_false_iff_ne,ne_eq,Bool.not_eq_true',Bool.not_eq_false']at*);omega))
          all_goals
           go_round
           case rel=>
            go_light
            (try simp only[decide_eq_true_eq,decide_eq_false_iff_not,beq_iff_eq,beq_eq_false_iff_ne,ne_eq]at*)
            refine ⟨pos+1,by omega,by go_num,?_⟩
            rw[HE.out]
            exact dK s pos hp (by rw[<-HC.out];exact (bN c pos).2 (by omega))
           case measure=>simp[intOf];omega
        ·cases hF:decide ((c:Int)<=57)
         ·cases hD:((c:Int)==95)
          ·go_wp2
           all_goals (try (exfalso;go_light;(try simp only[decide_eq_true_eq,decide_eq_false_iff_not,beq_iff_eq,beq_eq_false_iff_ne,ne_eq,Bool.not_eq_true',Bool.not_eq_false']at*);omega))
           all_goals
            go_ret
            refine ⟨ay ?_,rfl⟩
            go_light
            have hbad:iB (fq s pos) pos=false:=by
             rw[<-HC.out]
             refine Bool.eq_false_iff.2 λh=>?_
             have h':=(bN c pos).1 h
             (try simp only[decide_eq_true_eq,decide_eq_false_iff_not,beq_iff_eq,beq_eq_false_iff_ne,ne_eq]at*) <;> omega
            rw[cu,HE.out,eF s pos hp hbad]
            simp
          ·go_wp2
           all_goals (try (exfalso;go_light;(try simp only[decide_eq_true_eq,decide_eq_false_iff_not,beq_iff_eq,beq_eq_false_iff_ne,ne_eq,Bool.not_eq_true',Bool.not_eq_false']at*);omega))
           all_goals
            go_round
            case rel=>
             go_light
             (try simp only[decide_eq_true_eq,decide_eq_false_iff_not,beq_iff_eq,beq_eq_false_iff_ne,ne_eq]at*)
             refine ⟨pos+1,by omega,by go_num,?_⟩
             rw[HE.out]
             exact dK s pos hp (by rw[<-HC.out];exact (bN c pos).2 (by omega))
            case measure=>simp[intOf];omega
         ·go_wp2
          all_goals (try (exfalso;go_light;(try simp only[decide_eq_true_eq,decide_eq_false_iff_not,beq_iff_eq,beq_eq_false_iff_ne,ne_eq,Bool.not_eq_true',Bool.not_eq_false']at*);omega))
          all_goals
           go_round
           case rel=>
            go_light
            (try simp only[decide_eq_true_eq,decide_eq_false_iff_not,beq_iff_eq,beq_eq_false_iff_ne,ne_eq]at*)
            refine ⟨pos+1,by omega,by go_num,?_⟩
            rw[HE.out]
            exact dK s pos hp (by rw[<-HC.out];exact (bN c pos).2 (by omega))
           case measure=>simp[intOf];omega
       ·go_wp2
        all_goals (try (exfalso;go_light;(try simp only[decide_eq_true_eq,decide_eq_false_iff_not,beq_iff_eq,beq_eq_false_iff_ne,ne_eq,Bool.not_eq_true',Bool.not_eq_false']at*);omega))
        all_goals
         go_round
         case rel=>
          go_light
          (try simp only[decide_eq_true_eq,decide_eq_false_iff_not,beq_iff_eq,beq_eq_false_iff_ne,ne_eq]at*)
          refine ⟨pos+1,by omega,by go_num,?_⟩
          rw[HE.out]
          exact dK s pos hp (by rw[<-HC.out];exact (bN c pos).2 (by omega))
         case measure=>simp[intOf];omega
     ·go_wp2
      go_ret
      refine ⟨ay ?_,rfl⟩
      go_light
      have:pos=s.size:=by omega
      subst this
      rw[cu,HE.out,Nat.sub_self,gB]
      simp[hl2,hz]
   ·have he:=early (.inr (by simp only[decide_eq_true_eq]at hB0;omega))
    go_wp2
    all_goals (go_ret;exact ⟨ay he.symm,rfl⟩)
  ·have he:=early (.inl (by simp only[decide_eq_true_eq]at VJ;omega))
   go_wp2
   all_goals (go_ret;exact ⟨ay he.symm,rfl⟩)
theorem Jp (c:Col)(name:ByteArray)(g:Nat)(w:World)(hg:w.cell? ⟨g,0,none⟩=some (.string name))(hlt:g<w.heap.size):
  Calls Tryz.prog 148 #[.agg c.cells.toArray,.pointer (some ⟨g,0,none⟩)] w λe w'=>e=.returned (.bool (c.name.toList==name.toList))/\Below w.heap.size w w':=by
 simp only[Col.cells]
 go_enter Tryz.func148,Tryz.ntmps148
 go_wp2
 go_ret
 exact ⟨rfl,af⟩
theorem Ay (w:World)(A:Option Addr)(n c:Nat)(xs:List Col)(hx:In w A n c xs)(name:ByteArray)(g:Nat)(hg:w.cell? ⟨g,0,none⟩=some (.string name))(hlt:g<w.heap.size):
  Calls Tryz.prog 147 #[.slice A n c,.func (.func 148) #[] #[.pointer (some ⟨g,0,none⟩)]] w
   λe w'=>e=.returned (.int .i64 (index xs name))/\Below w.heap.size w w':=by
 have h63:=hx.le
 go_enter Tryz.func147,Tryz.ntmps147
 go_wp2
 go_loopw [8] (λi wr=> ∃k:Nat,k<=n/\i=.int .i64 k/\index xs name=aU name k (xs.drop k)/\Below w.heap.size w wr) (λi _=>n-(intOf i).toNat)
 case atStart=>exact ⟨0,Nat.zero_le _,rfl,rfl,Below.refl _ _⟩
 case round=>
  obtain ⟨k,hk,rfl,heq,hb⟩:=hrel
  have HE:=hide heq
  clear heq
  by_cases hlt':k<n
  ·obtain ⟨b,off,x,rfl,hB,HX,e0,e1,e2,e3⟩:=(hx.below hb).col hlt'
   go_wp2_with fail
   refine (Jp x name g _ (ah hb hlt hg) (Nat.lt_of_lt_of_le hlt hb.size)).mono ?_
   rintro e w1 ⟨rfl,hb1⟩
   have hbb:=aa hb hb1
   clear hb1 e0 e1 e2
   cases hz:(x.name.toList==name.toList)
   ·go_wp2
    go_roundw
    case rel=>exact ⟨k+1,by omega,by go_num,by rw[HE.out,HX.out,aU,if_neg (by simp[hz])],hbb⟩
    case measure=>simp[intOf];omega
   ·go_wp2
    go_ret
    exact ⟨ak (by rw[HE.out,HX.out,aU,if_pos hz]),hbb⟩
  ·go_wp2
   go_ret
   exact ⟨ak (by rw[HE.out,aP hx.len (by omega),aU]),hb⟩
theorem sj (w:World)(A:Option Addr)(n c:Nat)(xs:List Col)(hx:In w A n c xs)(name:ByteArray):
  Calls Tryz.prog 106 #[.slice A n c,.string name] w λe w'=>e=.returned (.int .i64 (index xs name))/\Below w.heap.size w w':=by
 go_enter Tryz.func106,Tryz.ntmps106
 go_wp2_with fail
 refine (Ay _ _ _ _ xs (hx.below af) name w.heap.size (by simp[go_sem]) (by simp)).mono ?_
 rintro e w1 ⟨rfl,hb1⟩
 have hbb:=aa af hb1
 go_wp2
 go_ret
 exact ⟨rfl,hbb⟩
theorem oF (w:World)(A:Option Addr)(n c:Nat)(xs:List Col)(hx:In w A n c xs)(name:ByteArray):
  Calls Tryz.prog 153 #[.slice A n c,.string name] w λe w'=>e=.returned (.int .i64 (index xs name))/\w=w':=by
 have h63:=hx.le
 go_enter Tryz.func153,Tryz.ntmps153
 go_wp2
 go_loop [5] (λi=> ∃k:Nat,k<=n/\i=.int .i64 k/\index xs name=aU name k (xs.drop k)) (λi=>n-(intOf i).toNat)
 case atStart=>exact ⟨0,Nat.zero_le _,rfl,rfl⟩
 case round=>
  obtain ⟨k,hk,rfl,heq⟩:=hrel
  have HE:=hide heq
  clear heq
  by_cases hlt':k<n
  ·obtain ⟨b,off,x,rfl,hB,HX,e0,e1,e2,e3⟩:=hx.col hlt'
   cases hz:(x.name.toList==name.toList)
   ·go_wp2
    go_round
    case rel=>exact ⟨k+1,by omega,by go_num,by rw[HE.out,HX.out,aU,if_neg (by simp[hz])]⟩
    case measure=>simp[intOf];omega
   ·go_wp2
    go_ret
    exact ⟨ak (by rw[HE.out,HX.out,aU,if_pos hz]),rfl⟩
  ·go_wp2
   go_ret
   exact ⟨ak (by rw[HE.out,aP hx.len (by omega),aU]),rfl⟩
theorem bJ {α:Type}{f:Nat->α->Int}{k:Nat}{x:α}{l:List α}(h:f k x=0):aj f k (x :: l)=aj f (k+1) l:=by simp[aj,h]
theorem aT {α:Type}{f:Nat->α->Int}{k:Nat}{x:α}{l:List α}{e:Int}(h:f k x=e)(he:e≠0):aj f k (x :: l)=e:=by simp[aj,h,he]
theorem CL (name:ByteArray)(l:List Col): ∀k i,(h:i<l.length)->(l[i].name.toList==name.toList)=true->0<=aU name k l/\aU name k l<=k+i:=by
 induction l with
 |nil=>intro k i h;simp at h
 |cons c l ih=>
  intro k i h he
  rw[aU]
  split
  ·exact ⟨by omega,by omega⟩
  ·rename_i hc
   cases i with
   |zero=>exact absurd he hc
   |succ i=>
    have:=ih (k+1) i (by simpa using h) (by simpa using he)
    omega
theorem oo (w:World)(A:Option Addr)(n c:Nat)(xs:List Col)(hx:In w A n c xs):
  Calls Tryz.prog 132 #[.slice A n c] w λe w'=>e=.returned (.int .i64 (aD xs))/\Below w.heap.size w w':=by
 have h63:=hx.le
 have hlen:=hide hx.len
 go_enter Tryz.func132,Tryz.ntmps132
 by_cases hs:n<1\/12<n
 ·have he:Hid (2=aD xs):=hide (by rw[aD,hlen.out,if_pos hs])
  rcases hs with hs|hs
  all_goals
   go_wp2
   go_ret
   exact ⟨ak he.out,Below.refl _ _⟩
 have jR:Hid (aD xs=aj (ib xs) 0 xs):=hide (by rw[aD,hlen.out,if_neg hs])
 have hs1:1<=n:=by omega
 have hs2:n<=12:=by omega
 clear hs
 go_wp2
 go_loopw [15] (λi wr=> ∃k:Nat,k<=n/\i=.int .i64 k/\aj (ib xs) 0 xs=aj (ib xs) k (xs.drop k)/\Below w.heap.size w wr) (λi _=>n-(intOf i).toNat)
 case atStart=>exact ⟨0,Nat.zero_le _,rfl,rfl,Below.refl _ _⟩
 case round=>
  obtain ⟨k,hk,rfl,heq,hb⟩:=hrel
  have HE:=hide heq
  clear heq
  by_cases hlt:k<n
  ·obtain ⟨b,off,x,rfl,hB,HX,e0,e1,e2,e3⟩:=(hx.below hb).col hlt
   go_wp2_with fail
   refine (mP x.name e3.1 _).mono ?_
   rintro e w1 ⟨rfl,hb1⟩
   have hbb:=aa (aa hb af) hb1
   obtain ⟨hc1,hf1⟩:=ai hb1
   have hin:=hx.below hbb
   clear hb1 e0 e1 e2
   obtain ⟨hk1,hk2⟩:=e3.2
   cases hnm:cu x.name
   ·go_wp2
    go_ret
    exact ⟨ak (by rw[jR.out,HE.out,HX.out];exact (aT (by simp[ib,hnm]) (by omega)).symm),hbb⟩
   ·by_cases hkd:x.kind<1\/4<x.kind
    ·have he:ib xs k x=7:=by rw[ib,if_neg (by simp[hnm]),if_pos hkd]
     have HR:Hid (7=aD xs):=hide (by rw[jR.out,HE.out,HX.out];exact (aT he (by omega)).symm)
     clear he
     rcases hkd with hkd|hkd
     all_goals
      go_wp2
      go_ret
      exact ⟨ak HR.out,hbb⟩
    ·have hk3:1<=x.kind:=by omega
     have hk4:x.kind<=4:=by omega
     have HC:Hid (ib xs k x=if index xs x.name<k then 6 else 0):=hide (by rw[ib,if_neg (by simp[hnm]),if_neg hkd])
     clear hkd
     go_wp2_with fail
     refine (sj _ _ _ _ xs hin x.name).mono ?_
     rintro e w2 ⟨rfl,hb2⟩
     have Em:=aa hbb hb2
     clear hb2 hc1 hf1
     by_cases hi:index xs x.name<k
     ·have HR:Hid (6=aD xs):=hide (by rw[jR.out,HE.out,HX.out];exact (aT (by rw[HC.out,if_pos hi]) (by omega)).symm)
      go_wp2
      go_ret
      exact ⟨ak HR.out,Em⟩
     ·go_wp2
      go_roundw
      case rel=>exact ⟨k+1,by omega,by go_num,by rw[HE.out,HX.out];exact bJ (by rw[HC.out,if_neg (by omega)]),Em⟩
      case measure=>simp[intOf];omega
  ·go_wp2
   go_ret
   exact ⟨ak (by rw[jR.out,HE.out,aP hx.len (by omega),aj]),hb⟩
theorem index_self {xs:List Col}{k:Nat}{x:Col}{l:List Col}(h:xs.drop k=x :: l):0<=index xs x.name/\index xs x.name<=k:=by
 obtain ⟨h1,h2⟩:=dS h
 rw[List.getElem?_eq_getElem h2]at h1
 injection h1 with h1
 have:=CL x.name xs 0 k h2 (by rw[h1];simp)
 rw[index]
 omega
theorem jJ (w:World)(A:Option Addr)(n c:Nat)(xs:List Col)(hx:In w A n c xs):
  Calls Tryz.prog 118 #[.slice A n c] w λe w'=>e=.returned (.int .i64 (aD xs))/\w=w':=by
 have h63:=hx.le
 have hlen:=hide hx.len
 go_enter Tryz.func118,Tryz.ntmps118
 by_cases hs:n<1\/12<n
 ·have he:Hid (2=aD xs):=hide (by rw[aD,hlen.out,if_pos hs])
  rcases hs with hs|hs
  all_goals
   go_wp2
   go_ret
   exact ⟨ak he.out,rfl⟩
 have jR:Hid (aD xs=aj (ib xs) 0 xs):=hide (by rw[aD,hlen.out,if_neg hs])
 have hs1:1<=n:=by omega
 have hs2:n<=12:=by omega
 clear hs
 go_wp2
 go_loop [3] (λi=> ∃k:Nat,k<=n/\i=.int .i64 k/\aj (ib xs) 0 xs=aj (ib xs) k (xs.drop k)) (λi=>n-(intOf i).toNat)
 case atStart=>exact ⟨0,Nat.zero_le _,rfl,rfl⟩
 case round=>
  obtain ⟨k,hk,rfl,heq⟩:=hrel
  have HE:=hide heq
  clear heq
  by_cases hlt:k<n
  ·obtain ⟨b,off,x,rfl,hB,HX,e0,e1,e2,e3⟩:=hx.col hlt
   obtain ⟨hk1,hk2⟩:=e3.2
   cases hnm:cu x.name
   ·go_wp2_with (go_at_call 152;refine (iR x.name e3.1 _).mono ?_;rintro e w' ⟨rfl,rfl⟩)
    go_ret
    exact ⟨ak (by rw[jR.out,HE.out,HX.out];exact (aT (by simp[ib,hnm]) (by omega)).symm),rfl⟩
   ·by_cases hkd:x.kind<1\/4<x.kind
    ·have he:ib xs k x=7:=by rw[ib,if_neg (by simp[hnm]),if_pos hkd]
     have HR:Hid (7=aD xs):=hide (by rw[jR.out,HE.out,HX.out];exact (aT he (by omega)).symm)
     clear he
     rcases hkd with hkd|hkd
     all_goals
      go_wp2_with (go_at_call 152;refine (iR x.name e3.1 _).mono ?_;rintro e w' ⟨rfl,rfl⟩)
      go_ret
      exact ⟨ak HR.out,rfl⟩
    ·have hk3:1<=x.kind:=by omega
     have hk4:x.kind<=4:=by omega
     have HC:Hid (ib xs k x=if index xs x.name<k then 6 else 0):=hide (by rw[ib,if_neg (by simp[hnm]),if_neg hkd])
     clear hkd
     obtain ⟨i1,i2⟩:=index_self HX.out
     by_cases hi:index xs x.name=k
     ·have HR:Hid (ib xs k x=0):=hide (by rw[HC.out,if_neg (by omega)])
      have hz:(index xs x.name==(k:Int))=true:=by simp[hi]
      have HI:=hide hi
      clear hi
      go_wp2_with (first|(go_at_call 152;refine (iR x.name e3.1 _).mono ?_;rintro e w' ⟨rfl,rfl⟩)|(go_at_call 153;refine (oF _ _ _ _ xs hx x.name).mono ?_;rintro e w' ⟨rfl,rfl⟩))
      all_goals (try (exfalso;go_light;simp_all;done))
      go_round
      case rel=>exact ⟨k+1,by omega,by go_num,by rw[HE.out,HX.out];exact bJ HR.out⟩
      case measure=>simp[intOf];omega
     ·have HR:Hid (6=aD xs):=hide (by rw[jR.out,HE.out,HX.out];exact (aT (by rw[HC.out,if_pos (by omega)]) (by omega)).symm)
      have hz:(index xs x.name==(k:Int))=false:=by simp[hi]
      go_wp2_with (first|(go_at_call 152;refine (iR x.name e3.1 _).mono ?_;rintro e w' ⟨rfl,rfl⟩)|(go_at_call 153;refine (oF _ _ _ _ xs hx x.name).mono ?_;rintro e w' ⟨rfl,rfl⟩))
      all_goals (try (exfalso;go_light;simp_all;done))
      go_ret
      exact ⟨ak HR.out,rfl⟩
  ·go_wp2
   go_ret
   exact ⟨ak (by rw[jR.out,HE.out,aP hx.len (by omega),aj]),rfl⟩
theorem wF (v:Val)(hv:v.ok)(w:World):
  Calls Tryz.prog 114 #[.agg v.cells.toArray] w λe w'=>e=.returned (.bool (valid v))/\Below w.heap.size w w':=by
 obtain ⟨k,n,s⟩:=v
 simp only[Val.cells,Val.ok,Str,ig]at*
 obtain ⟨⟨h1,h2⟩,⟨h3,h4⟩,h5⟩:=hv
 go_enter Tryz.func114,Tryz.ntmps114
 go_wp2
 all_goals
  go_ret
  refine ⟨ay ?_,af⟩
  go_light
  simp only[beq_iff_eq,beq_eq_false_iff_ne,ne_eq]at*
  try subst k
  simp_all[valid,fJ]
 all_goals (try omega)
 all_goals (try (repeat' split <;> omega))
theorem rF (a b:Int)(w:World):Calls Tryz.prog 117 #[.int .i64 a,.int .i64 b] w λe w'=>e=.returned (.int .i64 (iO a b))/\w=w':=by
 go_enter Tryz.func117,Tryz.ntmps117
 go_wp2
 all_goals (go_ret;refine ⟨ak ?_,rfl⟩;go_light;simp only[iO];(repeat' split) <;> omega)
theorem dG (a b:Val)(w:World):
  Calls Tryz.prog 116 #[.agg a.cells.toArray,.agg b.cells.toArray] w λe w'=>e=.returned (.int .i64 (bf a b))/\Below w.heap.size w w':=by
 obtain ⟨k,n,s⟩:=a
 obtain ⟨k',n',s'⟩:=b
 simp only[Val.cells]
 go_enter Tryz.func116,Tryz.ntmps116
 go_wp2_with (go_at_call 117;refine (rF _ _ _).mono ?_;rintro e w' ⟨rfl,rfl⟩)
 all_goals
  go_ret
  refine ⟨ak ?_,below_alloc2⟩
  go_light
  (try simp only[bne_iff_ne,ne_eq]at*)
  (first|(simp_all[bf];done)|(simp_all[bf,iq];done))
theorem oM (v:Val)(hv:v.ok)(w:World):
  Calls Tryz.prog 127 #[.agg v.cells.toArray] w λe w'=>e=.returned (.bool (valid v))/\Below w.heap.size w w':=by
 obtain ⟨k,n,s⟩:=v
 simp only[Val.cells,Val.ok,Str,ig]at*
 obtain ⟨⟨h1,h2⟩,⟨h3,h4⟩,h5⟩:=hv
 go_enter Tryz.func127,Tryz.ntmps127
 go_wp2
 all_goals
  go_ret
  refine ⟨ay ?_,af⟩
  go_light
  simp only[beq_iff_eq,beq_eq_false_iff_ne,ne_eq]at*
  try subst k
  simp_all[valid,fJ]
 all_goals (try omega)
 all_goals (try (repeat' split <;> omega))
theorem Jq (a:Int)(w:World):Calls Tryz.prog 190 #[.int .i64 a] w λe w'=>e=.returned (.bool false)/\w=w':=by
 go_enter Tryz.func190,Tryz.ntmps190
 go_wp2
 all_goals (go_ret;exact ⟨by simp,rfl⟩)
theorem Jr (a:ByteArray)(w:World):Calls Tryz.prog 191 #[.string a] w λe w'=>e=.returned (.bool false)/\w=w':=by
 go_enter Tryz.func191,Tryz.ntmps191
 go_wp2
 all_goals (go_ret;exact ⟨by simp,rfl⟩)
theorem Ob (a b:Int)(w:World):Calls Tryz.prog 161 #[.int .i64 a,.int .i64 b] w λe w'=>e=.returned (.int .i64 (iO a b))/\w=w':=by
 go_enter Tryz.func161,Tryz.ntmps161
 go_wp2_with (go_at_call 190;refine (Jq _ _).mono ?_;rintro e w' ⟨rfl,rfl⟩)
 all_goals (go_ret;refine ⟨ak ?_,rfl⟩;go_light;simp only[iO];(repeat' split) <;> omega)
theorem Oc (a b:ByteArray)(w:World):Calls Tryz.prog 162 #[.string a,.string b] w λe w'=>e=.returned (.int .i64 (iq a b))/\w=w':=by
 go_enter Tryz.func162,Tryz.ntmps162
 go_wp2_with (go_at_call 191;refine (Jr _ _).mono ?_;rintro e w' ⟨rfl,rfl⟩)
 all_goals (go_ret;refine ⟨ak ?_,rfl⟩;go_light;simp only[iq];simp_all)
def UQ (a b c:Int):Int:=if a≠0 then a else if b≠0 then b else c
theorem MM (a b c:Int)(w:World)(g:Nat)(h0:w.cell? ⟨g,0,none⟩=some (.int .i64 a))(h1:w.cell? ⟨g,1,none⟩=some (.int .i64 b))(h2:w.cell? ⟨g,2,none⟩=some (.int .i64 c)):
  Calls Tryz.prog 160 #[.slice (some ⟨g,0,none⟩) 3 3] w λe w'=>e=.returned (.int .i64 (UQ a b c))/\w=w':=by
 go_enter Tryz.func160,Tryz.ntmps160
 go_wp2
 go_loop [5,8] (λ_ i=> ∃k:Nat,k<=3/\i=.int .i64 k/\(1<=k->a=0)/\(2<=k->b=0)/\(3<=k->c=0)) (λ_ i=>3-(intOf i).toNat)
 case atStart=>exact ⟨0,by omega,rfl,by omega,by omega,by omega⟩
 case round=>
  obtain ⟨k,hk,rfl,ha,hb,hc⟩:=hrel
  obtain rfl|rfl|rfl|rfl:k=0\/k=1\/k=2\/k=3:=by omega
  ·clear ha hb hc
   go_wp2
   ·go_ret
    exact ⟨ak (by go_light;simp_all[UQ]),rfl⟩
   ·go_round
    case rel=>exact ⟨1,by omega,by go_num,(by intro _;go_light;simp_all),by omega,by omega⟩
    case measure=>simp[intOf]
  ·have ha:=ha (by omega)
   subst ha
   clear hb hc
   go_wp2
   ·go_ret
    exact ⟨ak (by go_light;simp_all[UQ]),rfl⟩
   ·go_round
    case rel=>exact ⟨2,by omega,by go_num,(by first|trivial|(intro _;rfl)),(by intro _;go_light;simp_all),by omega⟩
    case measure=>simp[intOf]
  ·have ha:=ha (by omega)
   have hb:=hb (by omega)
   subst ha hb
   clear hc
   go_wp2
   ·go_ret
    exact ⟨ak (by go_light;simp_all[UQ]),rfl⟩
   ·go_round
    case rel=>exact ⟨3,by omega,by go_num,(by first|trivial|(intro _;rfl)),(by first|trivial|(intro _;rfl)),(by intro _;go_light;simp_all)⟩
    case measure=>simp[intOf]
  ·have ha:=ha (by omega)
   have hb:=hb (by omega)
   have hc:=hc (by omega)
   subst ha hb hc
   go_wp2
   go_ret
   exact ⟨ak (by simp[UQ]),rfl⟩
theorem Ck (a b:Val)(w:World):
  Calls Tryz.prog 125 #[.agg a.cells.toArray,.agg b.cells.toArray] w λe w'=>e=.returned (.int .i64 (bf a b))/\Below w.heap.size w w':=by
 obtain ⟨k,n,s⟩:=a
 obtain ⟨k',n',s'⟩:=b
 simp only[Val.cells]
 go_enter Tryz.func125,Tryz.ntmps125
 go_wp2_with fail
 generalize hW:((w.alloc _).alloc _)=W
 have c0:W.cell? ⟨w.heap.size,0,none⟩=some (.int .i64 k):=by subst hW;simp[World.cell?_alloc_lt,go_sem]
 have c1:W.cell? ⟨w.heap.size,1,none⟩=some (.int .i64 n):=by subst hW;simp[World.cell?_alloc_lt,go_sem]
 have c2:W.cell? ⟨w.heap.size,2,none⟩=some (.string s):=by subst hW;simp[World.cell?_alloc_lt,go_sem]
 have d0:W.cell? ⟨w.heap.size+1,0,none⟩=some (.int .i64 k'):=by subst hW;simp[go_sem]
 have d1:W.cell? ⟨w.heap.size+1,1,none⟩=some (.int .i64 n'):=by subst hW;simp[go_sem]
 have d2:W.cell? ⟨w.heap.size+1,2,none⟩=some (.string s'):=by subst hW;simp[go_sem]
 have hb:Below w.heap.size w W:=by subst hW;exact below_alloc2
 clear hW
 go_region_held3 (λw'=>w'.cell? ⟨w.heap.size,0,none⟩=some (.int .i64 k)/\w'.cell? ⟨w.heap.size,1,none⟩=some (.int .i64 n)/\w'.cell? ⟨w.heap.size,2,none⟩=some (.string s)
   /\w'.cell? ⟨w.heap.size+1,0,none⟩=some (.int .i64 k')/\w'.cell? ⟨w.heap.size+1,1,none⟩=some (.int .i64 n')/\w'.cell? ⟨w.heap.size+1,2,none⟩=some (.string s')) (go_keep)
  (first|(go_at_call 161;refine (Ob _ _ _).mono ?_;rintro e w' ⟨rfl,rfl⟩)|(go_at_call 162;refine (Oc _ _ _).mono ?_;rintro e w' ⟨rfl,rfl⟩)|(go_at_call 160;refine (MM (iO k k') (iO n n') (iq s s') _ _ ?_ ?_ ?_).mono ?_;(simp[go_sem]);(simp[go_sem]);(simp[go_sem]);rintro e w' ⟨rfl,rfl⟩))
 go_wp2
 go_ret
 exact ⟨rfl,(hb.alloc hb.size _).drew⟩
theorem og (n:Node)(w:World):Calls Tryz.prog 142 #[.agg n.cells.toArray] w λe w'=>e=.returned (.int .i64 (arity n.op n.arity))/\Below w.heap.size w w':=by
 obtain ⟨op,⟨kd,nu,st⟩,nm,ar⟩:=n
 simp only[Node.cells]
 go_enter Tryz.func142,Tryz.ntmps142
 go_wp2
 all_goals (go_ret;refine ⟨ak ?_,af⟩;go_light;unfold arity;first|(simp_all;done)|(simp_all;omega)|(repeat' split) <;> omega)
theorem mo (n:Node)(w:World):Calls Tryz.prog 156 #[.agg n.cells.toArray] w λe w'=>e=.returned (.int .i64 (arity n.op n.arity))/\Below w.heap.size w w':=by
 obtain ⟨op,⟨kd,nu,st⟩,nm,ar⟩:=n
 simp only[Node.cells]
 go_enter Tryz.func156,Tryz.ntmps156
 go_wp2
 all_goals (go_ret;refine ⟨ak ?_,af⟩;go_light;unfold arity;first|(simp_all;done)|(simp_all;omega)|(repeat' split) <;> omega)
theorem MG:fJ ⟨#[]⟩=true:=by rw[fJ,ByteArray.toList_eq];rfl
def Fits (c:Col)(v:Val):Prop:=v.ok/\dF c v=0
theorem getD_drop {α:Type}{xs:List α}{k:Nat}{x d:α}{l:List α}(h:xs.drop k=x :: l):xs.getD k d=x:=by
 rw[List.getD,(dS h).1];rfl
def xN (cols:List Col)(i:Nat)(v:Val):Int:=dF (cols.getD i default) v
theorem x8 {cols:List Col}{k:Nat}{y:Col}{l:List Col}{x:Val}(h:cols.drop k=y :: l):xN cols k x=dF y x:=by rw[xN,getD_drop h]
theorem uG (w:World)(A A':Option Addr)(n n' c c':Nat)(cols:List Col)(row:List Val)(hx:In w A n c cols)(hy:In w A' n' c' row):
  Calls Tryz.prog 138 #[.slice A n c,.slice A' n' c'] w λe w'=>e=.returned (.int .i64 (aS cols row))/\Below w.heap.size w w':=by
 have h63:=hx.le
 have h63':=hy.le
 have hlen:=hide hx.len
 have hlen':=hide hy.len
 go_enter Tryz.func138,Tryz.ntmps138
 cases hs:((n':Int)==(n:Int))
 ·have he:Hid (8=aS cols row):=hide (by rw[aS,hlen.out,hlen'.out,if_pos (by simp at hs;omega)])
  go_wp2
  all_goals (try (exfalso;go_light;simp_all;done))
  go_ret
  exact ⟨ak he.out,Below.refl _ _⟩
 have jR:Hid (aS cols row=aj (xN cols) 0 row):=hide (by rw[aS,hlen.out,hlen'.out,if_neg (by simp at hs;omega)];rfl)
 have hnn:n=n':=by simp at hs;omega
 go_wp2
 all_goals (try (exfalso;go_light;simp_all;done))
 have HN:=hide hnn
 clear hs hnn
 go_loopw [15] (λi wr=> ∃k:Nat,k<=n'/\i=.int .i64 k/\aj (xN cols) 0 row=aj (xN cols) k (row.drop k)/\Below w.heap.size w wr) (λi _=>n'-(intOf i).toNat)
 case atStart=>exact ⟨0,Nat.zero_le _,rfl,rfl,Below.refl _ _⟩
 case round=>
  obtain ⟨k,hk,rfl,heq,hb⟩:=hrel
  have HE:=hide heq
  clear heq
  by_cases hlt:k<n'
  ·have Ro:k<n:=by rw[HN.out];exact hlt
   obtain ⟨b',off',x,rfl,hB',HX,f0,f1,f2,f3⟩:=(hy.below hb).val hlt
   obtain ⟨b,off,y,rfl,hB,HY,e0,e1,e2,e3⟩:=(hx.below hb).col Ro
   go_wp2_with fail
   refine (oM x f3 _).mono ?_
   rintro e w1 ⟨rfl,hb1⟩
   have hbb:=aa (aa (aa hb af) af) hb1
   obtain ⟨hc1,hf1⟩:=ai hb1
   clear hb1 e0 e1 e2 f0 f1 f2
   have HC:Hid (aj (xN cols) 0 row=if dF y x=0 then aj (xN cols) (k+1) (row.drop (k+1)) else dF y x):=hide (by
    rw[HE.out,HX.out]
    by_cases hz:dF y x=0
    ·rw[if_pos hz];exact bJ (by rw[x8 HY.out,hz])
    ·rw[if_neg hz];exact aT (x8 HY.out) hz)
   cases hv:valid x
   ·have he:Hid (8=aS cols row):=hide (by rw[jR.out,HC.out];simp[dF,hv])
    go_wp2
    go_ret
    exact ⟨ak he.out,hbb⟩
   ·cases hz:(x.kind==0)
    ·cases hq:(x.kind==y.kind)
     ·have he:Hid (7=aS cols row):=hide (by
       have e1:¬x.kind=0:=by simpa using hz
       have e2:¬x.kind=y.kind:=by simpa using hq
       rw[jR.out,HC.out];simp[dF,hv,e1,e2])
      go_wp2
      all_goals (try (exfalso;go_light;simp_all;done))
      all_goals
       go_ret
       exact ⟨ak he.out,hbb⟩
     ·have he:Hid (dF y x=0):=hide (by
       have e1:¬x.kind=0:=by simpa using hz
       have e2:x.kind=y.kind:=by simpa using hq
       simp[dF,hv,<-e2,e1])
      go_wp2
      all_goals (try (exfalso;go_light;simp_all;done))
      all_goals
       go_roundw
       case rel=>exact ⟨k+1,by omega,by go_num,by rw[HC.out,if_pos he.out],hbb⟩
       case measure=>simp[intOf];omega
    ·cases hn:y.nullable
     ·have he:Hid (7=aS cols row):=hide (by
       have e1:x.kind=0:=by simpa using hz
       rw[jR.out,HC.out];simp[dF,hv,e1,hn])
      go_wp2
      all_goals (try (exfalso;go_light;simp_all;done))
      all_goals
       go_ret
       exact ⟨ak he.out,hbb⟩
     ·have he:Hid (dF y x=0):=hide (by
       have e1:x.kind=0:=by simpa using hz
       simp[dF,hv,e1,hn])
      go_wp2
      all_goals (try (exfalso;go_light;simp_all;done))
      all_goals
       go_roundw
       case rel=>exact ⟨k+1,by omega,by go_num,by rw[HC.out,if_pos he.out],hbb⟩
       case measure=>simp[intOf];omega
  ·go_wp2
   go_ret
   exact ⟨ak (by rw[jR.out,HE.out,aP hy.len (by omega),aj]),hb⟩
theorem bY {B:Nat}{a w:World}(h:Below B a w){n:Nat}:Below B a (w.drewN n):=below_drewN h n
theorem uH (w:World)(A A':Option Addr)(n n' c c':Nat)(cols:List Col)(row:List Val)(hx:In w A n c cols)(hy:In w A' n' c' row):
  Calls Tryz.prog 122 #[.slice A n c,.slice A' n' c'] w λe w'=>e=.returned (.int .i64 (aS cols row))/\Below w.heap.size w w':=by
 have h63:=hx.le
 have h63':=hy.le
 have hlen:=hide hx.len
 have hlen':=hide hy.len
 go_enter Tryz.func122,Tryz.ntmps122
 cases hs:((n:Int)==(n':Int))
 ·have he:Hid (8=aS cols row):=hide (by rw[aS,hlen.out,hlen'.out,if_pos (by simp at hs;omega)])
  go_wp2
  all_goals (try (exfalso;go_light;simp_all;done))
  go_ret
  exact ⟨ak he.out,Below.refl _ _⟩
 have jR:Hid (aS cols row=aj (xN cols) 0 row):=hide (by rw[aS,hlen.out,hlen'.out,if_neg (by simp at hs;omega)];rfl)
 have hnn:n=n':=by simp at hs;omega
 go_wp2
 all_goals (try (exfalso;go_light;simp_all;done))
 have HN:=hide hnn
 clear hs hnn
 go_loopw [5] (λi wr=> ∃k:Nat,k<=n'/\i=.int .i64 k/\aj (xN cols) 0 row=aj (xN cols) k (row.drop k)/\Below w.heap.size w wr) (λi _=>n'-(intOf i).toNat)
 case atStart=>exact ⟨0,Nat.zero_le _,rfl,rfl,Below.refl _ _⟩
 case round=>
  obtain ⟨k,hk,rfl,heq,hb⟩:=hrel
  have HE:=hide heq
  clear heq
  by_cases hlt:k<n'
  ·have Ro:k<n:=by rw[HN.out];exact hlt
   obtain ⟨b',off',x,rfl,hB',HX,f0,f1,f2,f3⟩:=(hy.below hb).val hlt
   obtain ⟨b,off,y,rfl,hB,HY,e0,e1,e2,e3⟩:=(hx.below hb).col Ro
   go_wp2_with fail
   refine (wF x f3 _).mono ?_
   rintro e w1 ⟨rfl,hb1⟩
   have hbb:=aa hb hb1
   replace e0:=ah hb1 hB e0
   replace e1:=ah hb1 hB e1
   replace e2:=ah hb1 hB e2
   replace f0:=ah hb1 hB' f0
   replace f1:=ah hb1 hB' f1
   replace f2:=ah hb1 hB' f2
   clear hb1
   have g0:(0:Int)<=(k:Int):=by omega
   have g1:(k:Int)<(n:Int):=by omega
   have g2:(k:Int)<(n':Int):=by omega
   have HC:Hid (aj (xN cols) 0 row=if dF y x=0 then aj (xN cols) (k+1) (row.drop (k+1)) else dF y x):=hide (by
    rw[HE.out,HX.out]
    by_cases hz:dF y x=0
    ·rw[if_pos hz];exact bJ (by rw[x8 HY.out,hz])
    ·rw[if_neg hz];exact aT (x8 HY.out) hz)
   cases hv:valid x
   ·have he:Hid (8=aS cols row):=hide (by rw[jR.out,HC.out];simp[dF,hv])
    go_wp2
    go_ret
    first|exact ⟨ak he.out,hbb⟩|exact ⟨ak he.out,bY hbb⟩
   ·cases hz:(x.kind==0)
    ·have hz':(x.kind != 0)=true:=by rw[bne,hz];rfl
     cases hq:(x.kind==y.kind)
     ·have hq':(x.kind != y.kind)=true:=by rw[bne,hq];rfl
      have he:Hid (7=aS cols row):=hide (by
       have e1:¬x.kind=0:=by simpa using hz
       have e2:¬x.kind=y.kind:=by simpa using hq
       rw[jR.out,HC.out];simp[dF,hv,e1,e2])
      go_wp2
      go_quiet (fail)
      go_wp2
      all_goals (try (exfalso;go_light;simp_all;done))
      all_goals
       go_ret
       first|exact ⟨ak he.out,hbb⟩|exact ⟨ak he.out,bY hbb⟩
     ·have hq':(x.kind != y.kind)=false:=by rw[bne,hq];rfl
      have he:Hid (dF y x=0):=hide (by
       have e1:¬x.kind=0:=by simpa using hz
       have e2:x.kind=y.kind:=by simpa using hq
       simp[dF,hv,<-e2,e1])
      go_wp2
      go_quiet (fail)
      go_wp2
      all_goals (try (exfalso;go_light;simp_all;done))
      all_goals
       go_roundw
       case rel=>exact ⟨k+1,by omega,by go_num,by rw[HC.out,if_pos he.out],bY hbb⟩
       case measure=>simp[intOf];omega
    ·have hz':(x.kind != 0)=false:=by rw[bne,hz];rfl
     cases hn:y.nullable
     ·have he:Hid (7=aS cols row):=hide (by
       have e1:x.kind=0:=by simpa using hz
       rw[jR.out,HC.out];simp[dF,hv,e1,hn])
      go_wp2
      go_quiet (fail)
      go_wp2
      all_goals (try (exfalso;go_light;simp_all;done))
      all_goals
       go_ret
       first|exact ⟨ak he.out,hbb⟩|exact ⟨ak he.out,bY hbb⟩
     ·have he:Hid (dF y x=0):=hide (by
       have e1:x.kind=0:=by simpa using hz
       simp[dF,hv,e1,hn])
      go_wp2
      go_quiet (fail)
      go_wp2
      all_goals (try (exfalso;go_light;simp_all;done))
      all_goals
       go_roundw
       case rel=>exact ⟨k+1,by omega,by go_num,by rw[HC.out,if_pos he.out],bY hbb⟩
       case measure=>simp[intOf];omega
  ·go_wp2
   go_ret
   exact ⟨ak (by rw[jR.out,HE.out,aP hy.len (by omega),aj]),hb⟩
theorem mR:(Tryz.prog.info? 74).map (λi=>(i.zero,i.size,i.bytes))=some (some (.agg #[.int .i64 0,.int .i64 0,.string ⟨#[]⟩]),3,32):=by kernel_rfl
def Part (w:World)(g:Nat)(cols:List Col)(vs:List Val):Prop:=
 (∀i,(h:i<vs.length)->At w (λ_=>False) g (i*3) vs[i])/\ ∀i,(h:i<vs.length)->(h':i<cols.length)->Fits cols[i] vs[i]
theorem Part.below {w w':World}{g:Nat}{cols:List Col}{vs:List Val}(h:Part w g cols vs)(hg:g<w.heap.size)(hb:Below w.heap.size w w'):Part w' g cols vs:=
 ⟨λi hi=>by
  obtain ⟨cs,hr,hc⟩:=h.1 i hi
  exact ⟨cs,hr,λj hj=>ah hb hg (hc j hj)⟩,h.2⟩
theorem Part.add {w:World}{g:Nat}{cols:List Col}{vs:List Val}{v:Val}{u0 u1 u2:Value}(h:Part w g cols vs)(hv:v.ok)(hk:vs.length<cols.length)(hf:Fits cols[vs.length] v)(h0:w.cell? ⟨g,vs.length*3,none⟩=some u0)(h1:w.cell? ⟨g,vs.length*3+1,none⟩=some u1)(h2:w.cell? ⟨g,vs.length*3+2,none⟩=some u2):
  Part (((w.setCell ⟨g,vs.length*3,none⟩ (.int .i64 v.kind)).setCell ⟨g,vs.length*3+1,none⟩ (.int .i64 v.num)).setCell ⟨g,vs.length*3+2,none⟩ (.string v.str)) g cols (vs++[v]):=by
 refine ⟨λi hi=>?_,λi hi hi'=>?_⟩
 ·rw[List.length_append]at hi
  by_cases hl:i<vs.length
  ·obtain ⟨cs,⟨rfl,hr⟩,hc⟩:=h.1 i hl
   rw[List.getElem_append_left hl]
   refine ⟨_,⟨rfl,hr⟩,λj hj=>?_⟩
   have ZQ:j<3:=hj
   exact ae (ae (ae (hc j hj) (.inr (by omega))) (.inr (by omega))) (.inr (by omega))
  ·obtain rfl:i=vs.length:=by simp at hi;omega
   rw[List.getElem_append_right (Nat.le_refl _)]
   simp only[Nat.sub_self,List.getElem_cons_zero]
   refine ⟨v.cells,⟨rfl,hv⟩,λj hj=>?_⟩
   have ZQ:j<3:=hj
   obtain rfl|rfl|rfl:j=0\/j=1\/j=2:=by omega
   ·exact ae (ae (bU h0) (.inr (by omega))) (.inr (by omega))
   ·exact ae (bU (ae h1 (.inr (by omega)))) (.inr (by omega))
   ·exact bU (ae (ae h2 (.inr (by omega))) (.inr (by omega)))
 ·rw[List.length_append]at hi
  by_cases hl:i<vs.length
  ·rw[List.getElem_append_left hl];exact h.2 i hl hi'
  ·obtain rfl:i=vs.length:=by simp at hi;omega
   rw[List.getElem_append_right (Nat.le_refl _)]
   simpa using hf
theorem Aq {α:Type}{f:Nat->α->Int}{l:List α}: ∀k,(∀i,(h:i<l.length)->f (k+i) l[i]=0)->aj f k l=0:=by
 induction l with
 |nil=>intro k _;rfl
 |cons x l ih=>
  intro k h
  have h0:=h 0 (by simp)
  rw[bJ (by simpa using h0)]
  exact ih (k+1) λi hi=>by
   have:=h (i+1) (by simpa using hi)
   rw[show k+1+i=k+(i+1) from by omega]
   simpa using this
def az (n:Int):Prop:= -1073741824<=n/\n<=1073741824
theorem eX (a:Int)(w:World):Calls Tryz.prog 146 #[.int .i64 a] w λe w'=>e=.returned (.bool (bV a))/\w=w':=by
 go_enter Tryz.func146,Tryz.ntmps146
 go_wp2
 all_goals (go_ret;refine ⟨ay ?_,rfl⟩;go_light;unfold bV;first|(simp_all;done)|(simp_all;omega))
theorem iW (a:Int)(w:World):Calls Tryz.prog 151 #[.int .i64 a] w λe w'=>e=.returned (.bool (bV a))/\w=w':=by
 go_enter Tryz.func151,Tryz.ntmps151
 go_wp2
 all_goals (go_ret;refine ⟨ay ?_,rfl⟩;go_light;unfold bV;first|(simp_all;done)|(simp_all;omega))
theorem dD {a:Int}(h:az a):bV a=true:=by unfold az at h;simp[bV];omega
def chk (r:Int):Int×Bool:=if bV r then (r,true) else (0,false)
theorem DR {a b:Int}(ha:az a)(hb:az b):pg a b=chk (a+b):=by simp[pg,chk,dD ha,dD hb]
theorem E5 {a b:Int}(ha:az a)(hb:az b):iD a b=chk (a-b):=by simp[iD,chk,dD ha,dD hb]
theorem EI {a b:Int}(ha:az a)(hb:az b):pQ a b=chk (a*b):=by simp[pQ,chk,dD ha,dD hb]
theorem qK (r:Int)(w:World):Calls Tryz.prog 212 #[.int .i64 r] w λe w'=>e=.returned (.tuple #[.int .i64 (chk r).1,.bool (chk r).2])/\w=w':=by
 go_enter Tryz.func212,Tryz.ntmps212
 cases h:bV r
 ·go_wp2_with (go_at_call 146;refine (eX _ _).mono ?_;rintro e w' ⟨rfl,rfl⟩)
  go_ret2
  exact ⟨by simp[chk,h],rfl⟩
 ·go_wp2_with (go_at_call 146;refine (eX _ _).mono ?_;rintro e w' ⟨rfl,rfl⟩)
  go_ret2
  exact ⟨by simp[chk,h],rfl⟩
theorem pG (a b r:Int)(ha:az a)(hb:az b)(w:World):Calls Tryz.prog 240 #[.int .i64 a,.int .i64 b,.int .i64 r] w λe w'=>e=.returned (.tuple #[.int .i64 (chk r).1,.bool (chk r).2])/\w=w':=by
 have s1:=dD ha
 have s2:=dD hb
 go_enter Tryz.func240,Tryz.ntmps240
 cases h:bV r
 ·go_wp2_with (go_at_call 151;refine (iW _ _).mono ?_;rintro e w' ⟨rfl,rfl⟩)
  go_ret2
  exact ⟨by simp[chk,h],rfl⟩
 ·go_wp2_with (go_at_call 151;refine (iW _ _).mono ?_;rintro e w' ⟨rfl,rfl⟩)
  go_ret2
  exact ⟨by simp[chk,h],rfl⟩
theorem Gs {a b:Int}(ha:az a)(hb:az b): -1152921504606846976<=a*b/\a*b<=1152921504606846976:=by
 have h:(a*b).natAbs<=1073741824*1073741824:=by
  rw[Int.natAbs_mul]
  exact Nat.mul_le_mul (by unfold az at ha;omega) (by unfold az at hb;omega)
 omega
theorem N7 (a b:Int)(ha:az a)(hb:az b)(w:World):Calls Tryz.prog 216 #[.int .i64 a,.int .i64 b] w λe w'=>e=.returned (.tuple #[.int .i64 (pg a b).1,.bool (pg a b).2])/\w=w':=by
 rw[DR ha hb]
 have s1:=dD ha
 have s2:=dD hb
 have hw:IntKind.i64.wrap (a+b)=a+b:=IntWalk.i64_in _ (by unfold az at ha hb;omega)
 go_enter Tryz.func216,Tryz.ntmps216
 go_wp2_with (first|(go_at_call 146;refine (eX _ _).mono ?_;rintro e w' ⟨rfl,rfl⟩)|(go_at_call 212;(try rw[hw]);refine (qK _ _).mono ?_;rintro e w' ⟨rfl,rfl⟩))
 go_ret2
 exact ⟨rfl,rfl⟩
theorem N8 (a b:Int)(ha:az a)(hb:az b)(w:World):Calls Tryz.prog 244 #[.int .i64 a,.int .i64 b] w λe w'=>e=.returned (.tuple #[.int .i64 (pg a b).1,.bool (pg a b).2])/\w=w':=by
 rw[DR ha hb]
 have hw:IntKind.i64.wrap (a+b)=a+b:=IntWalk.i64_in _ (by unfold az at ha hb;omega)
 go_enter Tryz.func244,Tryz.ntmps244
 go_wp2_with (go_at_call 240;(try rw[hw]);refine (pG _ _ _ ha hb _).mono ?_;rintro e w' ⟨rfl,rfl⟩)
 go_ret2
 exact ⟨rfl,rfl⟩
theorem Dk (a b:Int)(ha:az a)(hb:az b)(w:World):Calls Tryz.prog 178 #[.int .i64 a,.int .i64 b] w λe w'=>e=.returned (.tuple #[.int .i64 (iD a b).1,.bool (iD a b).2])/\w=w':=by
 rw[E5 ha hb]
 have s1:=dD ha
 have s2:=dD hb
 have hw:IntKind.i64.wrap (a-b)=a-b:=IntWalk.i64_in _ (by unfold az at ha hb;omega)
 go_enter Tryz.func178,Tryz.ntmps178
 go_wp2_with (first|(go_at_call 146;refine (eX _ _).mono ?_;rintro e w' ⟨rfl,rfl⟩)|(go_at_call 212;(try rw[hw]);refine (qK _ _).mono ?_;rintro e w' ⟨rfl,rfl⟩))
 go_ret2
 exact ⟨rfl,rfl⟩
theorem Dl (a b:Int)(ha:az a)(hb:az b)(w:World):Calls Tryz.prog 223 #[.int .i64 a,.int .i64 b] w λe w'=>e=.returned (.tuple #[.int .i64 (iD a b).1,.bool (iD a b).2])/\w=w':=by
 rw[E5 ha hb]
 have hw:IntKind.i64.wrap (a-b)=a-b:=IntWalk.i64_in _ (by unfold az at ha hb;omega)
 go_enter Tryz.func223,Tryz.ntmps223
 go_wp2_with (go_at_call 240;(try rw[hw]);refine (pG _ _ _ ha hb _).mono ?_;rintro e w' ⟨rfl,rfl⟩)
 go_ret2
 exact ⟨rfl,rfl⟩
theorem Pg (a b:Int)(ha:az a)(hb:az b)(w:World):Calls Tryz.prog 217 #[.int .i64 a,.int .i64 b] w λe w'=>e=.returned (.tuple #[.int .i64 (pQ a b).1,.bool (pQ a b).2])/\w=w':=by
 rw[EI ha hb]
 have s1:=dD ha
 have s2:=dD hb
 have hm: -1152921504606846976<=a*b/\a*b<=1152921504606846976:=Gs ha hb
 have hw:IntKind.i64.wrap (a*b)=a*b:=IntWalk.i64_in _ (by unfold az at ha hb;omega)
 go_enter Tryz.func217,Tryz.ntmps217
 go_wp2_with (first|(go_at_call 146;refine (eX _ _).mono ?_;rintro e w' ⟨rfl,rfl⟩)|(go_at_call 212;(try rw[hw]);refine (qK _ _).mono ?_;rintro e w' ⟨rfl,rfl⟩))
 go_ret2
 exact ⟨rfl,rfl⟩
theorem Ph (a b:Int)(ha:az a)(hb:az b)(w:World):Calls Tryz.prog 245 #[.int .i64 a,.int .i64 b] w λe w'=>e=.returned (.tuple #[.int .i64 (pQ a b).1,.bool (pQ a b).2])/\w=w':=by
 rw[EI ha hb]
 have hm: -1152921504606846976<=a*b/\a*b<=1152921504606846976:=Gs ha hb
 have hw:IntKind.i64.wrap (a*b)=a*b:=IntWalk.i64_in _ (by unfold az at ha hb;omega)
 go_enter Tryz.func245,Tryz.ntmps245
 go_wp2_with (go_at_call 240;(try rw[hw]);refine (pG _ _ _ ha hb _).mono ?_;rintro e w' ⟨rfl,rfl⟩)
 go_ret2
 exact ⟨rfl,rfl⟩
theorem oL (v:Val)(hv:v.ok)(w:World):Calls Tryz.prog 104 #[.agg v.cells.toArray] w λe w'=>e=.returned (.int .i64 (truth v))/\Below w.heap.size w w':=by
 obtain ⟨k,n,s⟩:=v
 have hv':=hv
 simp only[Val.cells]
 by_cases h1:k=1
 ·subst h1
  have HT:Hid (truth ⟨1,n,s⟩=if valid ⟨1,n,s⟩=true then n else -1):=hide (by simp[truth])
  cases hvd:valid ⟨1,n,s⟩
  all_goals
   rw[hvd]at HT
   go_enter Tryz.func104,Tryz.ntmps104
   go_wp2_with fail
   refine (oM ⟨1,n,s⟩ hv' _).mono ?_
   rintro e w1 ⟨rfl,hb1⟩
   have hbb:=aa af hb1
   have g1:=ah (b:=w.heap.size) (o:=1) (v:=.int .i64 n) hb1 (by simp) (by simp[go_sem])
   clear hb1
   rw[hvd]
   go_wp2
   go_ret
   exact ⟨ak (by rw[HT.out];simp),hbb⟩
 ·have HT:Hid (truth ⟨k,n,s⟩= -1):=hide (by simp[truth,h1])
  have q:(k != 1)=true:=by simpa using h1
  clear h1
  go_enter Tryz.func104,Tryz.ntmps104
  go_wp2
  go_ret
  exact ⟨ak HT.out.symm,af⟩
theorem qc (v:Val)(hv:v.ok)(w:World):Calls Tryz.prog 109 #[.agg v.cells.toArray] w λe w'=>e=.returned (.int .i64 (truth v))/\Below w.heap.size w w':=by
 obtain ⟨k,n,s⟩:=v
 simp only[Val.cells]
 go_enter Tryz.func109,Tryz.ntmps109
 go_wp2
 all_goals (go_ret;refine ⟨ak ?_,af⟩;go_light;(try simp only[bne_iff_ne,ne_eq,beq_iff_eq,beq_eq_false_iff_ne]at*);simp_all[truth,valid,fJ])
def lL (_:Nat)(v:Val):Int:=if valid v then 0 else 8
theorem pK (x:Ent):dw x=if 12<x.row.length\/x.count < -65536\/65536<x.count then 2 else aj lL 0 x.row:=rfl
theorem Ga (w:World)(A:Option Addr)(n c:Nat)(x:Ent)(hx:In w A n c x.row)(hc:ig x.count):
  Calls Tryz.prog 149 #[.agg #[.slice A n c,.int .i64 x.count]] w λe w'=>e=.returned (.int .i64 (dw x))/\Below w.heap.size w w':=by
 obtain ⟨row,m⟩:=x
 have h63:=hx.le
 have hlen:=hide hx.len
 unfold ig at hc
 obtain ⟨hm1,hm2⟩:=hc
 simp only at hx hlen hm1 hm2⊢
 go_enter Tryz.func149,Tryz.ntmps149
 by_cases hs:12<n\/m < -65536\/65536<m
 ·have he:Hid (2=dw ⟨row,m⟩):=hide (by rw[pK,hlen.out,if_pos hs])
  by_cases h1:12<n
  ·go_wp2
   all_goals (go_ret;exact ⟨ak he.out,af⟩)
  ·by_cases h2:m < -65536
   ·go_wp2
    all_goals (go_ret;exact ⟨ak he.out,af⟩)
   ·have h3:65536<m:=by omega
    go_wp2
    all_goals (go_ret;exact ⟨ak he.out,af⟩)
 have jR:Hid (dw ⟨row,m⟩=aj lL 0 row):=hide (by rw[pK,hlen.out,if_neg hs])
 have h1:n<=12:=by omega
 have h2: -65536<=m:=by omega
 have h3:m<=65536:=by omega
 clear hs
 go_wp2
 go_loopw [22] (λi wr=> ∃k:Nat,k<=n/\i=.int .i64 k/\aj lL 0 row=aj lL k (row.drop k)/\Below w.heap.size w wr) (λi _=>n-(intOf i).toNat)
 case atStart=>exact ⟨0,Nat.zero_le _,rfl,rfl,af⟩
 case round=>
  obtain ⟨k,hk,rfl,heq,hb⟩:=hrel
  have HE:=hide heq
  clear heq
  by_cases hlt:k<n
  ·obtain ⟨b,off,x,rfl,hB,HX,f0,f1,f2,f3⟩:=(hx.below hb).val hlt
   go_wp2_with fail
   refine (oM x f3 _).mono ?_
   rintro e w1 ⟨rfl,hb1⟩
   have hbb:=aa (aa hb af) hb1
   clear hb1 f0 f1 f2
   cases hv:valid x
   ·have he:Hid (8=dw ⟨row,m⟩):=hide (by rw[jR.out,HE.out,HX.out];exact (aT (by simp[lL,hv]) (by omega)).symm)
    go_wp2
    go_ret
    exact ⟨ak he.out,hbb⟩
   ·go_wp2
    go_roundw
    case rel=>exact ⟨k+1,by omega,by go_num,by rw[HE.out,HX.out];exact bJ (by simp[lL,hv]),hbb⟩
    case measure=>simp[intOf];omega
  ·go_wp2
   go_ret
   exact ⟨ak (by rw[jR.out,HE.out,aP hx.len (by omega),aj]),hb⟩
theorem ww (m:Int)(w:World):Calls Tryz.prog 78 #[.int .i64 m] w λe w'=>e=.returned (.bool (decide (-65536<=m)&&decide (m<=65536)))/\w=w':=by
 go_enter Tryz.func78,Tryz.ntmps78
 go_wp2
 all_goals (go_ret;refine ⟨ay ?_,rfl⟩;go_light;first|(simp_all;done)|(simp_all;omega))
theorem Je (w:World)(A:Option Addr)(n c:Nat)(x:Ent)(hx:In w A n c x.row)(hc:ig x.count):
  Calls Tryz.prog 76 #[.agg #[.slice A n c,.int .i64 x.count]] w λe w'=>e=.returned (.int .i64 (dw x))/\Below w.heap.size w w':=by
 obtain ⟨row,m⟩:=x
 have h63:=hx.le
 have hlen:=hide hx.len
 unfold ig at hc
 obtain ⟨hm1,hm2⟩:=hc
 simp only at hx hlen hm1 hm2⊢
 go_enter Tryz.func76,Tryz.ntmps76
 by_cases hs:12<n\/m < -65536\/65536<m
 ·have he:Hid (2=dw ⟨row,m⟩):=hide (by rw[pK,hlen.out,if_pos hs])
  by_cases h1:12<n
  ·go_wp2
   all_goals (go_ret;exact ⟨ak he.out,af⟩)
  ·by_cases h2:m < -65536
   ·have hq:decide ((-65536:Int)<=m)=false:=by simp;omega
    go_wp2_with (go_at_call 78;refine (ww _ _).mono ?_;rintro e w' ⟨rfl,rfl⟩)
    all_goals (try (exfalso;go_light;simp_all;done))
    all_goals (go_ret;exact ⟨ak he.out,af⟩)
   ·have h3:65536<m:=by omega
    have hq:decide (m<=(65536:Int))=false:=by simp;omega
    go_wp2_with (go_at_call 78;refine (ww _ _).mono ?_;rintro e w' ⟨rfl,rfl⟩)
    all_goals (try (exfalso;go_light;simp_all;done))
    all_goals (go_ret;exact ⟨ak he.out,af⟩)
 have jR:Hid (dw ⟨row,m⟩=aj lL 0 row):=hide (by rw[pK,hlen.out,if_neg hs])
 have h1:n<=12:=by omega
 have h2: -65536<=m:=by omega
 have h3:m<=65536:=by omega
 clear hs
 go_wp2_with (go_at_call 78;refine (ww _ _).mono ?_;rintro e w' ⟨rfl,rfl⟩)
 all_goals (try (exfalso;go_light;simp_all;done))
 go_loopw [3] (λi wr=> ∃k:Nat,k<=n/\i=.int .i64 k/\aj lL 0 row=aj lL k (row.drop k)/\Below (w.alloc (.cells #[.slice A n c,.int .i64 m] 61)).heap.size (w.alloc (.cells #[.slice A n c,.int .i64 m] 61)) wr) (λi _=>n-(intOf i).toNat)
 case atStart=>exact ⟨0,Nat.zero_le _,rfl,rfl,Below.refl _ _⟩
 case round=>
  obtain ⟨k,hk,rfl,heq,hb0⟩:=hrel
  have HE:=hide heq
  clear heq
  have hb:Below w.heap.size w wr:=aa af hb0
  have g0:wr.cell? ⟨w.heap.size,0,none⟩=some (.slice A n c):=ah hb0 (by simp) (by simp[go_sem])
  have HB0:=hide hb0
  clear hb0
  by_cases hlt:k<n
  ·obtain ⟨b,off,x,rfl,hB,HX,f0,f1,f2,f3⟩:=(hx.below hb).val hlt
   go_wp2_with fail
   refine (wF x f3 _).mono ?_
   rintro e w1 ⟨rfl,hb1⟩
   have hbb:=aa hb hb1
   have HB1:=hide (aa HB0.out hb1)
   clear hb1 f0 f1 f2
   cases hv:valid x
   ·have he:Hid (8=dw ⟨row,m⟩):=hide (by rw[jR.out,HE.out,HX.out];exact (aT (by simp[lL,hv]) (by omega)).symm)
    go_wp2
    go_ret
    exact ⟨ak he.out,hbb⟩
   ·go_wp2
    go_roundw
    case rel=>exact ⟨k+1,by omega,by go_num,by rw[HE.out,HX.out];exact bJ (by simp[lL,hv]),HB1.out⟩
    case measure=>simp[intOf];omega
  ·go_wp2
   go_ret
   exact ⟨ak (by rw[jR.out,HE.out,aP hx.len (by omega),aj]),hb⟩
theorem xI (w:World)(A A':Option Addr)(n n' c c':Nat)(xs ys:List Val)(hx:In w A n c xs)(hy:In w A' n' c' ys):
  Calls Tryz.prog 124 #[.slice A n c,.slice A' n' c',.func (.func 125) #[] #[]] w
   λe w'=>e=.returned (.int .i64 (aC xs ys))/\Below w.heap.size w w':=by
 have h63:=hx.le
 have h63':=hy.le
 go_enter Tryz.func124,Tryz.ntmps124
 go_wp2
 go_loopw [13] (λi wr=> ∃k:Nat,k<=n/\k<=n'/\i=.int .i64 k/\aC xs ys=aC (xs.drop k) (ys.drop k)/\Below w.heap.size w wr) (λi _=>n-(intOf i).toNat)
 case atStart=>exact ⟨0,Nat.zero_le _,Nat.zero_le _,rfl,rfl,Below.refl _ _⟩
 case round=>
  obtain ⟨k,hk,hk',rfl,heq,hb⟩:=hrel
  have HE:=hide heq
  clear heq
  by_cases hlt:k<n
  ·obtain ⟨b,off,x,rfl,hB,HX,e0,e1,e2,e3⟩:=(hx.below hb).val hlt
   by_cases hlt':k<n'
   ·obtain ⟨b',off',y,rfl,hB',HY,f0,f1,f2,f3⟩:=(hy.below hb).val hlt'
    go_wp2_with fail
    refine (Ck x y _).mono ?_
    rintro e w1 ⟨rfl,hb1⟩
    have hbb:=aa (aa (aa hb af) af) hb1
    clear hb1 e0 e1 e2 f0 f1 f2
    by_cases hz:bf x y=0
    ·rw[hz]
     go_wp2
     go_roundw
     case rel=>exact ⟨k+1,by omega,by omega,by go_num,by rw[HE.out,HX.out,HY.out,aC,if_neg (by simp[hz])],hbb⟩
     case measure=>simp[intOf];omega
    ·have hz':(bf x y==0)=false:=by simp[hz]
     go_wp2
     go_ret
     exact ⟨ak (by rw[HE.out,HX.out,HY.out,aC,if_pos hz]),hbb⟩
   ·go_wp2
    go_ret
    exact ⟨ak (by rw[HE.out,HX.out,aP hy.len (by omega),aC]),hb.alloc hb.size _⟩
  ·have hkn:n<=k:=by omega
   by_cases hlt':n<n'
   ·go_wp2
    go_ret
    refine ⟨ak ?_,hb⟩
    rw[HE.out,aP hx.len hkn]
    have:ys.drop k≠[]:=by intro h;have:=congrArg List.length h;rw[List.length_drop,hy.len]at this;simp at this;omega
    match h:ys.drop k with
    | []=>exact absurd h this
    | _ :: _=>rw[aC]
   ·go_wp2
    go_ret
    refine ⟨ak ?_,hb⟩
    rw[HE.out,aP hx.len hkn,aP hy.len (by omega),aC]
theorem jS (w:World)(A A':Option Addr)(n n' c c':Nat)(xs ys:List Val)(hx:In w A n c xs)(hy:In w A' n' c' ys):
  Calls Tryz.prog 84 #[.slice A n c,.slice A' n' c'] w λe w'=>e=.returned (.int .i64 (aC xs ys))/\Below w.heap.size w w':=by
 go_enter Tryz.func84,Tryz.ntmps84
 go_wp2_with fail
 refine (xI _ _ _ _ _ _ _ xs ys hx hy).mono ?_
 rintro e w1 ⟨rfl,hb1⟩
 go_wp2
 go_ret
 exact ⟨rfl,hb1⟩
theorem In.prev {w:World}{A:Option Addr}{n c k:Nat}{b:List Ent}(h:In w A n c b)(hk:k<n)(h0:0<k): ∃bl off A' n' c' y,A=some ⟨bl,off,none⟩/\bl<w.heap.size/\
  w.cell? ⟨bl,off+(k-1)*2,none⟩=some (.slice A' n' c')/\In w A' n' c' y/\Hid ((b.getD (k-1) default).row=y):=by
 obtain ⟨bl,off,x,e,hb,hx,A',n',c',h1,h2,h3,h4⟩:=h.ent (show k-1<n by omega)
 exact ⟨bl,off,A',n',c',x.row,e,hb,h1,h3,hide (by rw[getD_drop hx.out])⟩
theorem gQ (b:List Ent)(i:Nat)(x:Ent):dO b i x=if dw x≠0 then dw x else if x.count=0 then 8 else if 0<i/\0<=aC (b.getD (i-1) default).row x.row then 14 else 0:=rfl
theorem Ch (w:World)(A:Option Addr)(n c:Nat)(bs:List Ent)(hx:In w A n c bs):
  Calls Tryz.prog 107 #[.slice A n c] w λe w'=>e=.returned (.int .i64 (aX bs))/\Below w.heap.size w w':=by
 have h63:=hx.le
 have hlen:=hide hx.len
 go_enter Tryz.func107,Tryz.ntmps107
 by_cases hs:4096<n
 ·have he:Hid (2=aX bs):=hide (by rw[aX,hlen.out,if_pos hs])
  go_wp2
  go_ret
  exact ⟨ak he.out,Below.refl _ _⟩
 have jR:Hid (aX bs=aj (dO bs) 0 bs):=hide (by rw[aX,hlen.out,if_neg hs])
 have hs1:n<=4096:=by omega
 clear hs
 go_wp2
 go_loopw [11] (λi wr=> ∃k:Nat,k<=n/\i=.int .i64 k/\aj (dO bs) 0 bs=aj (dO bs) k (bs.drop k)/\Below w.heap.size w wr) (λi _=>n-(intOf i).toNat)
 case atStart=>exact ⟨0,Nat.zero_le _,rfl,rfl,Below.refl _ _⟩
 case round=>
  obtain ⟨k,hk,rfl,heq,hb⟩:=hrel
  have HE:=hide heq
  clear heq
  by_cases hlt:k<n
  ·obtain ⟨b,off,x,rfl,hB,HX,A',n',c',e0,e1,e2,e3⟩:=(hx.below hb).ent hlt
   go_wp2_with fail
   refine (Ga _ A' n' c' x (e2.below af) e3).mono ?_
   rintro e w1 ⟨rfl,hb1⟩
   have hbb:=aa (aa hb af) hb1
   have g0:w1.cell? ⟨wr.heap.size,0,none⟩=some (.slice A' n' c'):=ah hb1 (by simp) (by simp[go_sem])
   have g1:w1.cell? ⟨wr.heap.size,1,none⟩=some (.int .i64 x.count):=ah hb1 (by simp) (by simp[go_sem])
   have hin1:=e2.below (aa af hb1)
   have hsz:wr.heap.size<w1.heap.size:=by have:=hb1.size;simp at this;omega
   obtain ⟨hm1,hm2⟩:=e3
   clear hb1 e0 e1 e2
   by_cases hz:dw x=0
   ·rw[hz]
    have HC:Hid (aj (dO bs) 0 bs=if x.count=0 then 8 else if 0<k/\0<=aC (bs.getD (k-1) default).row x.row then 14 else aj (dO bs) (k+1) (bs.drop (k+1))):=hide (by
     rw[HE.out,HX.out]
     by_cases q1:x.count=0
     ·rw[if_pos q1];exact aT (by rw[gQ,if_neg (by simp[hz]),if_pos q1]) (by omega)
     ·by_cases q2:0<k/\0<=aC (bs.getD (k-1) default).row x.row
      ·rw[if_neg q1,if_pos q2];exact aT (by rw[gQ,if_neg (by simp[hz]),if_neg q1,if_pos q2]) (by omega)
      ·rw[if_neg q1,if_neg q2];exact bJ (by rw[gQ,if_neg (by simp[hz]),if_neg q1,if_neg q2]))
    clear hz
    cases hq:(x.count==0)
    ·have hq1:¬x.count=0:=by simpa using hq
     by_cases h0:0<k
     ·obtain ⟨bl,off',A0,n0,c0,pr,e,hbl,f0,f1,HP⟩:=In.prev (hx.below hbb) hlt h0
      injection e with e
      injection e with e_1 e_2
      subst e_1 e_2
      have i0:(0:Int)<(k:Int):=by omega
      have i1:(0:Int)<=(k:Int)-1:=by omega
      have i2:(k:Int)-1<(n:Int):=by omega
      have i3:((k:Int)-1).toNat=k-1:=by omega
      have i5:(1:Int)<=(k:Int):=by omega
      have i6:(k:Int)<=(n:Int):=by omega
      have i4:IntKind.i64.wrap ((k:Int)-1)=(k:Int)-1:=IntWalk.i64_in _ (by omega)
      go_wp2_with fail
      go_region_held3 (λw'=>w'.cell? ⟨b,off+(k-1)*2,none⟩=some (.slice A0 n0 c0)/\w'.cell? ⟨wr.heap.size,0,none⟩=some (.slice A' n' c')) (first|exact ⟨f0,g0⟩|(have hq:=ag hb2;exact ⟨ah hq hbl f0,ah hq hsz g0⟩)) (first|(go_at_call 84;refine (jS _ A0 A' n0 n' c0 c' pr x.row (by exact f1) (by exact hin1)).mono ?_;rintro e w2 ⟨rfl,hb2⟩))
      have Em:=aa hbb (ag hb2)
      clear hb2 i4 i3 i2 i1
      by_cases hcmp:0<=aC pr x.row
      ·have he:Hid (14=aX bs):=hide (by rw[jR.out,HC.out,HP.out,if_neg hq1,if_pos ⟨h0,hcmp⟩])
       have hd:decide (0<=aC pr x.row)=true:=by simp;omega
       go_wp2
       all_goals (try (exfalso;go_light;simp_all;done))
       go_ret
       exact ⟨ak he.out,Em⟩
      ·have he:Hid (aj (dO bs) 0 bs=aj (dO bs) (k+1) (bs.drop (k+1))):=hide (by rw[HC.out,HP.out,if_neg hq1,if_neg (λh=>hcmp h.2)])
       have hd:decide (0<=aC pr x.row)=false:=by simp;omega
       go_wp2
       all_goals (try (exfalso;go_light;simp_all;done))
       go_roundw
       case rel=>exact ⟨k+1,by omega,by go_num,he.out,Em⟩
       case measure=>simp[intOf];omega
     ·have h0':k=0:=by omega
      have he:Hid (aj (dO bs) 0 bs=aj (dO bs) (k+1) (bs.drop (k+1))):=hide (by rw[HC.out,if_neg hq1,if_neg (λh=>h0 h.1)])
      subst h0'
      go_wp2
      go_quiet (fail)
      go_wp2
      go_roundw
      case rel=>exact ⟨0+1,by omega,by go_num,he.out,bY hbb⟩
      case measure=>simp[intOf];omega
    ·have he:Hid (8=aX bs):=hide (by rw[jR.out,HC.out,if_pos (by simpa using hq)])
     go_wp2
     go_ret
     exact ⟨ak he.out,hbb⟩
   ·have hz':(dw x==0)=false:=by simp[hz]
    have he:Hid (dw x=aX bs):=hide (by rw[jR.out,HE.out,HX.out];exact (aT (by rw[gQ,if_pos hz]) hz).symm)
    go_wp2
    all_goals (try (exfalso;go_light;simp_all;done))
    go_ret
    exact ⟨ak he.out,hbb⟩
  ·go_wp2
   go_ret
   exact ⟨ak (by rw[jR.out,HE.out,aP hx.len (by omega),aj]),hb⟩
theorem xJ (w:World)(A A':Option Addr)(n n' c c':Nat)(xs ys:List Val)(hx:In w A n c xs)(hy:In w A' n' c' ys):
  Calls Tryz.prog 79 #[.slice A n c,.slice A' n' c'] w λe w'=>e=.returned (.int .i64 (aC xs ys))/\Below w.heap.size w w':=by
 have h63:=hx.le
 have h63':=hy.le
 go_enter Tryz.func79,Tryz.ntmps79
 go_wp2
 go_loopw [5] (λi wr=> ∃k:Nat,k<=n/\k<=n'/\i=.int .i64 k/\aC xs ys=aC (xs.drop k) (ys.drop k)/\Below w.heap.size w wr) (λi _=>n-(intOf i).toNat)
 case atStart=>exact ⟨0,Nat.zero_le _,Nat.zero_le _,rfl,rfl,Below.refl _ _⟩
 case round=>
  obtain ⟨k,hk,hk',rfl,heq,hb⟩:=hrel
  have HE:=hide heq
  clear heq
  by_cases hlt:k<n
  ·by_cases hlt':k<n'
   ·obtain ⟨b,off,x,rfl,hB,HX,e0,e1,e2,e3⟩:=(hx.below hb).val hlt
    obtain ⟨b',off',y,rfl,hB',HY,f0,f1,f2,f3⟩:=(hy.below hb).val hlt'
    go_wp2_with fail
    go_region_held3 (λw'=>Below wr.heap.size wr w'/\w'.cell? ⟨b,off+k*3,none⟩=some (.int .i64 x.kind)/\w'.cell? ⟨b,off+k*3+1,none⟩=some (.int .i64 x.num)/\w'.cell? ⟨b,off+k*3+2,none⟩=some (.string x.str)/\w'.cell? ⟨b',off'+k*3,none⟩=some (.int .i64 y.kind)/\w'.cell? ⟨b',off'+k*3+1,none⟩=some (.int .i64 y.num)/\w'.cell? ⟨b',off'+k*3+2,none⟩=some (.string y.str)) (first|exact ⟨(Below.refl _ _).drew,e0,e1,e2,f0,f1,f2⟩|(have hq:=ag hb1;exact ⟨hq,ah hq hB e0,ah hq hB e1,ah hq hB e2,ah hq hB' f0,ah hq hB' f1,ah hq hB' f2⟩)) (first|(go_at_call 116;refine (dG x y _).mono ?_;rintro e w1 ⟨rfl,hb1⟩))
    have hbb:=aa hb (ag hb1)
    clear hb1 e0 e1 e2 f0 f1 f2
    by_cases hz:bf x y=0
    ·rw[hz]
     go_wp2
     go_roundw
     case rel=>exact ⟨k+1,by omega,by omega,by go_num,by rw[HE.out,HX.out,HY.out,aC,if_neg (by simp[hz])],hbb⟩
     case measure=>simp[intOf];omega
    ·have hz':(bf x y==0)=false:=by simp[hz]
     go_wp2
     go_ret
     exact ⟨ak (by rw[HE.out,HX.out,HY.out,aC,if_pos hz]),hbb⟩
   ·go_wp2_with (go_at_call 117;refine (rF _ _ _).mono ?_;rintro e w' ⟨rfl,rfl⟩)
    go_ret
    refine ⟨ak ?_,hb⟩
    have hy0:=aP hy.len (show n'<=k by omega)
    rw[HE.out,hy0]
    have:xs.drop k≠[]:=by intro h;have:=congrArg List.length h;rw[List.length_drop,hx.len]at this;simp at this;omega
    match h:xs.drop k with
    | []=>exact absurd h this
    | _ :: _=>rw[aC];simp[iO];omega
  ·have hkn:n<=k:=by omega
   go_wp2_with (go_at_call 117;refine (rF _ _ _).mono ?_;rintro e w' ⟨rfl,rfl⟩)
   go_ret
   refine ⟨ak ?_,hb⟩
   rw[HE.out,aP hx.len hkn]
   by_cases hlt':n<n'
   ·have:ys.drop k≠[]:=by intro h;have:=congrArg List.length h;rw[List.length_drop,hy.len]at this;simp at this;omega
    match h:ys.drop k with
    | []=>exact absurd h this
    | _ :: _=>rw[aC];simp[iO];omega
   ·rw[aP hy.len (by omega),aC]
    have:n=n':=by omega
    simp[iO,this]
theorem jZ (b:Bool)(w:World):Calls Tryz.prog 175 #[.bool b] w λe w'=>e=.returned (.agg (dM b).cells.toArray)/\Below w.heap.size w w':=by
 cases b
 all_goals
  go_enter Tryz.func175,Tryz.ntmps175
  go_wp2
 ·refine bodyPost_ret (v:=.agg (dM false).cells.toArray) (by simp[results,Tryz.results175,go_sem,Val.cells,dM]) rfl ⟨rfl,by exact af⟩
 ·refine bodyPost_ret (v:=.agg (dM true).cells.toArray) (by simp[results,Tryz.results175,go_sem,Val.cells,dM]) rfl ⟨rfl,by exact af⟩
theorem j3 (b:Bool)(w:World):Calls Tryz.prog 221 #[.bool b] w λe w'=>e=.returned (.agg (dM b).cells.toArray)/\Below w.heap.size w w':=by
 cases b
 all_goals
  go_enter Tryz.func221,Tryz.ntmps221
  go_wp2
 ·refine bodyPost_ret (v:=.agg (dM false).cells.toArray) (by simp[results,Tryz.results221,go_sem,Val.cells,dM]) rfl ⟨rfl,by exact af⟩
 ·refine bodyPost_ret (v:=.agg (dM true).cells.toArray) (by simp[results,Tryz.results221,go_sem,Val.cells,dM]) rfl ⟨rfl,by exact af⟩
theorem kE (n:Int)(ok:Bool)(w:World):Calls Tryz.prog 177 #[.int .i64 n,.bool ok] w λe w'=>e=.returned (.agg (ed n ok).cells.toArray)/\Below w.heap.size w w':=by
 cases ok
 all_goals
  go_enter Tryz.func177,Tryz.ntmps177
  go_wp2
 ·refine bodyPost_ret (v:=.agg (ed n false).cells.toArray) (by simp[results,Tryz.results177,go_sem,Val.cells,ed,aW]) rfl ⟨rfl,by exact af⟩
 ·refine bodyPost_ret (v:=.agg (ed n true).cells.toArray) (by simp[results,Tryz.results177,go_sem,Val.cells,ed]) rfl ⟨rfl,by exact af⟩
theorem kF (n:Int)(ok:Bool)(w:World):Calls Tryz.prog 222 #[.int .i64 n,.bool ok] w λe w'=>e=.returned (.agg (ed n ok).cells.toArray)/\Below w.heap.size w w':=by
 cases ok
 all_goals
  go_enter Tryz.func222,Tryz.ntmps222
  go_wp2
 ·refine bodyPost_ret (v:=.agg (ed n false).cells.toArray) (by simp[results,Tryz.results222,go_sem,Val.cells,ed,aW]) rfl ⟨rfl,by exact af⟩
 ·refine bodyPost_ret (v:=.agg (ed n true).cells.toArray) (by simp[results,Tryz.results222,go_sem,Val.cells,ed]) rfl ⟨rfl,by exact af⟩
theorem EG (n:Int)(w:World):Calls Tryz.prog 215 #[.int .i64 n] w λe w'=>e=.returned (.agg (lY n).cells.toArray)/\Below w.heap.size w w':=by
 by_cases h:n<0\/575999999<n
 ·have HM:Hid (lY n=aW):=hide (by rw[lY,if_pos h])
  rcases h with h|h
  all_goals
   go_enter Tryz.func215,Tryz.ntmps215
   go_wp2
   refine bodyPost_ret (v:=.agg aW.cells.toArray) (by simp[results,Tryz.results215,go_sem,Val.cells,aW]) rfl ⟨by rw[HM.out],by exact af⟩
 ·have HM:Hid (lY n=⟨4,n,⟨#[]⟩⟩):=hide (by rw[lY,if_neg h])
  have h1:0<=n:=by omega
  have h2:n<=575999999:=by omega
  clear h
  go_enter Tryz.func215,Tryz.ntmps215
  go_wp2
  refine bodyPost_ret (v:=.agg (Val.cells ⟨4,n,⟨#[]⟩⟩).toArray) (by simp[results,Tryz.results215,go_sem,Val.cells]) rfl ⟨by rw[HM.out],by exact af⟩
theorem EH (n:Int)(w:World):Calls Tryz.prog 243 #[.int .i64 n] w λe w'=>e=.returned (.agg (lY n).cells.toArray)/\Below w.heap.size w w':=by
 by_cases h:n<0\/575999999<n
 ·have HM:Hid (lY n=aW):=hide (by rw[lY,if_pos h])
  rcases h with h|h
  all_goals
   go_enter Tryz.func243,Tryz.ntmps243
   go_wp2
   refine bodyPost_ret (v:=.agg aW.cells.toArray) (by simp[results,Tryz.results243,go_sem,Val.cells,aW]) rfl ⟨by rw[HM.out],by exact af⟩
 ·have HM:Hid (lY n=⟨4,n,⟨#[]⟩⟩):=hide (by rw[lY,if_neg h])
  have h1:0<=n:=by omega
  have h2:n<=575999999:=by omega
  clear h
  go_enter Tryz.func243,Tryz.ntmps243
  go_wp2
  refine bodyPost_ret (v:=.agg (Val.cells ⟨4,n,⟨#[]⟩⟩).toArray) (by simp[results,Tryz.results243,go_sem,Val.cells]) rfl ⟨by rw[HM.out],by exact af⟩
theorem Ip {a b:Int}(ha:az a)(h0:b≠0): -1073741824<=a.tdiv b/\a.tdiv b<=1073741824:=by
 have h:(a.tdiv b).natAbs<=a.natAbs:=by
  rw[Int.natAbs_tdiv]
  exact Nat.div_le_self _ _
 unfold az at ha
 omega
theorem Iq {a b:Int}(hb:az b)(h0:b≠0):(a.tmod b).natAbs<b.natAbs:=by
 rw[Int.natAbs_tmod]
 exact Nat.mod_lt _ (by omega)
theorem qN {a b:Int}(h0:b≠0):
  (a.tmod b≠0/\(decide (a.tmod b<0) != decide (b<0))=true->a.fdiv b=a.tdiv b-1/\a.fmod b=a.tmod b+b)/\
  (¬(a.tmod b≠0/\(decide (a.tmod b<0) != decide (b<0))=true)->a.fdiv b=a.tdiv b/\a.fmod b=a.tmod b):=by
 have h1:=Int.tmod_add_mul_tdiv a b
 have h2:(a.tmod b).natAbs<b.natAbs:=by rw[Int.natAbs_tmod];exact Nat.mod_lt _ (by omega)
 generalize a.tmod b=r at*
 generalize a.tdiv b=q at*
 have e:b*(q-1)=b*q-b:=by rw[Int.mul_sub,Int.mul_one]
 constructor
 ·rintro ⟨hr,hs⟩
  rcases Int.lt_or_gt_of_ne h0 with hb|hb
  ·have:¬r<0:=by intro q;simp[q,hb]at hs
   exact (Int.fdiv_fmod_unique' hb).2 ⟨by rw[e];omega,by omega,by omega⟩
  ·have:r<0:=by
    by_cases q:r<0
    ·exact q
    ·exfalso;simp[q,show ¬b<0 by omega]at hs
   exact (Int.fdiv_fmod_unique (by omega)).2 ⟨by rw[e];omega,by omega,by omega⟩
 ·intro hn
  rcases Int.lt_or_gt_of_ne h0 with hb|hb
  ·have:r<=0:=by
    by_cases q:r<=0
    ·exact q
    ·exact absurd ⟨by omega,by simp[hb];omega⟩ hn
   exact (Int.fdiv_fmod_unique' hb).2 ⟨h1,by omega,by omega⟩
  ·have:0<=r:=by
    by_cases q:0<=r
    ·exact q
    ·exact absurd ⟨by omega,by simp[show ¬b<0 by omega];omega⟩ hn
   exact (Int.fdiv_fmod_unique (by omega)).2 ⟨h1,by omega,by omega⟩
theorem vP (a:Int):lU a 0=(0,false)/\mi a 0=(0,false):=by simp[lU,mi]
theorem Co {a b:Int}(ha:az a)(hb:az b)(h0:b≠0):lU a b=(a.fdiv b,true)/\mi a b=(a.fmod b,true):=by simp[lU,mi,dD ha,dD hb,h0]
theorem yN (a b:Int)(ha:az a)(hb:az b)(w:World):Calls Tryz.prog 239 #[.int .i64 a,.int .i64 b] w λe w'=>e=.returned (.tuple #[.int .i64 (lU a b).1,.int .i64 (mi a b).1,.bool (lU a b).2])/\Below w.heap.size w w':=by
 have s1:=dD ha
 have s2:=dD hb
 by_cases h0:b=0
 ·subst h0
  have HD:=hide (vP a)
  clear ha hb
  go_enter Tryz.func239,Tryz.ntmps239
  go_wp2_with (go_at_call 146;refine (eX _ _).mono ?_;rintro e w' ⟨rfl,rfl⟩)
  go_ret3
  exact ⟨by rw[HD.out.1,HD.out.2] <;> rfl,Below.refl _ _⟩
 ·have HD:=hide (Co ha hb h0)
  have HF:=hide (qN (a:=a) h0)
  have q0:(b==0)=false:=by simpa using h0
  have hd:=Ip ha h0
  have hm:=Iq (a:=a) hb h0
  have hb':b.natAbs<=1073741824:=by unfold az at hb;omega
  have hw0:IntKind.i64.wrap (a.tdiv b)=a.tdiv b:=IntWalk.i64_in _ (by omega)
  have hw1:IntKind.i64.wrap (a.tdiv b-1)=a.tdiv b-1:=IntWalk.i64_in _ (by omega)
  have hw2:IntKind.i64.wrap (a.tmod b+b)=a.tmod b+b:=IntWalk.i64_in _ (by omega)
  have hw3:IntKind.i64.wrap (a.tmod b)=a.tmod b:=IntWalk.i64_in _ (by omega)
  by_cases h2:a.tmod b=0
  ·have h2':(a.tmod b != 0)=false:=by simpa using h2
   have HR:=hide (HF.out.2 (λh=>h.1 h2))
   go_enter Tryz.func239,Tryz.ntmps239
   go_wp2_with (go_at_call 146;refine (eX _ _).mono ?_;rintro e w' ⟨rfl,rfl⟩)
   all_goals (try go_quiet (fail))
   go_wp2
   go_ret3
   exact ⟨by rw[HD.out.1,HD.out.2,HR.out.1,HR.out.2,h2] <;> rfl,below_drewN (Below.refl _ _) _⟩
  ·have h2':(a.tmod b != 0)=true:=by simpa using h2
   by_cases h4:a.tmod b<0
   ·by_cases h5:b<0
    ·have HR:=hide (HF.out.2 (λh=>by have:=h.2;simp[h4,h5]at this))
     have d4:decide (a.tmod b<0)=true:=by simp[h4]
     have d5:decide (b<0)=true:=by simp[h5]
     go_enter Tryz.func239,Tryz.ntmps239
     go_wp2_with (go_at_call 146;refine (eX _ _).mono ?_;rintro e w' ⟨rfl,rfl⟩)
     all_goals (try go_quiet (fail))
     go_wp2
     go_ret3
     exact ⟨by rw[HD.out.1,HD.out.2,HR.out.1,HR.out.2] <;> rfl,below_drewN (Below.refl _ _) _⟩
    ·have HR:=hide (HF.out.1 ⟨h2,by simp[h4,h5]⟩)
     have d4:decide (a.tmod b<0)=true:=by simp[h4]
     have d5:decide (b<0)=false:=by simp[h5]
     go_enter Tryz.func239,Tryz.ntmps239
     go_wp2_with (go_at_call 146;refine (eX _ _).mono ?_;rintro e w' ⟨rfl,rfl⟩)
     all_goals (try go_quiet (fail))
     go_wp2
     go_ret3
     exact ⟨by rw[HD.out.1,HD.out.2,HR.out.1,HR.out.2] <;> rfl,below_drewN (Below.refl _ _) _⟩
   ·by_cases h5:b<0
    ·have HR:=hide (HF.out.1 ⟨h2,by simp[h4,h5]⟩)
     have d4:decide (a.tmod b<0)=false:=by simp[h4]
     have d5:decide (b<0)=true:=by simp[h5]
     go_enter Tryz.func239,Tryz.ntmps239
     go_wp2_with (go_at_call 146;refine (eX _ _).mono ?_;rintro e w' ⟨rfl,rfl⟩)
     all_goals (try go_quiet (fail))
     go_wp2
     go_ret3
     exact ⟨by rw[HD.out.1,HD.out.2,HR.out.1,HR.out.2] <;> rfl,below_drewN (Below.refl _ _) _⟩
    ·have HR:=hide (HF.out.2 (λh=>by have:=h.2;simp[h4,h5]at this))
     have d4:decide (a.tmod b<0)=false:=by simp[h4]
     have d5:decide (b<0)=false:=by simp[h5]
     go_enter Tryz.func239,Tryz.ntmps239
     go_wp2_with (go_at_call 146;refine (eX _ _).mono ?_;rintro e w' ⟨rfl,rfl⟩)
     all_goals (try go_quiet (fail))
     go_wp2
     go_ret3
     exact ⟨by rw[HD.out.1,HD.out.2,HR.out.1,HR.out.2] <;> rfl,below_drewN (Below.refl _ _) _⟩
theorem Lp (a b:Int):(lU a b).2=(mi a b).2:=by
 rw[lU,mi];split <;> rfl
theorem Ot (a b:Int)(ha:az a)(hb:az b)(w:World):Calls Tryz.prog 218 #[.int .i64 a,.int .i64 b] w λe w'=>e=.returned (.tuple #[.int .i64 (lU a b).1,.bool (lU a b).2])/\Below w.heap.size w w':=by
 go_enter Tryz.func218,Tryz.ntmps218
 go_wp2_with fail
 refine (yN a b ha hb _).mono ?_
 rintro e w1 ⟨rfl,hb1⟩
 go_wp2
 go_ret2
 exact ⟨rfl,hb1⟩
theorem Pe (a b:Int)(ha:az a)(hb:az b)(w:World):Calls Tryz.prog 219 #[.int .i64 a,.int .i64 b] w λe w'=>e=.returned (.tuple #[.int .i64 (mi a b).1,.bool (mi a b).2])/\Below w.heap.size w w':=by
 rw[<-Lp]
 go_enter Tryz.func219,Tryz.ntmps219
 go_wp2_with fail
 refine (yN a b ha hb _).mono ?_
 rintro e w1 ⟨rfl,hb1⟩
 go_wp2
 go_ret2
 exact ⟨rfl,hb1⟩
theorem yR (a b:Int)(ha:az a)(hb:az b)(h0:0<b)(w:World):Calls Tryz.prog 255 #[.int .i64 a,.int .i64 b] w λe w'=>e=.returned (.int .i64 (a.fdiv b))/\w=w':=by
 have hne:b≠0:=by omega
 have HF:=hide (qN (a:=a) hne)
 have q0:(b==0)=false:=by simpa using hne
 have hd:=Ip ha hne
 have hm:=Iq (a:=a) hb hne
 have hw0:IntKind.i64.wrap (a.tdiv b)=a.tdiv b:=IntWalk.i64_in _ (by omega)
 have hw1:IntKind.i64.wrap (a.tdiv b-1)=a.tdiv b-1:=IntWalk.i64_in _ (by omega)
 have hw3:IntKind.i64.wrap (a.tmod b)=a.tmod b:=IntWalk.i64_in _ (by unfold az at hb;omega)
 by_cases h1:a.tmod b<0
 ·have HR:=hide (HF.out.1 ⟨by omega,by simp[h1,show ¬b<0 by omega]⟩)
  go_enter Tryz.func255,Tryz.ntmps255
  go_wp2
  go_ret
  exact ⟨ak (by rw[HR.out.1] <;> rfl),rfl⟩
 ·have HR:=hide (HF.out.2 (by rintro ⟨_,h⟩;simp[h1,show ¬b<0 by omega]at h))
  go_enter Tryz.func255,Tryz.ntmps255
  go_wp2
  go_ret
  exact ⟨ak (by rw[HR.out.1] <;> rfl),rfl⟩
theorem Cq (a b:Int)(ha:az a)(hb:az b)(w:World):Calls Tryz.prog 246 #[.int .i64 a,.int .i64 b] w λe w'=>e=.returned (.tuple #[.int .i64 (lU a b).1,.bool (lU a b).2])/\w=w':=by
 have s1:=dD ha
 have s2:=dD hb
 by_cases h0:b=0
 ·subst h0
  have HD:=hide (vP a)
  go_enter Tryz.func246,Tryz.ntmps246
  go_wp2_with (go_at_call 151;refine (iW _ _).mono ?_;rintro e w' ⟨rfl,rfl⟩)
  go_ret2
  exact ⟨by rw[HD.out.1] <;> rfl,rfl⟩
 ·have HD:=hide (Co ha hb h0)
  have q0:(b==0)=false:=by simpa using h0
  have n1:IntKind.i64.wrap (-a)= -a:=IntWalk.i64_in _ (by unfold az at ha;omega)
  have n2:IntKind.i64.wrap (-b)= -b:=IntWalk.i64_in _ (by unfold az at hb;omega)
  by_cases h1:b<0
  ·go_enter Tryz.func246,Tryz.ntmps246
   go_wp2_with (first|(go_at_call 151;refine (iW _ _).mono ?_;rintro e w' ⟨rfl,rfl⟩)|(go_at_call 255;(try rw[n1]);(try rw[n2]);refine (yR (-a) (-b) (by unfold az at*;omega) (by unfold az at*;omega) (by omega) _).mono ?_;rintro e w' ⟨rfl,rfl⟩))
   go_ret2
   exact ⟨by rw[HD.out.1] <;> rfl,rfl⟩
  ·go_enter Tryz.func246,Tryz.ntmps246
   go_wp2_with (first|(go_at_call 151;refine (iW _ _).mono ?_;rintro e w' ⟨rfl,rfl⟩)|(go_at_call 255;refine (yR a b ha hb (by omega) _).mono ?_;rintro e w' ⟨rfl,rfl⟩))
   go_ret2
   exact ⟨by rw[HD.out.1] <;> rfl,rfl⟩
theorem Pf (a b:Int)(ha:az a)(hb:az b)(w:World):Calls Tryz.prog 247 #[.int .i64 a,.int .i64 b] w λe w'=>e=.returned (.tuple #[.int .i64 (mi a b).1,.bool (mi a b).2])/\w=w':=by
 by_cases h0:b=0
 ·subst h0
  have HD:=hide (vP a)
  go_enter Tryz.func247,Tryz.ntmps247
  go_wp2_with (go_at_call 246;refine (Cq a 0 ha hb _).mono ?_;rintro e w' ⟨rfl,rfl⟩;rw[HD.out.1])
  go_ret2
  exact ⟨by rw[HD.out.2] <;> rfl,rfl⟩
 ·have HD:=hide (Co ha hb h0)
  have e1:=Int.fmod_add_mul_fdiv a b
  have hm:a.fmod b=a-b*a.fdiv b:=by omega
  have HM:=hide hm
  have hq:=Int.natAbs_fdiv_le_natAbs a b
  have hq2:az (a.fdiv b):=by unfold az at*;omega
  have Nn:=Gs hb hq2
  have n1:IntKind.i64.wrap (b*a.fdiv b)=b*a.fdiv b:=IntWalk.i64_in _ (by omega)
  have n2:IntKind.i64.wrap (a-b*a.fdiv b)=a-b*a.fdiv b:=IntWalk.i64_in _ (by unfold az at ha;omega)
  clear e1 hm hq hq2
  go_enter Tryz.func247,Tryz.ntmps247
  go_wp2_with (go_at_call 246;refine (Cq a b ha hb _).mono ?_;rintro e w' ⟨rfl,rfl⟩;rw[HD.out.1])
  go_ret2
  exact ⟨by rw[HD.out.2,HM.out] <;> rfl,rfl⟩
theorem ME {α:Type}{xs:List α}{k:Nat}{P:α->Prop}{x:α}{l:List α}(h:xs.drop k=x :: l)(h1: ∀y∈xs.take k,P y)(h2:P x): ∀y∈xs.take (k+1),P y:=by
 have hk:k<xs.length:=by
  by_cases q:k<xs.length
  ·exact q
  ·rw[List.drop_eq_nil_of_le (by omega)]at h;cases h
 have hx:xs[k]=x:=by
  have:=List.drop_eq_getElem_cons hk
  rw[h]at this
  injection this with this
  exact this.symm
 intro y hy
 rw[List.take_succ_eq_append_getElem hk]at hy
 rcases List.mem_append.1 hy with hy|hy
 ·exact h1 y hy
 ·rw[hx]at hy;simp at hy;subst hy;exact h2
def tC (e:Ending)(P:Prop):Prop:= ∃r,e=.returned (.bool r)/\(r=true->P)
theorem zX (w:World)(A:Option Addr)(n c:Nat)(xs:List Ent)(hx:In w A n c xs)(m:Int):
  Calls Tryz.prog 35 #[.slice A n c,.int .i64 m] w λe w'=>tC e ((n:Int)<=m/\ ∀x∈xs,x.row.length<=20)/\Below w.heap.size w w':=by
 have h63:=hx.le
 have HX0:=hide hx
 by_cases hm:m<(n:Int)
 ·go_enter Tryz.func35,Tryz.ntmps35
  go_wp2
  go_ret
  exact ⟨⟨false,rfl,λh=>by cases h⟩,Below.refl _ _⟩
 go_enter Tryz.func35,Tryz.ntmps35
 go_wp2
 go_loop [5] (λi=> ∃k:Nat,k<=n/\i=.int .i64 k/\ ∀x∈xs.take k,x.row.length<=20) (λi=>n-(RowKit.intOf i).toNat)
 case atStart=>exact ⟨0,Nat.zero_le _,rfl,by simp⟩
 case round=>
  obtain ⟨k,hk,rfl,hall⟩:=hrel
  have HA:=hide hall
  clear hall
  by_cases hlt:k<n
  ·obtain ⟨b,off,x,rfl,hBb,HX,Ax,An,Ac,e0,e1,e2,e3⟩:=HX0.out.ent hlt
   have k0:(0:Int)<=(k:Int):=by omega
   have k1:(k:Int)<(n:Int):=by omega
   have HE:=hide e2
   have hle:=e2.le
   have hln:=e2.len
   clear e2
   by_cases hs:(20:Int)<(An:Int)
   ·go_wp2
    go_ret
    exact ⟨⟨false,rfl,λh=>by cases h⟩,Below.refl _ _⟩
   have HA2:=hide (ME HX.out HA.out (by omega:x.row.length<=20))
   clear hln
   go_wp2
   go_loop [6] (λi=> ∃q:Nat,q<=An/\i=.int .i64 q) (λi=>An-(RowKit.intOf i).toNat)
   case atStart=>exact ⟨0,Nat.zero_le _,rfl⟩
   case round=>
    obtain ⟨q,hq,rfl⟩:=hrel
    by_cases hlt2:q<An
    ·obtain ⟨b2,JE,y,rfl,Jj,HY,f0,f1,f2,f3⟩:=HE.out.val hlt2
     have q0:(0:Int)<=(q:Int):=by omega
     have q1:(q:Int)<(An:Int):=by omega
     by_cases hs2:(200:Int)<(y.str.size:Int)
     ·go_wp2
      go_ret
      exact ⟨⟨false,rfl,λh=>by cases h⟩,Below.refl _ _⟩
     go_wp2
     go_round
     case rel=>exact ⟨q+1,by omega,by go_num⟩
     case measure=>simp[RowKit.intOf];omega
    ·go_wp2
     go_round
     case rel=>exact ⟨k+1,by omega,by go_num,HA2.out⟩
     case measure=>simp[RowKit.intOf];omega
  ·have HF:Hid (∀x∈xs,x.row.length<=20):=hide (by
    have:=HA.out
    rw[List.take_of_length_le (by rw[HX0.out.len];omega)]at this
    exact this)
   go_wp2
   go_ret
   exact ⟨⟨true,rfl,λ_=>by first|exact ⟨by omega,HF.out⟩|exact HF.out⟩,Below.refl _ _⟩
end Go.Proofs.YtggejcekmehocaaGreatDoor
