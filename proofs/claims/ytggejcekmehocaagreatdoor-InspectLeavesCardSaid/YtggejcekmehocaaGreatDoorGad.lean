/-
  schema.IsName and warehouseref5.IsName. schema.Index (slices.IndexFunc over columns) and warehouseref5.Index. schema.Validate and warehouseref5.Validate. Package warehouseref1: Valid, Compare, CompareRows. Package value: Valid, Compare, CompareRows; package cmp's Or and Compare. expr.Arity and warehouseref8.Arity: both return arity. warehousebase: At, Moment, Value, Cell, Row: what they build is well-formed. warehousebase: Cell and Row: they fit their columns. schema.CheckRow and warehouseref5.CheckRow. warehousebase.Row: the row fits the columns and lies in a new block. Checked arithmetic: package exact's and the reference's, at integers from -2^30 to 2^30 (larger ones never come in); truth values. Package warehouseref1: CompareRows. bag.formed and warehouseref6.fits. slices.CompareFunc over values, value.CompareRows. bag.Validate, bag.IsTable; warehouseref6.Validate, positive, IsTable. Values of conditions, numbers and moments: scalar.boolean, number, moment and the reference's truth, number, moment. Division: exact.divide, Divide, Modulo and the reference's, at integers from -2^30 to 2^30. warehouseref1.SameRow, warehouseref6.Count.
-/
import Derived.Test.YtggejcekmehocaaGreatDoorProg
import Derived.Test.YtggejcekmehocaaGreatDoorGac
import Derived.Test.YtggejcekmehocaaGreatDoorGaa
namespace Go.Proofs.YtggejcekmehocaaGreatDoor
set_option maxHeartbeats 2000000
set_option maxRecDepth 100000
open Go.RowKit
set_option linter.unusedSimpArgs false
set_option linter.unusedVariables false
theorem byteAt_eq (s:ByteArray)(i:Nat)(h:i<s.size):byteAt s i=(s[i]'h).toNat:=by
 have h':i<s.data.toList.length:=by simpa using h
 have:s.data.toList.getD i 0=s[i]'h:=by rw[List.getD,List.getElem?_eq_getElem h'];rfl
 rw[byteAt,this]
theorem next_rune (P:Program)(w:World)(s:ByteArray)(pos:Nat)(h:pos<s.size):
  ∃c wd:Nat,(∀ty,(Instr.next (.pointer (some ⟨w.heap.size,0,none⟩)) true ty).run P (w.iter s pos)=.ok (.tuple #[.bool true,.int .i64 pos,.int .i32 (c:Int)]) (w.iter s (pos+wd)))/\
   (c<128->c=byteAt s pos/\wd=1)/\(128<=c->128<=byteAt s pos)/\c<=2147483647:=by
 refine ⟨_,_,λty=>run_next_any w s pos ty h,λhc=>?_,λhc=>?_,decode_le s pos⟩
 ·by_cases ha:(s[pos]'h).toNat<128
  ·rw[decode_ascii s pos h ha,byteAt_eq s pos h]
   exact ⟨rfl,rfl⟩
  ·have:=(decode_high s pos h (by omega)).1
   omega
 ·by_cases ha:(s[pos]'h).toNat<128
  ·rw[decode_ascii s pos h ha]at hc
   have:128<=(s[pos]'h).toNat:=hc
   omega
  ·rw[byteAt_eq s pos h]
   omega
theorem nameFrom_step (s:ByteArray)(i:Nat)(h:i<s.size):nameFrom s (s.size-i) i=(nameOk (byteAt s i) i&&nameFrom s (s.size-(i+1)) (i+1)):=by
 rw[show s.size-i=(s.size-(i+1))+1 from by omega,nameFrom]
theorem nameFrom_bad (s:ByteArray)(i:Nat)(h:i<s.size)(hb:nameOk (byteAt s i) i=false):nameFrom s (s.size-i) i=false:=by
 rw[nameFrom_step s i h,hb];rfl
theorem nameFrom_good (s:ByteArray)(i:Nat)(h:i<s.size)(hb:nameOk (byteAt s i) i=true):nameFrom s (s.size-i) i=nameFrom s (s.size-(i+1)) (i+1):=by
 rw[nameFrom_step s i h,hb];rfl
theorem nameOk_high (c i:Nat)(h:128<=c):nameOk c i=false:=by
 have h1:¬c<=122:=by omega
 have h2:¬c=95:=by omega
 have h3:¬c<=57:=by omega
 simp[nameOk,h1,h2,h3]
theorem nameOk_iff (c i:Nat):nameOk c i=true↔(97<=c/\c<=122)\/(0<i/\(c=95\/(48<=c/\c<=57))):=by simp only[nameOk,Bool.or_eq_true,Bool.and_eq_true,decide_eq_true_eq]
theorem nonempty_iff (s:ByteArray):(!s.toList.isEmpty)=decide (0<s.size):=by
 rw[ByteArray.toList_eq]
 have:s.size=s.data.toList.length:=rfl
 rw[this]
 cases s.data.toList <;> simp
theorem isName_any (s:ByteArray)(hs:Str s)(w:World):
  Calls Tryz.prog 166 #[.string s] w λe w'=>e=.returned (.bool (isName s))/\Below w.heap.size w w':=by
 unfold Str at hs
 go_enter Tryz.func166,Tryz.ntmps166
 by_cases hl:s.size<=24
 ·go_wp2
  go_loopw [3] (λ_ wr=> ∃pos:Nat,pos<=s.size/\wr=w.iter s pos/\nameFrom s s.size 0=nameFrom s (s.size-pos) pos) (λ_ wr=>s.size-wr.iterPos w.heap.size)
  case atStart=>exact ⟨0,by omega,rfl,rfl⟩
  case round=>
   obtain ⟨pos,hpos,rfl,heq⟩:=hrel
   have HE:=hide heq
   clear heq
   by_cases hp:pos<s.size
   ·obtain ⟨c,wd,hnx,h1,h2,h3⟩:=next_rune Tryz.prog w s pos hp
    have H1:=hide h1
    clear h1
    cases hA:decide ((97:Int)<=(c:Int))
    ·cases hC:((pos:Int)==0)
     ·cases hD:((c:Int)==95)
      ·cases hE:decide ((c:Int)<48)
       ·cases hF:decide ((57:Int)<(c:Int))
        ·go_wp2
         all_goals (try (exfalso;go_light;(try simp only[decide_eq_true_eq,decide_eq_false_iff_not,beq_iff_eq,beq_eq_false_iff_ne,ne_eq,Bool.not_eq_true',Bool.not_eq_false']at*);omega))
         all_goals
          go_roundw
          case rel=>
           go_light
           (try simp only[decide_eq_true_eq,decide_eq_false_iff_not,beq_iff_eq,beq_eq_false_iff_ne,ne_eq]at*)
           obtain ⟨e1,rfl⟩:=H1.out (by omega)
           refine ⟨pos+1,by omega,rfl,?_⟩
           rw[HE.out]
           exact nameFrom_good s pos hp (by rw[<-e1];exact (nameOk_iff c pos).2 (by omega))
          case measure=>
           go_light
           (try simp only[decide_eq_true_eq,decide_eq_false_iff_not,beq_iff_eq,beq_eq_false_iff_ne,ne_eq]at*)
           obtain ⟨e1,rfl⟩:=H1.out (by omega)
           simp
           omega
        ·go_wp2
         all_goals (try (exfalso;go_light;(try simp only[decide_eq_true_eq,decide_eq_false_iff_not,beq_iff_eq,beq_eq_false_iff_ne,ne_eq,Bool.not_eq_true',Bool.not_eq_false']at*);omega))
         all_goals
          go_ret
          refine ⟨ret_bool ?_,below_alloc⟩
          go_light
          have hbad:nameOk (byteAt s pos) pos=false:=by
           by_cases hc:c<128
           ·rw[<-(H1.out hc).1]
            refine Bool.eq_false_iff.2 λh=>?_
            have h':=(nameOk_iff c pos).1 h
            (try simp only[decide_eq_true_eq,decide_eq_false_iff_not,beq_iff_eq,beq_eq_false_iff_ne,ne_eq]at*) <;> omega
           ·exact nameOk_high _ _ (h2 (by omega))
          rw[isName,HE.out,nameFrom_bad s pos hp hbad]
          simp
       ·go_wp2
        all_goals (try (exfalso;go_light;(try simp only[decide_eq_true_eq,decide_eq_false_iff_not,beq_iff_eq,beq_eq_false_iff_ne,ne_eq,Bool.not_eq_true',Bool.not_eq_false']at*);omega))
        all_goals
         go_ret
         refine ⟨ret_bool ?_,below_alloc⟩
         go_light
         have hbad:nameOk (byteAt s pos) pos=false:=by
          by_cases hc:c<128
          ·rw[<-(H1.out hc).1]
           refine Bool.eq_false_iff.2 λh=>?_
           have h':=(nameOk_iff c pos).1 h
           (try simp only[decide_eq_true_eq,decide_eq_false_iff_not,beq_iff_eq,beq_eq_false_iff_ne,ne_eq]at*) <;> omega
          ·exact nameOk_high _ _ (h2 (by omega))
         rw[isName,HE.out,nameFrom_bad s pos hp hbad]
         simp
      ·go_wp2
       all_goals (try (exfalso;go_light;(try simp only[decide_eq_true_eq,decide_eq_false_iff_not,beq_iff_eq,beq_eq_false_iff_ne,ne_eq,Bool.not_eq_true',Bool.not_eq_false']at*);omega))
       all_goals
        go_roundw
        case rel=>
         go_light
         (try simp only[decide_eq_true_eq,decide_eq_false_iff_not,beq_iff_eq,beq_eq_false_iff_ne,ne_eq]at*)
         obtain ⟨e1,rfl⟩:=H1.out (by omega)
         refine ⟨pos+1,by omega,rfl,?_⟩
         rw[HE.out]
         exact nameFrom_good s pos hp (by rw[<-e1];exact (nameOk_iff c pos).2 (by omega))
        case measure=>
         go_light
         (try simp only[decide_eq_true_eq,decide_eq_false_iff_not,beq_iff_eq,beq_eq_false_iff_ne,ne_eq]at*)
         obtain ⟨e1,rfl⟩:=H1.out (by omega)
         simp
         omega
     ·go_wp2
      all_goals (try (exfalso;go_light;(try simp only[decide_eq_true_eq,decide_eq_false_iff_not,beq_iff_eq,beq_eq_false_iff_ne,ne_eq,Bool.not_eq_true',Bool.not_eq_false']at*);omega))
      all_goals
       go_ret
       refine ⟨ret_bool ?_,below_alloc⟩
       go_light
       have hbad:nameOk (byteAt s pos) pos=false:=by
        by_cases hc:c<128
        ·rw[<-(H1.out hc).1]
         refine Bool.eq_false_iff.2 λh=>?_
         have h':=(nameOk_iff c pos).1 h
         (try simp only[decide_eq_true_eq,decide_eq_false_iff_not,beq_iff_eq,beq_eq_false_iff_ne,ne_eq]at*) <;> omega
        ·exact nameOk_high _ _ (h2 (by omega))
       rw[isName,HE.out,nameFrom_bad s pos hp hbad]
       simp
    ·cases hB:decide ((c:Int)<=122)
     ·cases hC:((pos:Int)==0)
      ·cases hD:((c:Int)==95)
       ·cases hE:decide ((c:Int)<48)
        ·cases hF:decide ((57:Int)<(c:Int))
         ·go_wp2
          all_goals (try (exfalso;go_light;(try simp only[decide_eq_true_eq,decide_eq_false_iff_not,beq_iff_eq,beq_eq_false_iff_ne,ne_eq,Bool.not_eq_true',Bool.not_eq_false']at*);omega))
          all_goals
           go_roundw
           case rel=>
            go_light
            (try simp only[decide_eq_true_eq,decide_eq_false_iff_not,beq_iff_eq,beq_eq_false_iff_ne,ne_eq]at*)
            obtain ⟨e1,rfl⟩:=H1.out (by omega)
            refine ⟨pos+1,by omega,rfl,?_⟩
            rw[HE.out]
            exact nameFrom_good s pos hp (by rw[<-e1];exact (nameOk_iff c pos).2 (by omega))
           case measure=>
            go_light
            (try simp only[decide_eq_true_eq,decide_eq_false_iff_not,beq_iff_eq,beq_eq_false_iff_ne,ne_eq]at*)
            obtain ⟨e1,rfl⟩:=H1.out (by omega)
            simp
            omega
         ·go_wp2
          all_goals (try (exfalso;go_light;(try simp only[decide_eq_true_eq,decide_eq_false_iff_not,beq_iff_eq,beq_eq_false_iff_ne,ne_eq,Bool.not_eq_true',Bool.not_eq_false']at*);omega))
          all_goals
           go_ret
           refine ⟨ret_bool ?_,below_alloc⟩
           go_light
           have hbad:nameOk (byteAt s pos) pos=false:=by
            by_cases hc:c<128
            ·rw[<-(H1.out hc).1]
             refine Bool.eq_false_iff.2 λh=>?_
             have h':=(nameOk_iff c pos).1 h
             (try simp only[decide_eq_true_eq,decide_eq_false_iff_not,beq_iff_eq,beq_eq_false_iff_ne,ne_eq]at*) <;> omega
            ·exact nameOk_high _ _ (h2 (by omega))
           rw[isName,HE.out,nameFrom_bad s pos hp hbad]
           simp
        ·go_wp2
         all_goals (try (exfalso;go_light;(try simp only[decide_eq_true_eq,decide_eq_false_iff_not,beq_iff_eq,beq_eq_false_iff_ne,ne_eq,Bool.not_eq_true',Bool.not_eq_false']at*);omega))
         all_goals
          go_ret
          refine ⟨ret_bool ?_,below_alloc⟩
          go_light
          have hbad:nameOk (byteAt s pos) pos=false:=by
           by_cases hc:c<128
           ·rw[<-(H1.out hc).1]
            refine Bool.eq_false_iff.2 λh=>?_
            have h':=(nameOk_iff c pos).1 h
            (try simp only[decide_eq_true_eq,decide_eq_false_iff_not,beq_iff_eq,beq_eq_false_iff_ne,ne_eq]at*) <;> omega
           ·exact nameOk_high _ _ (h2 (by omega))
          rw[isName,HE.out,nameFrom_bad s pos hp hbad]
          simp
       ·go_wp2
        all_goals (try (exfalso;go_light;(try simp only[decide_eq_true_eq,decide_eq_false_iff_not,beq_iff_eq,beq_eq_false_iff_ne,ne_eq,Bool.not_eq_true',Bool.not_eq_false']at*);omega))
        all_goals
         go_roundw
         case rel=>
          go_light
          (try simp only[decide_eq_true_eq,decide_eq_false_iff_not,beq_iff_eq,beq_eq_false_iff_ne,ne_eq]at*)
          obtain ⟨e1,rfl⟩:=H1.out (by omega)
          refine ⟨pos+1,by omega,rfl,?_⟩
          rw[HE.out]
          exact nameFrom_good s pos hp (by rw[<-e1];exact (nameOk_iff c pos).2 (by omega))
         case measure=>
          go_light
          (try simp only[decide_eq_true_eq,decide_eq_false_iff_not,beq_iff_eq,beq_eq_false_iff_ne,ne_eq]at*)
          obtain ⟨e1,rfl⟩:=H1.out (by omega)
          simp
          omega
      ·go_wp2
       all_goals (try (exfalso;go_light;(try simp only[decide_eq_true_eq,decide_eq_false_iff_not,beq_iff_eq,beq_eq_false_iff_ne,ne_eq,Bool.not_eq_true',Bool.not_eq_false']at*);omega))
       all_goals
        go_ret
        refine ⟨ret_bool ?_,below_alloc⟩
        go_light
        have hbad:nameOk (byteAt s pos) pos=false:=by
         by_cases hc:c<128
         ·rw[<-(H1.out hc).1]
          refine Bool.eq_false_iff.2 λh=>?_
          have h':=(nameOk_iff c pos).1 h
          (try simp only[decide_eq_true_eq,decide_eq_false_iff_not,beq_iff_eq,beq_eq_false_iff_ne,ne_eq]at*) <;> omega
         ·exact nameOk_high _ _ (h2 (by omega))
        rw[isName,HE.out,nameFrom_bad s pos hp hbad]
        simp
     ·go_wp2
      all_goals (try (exfalso;go_light;(try simp only[decide_eq_true_eq,decide_eq_false_iff_not,beq_iff_eq,beq_eq_false_iff_ne,ne_eq,Bool.not_eq_true',Bool.not_eq_false']at*);omega))
      all_goals
       go_roundw
       case rel=>
        go_light
        (try simp only[decide_eq_true_eq,decide_eq_false_iff_not,beq_iff_eq,beq_eq_false_iff_ne,ne_eq]at*)
        obtain ⟨e1,rfl⟩:=H1.out (by omega)
        refine ⟨pos+1,by omega,rfl,?_⟩
        rw[HE.out]
        exact nameFrom_good s pos hp (by rw[<-e1];exact (nameOk_iff c pos).2 (by omega))
       case measure=>
        go_light
        (try simp only[decide_eq_true_eq,decide_eq_false_iff_not,beq_iff_eq,beq_eq_false_iff_ne,ne_eq]at*)
        obtain ⟨e1,rfl⟩:=H1.out (by omega)
        simp
        omega
   ·have hnx: ∀ty,(Instr.next (.pointer (some ⟨w.heap.size,0,none⟩)) true ty).run Tryz.prog (w.iter s pos)=_:=λty=>run_next_end w s pos ty hp
    go_wp2
    go_ret
    refine ⟨ret_bool ?_,below_alloc⟩
    go_light
    have:pos=s.size:=by omega
    subst this
    rw[isName,HE.out,Nat.sub_self,nameFrom]
    rw[nonempty_iff]
    simp[hl]
 ·go_wp2
  go_ret
  exact ⟨ret_bool (by simp[isName,hl]),Below.refl _ _⟩
theorem index_clo (c:Col)(name:ByteArray)(g:Nat)(w:World)(hg:w.cell? ⟨g,0,none⟩=some (.string name))(hlt:g<w.heap.size):
  Calls Tryz.prog 148 #[.agg c.cells.toArray,.pointer (some ⟨g,0,none⟩)] w λe w'=>e=.returned (.bool (c.name.toList==name.toList))/\Below w.heap.size w w':=by
 simp only[Col.cells]
 go_enter Tryz.func148,Tryz.ntmps148
 go_wp2
 go_ret
 exact ⟨rfl,below_alloc⟩
theorem indexFunc_col (w:World)(A:Option Addr)(n c:Nat)(xs:List Col)(hx:In w A n c xs)(name:ByteArray)(g:Nat)(hg:w.cell? ⟨g,0,none⟩=some (.string name))(hlt:g<w.heap.size):
  Calls Tryz.prog 147 #[.slice A n c,.func (.func 148) #[] #[.pointer (some ⟨g,0,none⟩)]] w
   λe w'=>e=.returned (.int .i64 (index xs name))/\Below w.heap.size w w':=by
 have h63:=hx.le
 go_enter Tryz.func147,Tryz.ntmps147
 go_wp2
 go_loopw [8] (λi wr=> ∃k:Nat,k<=n/\i=.int .i64 k/\index xs name=indexFrom name k (xs.drop k)/\Below w.heap.size w wr) (λi _=>n-(intOf i).toNat)
 case atStart=>exact ⟨0,Nat.zero_le _,rfl,rfl,Below.refl _ _⟩
 case round=>
  obtain ⟨k,hk,rfl,heq,hb⟩:=hrel
  have HE:=hide heq
  clear heq
  by_cases hlt':k<n
  ·obtain ⟨b,off,x,rfl,hB,HX,e0,e1,e2,e3⟩:=(hx.below hb).col hlt'
   go_wp2_with fail
   refine (index_clo x name g _ (bat hb hlt hg) (Nat.lt_of_lt_of_le hlt hb.size)).mono ?_
   rintro e w1 ⟨rfl,hb1⟩
   have hbb:=below_trans hb hb1
   clear hb1 e0 e1 e2
   cases hz:(x.name.toList==name.toList)
   ·go_wp2
    go_roundw
    case rel=>exact ⟨k+1,by omega,by go_num,by rw[HE.out,HX.out,indexFrom,if_neg (by simp[hz])],hbb⟩
    case measure=>simp[intOf];omega
   ·go_wp2
    go_ret
    exact ⟨ret_int (by rw[HE.out,HX.out,indexFrom,if_pos hz]),hbb⟩
  ·go_wp2
   go_ret
   exact ⟨ret_int (by rw[HE.out,drop_end hx.len (by omega),indexFrom]),hb⟩
theorem index_any (w:World)(A:Option Addr)(n c:Nat)(xs:List Col)(hx:In w A n c xs)(name:ByteArray):
  Calls Tryz.prog 106 #[.slice A n c,.string name] w λe w'=>e=.returned (.int .i64 (index xs name))/\Below w.heap.size w w':=by
 go_enter Tryz.func106,Tryz.ntmps106
 go_wp2_with fail
 refine (indexFunc_col _ _ _ _ xs (hx.below below_alloc) name w.heap.size (by simp[go_sem]) (by simp)).mono ?_
 rintro e w1 ⟨rfl,hb1⟩
 have hbb:=below_trans below_alloc hb1
 go_wp2
 go_ret
 exact ⟨rfl,hbb⟩
theorem firstErr_zero {α:Type}{f:Nat->α->Int}{k:Nat}{x:α}{l:List α}(h:f k x=0):firstErr f k (x :: l)=firstErr f (k+1) l:=by simp[firstErr,h]
theorem firstErr_err {α:Type}{f:Nat->α->Int}{k:Nat}{x:α}{l:List α}{e:Int}(h:f k x=e)(he:e≠0):firstErr f k (x :: l)=e:=by simp[firstErr,h,he]
theorem cols_any (w:World)(A:Option Addr)(n c:Nat)(xs:List Col)(hx:In w A n c xs):
  Calls Tryz.prog 132 #[.slice A n c] w λe w'=>e=.returned (.int .i64 (colsErr xs))/\Below w.heap.size w w':=by
 have h63:=hx.le
 have hlen:=hide hx.len
 go_enter Tryz.func132,Tryz.ntmps132
 by_cases hs:n<1\/12<n
 ·have he:Hid (2=colsErr xs):=hide (by rw[colsErr,hlen.out,if_pos hs])
  rcases hs with hs|hs
  all_goals
   go_wp2
   go_ret
   exact ⟨ret_int he.out,Below.refl _ _⟩
 have HE0:Hid (colsErr xs=firstErr (colErr xs) 0 xs):=hide (by rw[colsErr,hlen.out,if_neg hs])
 have hs1:1<=n:=by omega
 have hs2:n<=12:=by omega
 clear hs
 go_wp2
 go_loopw [15] (λi wr=> ∃k:Nat,k<=n/\i=.int .i64 k/\firstErr (colErr xs) 0 xs=firstErr (colErr xs) k (xs.drop k)/\Below w.heap.size w wr) (λi _=>n-(intOf i).toNat)
 case atStart=>exact ⟨0,Nat.zero_le _,rfl,rfl,Below.refl _ _⟩
 case round=>
  obtain ⟨k,hk,rfl,heq,hb⟩:=hrel
  have HE:=hide heq
  clear heq
  by_cases hlt:k<n
  ·obtain ⟨b,off,x,rfl,hB,HX,e0,e1,e2,e3⟩:=(hx.below hb).col hlt
   go_wp2_with fail
   refine (isName_any x.name e3.1 _).mono ?_
   rintro e w1 ⟨rfl,hb1⟩
   have hbb:=below_trans (below_trans hb below_alloc) hb1
   obtain ⟨hc1,hf1⟩:=bcell hb1
   have hin:=hx.below hbb
   clear hb1 e0 e1 e2
   obtain ⟨hk1,hk2⟩:=e3.2
   cases hnm:isName x.name
   ·go_wp2
    go_ret
    exact ⟨ret_int (by rw[HE0.out,HE.out,HX.out];exact (firstErr_err (by simp[colErr,hnm]) (by omega)).symm),hbb⟩
   ·by_cases hkd:x.kind<1\/4<x.kind
    ·have he:colErr xs k x=7:=by rw[colErr,if_neg (by simp[hnm]),if_pos hkd]
     have HR:Hid (7=colsErr xs):=hide (by rw[HE0.out,HE.out,HX.out];exact (firstErr_err he (by omega)).symm)
     clear he
     rcases hkd with hkd|hkd
     all_goals
      go_wp2
      go_ret
      exact ⟨ret_int HR.out,hbb⟩
    ·have hk3:1<=x.kind:=by omega
     have hk4:x.kind<=4:=by omega
     have HC:Hid (colErr xs k x=if index xs x.name<k then 6 else 0):=hide (by rw[colErr,if_neg (by simp[hnm]),if_neg hkd])
     clear hkd
     go_wp2_with fail
     refine (index_any _ _ _ _ xs hin x.name).mono ?_
     rintro e w2 ⟨rfl,hb2⟩
     have hbb2:=below_trans hbb hb2
     clear hb2 hc1 hf1
     by_cases hi:index xs x.name<k
     ·have HR:Hid (6=colsErr xs):=hide (by rw[HE0.out,HE.out,HX.out];exact (firstErr_err (by rw[HC.out,if_pos hi]) (by omega)).symm)
      go_wp2
      go_ret
      exact ⟨ret_int HR.out,hbb2⟩
     ·go_wp2
      go_roundw
      case rel=>exact ⟨k+1,by omega,by go_num,by rw[HE.out,HX.out];exact firstErr_zero (by rw[HC.out,if_neg (by omega)]),hbb2⟩
      case measure=>simp[intOf];omega
  ·go_wp2
   go_ret
   exact ⟨ret_int (by rw[HE0.out,HE.out,drop_end hx.len (by omega),firstErr]),hb⟩
theorem valid_ref (v:Val)(hv:v.ok)(w:World):
  Calls Tryz.prog 114 #[.agg v.cells.toArray] w λe w'=>e=.returned (.bool (valid v))/\Below w.heap.size w w':=by
 obtain ⟨k,n,s⟩:=v
 simp only[Val.cells,Val.ok,Str,I64]at*
 obtain ⟨⟨h1,h2⟩,⟨h3,h4⟩,h5⟩:=hv
 go_enter Tryz.func114,Tryz.ntmps114
 go_wp2
 all_goals
  go_ret
  refine ⟨ret_bool ?_,below_alloc⟩
  go_light
  simp only[beq_iff_eq,beq_eq_false_iff_ne,ne_eq]at*
  try subst k
  simp_all[valid,noStr]
 all_goals (try omega)
 all_goals (try (repeat' split <;> omega))
theorem numbers_ref (a b:Int)(w:World):Calls Tryz.prog 117 #[.int .i64 a,.int .i64 b] w λe w'=>e=.returned (.int .i64 (cmpInt a b))/\w=w':=by
 go_enter Tryz.func117,Tryz.ntmps117
 go_wp2
 all_goals (go_ret;refine ⟨ret_int ?_,rfl⟩;go_light;simp only[cmpInt];(repeat' split) <;> omega)
theorem compare_ref (a b:Val)(w:World):
  Calls Tryz.prog 116 #[.agg a.cells.toArray,.agg b.cells.toArray] w λe w'=>e=.returned (.int .i64 (cmpVal a b))/\Below w.heap.size w w':=by
 obtain ⟨k,n,s⟩:=a
 obtain ⟨k',n',s'⟩:=b
 simp only[Val.cells]
 go_enter Tryz.func116,Tryz.ntmps116
 go_wp2_with (go_at_call 117;refine (numbers_ref _ _ _).mono ?_;rintro e w' ⟨rfl,rfl⟩)
 all_goals
  go_ret
  refine ⟨ret_int ?_,below_alloc2⟩
  go_light
  (try simp only[bne_iff_ne,ne_eq]at*)
  (first|(simp_all[cmpVal];done)|(simp_all[cmpVal,cmpStr];done))
theorem valid_any (v:Val)(hv:v.ok)(w:World):
  Calls Tryz.prog 127 #[.agg v.cells.toArray] w λe w'=>e=.returned (.bool (valid v))/\Below w.heap.size w w':=by
 obtain ⟨k,n,s⟩:=v
 simp only[Val.cells,Val.ok,Str,I64]at*
 obtain ⟨⟨h1,h2⟩,⟨h3,h4⟩,h5⟩:=hv
 go_enter Tryz.func127,Tryz.ntmps127
 go_wp2
 all_goals
  go_ret
  refine ⟨ret_bool ?_,below_alloc⟩
  go_light
  simp only[beq_iff_eq,beq_eq_false_iff_ne,ne_eq]at*
  try subst k
  simp_all[valid,noStr]
 all_goals (try omega)
 all_goals (try (repeat' split <;> omega))
theorem isNaN_int (a:Int)(w:World):Calls Tryz.prog 190 #[.int .i64 a] w λe w'=>e=.returned (.bool false)/\w=w':=by
 go_enter Tryz.func190,Tryz.ntmps190
 go_wp2
 all_goals (go_ret;exact ⟨by simp,rfl⟩)
theorem isNaN_str (a:ByteArray)(w:World):Calls Tryz.prog 191 #[.string a] w λe w'=>e=.returned (.bool false)/\w=w':=by
 go_enter Tryz.func191,Tryz.ntmps191
 go_wp2
 all_goals (go_ret;exact ⟨by simp,rfl⟩)
theorem cmp_int (a b:Int)(w:World):Calls Tryz.prog 161 #[.int .i64 a,.int .i64 b] w λe w'=>e=.returned (.int .i64 (cmpInt a b))/\w=w':=by
 go_enter Tryz.func161,Tryz.ntmps161
 go_wp2_with (go_at_call 190;refine (isNaN_int _ _).mono ?_;rintro e w' ⟨rfl,rfl⟩)
 all_goals (go_ret;refine ⟨ret_int ?_,rfl⟩;go_light;simp only[cmpInt];(repeat' split) <;> omega)
theorem cmp_str (a b:ByteArray)(w:World):Calls Tryz.prog 162 #[.string a,.string b] w λe w'=>e=.returned (.int .i64 (cmpStr a b))/\w=w':=by
 go_enter Tryz.func162,Tryz.ntmps162
 go_wp2_with (go_at_call 191;refine (isNaN_str _ _).mono ?_;rintro e w' ⟨rfl,rfl⟩)
 all_goals (go_ret;refine ⟨ret_int ?_,rfl⟩;go_light;simp only[cmpStr];simp_all)
def or3 (a b c:Int):Int:=if a≠0 then a else if b≠0 then b else c
theorem or_three (a b c:Int)(w:World)(g:Nat)(h0:w.cell? ⟨g,0,none⟩=some (.int .i64 a))(h1:w.cell? ⟨g,1,none⟩=some (.int .i64 b))(h2:w.cell? ⟨g,2,none⟩=some (.int .i64 c)):
  Calls Tryz.prog 160 #[.slice (some ⟨g,0,none⟩) 3 3] w λe w'=>e=.returned (.int .i64 (or3 a b c))/\w=w':=by
 go_enter Tryz.func160,Tryz.ntmps160
 go_wp2
 go_loop [5,8] (λ_ i=> ∃k:Nat,k<=3/\i=.int .i64 k/\(1<=k->a=0)/\(2<=k->b=0)/\(3<=k->c=0)) (λ_ i=>3-(intOf i).toNat)
 case atStart=>exact ⟨0,by omega,rfl,by omega,by omega,by omega⟩
 case round=>
  obtain ⟨k,hk,rfl,ha,hb,hc⟩:=hrel
  obtain rfl|rfl|rfl|rfl:k=0\/k=1\/k=2\/k=3:=by omega
  ·clear ha hb hc
   go_wp2
   ·go_ret
    exact ⟨ret_int (by go_light;simp_all[or3]),rfl⟩
   ·go_round
    case rel=>exact ⟨1,by omega,by go_num,(by intro _;go_light;simp_all),by omega,by omega⟩
    case measure=>simp[intOf]
  ·have ha:=ha (by omega)
   subst ha
   clear hb hc
   go_wp2
   ·go_ret
    exact ⟨ret_int (by go_light;simp_all[or3]),rfl⟩
   ·go_round
    case rel=>exact ⟨2,by omega,by go_num,(by first|trivial|(intro _;rfl)),(by intro _;go_light;simp_all),by omega⟩
    case measure=>simp[intOf]
  ·have ha:=ha (by omega)
   have hb:=hb (by omega)
   subst ha hb
   clear hc
   go_wp2
   ·go_ret
    exact ⟨ret_int (by go_light;simp_all[or3]),rfl⟩
   ·go_round
    case rel=>exact ⟨3,by omega,by go_num,(by first|trivial|(intro _;rfl)),(by first|trivial|(intro _;rfl)),(by intro _;go_light;simp_all)⟩
    case measure=>simp[intOf]
  ·have ha:=ha (by omega)
   have hb:=hb (by omega)
   have hc:=hc (by omega)
   subst ha hb hc
   go_wp2
   go_ret
   exact ⟨ret_int (by simp[or3]),rfl⟩
theorem cmp_val (a b:Val)(w:World):
  Calls Tryz.prog 125 #[.agg a.cells.toArray,.agg b.cells.toArray] w λe w'=>e=.returned (.int .i64 (cmpVal a b))/\Below w.heap.size w w':=by
 obtain ⟨k,n,s⟩:=a
 obtain ⟨k',n',s'⟩:=b
 simp only[Val.cells]
 go_enter Tryz.func125,Tryz.ntmps125
 go_wp2_with fail
 generalize hW:((w.alloc _).alloc _)=W
 have c0:W.cell? ⟨w.heap.size,0,none⟩=some (.int .i64 k):=by subst hW;simp[World.cell?_alloc_lt,go_sem]
 have c1:W.cell? ⟨w.heap.size,1,none⟩=some (.int .i64 n):=by subst hW;simp[World.cell?_alloc_lt,go_sem]
 have c2:W.cell? ⟨w.heap.size,2,none⟩=some (.string s):=by subst hW;simp[World.cell?_alloc_lt,go_sem]
 have d0:W.cell? ⟨w.heap.size+1,0,none⟩=some (.int .i64 k'):=by subst hW;simp[go_sem]
 have d1:W.cell? ⟨w.heap.size+1,1,none⟩=some (.int .i64 n'):=by subst hW;simp[go_sem]
 have d2:W.cell? ⟨w.heap.size+1,2,none⟩=some (.string s'):=by subst hW;simp[go_sem]
 have hb:Below w.heap.size w W:=by subst hW;exact below_alloc2
 clear hW
 go_region_held3 (λw'=>w'.cell? ⟨w.heap.size,0,none⟩=some (.int .i64 k)/\w'.cell? ⟨w.heap.size,1,none⟩=some (.int .i64 n)/\w'.cell? ⟨w.heap.size,2,none⟩=some (.string s)
   /\w'.cell? ⟨w.heap.size+1,0,none⟩=some (.int .i64 k')/\w'.cell? ⟨w.heap.size+1,1,none⟩=some (.int .i64 n')/\w'.cell? ⟨w.heap.size+1,2,none⟩=some (.string s')) (go_keep)
  (first|(go_at_call 161;refine (cmp_int _ _ _).mono ?_;rintro e w' ⟨rfl,rfl⟩)|(go_at_call 162;refine (cmp_str _ _ _).mono ?_;rintro e w' ⟨rfl,rfl⟩)|(go_at_call 160;refine (or_three (cmpInt k k') (cmpInt n n') (cmpStr s s') _ _ ?_ ?_ ?_).mono ?_;(simp[go_sem]);(simp[go_sem]);(simp[go_sem]);rintro e w' ⟨rfl,rfl⟩))
 go_wp2
 go_ret
 exact ⟨rfl,(hb.alloc hb.size _).drew⟩
theorem arity_any (n:Node)(w:World):Calls Tryz.prog 142 #[.agg n.cells.toArray] w λe w'=>e=.returned (.int .i64 (arity n.op n.arity))/\Below w.heap.size w w':=by
 obtain ⟨op,⟨kd,nu,st⟩,nm,ar⟩:=n
 simp only[Node.cells]
 go_enter Tryz.func142,Tryz.ntmps142
 go_wp2
 all_goals (go_ret;refine ⟨ret_int ?_,below_alloc⟩;go_light;unfold arity;first|(simp_all;done)|(simp_all;omega)|(repeat' split) <;> omega)
def Made (kind:Int)(v:Val):Prop:=valid v=true/\v.ok/\(1<=kind->kind<=4->v.kind=kind)/\(kind<1\/4<kind->v.kind=0)
theorem noStr_mt:noStr ⟨#[]⟩=true:=by rw[noStr,ByteArray.toList_eq];rfl
theorem made_bool {d:Int}(h0:0<=d)(h1:d<=1):Made 1 ⟨1,d,⟨#[]⟩⟩:=by
 refine ⟨?_,⟨⟨by simp only;omega,by simp only;omega⟩,⟨by simp only;omega,by simp only;omega⟩,by simp[Str,ByteArray.size]⟩,λ_ _=>rfl,λh=>by omega⟩
 obtain rfl|rfl:d=0\/d=1:=by omega
 all_goals simp[valid,noStr_mt]
theorem made_int {d:Int}(h0: -1073741824<=d)(h1:d<=1073741824):Made 2 ⟨2,d,⟨#[]⟩⟩:=by
 refine ⟨?_,⟨⟨by simp only;omega,by simp only;omega⟩,⟨by simp only;omega,by simp only;omega⟩,by simp[Str,ByteArray.size]⟩,λ_ _=>rfl,λh=>by omega⟩
 simp[valid,noStr_mt,h0,h1]
theorem made_text {s:ByteArray}(h:s.size<=64):Made 3 ⟨3,0,s⟩:=by
 refine ⟨?_,⟨⟨by simp only;omega,by simp only;omega⟩,⟨by simp only;omega,by simp only;omega⟩,by unfold Str;simp only;omega⟩,λ_ _=>rfl,λh=>by omega⟩
 simp[valid,h]
theorem made_time {d:Int}(h0:0<=d)(h1:d<=575999999):Made 4 ⟨4,d,⟨#[]⟩⟩:=by
 refine ⟨?_,⟨⟨by simp only;omega,by simp only;omega⟩,⟨by simp only;omega,by simp only;omega⟩,by simp[Str,ByteArray.size]⟩,λ_ _=>rfl,λh=>by omega⟩
 simp[valid,noStr_mt,h0,h1]
theorem made_null {k:Int}(h:k<1\/4<k):Made k ⟨0,0,⟨#[]⟩⟩:=by
 refine ⟨?_,⟨⟨by simp only;omega,by simp only;omega⟩,⟨by simp only;omega,by simp only;omega⟩,by simp[Str,ByteArray.size]⟩,λ_ _=>by omega,λ_=>rfl⟩
 simp[valid,noStr_mt]
def Fits (c:Col)(v:Val):Prop:=v.ok/\cellErr c v=0
def Col.good (c:Col):Prop:=c.ok/\1<=c.kind/\c.kind<=4
theorem fits_null {c:Col}(h:c.nullable=true):Fits c ⟨0,0,⟨#[]⟩⟩:=by
 obtain ⟨h1,h2,_,h4⟩:=made_null (k:=0) (by omega)
 exact ⟨h2,by simp[cellErr,h1,h]⟩
theorem fits_made {c:Col}{v:Val}(hc:c.good)(h:Made c.kind v):Fits c v:=by
 obtain ⟨h1,h2,h3,h4⟩:=h
 have h5:=h3 hc.2.1 hc.2.2
 have:v.kind≠0:=by have:=hc.2.1;omega
 exact ⟨h2,by simp[cellErr,h1,h5];have:=hc.2.1;omega⟩
theorem getD_drop {α:Type}{xs:List α}{k:Nat}{x d:α}{l:List α}(h:xs.drop k=x :: l):xs.getD k d=x:=by
 rw[List.getD,(drop_get h).1];rfl
def rowF (cols:List Col)(i:Nat)(v:Val):Int:=cellErr (cols.getD i default) v
theorem rowF_eq {cols:List Col}{k:Nat}{y:Col}{l:List Col}{x:Val}(h:cols.drop k=y :: l):rowF cols k x=cellErr y x:=by rw[rowF,getD_drop h]
theorem checkRow_any (w:World)(A A':Option Addr)(n n' c c':Nat)(cols:List Col)(row:List Val)(hx:In w A n c cols)(hy:In w A' n' c' row):
  Calls Tryz.prog 138 #[.slice A n c,.slice A' n' c'] w λe w'=>e=.returned (.int .i64 (rowErr cols row))/\Below w.heap.size w w':=by
 have h63:=hx.le
 have h63':=hy.le
 have hlen:=hide hx.len
 have hlen':=hide hy.len
 go_enter Tryz.func138,Tryz.ntmps138
 cases hs:((n':Int)==(n:Int))
 ·have he:Hid (8=rowErr cols row):=hide (by rw[rowErr,hlen.out,hlen'.out,if_pos (by simp at hs;omega)])
  go_wp2
  all_goals (try (exfalso;go_light;simp_all;done))
  go_ret
  exact ⟨ret_int he.out,Below.refl _ _⟩
 have HE0:Hid (rowErr cols row=firstErr (rowF cols) 0 row):=hide (by rw[rowErr,hlen.out,hlen'.out,if_neg (by simp at hs;omega)];rfl)
 have hnn:n=n':=by simp at hs;omega
 go_wp2
 all_goals (try (exfalso;go_light;simp_all;done))
 have HN:=hide hnn
 clear hs hnn
 go_loopw [15] (λi wr=> ∃k:Nat,k<=n'/\i=.int .i64 k/\firstErr (rowF cols) 0 row=firstErr (rowF cols) k (row.drop k)/\Below w.heap.size w wr) (λi _=>n'-(intOf i).toNat)
 case atStart=>exact ⟨0,Nat.zero_le _,rfl,rfl,Below.refl _ _⟩
 case round=>
  obtain ⟨k,hk,rfl,heq,hb⟩:=hrel
  have HE:=hide heq
  clear heq
  by_cases hlt:k<n'
  ·have hltn:k<n:=by rw[HN.out];exact hlt
   obtain ⟨b',off',x,rfl,hB',HX,f0,f1,f2,f3⟩:=(hy.below hb).val hlt
   obtain ⟨b,off,y,rfl,hB,HY,e0,e1,e2,e3⟩:=(hx.below hb).col hltn
   go_wp2_with fail
   refine (valid_any x f3 _).mono ?_
   rintro e w1 ⟨rfl,hb1⟩
   have hbb:=below_trans (below_trans (below_trans hb below_alloc) below_alloc) hb1
   obtain ⟨hc1,hf1⟩:=bcell hb1
   clear hb1 e0 e1 e2 f0 f1 f2
   have HC:Hid (firstErr (rowF cols) 0 row=if cellErr y x=0 then firstErr (rowF cols) (k+1) (row.drop (k+1)) else cellErr y x):=hide (by
    rw[HE.out,HX.out]
    by_cases hz:cellErr y x=0
    ·rw[if_pos hz];exact firstErr_zero (by rw[rowF_eq HY.out,hz])
    ·rw[if_neg hz];exact firstErr_err (rowF_eq HY.out) hz)
   cases hv:valid x
   ·have he:Hid (8=rowErr cols row):=hide (by rw[HE0.out,HC.out];simp[cellErr,hv])
    go_wp2
    go_ret
    exact ⟨ret_int he.out,hbb⟩
   ·cases hz:(x.kind==0)
    ·cases hq:(x.kind==y.kind)
     ·have he:Hid (7=rowErr cols row):=hide (by
       have e1:¬x.kind=0:=by simpa using hz
       have e2:¬x.kind=y.kind:=by simpa using hq
       rw[HE0.out,HC.out];simp[cellErr,hv,e1,e2])
      go_wp2
      all_goals (try (exfalso;go_light;simp_all;done))
      all_goals
       go_ret
       exact ⟨ret_int he.out,hbb⟩
     ·have he:Hid (cellErr y x=0):=hide (by
       have e1:¬x.kind=0:=by simpa using hz
       have e2:x.kind=y.kind:=by simpa using hq
       simp[cellErr,hv,<-e2,e1])
      go_wp2
      all_goals (try (exfalso;go_light;simp_all;done))
      all_goals
       go_roundw
       case rel=>exact ⟨k+1,by omega,by go_num,by rw[HC.out,if_pos he.out],hbb⟩
       case measure=>simp[intOf];omega
    ·cases hn:y.nullable
     ·have he:Hid (7=rowErr cols row):=hide (by
       have e1:x.kind=0:=by simpa using hz
       rw[HE0.out,HC.out];simp[cellErr,hv,e1,hn])
      go_wp2
      all_goals (try (exfalso;go_light;simp_all;done))
      all_goals
       go_ret
       exact ⟨ret_int he.out,hbb⟩
     ·have he:Hid (cellErr y x=0):=hide (by
       have e1:x.kind=0:=by simpa using hz
       simp[cellErr,hv,e1,hn])
      go_wp2
      all_goals (try (exfalso;go_light;simp_all;done))
      all_goals
       go_roundw
       case rel=>exact ⟨k+1,by omega,by go_num,by rw[HC.out,if_pos he.out],hbb⟩
       case measure=>simp[intOf];omega
  ·go_wp2
   go_ret
   exact ⟨ret_int (by rw[HE0.out,HE.out,drop_end hy.len (by omega),firstErr]),hb⟩
theorem below_any {B:Nat}{a w:World}(h:Below B a w){n:Nat}:Below B a (w.drewN n):=below_drewN h n
theorem val_info:(Tryz.prog.info? 74).map (λi=>(i.zero,i.size,i.bytes))=some (some (.agg #[.int .i64 0,.int .i64 0,.string ⟨#[]⟩]),3,32):=by kernel_rfl
def Part (w:World)(g:Nat)(cols:List Col)(vs:List Val):Prop:=
 (∀i,(h:i<vs.length)->At w (λ_=>False) g (i*3) vs[i])/\ ∀i,(h:i<vs.length)->(h':i<cols.length)->Fits cols[i] vs[i]
theorem Part.below {w w':World}{g:Nat}{cols:List Col}{vs:List Val}(h:Part w g cols vs)(hg:g<w.heap.size)(hb:Below w.heap.size w w'):Part w' g cols vs:=
 ⟨λi hi=>by
  obtain ⟨cs,hr,hc⟩:=h.1 i hi
  exact ⟨cs,hr,λj hj=>bat hb hg (hc j hj)⟩,h.2⟩
theorem Part.add {w:World}{g:Nat}{cols:List Col}{vs:List Val}{v:Val}{u0 u1 u2:Value}(h:Part w g cols vs)(hv:v.ok)(hk:vs.length<cols.length)(hf:Fits cols[vs.length] v)(h0:w.cell? ⟨g,vs.length*3,none⟩=some u0)(h1:w.cell? ⟨g,vs.length*3+1,none⟩=some u1)(h2:w.cell? ⟨g,vs.length*3+2,none⟩=some u2):
  Part (((w.setCell ⟨g,vs.length*3,none⟩ (.int .i64 v.kind)).setCell ⟨g,vs.length*3+1,none⟩ (.int .i64 v.num)).setCell ⟨g,vs.length*3+2,none⟩ (.string v.str)) g cols (vs++[v]):=by
 refine ⟨λi hi=>?_,λi hi hi'=>?_⟩
 ·rw[List.length_append]at hi
  by_cases hl:i<vs.length
  ·obtain ⟨cs,⟨rfl,hr⟩,hc⟩:=h.1 i hl
   rw[List.getElem_append_left hl]
   refine ⟨_,⟨rfl,hr⟩,λj hj=>?_⟩
   have hj3:j<3:=hj
   exact set_far (set_far (set_far (hc j hj) (.inr (by omega))) (.inr (by omega))) (.inr (by omega))
  ·obtain rfl:i=vs.length:=by simp at hi;omega
   rw[List.getElem_append_right (Nat.le_refl _)]
   simp only[Nat.sub_self,List.getElem_cons_zero]
   refine ⟨v.cells,⟨rfl,hv⟩,λj hj=>?_⟩
   have hj3:j<3:=hj
   obtain rfl|rfl|rfl:j=0\/j=1\/j=2:=by omega
   ·exact set_far (set_far (set_same h0) (.inr (by omega))) (.inr (by omega))
   ·exact set_far (set_same (set_far h1 (.inr (by omega)))) (.inr (by omega))
   ·exact set_same (set_far (set_far h2 (.inr (by omega))) (.inr (by omega)))
 ·rw[List.length_append]at hi
  by_cases hl:i<vs.length
  ·rw[List.getElem_append_left hl];exact h.2 i hl hi'
  ·obtain rfl:i=vs.length:=by simp at hi;omega
   rw[List.getElem_append_right (Nat.le_refl _)]
   simpa using hf
theorem firstErr_none {α:Type}{f:Nat->α->Int}{l:List α}: ∀k,(∀i,(h:i<l.length)->f (k+i) l[i]=0)->firstErr f k l=0:=by
 induction l with
 |nil=>intro k _;rfl
 |cons x l ih=>
  intro k h
  have h0:=h 0 (by simp)
  rw[firstErr_zero (by simpa using h0)]
  exact ih (k+1) λi hi=>by
   have:=h (i+1) (by simpa using hi)
   rw[show k+1+i=k+(i+1) from by omega]
   simpa using this
theorem rowErr_fits {cols:List Col}{vs:List Val}(hl:vs.length=cols.length)(h: ∀i,(h:i<vs.length)->(h':i<cols.length)->Fits cols[i] vs[i]):rowErr cols vs=0:=by
 rw[rowErr,if_neg (by simp[hl])]
 refine firstErr_none 0 λi hi=>?_
 have:=(h i hi (by omega)).2
 simp only[Nat.zero_add]
 rw[List.getD,List.getElem?_eq_getElem (by omega)]
 exact this
def Bnd30 (n:Int):Prop:= -1073741824<=n/\n<=1073741824
theorem small_any (a:Int)(w:World):Calls Tryz.prog 146 #[.int .i64 a] w λe w'=>e=.returned (.bool (smallI a))/\w=w':=by
 go_enter Tryz.func146,Tryz.ntmps146
 go_wp2
 all_goals (go_ret;refine ⟨ret_bool ?_,rfl⟩;go_light;unfold smallI;first|(simp_all;done)|(simp_all;omega))
theorem smallI_of {a:Int}(h:Bnd30 a):smallI a=true:=by unfold Bnd30 at h;simp[smallI];omega
def chk (r:Int):Int×Bool:=if smallI r then (r,true) else (0,false)
theorem addX_chk {a b:Int}(ha:Bnd30 a)(hb:Bnd30 b):addX a b=chk (a+b):=by simp[addX,chk,smallI_of ha,smallI_of hb]
theorem subX_chk {a b:Int}(ha:Bnd30 a)(hb:Bnd30 b):subX a b=chk (a-b):=by simp[subX,chk,smallI_of ha,smallI_of hb]
theorem mulX_chk {a b:Int}(ha:Bnd30 a)(hb:Bnd30 b):mulX a b=chk (a*b):=by simp[mulX,chk,smallI_of ha,smallI_of hb]
theorem checked_any (r:Int)(w:World):Calls Tryz.prog 212 #[.int .i64 r] w λe w'=>e=.returned (.tuple #[.int .i64 (chk r).1,.bool (chk r).2])/\w=w':=by
 go_enter Tryz.func212,Tryz.ntmps212
 cases h:smallI r
 ·go_wp2_with (go_at_call 146;refine (small_any _ _).mono ?_;rintro e w' ⟨rfl,rfl⟩)
  go_ret2
  exact ⟨by simp[chk,h],rfl⟩
 ·go_wp2_with (go_at_call 146;refine (small_any _ _).mono ?_;rintro e w' ⟨rfl,rfl⟩)
  go_ret2
  exact ⟨by simp[chk,h],rfl⟩
theorem mul_bd {a b:Int}(ha:Bnd30 a)(hb:Bnd30 b): -1152921504606846976<=a*b/\a*b<=1152921504606846976:=by
 have h:(a*b).natAbs<=1073741824*1073741824:=by
  rw[Int.natAbs_mul]
  exact Nat.mul_le_mul (by unfold Bnd30 at ha;omega) (by unfold Bnd30 at hb;omega)
 omega
theorem add_any (a b:Int)(ha:Bnd30 a)(hb:Bnd30 b)(w:World):Calls Tryz.prog 216 #[.int .i64 a,.int .i64 b] w λe w'=>e=.returned (.tuple #[.int .i64 (addX a b).1,.bool (addX a b).2])/\w=w':=by
 rw[addX_chk ha hb]
 have s1:=smallI_of ha
 have s2:=smallI_of hb
 have hw:IntKind.i64.wrap (a+b)=a+b:=IntWalk.i64_in _ (by unfold Bnd30 at ha hb;omega)
 go_enter Tryz.func216,Tryz.ntmps216
 go_wp2_with (first|(go_at_call 146;refine (small_any _ _).mono ?_;rintro e w' ⟨rfl,rfl⟩)|(go_at_call 212;(try rw[hw]);refine (checked_any _ _).mono ?_;rintro e w' ⟨rfl,rfl⟩))
 go_ret2
 exact ⟨rfl,rfl⟩
theorem sub_any (a b:Int)(ha:Bnd30 a)(hb:Bnd30 b)(w:World):Calls Tryz.prog 178 #[.int .i64 a,.int .i64 b] w λe w'=>e=.returned (.tuple #[.int .i64 (subX a b).1,.bool (subX a b).2])/\w=w':=by
 rw[subX_chk ha hb]
 have s1:=smallI_of ha
 have s2:=smallI_of hb
 have hw:IntKind.i64.wrap (a-b)=a-b:=IntWalk.i64_in _ (by unfold Bnd30 at ha hb;omega)
 go_enter Tryz.func178,Tryz.ntmps178
 go_wp2_with (first|(go_at_call 146;refine (small_any _ _).mono ?_;rintro e w' ⟨rfl,rfl⟩)|(go_at_call 212;(try rw[hw]);refine (checked_any _ _).mono ?_;rintro e w' ⟨rfl,rfl⟩))
 go_ret2
 exact ⟨rfl,rfl⟩
theorem mul_any (a b:Int)(ha:Bnd30 a)(hb:Bnd30 b)(w:World):Calls Tryz.prog 217 #[.int .i64 a,.int .i64 b] w λe w'=>e=.returned (.tuple #[.int .i64 (mulX a b).1,.bool (mulX a b).2])/\w=w':=by
 rw[mulX_chk ha hb]
 have s1:=smallI_of ha
 have s2:=smallI_of hb
 have hm: -1152921504606846976<=a*b/\a*b<=1152921504606846976:=mul_bd ha hb
 have hw:IntKind.i64.wrap (a*b)=a*b:=IntWalk.i64_in _ (by unfold Bnd30 at ha hb;omega)
 go_enter Tryz.func217,Tryz.ntmps217
 go_wp2_with (first|(go_at_call 146;refine (small_any _ _).mono ?_;rintro e w' ⟨rfl,rfl⟩)|(go_at_call 212;(try rw[hw]);refine (checked_any _ _).mono ?_;rintro e w' ⟨rfl,rfl⟩))
 go_ret2
 exact ⟨rfl,rfl⟩
theorem truth_any (v:Val)(hv:v.ok)(w:World):Calls Tryz.prog 104 #[.agg v.cells.toArray] w λe w'=>e=.returned (.int .i64 (truth v))/\Below w.heap.size w w':=by
 obtain ⟨k,n,s⟩:=v
 have hv':=hv
 simp only[Val.cells]
 by_cases h1:k=1
 ·subst h1
  have HT:Hid (truth ⟨1,n,s⟩=if valid ⟨1,n,s⟩=true then n else -1):=hide (by simp[truth])
  cases hvd:valid ⟨1,n,s⟩
  all_goals
   rw[hvd]at HT
   go_enter Tryz.func104,Tryz.ntmps104
   go_wp2_with fail
   refine (valid_any ⟨1,n,s⟩ hv' _).mono ?_
   rintro e w1 ⟨rfl,hb1⟩
   have hbb:=below_trans below_alloc hb1
   have g1:=bat (b:=w.heap.size) (o:=1) (v:=.int .i64 n) hb1 (by simp) (by simp[go_sem])
   clear hb1
   rw[hvd]
   go_wp2
   go_ret
   exact ⟨ret_int (by rw[HT.out];simp),hbb⟩
 ·have HT:Hid (truth ⟨k,n,s⟩= -1):=hide (by simp[truth,h1])
  have q:(k != 1)=true:=by simpa using h1
  clear h1
  go_enter Tryz.func104,Tryz.ntmps104
  go_wp2
  go_ret
  exact ⟨ret_int HT.out.symm,below_alloc⟩
theorem compareRows_ref (w:World)(A A':Option Addr)(n n' c c':Nat)(xs ys:List Val)(hx:In w A n c xs)(hy:In w A' n' c' ys):
  Calls Tryz.prog 79 #[.slice A n c,.slice A' n' c'] w λe w'=>e=.returned (.int .i64 (cmpRows xs ys))/\Below w.heap.size w w':=by
 have h63:=hx.le
 have h63':=hy.le
 go_enter Tryz.func79,Tryz.ntmps79
 go_wp2
 go_loopw [5] (λi wr=> ∃k:Nat,k<=n/\k<=n'/\i=.int .i64 k/\cmpRows xs ys=cmpRows (xs.drop k) (ys.drop k)/\Below w.heap.size w wr) (λi _=>n-(intOf i).toNat)
 case atStart=>exact ⟨0,Nat.zero_le _,Nat.zero_le _,rfl,rfl,Below.refl _ _⟩
 case round=>
  obtain ⟨k,hk,hk',rfl,heq,hb⟩:=hrel
  have HE:=hide heq
  clear heq
  by_cases hlt:k<n
  ·by_cases hlt':k<n'
   ·obtain ⟨b,off,x,rfl,hB,HX,e0,e1,e2,e3⟩:=(hx.below hb).val hlt
    obtain ⟨b',off',y,rfl,hB',HY,f0,f1,f2,f3⟩:=(hy.below hb).val hlt'
    go_wp2_with fail
    go_region_held3 (λw'=>Below wr.heap.size wr w'/\w'.cell? ⟨b,off+k*3,none⟩=some (.int .i64 x.kind)/\w'.cell? ⟨b,off+k*3+1,none⟩=some (.int .i64 x.num)/\w'.cell? ⟨b,off+k*3+2,none⟩=some (.string x.str)/\w'.cell? ⟨b',off'+k*3,none⟩=some (.int .i64 y.kind)/\w'.cell? ⟨b',off'+k*3+1,none⟩=some (.int .i64 y.num)/\w'.cell? ⟨b',off'+k*3+2,none⟩=some (.string y.str)) (first|exact ⟨(Below.refl _ _).drew,e0,e1,e2,f0,f1,f2⟩|(have hq:=below_undrew hb1;exact ⟨hq,bat hq hB e0,bat hq hB e1,bat hq hB e2,bat hq hB' f0,bat hq hB' f1,bat hq hB' f2⟩)) (first|(go_at_call 116;refine (compare_ref x y _).mono ?_;rintro e w1 ⟨rfl,hb1⟩))
    have hbb:=below_trans hb (below_undrew hb1)
    clear hb1 e0 e1 e2 f0 f1 f2
    by_cases hz:cmpVal x y=0
    ·rw[hz]
     go_wp2
     go_roundw
     case rel=>exact ⟨k+1,by omega,by omega,by go_num,by rw[HE.out,HX.out,HY.out,cmpRows,if_neg (by simp[hz])],hbb⟩
     case measure=>simp[intOf];omega
    ·have hz':(cmpVal x y==0)=false:=by simp[hz]
     go_wp2
     go_ret
     exact ⟨ret_int (by rw[HE.out,HX.out,HY.out,cmpRows,if_pos hz]),hbb⟩
   ·go_wp2_with (go_at_call 117;refine (numbers_ref _ _ _).mono ?_;rintro e w' ⟨rfl,rfl⟩)
    go_ret
    refine ⟨ret_int ?_,hb⟩
    have hy0:=drop_end hy.len (show n'<=k by omega)
    rw[HE.out,hy0]
    have:xs.drop k≠[]:=by intro h;have:=congrArg List.length h;rw[List.length_drop,hx.len]at this;simp at this;omega
    match h:xs.drop k with
    | []=>exact absurd h this
    | _ :: _=>rw[cmpRows];simp[cmpInt];omega
  ·have hkn:n<=k:=by omega
   go_wp2_with (go_at_call 117;refine (numbers_ref _ _ _).mono ?_;rintro e w' ⟨rfl,rfl⟩)
   go_ret
   refine ⟨ret_int ?_,hb⟩
   rw[HE.out,drop_end hx.len hkn]
   by_cases hlt':n<n'
   ·have:ys.drop k≠[]:=by intro h;have:=congrArg List.length h;rw[List.length_drop,hy.len]at this;simp at this;omega
    match h:ys.drop k with
    | []=>exact absurd h this
    | _ :: _=>rw[cmpRows];simp[cmpInt];omega
   ·rw[drop_end hy.len (by omega),cmpRows]
    have:n=n':=by omega
    simp[cmpInt,this]
def valF (_:Nat)(v:Val):Int:=if valid v then 0 else 8
theorem entErr_def (x:Ent):entErr x=if 12<x.row.length\/x.count < -65536\/65536<x.count then 2 else firstErr valF 0 x.row:=rfl
theorem formed_any (w:World)(A:Option Addr)(n c:Nat)(x:Ent)(hx:In w A n c x.row)(hc:I64 x.count):
  Calls Tryz.prog 149 #[.agg #[.slice A n c,.int .i64 x.count]] w λe w'=>e=.returned (.int .i64 (entErr x))/\Below w.heap.size w w':=by
 obtain ⟨row,m⟩:=x
 have h63:=hx.le
 have hlen:=hide hx.len
 unfold I64 at hc
 obtain ⟨hm1,hm2⟩:=hc
 simp only at hx hlen hm1 hm2⊢
 go_enter Tryz.func149,Tryz.ntmps149
 by_cases hs:12<n\/m < -65536\/65536<m
 ·have he:Hid (2=entErr ⟨row,m⟩):=hide (by rw[entErr_def,hlen.out,if_pos hs])
  by_cases h1:12<n
  ·go_wp2
   all_goals (go_ret;exact ⟨ret_int he.out,below_alloc⟩)
  ·by_cases h2:m < -65536
   ·go_wp2
    all_goals (go_ret;exact ⟨ret_int he.out,below_alloc⟩)
   ·have h3:65536<m:=by omega
    go_wp2
    all_goals (go_ret;exact ⟨ret_int he.out,below_alloc⟩)
 have HE0:Hid (entErr ⟨row,m⟩=firstErr valF 0 row):=hide (by rw[entErr_def,hlen.out,if_neg hs])
 have h1:n<=12:=by omega
 have h2: -65536<=m:=by omega
 have h3:m<=65536:=by omega
 clear hs
 go_wp2
 go_loopw [22] (λi wr=> ∃k:Nat,k<=n/\i=.int .i64 k/\firstErr valF 0 row=firstErr valF k (row.drop k)/\Below w.heap.size w wr) (λi _=>n-(intOf i).toNat)
 case atStart=>exact ⟨0,Nat.zero_le _,rfl,rfl,below_alloc⟩
 case round=>
  obtain ⟨k,hk,rfl,heq,hb⟩:=hrel
  have HE:=hide heq
  clear heq
  by_cases hlt:k<n
  ·obtain ⟨b,off,x,rfl,hB,HX,f0,f1,f2,f3⟩:=(hx.below hb).val hlt
   go_wp2_with fail
   refine (valid_any x f3 _).mono ?_
   rintro e w1 ⟨rfl,hb1⟩
   have hbb:=below_trans (below_trans hb below_alloc) hb1
   clear hb1 f0 f1 f2
   cases hv:valid x
   ·have he:Hid (8=entErr ⟨row,m⟩):=hide (by rw[HE0.out,HE.out,HX.out];exact (firstErr_err (by simp[valF,hv]) (by omega)).symm)
    go_wp2
    go_ret
    exact ⟨ret_int he.out,hbb⟩
   ·go_wp2
    go_roundw
    case rel=>exact ⟨k+1,by omega,by go_num,by rw[HE.out,HX.out];exact firstErr_zero (by simp[valF,hv]),hbb⟩
    case measure=>simp[intOf];omega
  ·go_wp2
   go_ret
   exact ⟨ret_int (by rw[HE0.out,HE.out,drop_end hx.len (by omega),firstErr]),hb⟩
theorem small_ref (m:Int)(w:World):Calls Tryz.prog 78 #[.int .i64 m] w λe w'=>e=.returned (.bool (decide (-65536<=m)&&decide (m<=65536)))/\w=w':=by
 go_enter Tryz.func78,Tryz.ntmps78
 go_wp2
 all_goals (go_ret;refine ⟨ret_bool ?_,rfl⟩;go_light;first|(simp_all;done)|(simp_all;omega))
theorem fits6_ref (w:World)(A:Option Addr)(n c:Nat)(x:Ent)(hx:In w A n c x.row)(hc:I64 x.count):
  Calls Tryz.prog 76 #[.agg #[.slice A n c,.int .i64 x.count]] w λe w'=>e=.returned (.int .i64 (entErr x))/\Below w.heap.size w w':=by
 obtain ⟨row,m⟩:=x
 have h63:=hx.le
 have hlen:=hide hx.len
 unfold I64 at hc
 obtain ⟨hm1,hm2⟩:=hc
 simp only at hx hlen hm1 hm2⊢
 go_enter Tryz.func76,Tryz.ntmps76
 by_cases hs:12<n\/m < -65536\/65536<m
 ·have he:Hid (2=entErr ⟨row,m⟩):=hide (by rw[entErr_def,hlen.out,if_pos hs])
  by_cases h1:12<n
  ·go_wp2
   all_goals (go_ret;exact ⟨ret_int he.out,below_alloc⟩)
  ·by_cases h2:m < -65536
   ·have hq:decide ((-65536:Int)<=m)=false:=by simp;omega
    go_wp2_with (go_at_call 78;refine (small_ref _ _).mono ?_;rintro e w' ⟨rfl,rfl⟩)
    all_goals (try (exfalso;go_light;simp_all;done))
    all_goals (go_ret;exact ⟨ret_int he.out,below_alloc⟩)
   ·have h3:65536<m:=by omega
    have hq:decide (m<=(65536:Int))=false:=by simp;omega
    go_wp2_with (go_at_call 78;refine (small_ref _ _).mono ?_;rintro e w' ⟨rfl,rfl⟩)
    all_goals (try (exfalso;go_light;simp_all;done))
    all_goals (go_ret;exact ⟨ret_int he.out,below_alloc⟩)
 have HE0:Hid (entErr ⟨row,m⟩=firstErr valF 0 row):=hide (by rw[entErr_def,hlen.out,if_neg hs])
 have h1:n<=12:=by omega
 have h2: -65536<=m:=by omega
 have h3:m<=65536:=by omega
 clear hs
 go_wp2_with (go_at_call 78;refine (small_ref _ _).mono ?_;rintro e w' ⟨rfl,rfl⟩)
 all_goals (try (exfalso;go_light;simp_all;done))
 go_loopw [3] (λi wr=> ∃k:Nat,k<=n/\i=.int .i64 k/\firstErr valF 0 row=firstErr valF k (row.drop k)/\Below (w.alloc (.cells #[.slice A n c,.int .i64 m] 61)).heap.size (w.alloc (.cells #[.slice A n c,.int .i64 m] 61)) wr) (λi _=>n-(intOf i).toNat)
 case atStart=>exact ⟨0,Nat.zero_le _,rfl,rfl,Below.refl _ _⟩
 case round=>
  obtain ⟨k,hk,rfl,heq,hb0⟩:=hrel
  have HE:=hide heq
  clear heq
  have hb:Below w.heap.size w wr:=below_trans below_alloc hb0
  have g0:wr.cell? ⟨w.heap.size,0,none⟩=some (.slice A n c):=bat hb0 (by simp) (by simp[go_sem])
  have HB0:=hide hb0
  clear hb0
  by_cases hlt:k<n
  ·obtain ⟨b,off,x,rfl,hB,HX,f0,f1,f2,f3⟩:=(hx.below hb).val hlt
   go_wp2_with fail
   refine (valid_ref x f3 _).mono ?_
   rintro e w1 ⟨rfl,hb1⟩
   have hbb:=below_trans hb hb1
   have HB1:=hide (below_trans HB0.out hb1)
   clear hb1 f0 f1 f2
   cases hv:valid x
   ·have he:Hid (8=entErr ⟨row,m⟩):=hide (by rw[HE0.out,HE.out,HX.out];exact (firstErr_err (by simp[valF,hv]) (by omega)).symm)
    go_wp2
    go_ret
    exact ⟨ret_int he.out,hbb⟩
   ·go_wp2
    go_roundw
    case rel=>exact ⟨k+1,by omega,by go_num,by rw[HE.out,HX.out];exact firstErr_zero (by simp[valF,hv]),HB1.out⟩
    case measure=>simp[intOf];omega
  ·go_wp2
   go_ret
   exact ⟨ret_int (by rw[HE0.out,HE.out,drop_end hx.len (by omega),firstErr]),hb⟩
theorem compareFunc_any (w:World)(A A':Option Addr)(n n' c c':Nat)(xs ys:List Val)(hx:In w A n c xs)(hy:In w A' n' c' ys):
  Calls Tryz.prog 124 #[.slice A n c,.slice A' n' c',.func (.func 125) #[] #[]] w
   λe w'=>e=.returned (.int .i64 (cmpRows xs ys))/\Below w.heap.size w w':=by
 have h63:=hx.le
 have h63':=hy.le
 go_enter Tryz.func124,Tryz.ntmps124
 go_wp2
 go_loopw [13] (λi wr=> ∃k:Nat,k<=n/\k<=n'/\i=.int .i64 k/\cmpRows xs ys=cmpRows (xs.drop k) (ys.drop k)/\Below w.heap.size w wr) (λi _=>n-(intOf i).toNat)
 case atStart=>exact ⟨0,Nat.zero_le _,Nat.zero_le _,rfl,rfl,Below.refl _ _⟩
 case round=>
  obtain ⟨k,hk,hk',rfl,heq,hb⟩:=hrel
  have HE:=hide heq
  clear heq
  by_cases hlt:k<n
  ·obtain ⟨b,off,x,rfl,hB,HX,e0,e1,e2,e3⟩:=(hx.below hb).val hlt
   by_cases hlt':k<n'
   ·obtain ⟨b',off',y,rfl,hB',HY,f0,f1,f2,f3⟩:=(hy.below hb).val hlt'
    go_wp2_with fail
    refine (cmp_val x y _).mono ?_
    rintro e w1 ⟨rfl,hb1⟩
    have hbb:=below_trans (below_trans (below_trans hb below_alloc) below_alloc) hb1
    clear hb1 e0 e1 e2 f0 f1 f2
    by_cases hz:cmpVal x y=0
    ·rw[hz]
     go_wp2
     go_roundw
     case rel=>exact ⟨k+1,by omega,by omega,by go_num,by rw[HE.out,HX.out,HY.out,cmpRows,if_neg (by simp[hz])],hbb⟩
     case measure=>simp[intOf];omega
    ·have hz':(cmpVal x y==0)=false:=by simp[hz]
     go_wp2
     go_ret
     exact ⟨ret_int (by rw[HE.out,HX.out,HY.out,cmpRows,if_pos hz]),hbb⟩
   ·go_wp2
    go_ret
    exact ⟨ret_int (by rw[HE.out,HX.out,drop_end hy.len (by omega),cmpRows]),hb.alloc hb.size _⟩
  ·have hkn:n<=k:=by omega
   by_cases hlt':n<n'
   ·go_wp2
    go_ret
    refine ⟨ret_int ?_,hb⟩
    rw[HE.out,drop_end hx.len hkn]
    have:ys.drop k≠[]:=by intro h;have:=congrArg List.length h;rw[List.length_drop,hy.len]at this;simp at this;omega
    match h:ys.drop k with
    | []=>exact absurd h this
    | _ :: _=>rw[cmpRows]
   ·go_wp2
    go_ret
    refine ⟨ret_int ?_,hb⟩
    rw[HE.out,drop_end hx.len hkn,drop_end hy.len (by omega),cmpRows]
theorem compareRows_any (w:World)(A A':Option Addr)(n n' c c':Nat)(xs ys:List Val)(hx:In w A n c xs)(hy:In w A' n' c' ys):
  Calls Tryz.prog 84 #[.slice A n c,.slice A' n' c'] w λe w'=>e=.returned (.int .i64 (cmpRows xs ys))/\Below w.heap.size w w':=by
 go_enter Tryz.func84,Tryz.ntmps84
 go_wp2_with fail
 refine (compareFunc_any _ _ _ _ _ _ _ xs ys hx hy).mono ?_
 rintro e w1 ⟨rfl,hb1⟩
 go_wp2
 go_ret
 exact ⟨rfl,hb1⟩
theorem In.prev {w:World}{A:Option Addr}{n c k:Nat}{b:List Ent}(h:In w A n c b)(hk:k<n)(h0:0<k): ∃bl off A' n' c' y,A=some ⟨bl,off,none⟩/\bl<w.heap.size/\
  w.cell? ⟨bl,off+(k-1)*2,none⟩=some (.slice A' n' c')/\In w A' n' c' y/\Hid ((b.getD (k-1) default).row=y):=by
 obtain ⟨bl,off,x,e,hb,hx,A',n',c',h1,h2,h3,h4⟩:=h.ent (show k-1<n by omega)
 exact ⟨bl,off,A',n',c',x.row,e,hb,h1,h3,hide (by rw[getD_drop hx.out])⟩
theorem bagErr1_def (b:List Ent)(i:Nat)(x:Ent):bagErr1 b i x=if entErr x≠0 then entErr x else if x.count=0 then 8 else if 0<i/\0<=cmpRows (b.getD (i-1) default).row x.row then 14 else 0:=rfl
theorem bag_any (w:World)(A:Option Addr)(n c:Nat)(bs:List Ent)(hx:In w A n c bs):
  Calls Tryz.prog 107 #[.slice A n c] w λe w'=>e=.returned (.int .i64 (bagErr bs))/\Below w.heap.size w w':=by
 have h63:=hx.le
 have hlen:=hide hx.len
 go_enter Tryz.func107,Tryz.ntmps107
 by_cases hs:4096<n
 ·have he:Hid (2=bagErr bs):=hide (by rw[bagErr,hlen.out,if_pos hs])
  go_wp2
  go_ret
  exact ⟨ret_int he.out,Below.refl _ _⟩
 have HE0:Hid (bagErr bs=firstErr (bagErr1 bs) 0 bs):=hide (by rw[bagErr,hlen.out,if_neg hs])
 have hs1:n<=4096:=by omega
 clear hs
 go_wp2
 go_loopw [11] (λi wr=> ∃k:Nat,k<=n/\i=.int .i64 k/\firstErr (bagErr1 bs) 0 bs=firstErr (bagErr1 bs) k (bs.drop k)/\Below w.heap.size w wr) (λi _=>n-(intOf i).toNat)
 case atStart=>exact ⟨0,Nat.zero_le _,rfl,rfl,Below.refl _ _⟩
 case round=>
  obtain ⟨k,hk,rfl,heq,hb⟩:=hrel
  have HE:=hide heq
  clear heq
  by_cases hlt:k<n
  ·obtain ⟨b,off,x,rfl,hB,HX,A',n',c',e0,e1,e2,e3⟩:=(hx.below hb).ent hlt
   go_wp2_with fail
   refine (formed_any _ A' n' c' x (e2.below below_alloc) e3).mono ?_
   rintro e w1 ⟨rfl,hb1⟩
   have hbb:=below_trans (below_trans hb below_alloc) hb1
   have g0:w1.cell? ⟨wr.heap.size,0,none⟩=some (.slice A' n' c'):=bat hb1 (by simp) (by simp[go_sem])
   have g1:w1.cell? ⟨wr.heap.size,1,none⟩=some (.int .i64 x.count):=bat hb1 (by simp) (by simp[go_sem])
   have hin1:=e2.below (below_trans below_alloc hb1)
   have hsz:wr.heap.size<w1.heap.size:=by have:=hb1.size;simp at this;omega
   obtain ⟨hm1,hm2⟩:=e3
   clear hb1 e0 e1 e2
   by_cases hz:entErr x=0
   ·rw[hz]
    have HC:Hid (firstErr (bagErr1 bs) 0 bs=if x.count=0 then 8 else if 0<k/\0<=cmpRows (bs.getD (k-1) default).row x.row then 14 else firstErr (bagErr1 bs) (k+1) (bs.drop (k+1))):=hide (by
     rw[HE.out,HX.out]
     by_cases q1:x.count=0
     ·rw[if_pos q1];exact firstErr_err (by rw[bagErr1_def,if_neg (by simp[hz]),if_pos q1]) (by omega)
     ·by_cases q2:0<k/\0<=cmpRows (bs.getD (k-1) default).row x.row
      ·rw[if_neg q1,if_pos q2];exact firstErr_err (by rw[bagErr1_def,if_neg (by simp[hz]),if_neg q1,if_pos q2]) (by omega)
      ·rw[if_neg q1,if_neg q2];exact firstErr_zero (by rw[bagErr1_def,if_neg (by simp[hz]),if_neg q1,if_neg q2]))
    clear hz
    cases hq:(x.count==0)
    ·have hq1:¬x.count=0:=by simpa using hq
     by_cases h0:0<k
     ·obtain ⟨bl,off',A0,n0,c0,pr,e,hbl,f0,f1,HP⟩:=In.prev (hx.below hbb) hlt h0
      injection e with e
      injection e with e_1 e_2
      subst e_1 e_2
      have i0:(0:Int)<(k:Int):=by omega
      have i1:(0:Int)<=(k:Int)-1:=by omega
      have i2:(k:Int)-1<(n:Int):=by omega
      have i3:((k:Int)-1).toNat=k-1:=by omega
      have i5:(1:Int)<=(k:Int):=by omega
      have i6:(k:Int)<=(n:Int):=by omega
      have i4:IntKind.i64.wrap ((k:Int)-1)=(k:Int)-1:=IntWalk.i64_in _ (by omega)
      go_wp2_with fail
      go_region_held3 (λw'=>w'.cell? ⟨b,off+(k-1)*2,none⟩=some (.slice A0 n0 c0)/\w'.cell? ⟨wr.heap.size,0,none⟩=some (.slice A' n' c')) (first|exact ⟨f0,g0⟩|(have hq:=below_undrew hb2;exact ⟨bat hq hbl f0,bat hq hsz g0⟩)) (first|(go_at_call 84;refine (compareRows_any _ A0 A' n0 n' c0 c' pr x.row (by exact f1) (by exact hin1)).mono ?_;rintro e w2 ⟨rfl,hb2⟩))
      have hbb2:=below_trans hbb (below_undrew hb2)
      clear hb2 i4 i3 i2 i1
      by_cases hcmp:0<=cmpRows pr x.row
      ·have he:Hid (14=bagErr bs):=hide (by rw[HE0.out,HC.out,HP.out,if_neg hq1,if_pos ⟨h0,hcmp⟩])
       have hd:decide (0<=cmpRows pr x.row)=true:=by simp;omega
       go_wp2
       all_goals (try (exfalso;go_light;simp_all;done))
       go_ret
       exact ⟨ret_int he.out,hbb2⟩
      ·have he:Hid (firstErr (bagErr1 bs) 0 bs=firstErr (bagErr1 bs) (k+1) (bs.drop (k+1))):=hide (by rw[HC.out,HP.out,if_neg hq1,if_neg (λh=>hcmp h.2)])
       have hd:decide (0<=cmpRows pr x.row)=false:=by simp;omega
       go_wp2
       all_goals (try (exfalso;go_light;simp_all;done))
       go_roundw
       case rel=>exact ⟨k+1,by omega,by go_num,he.out,hbb2⟩
       case measure=>simp[intOf];omega
     ·have h0':k=0:=by omega
      have he:Hid (firstErr (bagErr1 bs) 0 bs=firstErr (bagErr1 bs) (k+1) (bs.drop (k+1))):=hide (by rw[HC.out,if_neg hq1,if_neg (λh=>h0 h.1)])
      subst h0'
      go_wp2
      go_quiet (fail)
      go_wp2
      go_roundw
      case rel=>exact ⟨0+1,by omega,by go_num,he.out,below_any hbb⟩
      case measure=>simp[intOf];omega
    ·have he:Hid (8=bagErr bs):=hide (by rw[HE0.out,HC.out,if_pos (by simpa using hq)])
     go_wp2
     go_ret
     exact ⟨ret_int he.out,hbb⟩
   ·have hz':(entErr x==0)=false:=by simp[hz]
    have he:Hid (entErr x=bagErr bs):=hide (by rw[HE0.out,HE.out,HX.out];exact (firstErr_err (by rw[bagErr1_def,if_pos hz]) hz).symm)
    go_wp2
    all_goals (try (exfalso;go_light;simp_all;done))
    go_ret
    exact ⟨ret_int he.out,hbb⟩
  ·go_wp2
   go_ret
   exact ⟨ret_int (by rw[HE0.out,HE.out,drop_end hx.len (by omega),firstErr]),hb⟩
theorem boolV_any (b:Bool)(w:World):Calls Tryz.prog 175 #[.bool b] w λe w'=>e=.returned (.agg (boolV b).cells.toArray)/\Below w.heap.size w w':=by
 cases b
 all_goals
  go_enter Tryz.func175,Tryz.ntmps175
  go_wp2
 ·refine bodyPost_ret (v:=.agg (boolV false).cells.toArray) (by simp[results,Tryz.results175,go_sem,Val.cells,boolV]) rfl ⟨rfl,by exact below_alloc⟩
 ·refine bodyPost_ret (v:=.agg (boolV true).cells.toArray) (by simp[results,Tryz.results175,go_sem,Val.cells,boolV]) rfl ⟨rfl,by exact below_alloc⟩
theorem numV_any (n:Int)(ok:Bool)(w:World):Calls Tryz.prog 177 #[.int .i64 n,.bool ok] w λe w'=>e=.returned (.agg (numV n ok).cells.toArray)/\Below w.heap.size w w':=by
 cases ok
 all_goals
  go_enter Tryz.func177,Tryz.ntmps177
  go_wp2
 ·refine bodyPost_ret (v:=.agg (numV n false).cells.toArray) (by simp[results,Tryz.results177,go_sem,Val.cells,numV,nullV]) rfl ⟨rfl,by exact below_alloc⟩
 ·refine bodyPost_ret (v:=.agg (numV n true).cells.toArray) (by simp[results,Tryz.results177,go_sem,Val.cells,numV]) rfl ⟨rfl,by exact below_alloc⟩
theorem momV_any (n:Int)(w:World):Calls Tryz.prog 215 #[.int .i64 n] w λe w'=>e=.returned (.agg (momV n).cells.toArray)/\Below w.heap.size w w':=by
 by_cases h:n<0\/575999999<n
 ·have HM:Hid (momV n=nullV):=hide (by rw[momV,if_pos h])
  rcases h with h|h
  all_goals
   go_enter Tryz.func215,Tryz.ntmps215
   go_wp2
   refine bodyPost_ret (v:=.agg nullV.cells.toArray) (by simp[results,Tryz.results215,go_sem,Val.cells,nullV]) rfl ⟨by rw[HM.out],by exact below_alloc⟩
 ·have HM:Hid (momV n=⟨4,n,⟨#[]⟩⟩):=hide (by rw[momV,if_neg h])
  have h1:0<=n:=by omega
  have h2:n<=575999999:=by omega
  clear h
  go_enter Tryz.func215,Tryz.ntmps215
  go_wp2
  refine bodyPost_ret (v:=.agg (Val.cells ⟨4,n,⟨#[]⟩⟩).toArray) (by simp[results,Tryz.results215,go_sem,Val.cells]) rfl ⟨by rw[HM.out],by exact below_alloc⟩
theorem tdiv_bd {a b:Int}(ha:Bnd30 a)(h0:b≠0): -1073741824<=a.tdiv b/\a.tdiv b<=1073741824:=by
 have h:(a.tdiv b).natAbs<=a.natAbs:=by
  rw[Int.natAbs_tdiv]
  exact Nat.div_le_self _ _
 unfold Bnd30 at ha
 omega
theorem tmod_bd {a b:Int}(hb:Bnd30 b)(h0:b≠0):(a.tmod b).natAbs<b.natAbs:=by
 rw[Int.natAbs_tmod]
 exact Nat.mod_lt _ (by omega)
theorem floor_of_trunc {a b:Int}(h0:b≠0):
  (a.tmod b≠0/\(decide (a.tmod b<0) != decide (b<0))=true->a.fdiv b=a.tdiv b-1/\a.fmod b=a.tmod b+b)/\
  (¬(a.tmod b≠0/\(decide (a.tmod b<0) != decide (b<0))=true)->a.fdiv b=a.tdiv b/\a.fmod b=a.tmod b):=by
 have h1:=Int.tmod_add_mul_tdiv a b
 have h2:(a.tmod b).natAbs<b.natAbs:=by rw[Int.natAbs_tmod];exact Nat.mod_lt _ (by omega)
 generalize a.tmod b=r at*
 generalize a.tdiv b=q at*
 have e:b*(q-1)=b*q-b:=by rw[Int.mul_sub,Int.mul_one]
 constructor
 ·rintro ⟨hr,hs⟩
  rcases Int.lt_or_gt_of_ne h0 with hb|hb
  ·have:¬r<0:=by intro q;simp[q,hb]at hs
   exact (Int.fdiv_fmod_unique' hb).2 ⟨by rw[e];omega,by omega,by omega⟩
  ·have:r<0:=by
    by_cases q:r<0
    ·exact q
    ·exfalso;simp[q,show ¬b<0 by omega]at hs
   exact (Int.fdiv_fmod_unique (by omega)).2 ⟨by rw[e];omega,by omega,by omega⟩
 ·intro hn
  rcases Int.lt_or_gt_of_ne h0 with hb|hb
  ·have:r<=0:=by
    by_cases q:r<=0
    ·exact q
    ·exact absurd ⟨by omega,by simp[hb];omega⟩ hn
   exact (Int.fdiv_fmod_unique' hb).2 ⟨h1,by omega,by omega⟩
  ·have:0<=r:=by
    by_cases q:0<=r
    ·exact q
    ·exact absurd ⟨by omega,by simp[show ¬b<0 by omega];omega⟩ hn
   exact (Int.fdiv_fmod_unique (by omega)).2 ⟨h1,by omega,by omega⟩
theorem divX_zero (a:Int):divX a 0=(0,false)/\modX a 0=(0,false):=by simp[divX,modX]
theorem divX_ok {a b:Int}(ha:Bnd30 a)(hb:Bnd30 b)(h0:b≠0):divX a b=(a.fdiv b,true)/\modX a b=(a.fmod b,true):=by simp[divX,modX,smallI_of ha,smallI_of hb,h0]
theorem divide_any (a b:Int)(ha:Bnd30 a)(hb:Bnd30 b)(w:World):Calls Tryz.prog 239 #[.int .i64 a,.int .i64 b] w λe w'=>e=.returned (.tuple #[.int .i64 (divX a b).1,.int .i64 (modX a b).1,.bool (divX a b).2])/\Below w.heap.size w w':=by
 have s1:=smallI_of ha
 have s2:=smallI_of hb
 by_cases h0:b=0
 ·subst h0
  have HD:=hide (divX_zero a)
  clear ha hb
  go_enter Tryz.func239,Tryz.ntmps239
  go_wp2_with (go_at_call 146;refine (small_any _ _).mono ?_;rintro e w' ⟨rfl,rfl⟩)
  go_ret3
  exact ⟨by rw[HD.out.1,HD.out.2] <;> rfl,Below.refl _ _⟩
 ·have HD:=hide (divX_ok ha hb h0)
  have HF:=hide (floor_of_trunc (a:=a) h0)
  have q0:(b==0)=false:=by simpa using h0
  have hd:=tdiv_bd ha h0
  have hm:=tmod_bd (a:=a) hb h0
  have hb':b.natAbs<=1073741824:=by unfold Bnd30 at hb;omega
  have hw0:IntKind.i64.wrap (a.tdiv b)=a.tdiv b:=IntWalk.i64_in _ (by omega)
  have hw1:IntKind.i64.wrap (a.tdiv b-1)=a.tdiv b-1:=IntWalk.i64_in _ (by omega)
  have hw2:IntKind.i64.wrap (a.tmod b+b)=a.tmod b+b:=IntWalk.i64_in _ (by omega)
  have hw3:IntKind.i64.wrap (a.tmod b)=a.tmod b:=IntWalk.i64_in _ (by omega)
  by_cases h2:a.tmod b=0
  ·have h2':(a.tmod b != 0)=false:=by simpa using h2
   have HR:=hide (HF.out.2 (λh=>h.1 h2))
   go_enter Tryz.func239,Tryz.ntmps239
   go_wp2_with (go_at_call 146;refine (small_any _ _).mono ?_;rintro e w' ⟨rfl,rfl⟩)
   all_goals (try go_quiet (fail))
   go_wp2
   go_ret3
   exact ⟨by rw[HD.out.1,HD.out.2,HR.out.1,HR.out.2,h2] <;> rfl,below_drewN (Below.refl _ _) _⟩
  ·have h2':(a.tmod b != 0)=true:=by simpa using h2
   by_cases h4:a.tmod b<0
   ·by_cases h5:b<0
    ·have HR:=hide (HF.out.2 (λh=>by have:=h.2;simp[h4,h5]at this))
     have d4:decide (a.tmod b<0)=true:=by simp[h4]
     have d5:decide (b<0)=true:=by simp[h5]
     go_enter Tryz.func239,Tryz.ntmps239
     go_wp2_with (go_at_call 146;refine (small_any _ _).mono ?_;rintro e w' ⟨rfl,rfl⟩)
     all_goals (try go_quiet (fail))
     go_wp2
     go_ret3
     exact ⟨by rw[HD.out.1,HD.out.2,HR.out.1,HR.out.2] <;> rfl,below_drewN (Below.refl _ _) _⟩
    ·have HR:=hide (HF.out.1 ⟨h2,by simp[h4,h5]⟩)
     have d4:decide (a.tmod b<0)=true:=by simp[h4]
     have d5:decide (b<0)=false:=by simp[h5]
     go_enter Tryz.func239,Tryz.ntmps239
     go_wp2_with (go_at_call 146;refine (small_any _ _).mono ?_;rintro e w' ⟨rfl,rfl⟩)
     all_goals (try go_quiet (fail))
     go_wp2
     go_ret3
     exact ⟨by rw[HD.out.1,HD.out.2,HR.out.1,HR.out.2] <;> rfl,below_drewN (Below.refl _ _) _⟩
   ·by_cases h5:b<0
    ·have HR:=hide (HF.out.1 ⟨h2,by simp[h4,h5]⟩)
     have d4:decide (a.tmod b<0)=false:=by simp[h4]
     have d5:decide (b<0)=true:=by simp[h5]
     go_enter Tryz.func239,Tryz.ntmps239
     go_wp2_with (go_at_call 146;refine (small_any _ _).mono ?_;rintro e w' ⟨rfl,rfl⟩)
     all_goals (try go_quiet (fail))
     go_wp2
     go_ret3
     exact ⟨by rw[HD.out.1,HD.out.2,HR.out.1,HR.out.2] <;> rfl,below_drewN (Below.refl _ _) _⟩
    ·have HR:=hide (HF.out.2 (λh=>by have:=h.2;simp[h4,h5]at this))
     have d4:decide (a.tmod b<0)=false:=by simp[h4]
     have d5:decide (b<0)=false:=by simp[h5]
     go_enter Tryz.func239,Tryz.ntmps239
     go_wp2_with (go_at_call 146;refine (small_any _ _).mono ?_;rintro e w' ⟨rfl,rfl⟩)
     all_goals (try go_quiet (fail))
     go_wp2
     go_ret3
     exact ⟨by rw[HD.out.1,HD.out.2,HR.out.1,HR.out.2] <;> rfl,below_drewN (Below.refl _ _) _⟩
theorem divX_snd (a b:Int):(divX a b).2=(modX a b).2:=by
 rw[divX,modX];split <;> rfl
theorem div_any (a b:Int)(ha:Bnd30 a)(hb:Bnd30 b)(w:World):Calls Tryz.prog 218 #[.int .i64 a,.int .i64 b] w λe w'=>e=.returned (.tuple #[.int .i64 (divX a b).1,.bool (divX a b).2])/\Below w.heap.size w w':=by
 go_enter Tryz.func218,Tryz.ntmps218
 go_wp2_with fail
 refine (divide_any a b ha hb _).mono ?_
 rintro e w1 ⟨rfl,hb1⟩
 go_wp2
 go_ret2
 exact ⟨rfl,hb1⟩
theorem mod_any (a b:Int)(ha:Bnd30 a)(hb:Bnd30 b)(w:World):Calls Tryz.prog 219 #[.int .i64 a,.int .i64 b] w λe w'=>e=.returned (.tuple #[.int .i64 (modX a b).1,.bool (modX a b).2])/\Below w.heap.size w w':=by
 rw[<-divX_snd]
 go_enter Tryz.func219,Tryz.ntmps219
 go_wp2_with fail
 refine (divide_any a b ha hb _).mono ?_
 rintro e w1 ⟨rfl,hb1⟩
 go_wp2
 go_ret2
 exact ⟨rfl,hb1⟩
theorem sameRow1_ref (w:World)(A A2:Option Addr)(n n2 c c2:Nat)(xs ys:List Val)(hx:In w A n c xs)(hy:In w A2 n2 c2 ys):
  Calls Tryz.prog 56 #[.slice A n c,.slice A2 n2 c2] w λe w'=>e=.returned (.bool (cmpRows xs ys==0))/\Below w.heap.size w w':=by
 go_enter Tryz.func56,Tryz.ntmps56
 have HX:=hide hx
 clear hx
 have HY:=hide hy
 clear hy
 go_wp2_with fail
 refine (compareRows_ref _ A A2 n n2 c c2 xs ys HX.out HY.out).mono ?_
 rintro e w1 ⟨rfl,hb1⟩
 have SG2:=hide hb1
 clear hb1
 have HBW:=hide SG2.out
 have HQ:=hide (rfl:cmpRows xs ys=cmpRows xs ys)
 go_wp2
 go_ret
 exact ⟨rfl,HBW.out⟩
theorem count_ref (w:World)(A:Option Addr)(n c:Nat)(bs:List Ent)(hx:In w A n c bs)(A2:Option Addr)(n2 c2:Nat)(row:List Val)(hy:In w A2 n2 c2 row):
  Calls Tryz.prog 25 #[.slice A n c,.slice A2 n2 c2] w λe w'=>e=.returned (.int .i64 (cntF bs row))/\Below w.heap.size w w':=by
 obtain ⟨R,hR⟩: ∃R,cntF bs row=R:=⟨_,rfl⟩
 have HR:=hide hR
 rw[hR]
 clear hR
 have HL:=hide hx.len
 have h63:=hx.le
 go_enter Tryz.func25,Tryz.ntmps25
 have HX:=hide hx
 clear hx
 have HY:=hide hy
 clear hy
 go_wp2
 go_loopw [5] (λi wr=> ∃k:Nat,k<=n/\i=.int .i64 k/\R=cntF (bs.drop k) row/\Below w.heap.size w wr) (λi _=>n-(RowKit.intOf i).toNat)
 case atStart=>exact ⟨0,Nat.zero_le _,rfl,HR.out.symm,Below.refl _ _⟩
 case round=>
  obtain ⟨k,hk,rfl,heq,hb⟩:=hrel
  have HE:=hide heq
  clear heq
  have HX:=hide (HX.out.below hb)
  have HY:=hide (HY.out.below hb)
  have SG3:=hide hb
  clear hb
  by_cases hlt:k<n
  ·obtain ⟨b,off,x,rfl,hBb,HX1,Ax,An,Ac,e0,e1,e2,e3⟩:=HX.out.ent hlt
   have k0:(0:Int)<=(k:Int):=by omega
   have k1:(k:Int)<(n:Int):=by omega
   have HI:=hide e2
   have E0:=hide e0
   have E1:=hide e1
   clear e2
   go_wp2_with fail
   refine (sameRow1_ref _ Ax A2 An n2 Ac c2 x.row row (by exact HI.out) HY.out).mono ?_
   rintro e w4 ⟨rfl,hb4⟩
   have LST5:=hide hb4
   have SG5:=hide (below_trans SG3.out hb4)
   clear hb4
   have e0:=bat LST5.out hBb E0.out
   have e1:=bat LST5.out hBb E1.out
   have HLW:=hide SG5.out
   have HBW:=hide SG5.out
   by_cases hq:cmpRows x.row row=0
   ·obtain rfl:R=x.count:=by rw[HE.out,HX1.out,cntF,if_pos hq]
    have q0:(cmpRows x.row row==0)=true:=by simpa using hq
    rw[q0]
    clear q0 hq
    go_wp2
    all_goals (try (exfalso;go_light;simp_all;done))
    go_ret
    exact ⟨rfl,HBW.out⟩
   ·have q0:(cmpRows x.row row==0)=false:=by simpa using hq
    have HN:Hid (R=cntF (bs.drop (k+1)) row):=hide (by rw[HE.out,HX1.out,cntF,if_neg hq])
    rw[q0]
    clear q0 hq
    go_wp2
    all_goals (try (exfalso;go_light;simp_all;done))
    go_roundw
    case rel=>exact ⟨k+1,by omega,by go_num,HN.out,HLW.out⟩
    case measure=>simp[RowKit.intOf];omega
  ·obtain rfl:R=0:=by rw[HE.out,drop_end HX.out.len (by omega)];rfl
   have HBW:=hide SG3.out
   go_wp2
   go_ret
   exact ⟨rfl,HBW.out⟩
end Go.Proofs.YtggejcekmehocaaGreatDoor
