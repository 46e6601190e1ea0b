/-
  schema.IsName and warehouseref5.IsName. schema.Index (slices.IndexFunc over columns) and warehouseref5.Index. schema.Validate and warehouseref5.Validate. Package warehouseref1: Valid, Compare, CompareRows. Package value: Valid, Compare, CompareRows; package cmp's Or and Compare. expr.Arity and warehouseref8.Arity: both return arity. warehousebase: At, Moment, Value, Cell, Row: what they build is well-formed. warehousebase: Cell and Row: they fit their columns. schema.CheckRow and warehouseref5.CheckRow. warehousebase.Row: the row fits the columns and lies in a new block. Checked arithmetic: package exact's and the reference's, at integers from -2^30 to 2^30 (larger ones never come in); truth values. bag.formed and warehouseref6.fits. slices.CompareFunc over values, value.CompareRows. bag.Validate, bag.IsTable; warehouseref6.Validate, positive, IsTable. bag.IsTable; warehouseref6.Validate, positive, IsTable. Package warehouseref1: CompareRows. warehouseworld.Within: a list of entries is small. Values of conditions, numbers and moments: scalar.boolean, number, moment and the reference's truth, number, moment. scalar.logic and warehouseref9.logic: they return logicV; a result block of three cells. (Printed by gen_logic.py.)
-/
import Derived.Test.YtopjjlmfilgngaaGreatDoorProg
import Derived.Test.YtopjjlmfilgngaaGreatDoorGac
import Derived.Test.YtopjjlmfilgngaaGreatDoorGaa
namespace Go.Proofs.YtopjjlmfilgngaaGreatDoor
set_option maxHeartbeats 2000000
set_option maxRecDepth 100000
open Go.RowKit
set_option linter.unusedSimpArgs false
set_option linter.unusedVariables false
theorem vI (s:ByteArray)(i:Nat)(h:i<s.size):gK s i=(s[i]'h).toNat:=by
 have h':i<s.data.toList.length:=by simpa using h
 have:s.data.toList.getD i 0=s[i]'h:=by rw[List.getD,List.getElem?_eq_getElem h'];rfl
 rw[gK,this]
theorem Dx (P:Program)(w:World)(s:ByteArray)(pos:Nat)(h:pos<s.size):
  ∃c wd:Nat,(∀ty,(Instr.next (.pointer (some ⟨w.heap.size,0,none⟩)) true ty).run P (w.iter s pos)=.ok (.tuple #[.bool true,.int .i64 pos,.int .i32 (c:Int)]) (w.iter s (pos+wd)))/\
   (c<128->c=gK s pos/\wd=1)/\(128<=c->128<=gK s pos)/\c<=2147483647:=by
 refine ⟨_,_,λty=>run_next_any w s pos ty h,λhc=>?_,λhc=>?_,decode_le s pos⟩
 ·by_cases ha:(s[pos]'h).toNat<128
  ·rw[decode_ascii s pos h ha,vI s pos h];exact ⟨rfl,rfl⟩
  ·have:=(decode_high s pos h (by omega)).1;omega
 ·by_cases ha:(s[pos]'h).toNat<128
  ·rw[decode_ascii s pos h ha]at hc;have:128<=(s[pos]'h).toNat:=hc;omega
  ·rw[vI s pos h];omega
theorem nQ (s:ByteArray)(i:Nat)(h:i<s.size):eG s (s.size-i) i=(gM (gK s i) i&&eG s (s.size-(i+1)) (i+1)):=by
 rw[show s.size-i=(s.size-(i+1))+1 from by omega,eG]
theorem eX (s:ByteArray)(i:Nat)(h:i<s.size)(hb:gM (gK s i) i=false):eG s (s.size-i) i=false:=by
 rw[nQ s i h,hb];rfl
theorem fD (s:ByteArray)(i:Nat)(h:i<s.size)(hb:gM (gK s i) i=true):eG s (s.size-i) i=eG s (s.size-(i+1)) (i+1):=by
 rw[nQ s i h,hb];rfl
theorem gp (c i:Nat)(h:128<=c):gM c i=false:=by
 have h1:¬c<=122:=by omega
 have h2:¬c=95:=by omega
 have h3:¬c<=57:=by omega
 simp[gM,h1,h2,h3]
theorem cK (c i:Nat):gM c i=true↔(97<=c/\c<=122)\/(0<i/\(c=95\/(48<=c/\c<=57))):=by simp only[gM,Bool.or_eq_true,Bool.and_eq_true,decide_eq_true_eq]
theorem xz (s:ByteArray):(!s.toList.isEmpty)=decide (0<s.size):=by
 rw[ByteArray.toList_eq];have:s.size=s.data.toList.length:=rfl;rw[this];cases s.data.toList <;> simp
theorem ji (s:ByteArray)(hs:Str s)(w:World):
  Calls Tryz.prog 184 #[.string s] w λe w'=>e=.returned (.bool (cu s))/\Below w.heap.size w w':=by
 unfold Str at hs;go_enter Tryz.func184,Tryz.ntmps184;by_cases hl:s.size<=24
 ·go_wp2;go_loopw [3] (λ_ wr=> ∃pos:Nat,pos<=s.size/\wr=w.iter s pos/\eG s s.size 0=eG s (s.size-pos) pos) (λ_ wr=>s.size-wr.iterPos w.heap.size)
  case atStart=>exact ⟨0,by omega,rfl,rfl⟩
  case round=>
   obtain ⟨pos,hpos,rfl,heq⟩:=hrel;have HE:=hide heq;clear heq;by_cases hp:pos<s.size
   ·obtain ⟨c,wd,hnx,h1,h2,h3⟩:=Dx Tryz.prog w s pos hp;have H1:=hide h1;clear h1;cases hA:decide ((97:Int)<=(c:Int))
    ·cases hC:((pos:Int)==0)
     ·cases hD:((c:Int)==95)
      ·cases hE:decide ((c:Int)<48)
       ·cases hF:decide ((57:Int)<(c:Int))
        ·go_wp2;all_goals (try (exfalso;go_light;(try simp only[decide_eq_true_eq,decide_eq_false_iff_not,beq_iff_eq,beq_eq_false_iff_ne,ne_eq,Bool.not_eq_true',Bool.not_eq_false']at*);omega));all_goals
          go_roundw
          case rel=>
           go_light
           (try simp only[decide_eq_true_eq,decide_eq_false_iff_not,beq_iff_eq,beq_eq_false_iff_ne,ne_eq]at*);obtain ⟨e1,rfl⟩:=H1.out (by omega);refine ⟨pos+1,by omega,rfl,?_⟩;rw[HE.out];exact fD s pos hp (by rw[<-e1];exact (cK c pos).2 (by omega))
          case measure=>
           go_light
           (try simp only[decide_eq_true_eq,decide_eq_false_iff_not,beq_iff_eq,beq_eq_false_iff_ne,ne_eq]at*);obtain ⟨e1,rfl⟩:=H1.out (by omega);simp;omega
        ·go_wp2;all_goals (try (exfalso;go_light;(try simp only[decide_eq_true_eq,decide_eq_false_iff_not,beq_iff_eq,beq_eq_false_iff_ne,ne_eq,Bool.not_eq_true',Bool.not_eq_false']at*);omega));all_goals
          go_ret;refine ⟨ay ?_,ae⟩;go_light;have hbad:gM (gK s pos) pos=false:=by
           by_cases hc:c<128
           ·rw[<-(H1.out hc).1];refine Bool.eq_false_iff.2 λh=>?_;have h':=(cK c pos).1 h
            (try simp only[decide_eq_true_eq,decide_eq_false_iff_not,beq_iff_eq,beq_eq_false_iff_ne,ne_eq]at*) <;> omega
           ·exact gp _ _ (h2 (by omega))
          rw[cu,HE.out,eX s pos hp hbad];simp
       ·go_wp2;all_goals (try (exfalso;go_light;(try simp only[decide_eq_true_eq,decide_eq_false_iff_not,beq_iff_eq,beq_eq_false_iff_ne,ne_eq,Bool.not_eq_true',Bool.not_eq_false']at*);omega));all_goals
         go_ret;refine ⟨ay ?_,ae⟩;go_light;have hbad:gM (gK s pos) pos=false:=by
          by_cases hc:c<128
          ·rw[<-(H1.out hc).1];refine Bool.eq_false_iff.2 λh=>?_;have h':=(cK c pos).1 h
           (try simp only[decide_eq_true_eq,decide_eq_false_iff_not,beq_iff_eq,beq_eq_false_iff_ne,ne_eq]at*) <;> omega
          ·exact gp _ _ (h2 (by omega))
         rw[cu,HE.out,eX s pos hp hbad];simp
      ·go_wp2;all_goals (try (exfalso;go_light;(try simp only[decide_eq_true_eq,decide_eq_false_iff_not,beq_iff_eq,beq_eq_false_iff_ne,ne_eq,Bool.not_eq_true',Bool.not_eq_false']at*);omega));all_goals
        go_roundw
        case rel=>
         go_light
         (try simp only[decide_eq_true_eq,decide_eq_false_iff_not,beq_iff_eq,beq_eq_false_iff_ne,ne_eq]at*);obtain ⟨e1,rfl⟩:=H1.out (by omega);refine ⟨pos+1,by omega,rfl,?_⟩;rw[HE.out];exact fD s pos hp (by rw[<-e1];exact (cK c pos).2 (by omega))
        case measure=>
         go_light
         (try simp only[decide_eq_true_eq,decide_eq_false_iff_not,beq_iff_eq,beq_eq_false_iff_ne,ne_eq]at*);obtain ⟨e1,rfl⟩:=H1.out (by omega);simp;omega
     ·go_wp2;all_goals (try (exfalso;go_light;(try simp only[decide_eq_true_eq,decide_eq_false_iff_not,beq_iff_eq,beq_eq_false_iff_ne,ne_eq,Bool.not_eq_true',Bool.not_eq_false']at*);omega));all_goals
       go_ret;refine ⟨ay ?_,ae⟩;go_light;have hbad:gM (gK s pos) pos=false:=by
        by_cases hc:c<128
        ·rw[<-(H1.out hc).1];refine Bool.eq_false_iff.2 λh=>?_;have h':=(cK c pos).1 h
         (try simp only[decide_eq_true_eq,decide_eq_false_iff_not,beq_iff_eq,beq_eq_false_iff_ne,ne_eq]at*) <;> omega
        ·exact gp _ _ (h2 (by omega))
       rw[cu,HE.out,eX s pos hp hbad];simp
    ·cases hB:decide ((c:Int)<=122)
     ·cases hC:((pos:Int)==0)
      ·cases hD:((c:Int)==95)
       ·cases hE:decide ((c:Int)<48)
        ·cases hF:decide ((57:Int)<(c:Int))
         ·go_wp2;all_goals (try (exfalso;go_light;(try simp only[decide_eq_true_eq,decide_eq_false_iff_not,beq_iff_eq,beq_eq_false_iff_ne,ne_eq,Bool.not_eq_true',Bool.not_eq_false']at*);omega));all_goals
           go_roundw
           case rel=>
            go_light
            (try simp only[decide_eq_true_eq,decide_eq_false_iff_not,beq_iff_eq,beq_eq_false_iff_ne,ne_eq]at*);obtain ⟨e1,rfl⟩:=H1.out (by omega);refine ⟨pos+1,by omega,rfl,?_⟩;rw[HE.out];exact fD s pos hp (by rw[<-e1];exact (cK c pos).2 (by omega))
           case measure=>
            go_light
            (try simp only[decide_eq_true_eq,decide_eq_false_iff_not,beq_iff_eq,beq_eq_false_iff_ne,ne_eq]at*);obtain ⟨e1,rfl⟩:=H1.out (by omega);simp;omega
         ·go_wp2;all_goals (try (exfalso;go_light;(try simp only[decide_eq_true_eq,decide_eq_false_iff_not,beq_iff_eq,beq_eq_false_iff_ne,ne_eq,Bool.not_eq_true',Bool.not_eq_false']at*);omega));all_goals
           go_ret;refine ⟨ay ?_,ae⟩;go_light;have hbad:gM (gK s pos) pos=false:=by
            by_cases hc:c<128
            ·rw[<-(H1.out hc).1];refine Bool.eq_false_iff.2 λh=>?_;have h':=(cK c pos).1 h
             (try simp only[decide_eq_true_eq,decide_eq_false_iff_not,beq_iff_eq,beq_eq_false_iff_ne,ne_eq]at*) <;> omega
            ·exact gp _ _ (h2 (by omega))
           rw[cu,HE.out,eX s pos hp hbad];simp
        ·go_wp2;all_goals (try (exfalso;go_light;(try simp only[decide_eq_true_eq,decide_eq_false_iff_not,beq_iff_eq,beq_eq_false_iff_ne,ne_eq,Bool.not_eq_true',Bool.not_eq_false']at*);omega));all_goals
          go_ret;refine ⟨ay ?_,ae⟩;go_light;have hbad:gM (gK s pos) pos=false:=by
           by_cases hc:c<128
           ·rw[<-(H1.out hc).1];refine Bool.eq_false_iff.2 λh=>?_;have h':=(cK c pos).1 h
            (try simp only[decide_eq_true_eq,decide_eq_false_iff_not,beq_iff_eq,beq_eq_false_iff_ne,ne_eq]at*) <;> omega
           ·exact gp _ _ (h2 (by omega))
          rw[cu,HE.out,eX s pos hp hbad];simp
       ·go_wp2;all_goals (try (exfalso;go_light;(try simp only[decide_eq_true_eq,decide_eq_false_iff_not,beq_iff_eq,beq_eq_false_iff_ne,ne_eq,Bool.not_eq_true',Bool.not_eq_false']at*);omega));all_goals
         go_roundw
         case rel=>
          go_light
          (try simp only[decide_eq_true_eq,decide_eq_false_iff_not,beq_iff_eq,beq_eq_false_iff_ne,ne_eq]at*);obtain ⟨e1,rfl⟩:=H1.out (by omega);refine ⟨pos+1,by omega,rfl,?_⟩;rw[HE.out];exact fD s pos hp (by rw[<-e1];exact (cK c pos).2 (by omega))
         case measure=>
          go_light
          (try simp only[decide_eq_true_eq,decide_eq_false_iff_not,beq_iff_eq,beq_eq_false_iff_ne,ne_eq]at*);obtain ⟨e1,rfl⟩:=H1.out (by omega);simp;omega
      ·go_wp2;all_goals (try (exfalso;go_light;(try simp only[decide_eq_true_eq,decide_eq_false_iff_not,beq_iff_eq,beq_eq_false_iff_ne,ne_eq,Bool.not_eq_true',Bool.not_eq_false']at*);omega));all_goals
        go_ret;refine ⟨ay ?_,ae⟩;go_light;have hbad:gM (gK s pos) pos=false:=by
         by_cases hc:c<128
         ·rw[<-(H1.out hc).1];refine Bool.eq_false_iff.2 λh=>?_;have h':=(cK c pos).1 h
          (try simp only[decide_eq_true_eq,decide_eq_false_iff_not,beq_iff_eq,beq_eq_false_iff_ne,ne_eq]at*) <;> omega
         ·exact gp _ _ (h2 (by omega))
        rw[cu,HE.out,eX s pos hp hbad];simp
     ·go_wp2;all_goals (try (exfalso;go_light;(try simp only[decide_eq_true_eq,decide_eq_false_iff_not,beq_iff_eq,beq_eq_false_iff_ne,ne_eq,Bool.not_eq_true',Bool.not_eq_false']at*);omega));all_goals
       go_roundw
       case rel=>
        go_light
        (try simp only[decide_eq_true_eq,decide_eq_false_iff_not,beq_iff_eq,beq_eq_false_iff_ne,ne_eq]at*);obtain ⟨e1,rfl⟩:=H1.out (by omega);refine ⟨pos+1,by omega,rfl,?_⟩;rw[HE.out];exact fD s pos hp (by rw[<-e1];exact (cK c pos).2 (by omega))
       case measure=>
        go_light
        (try simp only[decide_eq_true_eq,decide_eq_false_iff_not,beq_iff_eq,beq_eq_false_iff_ne,ne_eq]at*);obtain ⟨e1,rfl⟩:=H1.out (by omega);simp;omega
   ·have hnx: ∀ty,(Instr.next (.pointer (some ⟨w.heap.size,0,none⟩)) true ty).run Tryz.prog (w.iter s pos)=_:=λty=>run_next_end w s pos ty hp;go_wp2;go_ret;refine ⟨ay ?_,ae⟩;go_light;have:pos=s.size:=by omega
    subst this;rw[cu,HE.out,Nat.sub_self,eG];rw[xz];simp[hl]
 ·go_wp2;go_ret;exact ⟨ay (by simp[cu,hl]),Below.refl _ _⟩
theorem Dj (c:Col)(name:ByteArray)(g:Nat)(w:World)(hg:w.cell? ⟨g,0,none⟩=some (.string name))(hlt:g<w.heap.size):
  Calls Tryz.prog 182 #[.agg c.cells.toArray,.pointer (some ⟨g,0,none⟩)] w λe w'=>e=.returned (.bool (c.name.toList==name.toList))/\Below w.heap.size w w':=by
 simp only[Col.cells];go_enter Tryz.func182,Tryz.ntmps182;go_wp2;go_ret;exact ⟨rfl,ae⟩
theorem uV (w:World)(A:Option Addr)(n c:Nat)(xs:List Col)(hx:In w A n c xs)(name:ByteArray)(g:Nat)(hg:w.cell? ⟨g,0,none⟩=some (.string name))(hlt:g<w.heap.size):
  Calls Tryz.prog 181 #[.slice A n c,.func (.func 182) #[] #[.pointer (some ⟨g,0,none⟩)]] w
   λe w'=>e=.returned (.int .i64 (index xs name))/\Below w.heap.size w w':=by
 have h63:=hx.le;go_enter Tryz.func181,Tryz.ntmps181;go_wp2;go_loopw [8] (λi wr=> ∃k:Nat,k<=n/\i=.int .i64 k/\index xs name=aI name k (xs.drop k)/\Below w.heap.size w wr) (λi _=>n-(intOf i).toNat)
 case atStart=>exact ⟨0,Nat.zero_le _,rfl,rfl,Below.refl _ _⟩
 case round=>
  obtain ⟨k,hk,rfl,heq,hb⟩:=hrel;have HE:=hide heq;clear heq;by_cases hlt':k<n
  ·obtain ⟨b,off,x,rfl,hB,HX,e0,e1,e2,e3⟩:=(hx.below hb).col hlt';go_wp2_with fail;refine (Dj x name g _ (aj hb hlt hg) (Nat.lt_of_lt_of_le hlt hb.size)).mono ?_;rintro e w1 ⟨rfl,hb1⟩;have hbb:=aa hb hb1;clear hb1 e0 e1 e2;cases hz:(x.name.toList==name.toList)
   ·go_wp2;go_roundw
    case rel=>exact ⟨k+1,by omega,by go_num,by rw[HE.out,HX.out,aI,if_neg (by simp[hz])],hbb⟩
    case measure=>simp[intOf];omega
   ·go_wp2;go_ret;exact ⟨ai (by rw[HE.out,HX.out,aI,if_pos hz]),hbb⟩
  ·go_wp2;go_ret;exact ⟨ai (by rw[HE.out,aD hx.len (by omega),aI]),hb⟩
theorem qE (w:World)(A:Option Addr)(n c:Nat)(xs:List Col)(hx:In w A n c xs)(name:ByteArray):
  Calls Tryz.prog 139 #[.slice A n c,.string name] w λe w'=>e=.returned (.int .i64 (index xs name))/\Below w.heap.size w w':=by
 go_enter Tryz.func139,Tryz.ntmps139;go_wp2_with fail;refine (uV _ _ _ _ xs (hx.below ae) name w.heap.size (by simp[go_sem]) (by simp)).mono ?_;rintro e w1 ⟨rfl,hb1⟩;have hbb:=aa ae hb1;go_wp2;go_ret;exact ⟨rfl,hbb⟩
theorem aT {α:Type}{f:Nat->α->Int}{k:Nat}{x:α}{l:List α}(h:f k x=0):ag f k (x :: l)=ag f (k+1) l:=by simp[ag,h]
theorem aK {α:Type}{f:Nat->α->Int}{k:Nat}{x:α}{l:List α}{e:Int}(h:f k x=e)(he:e≠0):ag f k (x :: l)=e:=by simp[ag,h,he]
theorem jW (w:World)(A:Option Addr)(n c:Nat)(xs:List Col)(hx:In w A n c xs):
  Calls Tryz.prog 143 #[.slice A n c] w λe w'=>e=.returned (.int .i64 (aC xs))/\Below w.heap.size w w':=by
 have h63:=hx.le;have hlen:=hide hx.len;go_enter Tryz.func143,Tryz.ntmps143;by_cases hs:n<1\/12<n
 ·have he:Hid (2=aC xs):=hide (by rw[aC,hlen.out,if_pos hs]);rcases hs with hs|hs
  all_goals
   go_wp2;go_ret;exact ⟨ai he.out,Below.refl _ _⟩
 have lF:Hid (aC xs=ag (ja xs) 0 xs):=hide (by rw[aC,hlen.out,if_neg hs]);have hs1:1<=n:=by omega
 have hs2:n<=12:=by omega
 clear hs;go_wp2;go_loopw [15] (λi wr=> ∃k:Nat,k<=n/\i=.int .i64 k/\ag (ja xs) 0 xs=ag (ja xs) k (xs.drop k)/\Below w.heap.size w wr) (λi _=>n-(intOf i).toNat)
 case atStart=>exact ⟨0,Nat.zero_le _,rfl,rfl,Below.refl _ _⟩
 case round=>
  obtain ⟨k,hk,rfl,heq,hb⟩:=hrel;have HE:=hide heq;clear heq;by_cases hlt:k<n
  ·obtain ⟨b,off,x,rfl,hB,HX,e0,e1,e2,e3⟩:=(hx.below hb).col hlt;go_wp2_with fail;refine (ji x.name e3.1 _).mono ?_;rintro e w1 ⟨rfl,hb1⟩;have hbb:=aa (aa hb ae) hb1;obtain ⟨hc1,hf1⟩:=aP hb1;have hin:=hx.below hbb;clear hb1 e0 e1 e2;obtain ⟨hk1,hk2⟩:=e3.2;cases hnm:cu x.name
   ·go_wp2;go_ret;exact ⟨ai (by rw[lF.out,HE.out,HX.out];exact (aK (by simp[ja,hnm]) (by omega)).symm),hbb⟩
   ·by_cases hkd:x.kind<1\/4<x.kind
    ·have he:ja xs k x=7:=by rw[ja,if_neg (by simp[hnm]),if_pos hkd]
     have HR:Hid (7=aC xs):=hide (by rw[lF.out,HE.out,HX.out];exact (aK he (by omega)).symm);clear he;rcases hkd with hkd|hkd
     all_goals
      go_wp2;go_ret;exact ⟨ai HR.out,hbb⟩
    ·have hk3:1<=x.kind:=by omega
     have hk4:x.kind<=4:=by omega
     have HC:Hid (ja xs k x=if index xs x.name<k then 6 else 0):=hide (by rw[ja,if_neg (by simp[hnm]),if_neg hkd]);clear hkd;go_wp2_with fail;refine (qE _ _ _ _ xs hin x.name).mono ?_;rintro e w2 ⟨rfl,hb2⟩;have yZ:=aa hbb hb2;clear hb2 hc1 hf1;by_cases hi:index xs x.name<k
     ·have HR:Hid (6=aC xs):=hide (by rw[lF.out,HE.out,HX.out];exact (aK (by rw[HC.out,if_pos hi]) (by omega)).symm);go_wp2;go_ret;exact ⟨ai HR.out,yZ⟩
     ·go_wp2;go_roundw
      case rel=>exact ⟨k+1,by omega,by go_num,by rw[HE.out,HX.out];exact aT (by rw[HC.out,if_neg (by omega)]),yZ⟩
      case measure=>simp[intOf];omega
  ·go_wp2;go_ret;exact ⟨ai (by rw[lF.out,HE.out,aD hx.len (by omega),ag]),hb⟩
theorem Ea (v:Val)(hv:v.ok)(w:World):
  Calls Tryz.prog 100 #[.agg v.cells.toArray] w λe w'=>e=.returned (.bool (valid v))/\Below w.heap.size w w':=by
 obtain ⟨k,n,s⟩:=v;simp only[Val.cells,Val.ok,Str,dH]at*;obtain ⟨⟨h1,h2⟩,⟨h3,h4⟩,h5⟩:=hv;go_enter Tryz.func100,Tryz.ntmps100;go_wp2;all_goals
  go_ret;refine ⟨ay ?_,ae⟩;go_light;simp only[beq_iff_eq,beq_eq_false_iff_ne,ne_eq]at*;try subst k
  simp_all[valid,dx]
 all_goals (try omega);all_goals (try (repeat' split <;> omega))
theorem mo (a b:Int)(w:World):Calls Tryz.prog 90 #[.int .i64 a,.int .i64 b] w λe w'=>e=.returned (.int .i64 (eD a b))/\w=w':=by
 go_enter Tryz.func90,Tryz.ntmps90;go_wp2;all_goals (go_ret;refine ⟨ai ?_,rfl⟩;go_light;simp only[eD];(repeat' split) <;> omega)
theorem yx (a b:Val)(w:World):
  Calls Tryz.prog 89 #[.agg a.cells.toArray,.agg b.cells.toArray] w λe w'=>e=.returned (.int .i64 (bD a b))/\Below w.heap.size w w':=by
 obtain ⟨k,n,s⟩:=a;obtain ⟨k',n',s'⟩:=b;simp only[Val.cells];go_enter Tryz.func89,Tryz.ntmps89;go_wp2_with (go_at_call 90;refine (mo _ _ _).mono ?_;rintro e w' ⟨rfl,rfl⟩);all_goals
  go_ret;refine ⟨ai ?_,below_alloc2⟩;go_light
  (try simp only[bne_iff_ne,ne_eq]at*)
  (first|(simp_all[bD];done)|(simp_all[bD,dY];done))
theorem kw (v:Val)(hv:v.ok)(w:World):
  Calls Tryz.prog 86 #[.agg v.cells.toArray] w λe w'=>e=.returned (.bool (valid v))/\Below w.heap.size w w':=by
 obtain ⟨k,n,s⟩:=v;simp only[Val.cells,Val.ok,Str,dH]at*;obtain ⟨⟨h1,h2⟩,⟨h3,h4⟩,h5⟩:=hv;go_enter Tryz.func86,Tryz.ntmps86;go_wp2;all_goals
  go_ret;refine ⟨ay ?_,ae⟩;go_light;simp only[beq_iff_eq,beq_eq_false_iff_ne,ne_eq]at*;try subst k
  simp_all[valid,dx]
 all_goals (try omega);all_goals (try (repeat' split <;> omega))
theorem Dk (a:Int)(w:World):Calls Tryz.prog 111 #[.int .i64 a] w λe w'=>e=.returned (.bool false)/\w=w':=by
 go_enter Tryz.func111,Tryz.ntmps111;go_wp2;all_goals (go_ret;exact ⟨by simp,rfl⟩)
theorem Dl (a:ByteArray)(w:World):Calls Tryz.prog 112 #[.string a] w λe w'=>e=.returned (.bool false)/\w=w':=by
 go_enter Tryz.func112,Tryz.ntmps112;go_wp2;all_goals (go_ret;exact ⟨by simp,rfl⟩)
theorem IK (a b:Int)(w:World):Calls Tryz.prog 82 #[.int .i64 a,.int .i64 b] w λe w'=>e=.returned (.int .i64 (eD a b))/\w=w':=by
 go_enter Tryz.func82,Tryz.ntmps82;go_wp2_with (go_at_call 111;refine (Dk _ _).mono ?_;rintro e w' ⟨rfl,rfl⟩);all_goals (go_ret;refine ⟨ai ?_,rfl⟩;go_light;simp only[eD];(repeat' split) <;> omega)
theorem IL (a b:ByteArray)(w:World):Calls Tryz.prog 83 #[.string a,.string b] w λe w'=>e=.returned (.int .i64 (dY a b))/\w=w':=by
 go_enter Tryz.func83,Tryz.ntmps83;go_wp2_with (go_at_call 112;refine (Dl _ _).mono ?_;rintro e w' ⟨rfl,rfl⟩);all_goals (go_ret;refine ⟨ai ?_,rfl⟩;go_light;simp only[dY];simp_all)
def O1 (a b c:Int):Int:=if a≠0 then a else if b≠0 then b else c
theorem Gb (a b c:Int)(w:World)(g:Nat)(h0:w.cell? ⟨g,0,none⟩=some (.int .i64 a))(h1:w.cell? ⟨g,1,none⟩=some (.int .i64 b))(h2:w.cell? ⟨g,2,none⟩=some (.int .i64 c)):
  Calls Tryz.prog 81 #[.slice (some ⟨g,0,none⟩) 3 3] w λe w'=>e=.returned (.int .i64 (O1 a b c))/\w=w':=by
 go_enter Tryz.func81,Tryz.ntmps81;go_wp2
 go_loop [5,8] (λ_ i=> ∃k:Nat,k<=3/\i=.int .i64 k/\(1<=k->a=0)/\(2<=k->b=0)/\(3<=k->c=0)) (λ_ i=>3-(intOf i).toNat)
 case atStart=>exact ⟨0,by omega,rfl,by omega,by omega,by omega⟩
 case round=>
  obtain ⟨k,hk,rfl,ha,hb,hc⟩:=hrel;obtain rfl|rfl|rfl|rfl:k=0\/k=1\/k=2\/k=3:=by omega
  ·clear ha hb hc;go_wp2
   ·go_ret;exact ⟨ai (by go_light;simp_all[O1]),rfl⟩
   ·go_round
    case rel=>exact ⟨1,by omega,by go_num,(by intro _;go_light;simp_all),by omega,by omega⟩
    case measure=>simp[intOf]
  ·have ha:=ha (by omega);subst ha;clear hb hc;go_wp2
   ·go_ret;exact ⟨ai (by go_light;simp_all[O1]),rfl⟩
   ·go_round
    case rel=>exact ⟨2,by omega,by go_num,(by first|trivial|(intro _;rfl)),(by intro _;go_light;simp_all),by omega⟩
    case measure=>simp[intOf]
  ·have ha:=ha (by omega);have hb:=hb (by omega);subst ha hb;clear hc;go_wp2
   ·go_ret;exact ⟨ai (by go_light;simp_all[O1]),rfl⟩
   ·go_round
    case rel=>exact ⟨3,by omega,by go_num,(by first|trivial|(intro _;rfl)),(by first|trivial|(intro _;rfl)),(by intro _;go_light;simp_all)⟩
    case measure=>simp[intOf]
  ·have ha:=ha (by omega);have hb:=hb (by omega);have hc:=hc (by omega);subst ha hb hc;go_wp2;go_ret;exact ⟨ai (by simp[O1]),rfl⟩
theorem wU (a b:Val)(w:World):
  Calls Tryz.prog 58 #[.agg a.cells.toArray,.agg b.cells.toArray] w λe w'=>e=.returned (.int .i64 (bD a b))/\Below w.heap.size w w':=by
 obtain ⟨k,n,s⟩:=a;obtain ⟨k',n',s'⟩:=b;simp only[Val.cells];go_enter Tryz.func58,Tryz.ntmps58;go_wp2_with fail;generalize hW:((w.alloc _).alloc _)=W;have c0:W.cell? ⟨w.heap.size,0,none⟩=some (.int .i64 k):=by subst hW;simp[World.cell?_alloc_lt,go_sem]
 have c1:W.cell? ⟨w.heap.size,1,none⟩=some (.int .i64 n):=by subst hW;simp[World.cell?_alloc_lt,go_sem]
 have c2:W.cell? ⟨w.heap.size,2,none⟩=some (.string s):=by subst hW;simp[World.cell?_alloc_lt,go_sem]
 have d0:W.cell? ⟨w.heap.size+1,0,none⟩=some (.int .i64 k'):=by subst hW;simp[go_sem]
 have d1:W.cell? ⟨w.heap.size+1,1,none⟩=some (.int .i64 n'):=by subst hW;simp[go_sem]
 have d2:W.cell? ⟨w.heap.size+1,2,none⟩=some (.string s'):=by subst hW;simp[go_sem]
 have hb:Below w.heap.size w W:=by subst hW;exact below_alloc2
 clear hW;go_region_held3 (λw'=>w'.cell? ⟨w.heap.size,0,none⟩=some (.int .i64 k)/\w'.cell? ⟨w.heap.size,1,none⟩=some (.int .i64 n)/\w'.cell? ⟨w.heap.size,2,none⟩=some (.string s)
   /\w'.cell? ⟨w.heap.size+1,0,none⟩=some (.int .i64 k')/\w'.cell? ⟨w.heap.size+1,1,none⟩=some (.int .i64 n')/\w'.cell? ⟨w.heap.size+1,2,none⟩=some (.string s')) (go_keep)
  (first|(go_at_call 82;refine (IK _ _ _).mono ?_;rintro e w' ⟨rfl,rfl⟩)|(go_at_call 83;refine (IL _ _ _).mono ?_;rintro e w' ⟨rfl,rfl⟩)|(go_at_call 81;refine (Gb (eD k k') (eD n n') (dY s s') _ _ ?_ ?_ ?_).mono ?_;(simp[go_sem]);(simp[go_sem]);(simp[go_sem]);rintro e w' ⟨rfl,rfl⟩))
 go_wp2;go_ret;exact ⟨rfl,(hb.alloc hb.size _).drew⟩
theorem jV (n:Node)(w:World):Calls Tryz.prog 188 #[.agg n.cells.toArray] w λe w'=>e=.returned (.int .i64 (arity n.op n.arity))/\Below w.heap.size w w':=by
 obtain ⟨op,⟨kd,nu,st⟩,nm,ar⟩:=n;simp only[Node.cells];go_enter Tryz.func188,Tryz.ntmps188;go_wp2;all_goals (go_ret;refine ⟨ai ?_,ae⟩;go_light;unfold arity;first|(simp_all;done)|(simp_all;omega)|(repeat' split) <;> omega)
def Made (kind:Int)(v:Val):Prop:=valid v=true/\v.ok/\(1<=kind->kind<=4->v.kind=kind)/\(kind<1\/4<kind->v.kind=0)
theorem pM:dx ⟨#[]⟩=true:=by rw[dx,ByteArray.toList_eq];rfl
theorem vZ {d:Int}(h0:0<=d)(h1:d<=1):Made 1 ⟨1,d,⟨#[]⟩⟩:=by
 refine ⟨?_,⟨⟨by simp only;omega,by simp only;omega⟩,⟨by simp only;omega,by simp only;omega⟩,by simp[Str,ByteArray.size]⟩,λ_ _=>rfl,λh=>by omega⟩;obtain rfl|rfl:d=0\/d=1:=by omega
 all_goals simp[valid,pM]
theorem zq {d:Int}(h0: -1073741824<=d)(h1:d<=1073741824):Made 2 ⟨2,d,⟨#[]⟩⟩:=by
 refine ⟨?_,⟨⟨by simp only;omega,by simp only;omega⟩,⟨by simp only;omega,by simp only;omega⟩,by simp[Str,ByteArray.size]⟩,λ_ _=>rfl,λh=>by omega⟩;simp[valid,pM,h0,h1]
theorem wh {s:ByteArray}(h:s.size<=64):Made 3 ⟨3,0,s⟩:=by
 refine ⟨?_,⟨⟨by simp only;omega,by simp only;omega⟩,⟨by simp only;omega,by simp only;omega⟩,by unfold Str;simp only;omega⟩,λ_ _=>rfl,λh=>by omega⟩;simp[valid,h]
theorem wm {d:Int}(h0:0<=d)(h1:d<=575999999):Made 4 ⟨4,d,⟨#[]⟩⟩:=by
 refine ⟨?_,⟨⟨by simp only;omega,by simp only;omega⟩,⟨by simp only;omega,by simp only;omega⟩,by simp[Str,ByteArray.size]⟩,λ_ _=>rfl,λh=>by omega⟩;simp[valid,pM,h0,h1]
theorem Dr {k:Int}(h:k<1\/4<k):Made k ⟨0,0,⟨#[]⟩⟩:=by
 refine ⟨?_,⟨⟨by simp only;omega,by simp only;omega⟩,⟨by simp only;omega,by simp only;omega⟩,by simp[Str,ByteArray.size]⟩,λ_ _=>by omega,λ_=>rfl⟩;simp[valid,pM]
def Fits (c:Col)(v:Val):Prop:=v.ok/\bT c v=0
def Col.good (c:Col):Prop:=c.ok/\1<=c.kind/\c.kind<=4
theorem Db {c:Col}(h:c.nullable=true):Fits c ⟨0,0,⟨#[]⟩⟩:=by
 obtain ⟨h1,h2,_,h4⟩:=Dr (k:=0) (by omega);exact ⟨h2,by simp[bT,h1,h]⟩
theorem fT {c:Col}{v:Val}(hc:c.good)(h:Made c.kind v):Fits c v:=by
 obtain ⟨h1,h2,h3,h4⟩:=h;have h5:=h3 hc.2.1 hc.2.2;have:v.kind≠0:=by have:=hc.2.1;omega
 exact ⟨h2,by simp[bT,h1,h5];have:=hc.2.1;omega⟩
theorem getD_drop {α:Type}{xs:List α}{k:Nat}{x d:α}{l:List α}(h:xs.drop k=x :: l):xs.getD k d=x:=by
 rw[List.getD,(bE h).1];rfl
def Bw (cols:List Col)(i:Nat)(v:Val):Int:=bT (cols.getD i default) v
theorem Ct {cols:List Col}{k:Nat}{y:Col}{l:List Col}{x:Val}(h:cols.drop k=y :: l):Bw cols k x=bT y x:=by rw[Bw,getD_drop h]
theorem oW (w:World)(A A':Option Addr)(n n' c c':Nat)(cols:List Col)(row:List Val)(hx:In w A n c cols)(hy:In w A' n' c' row):
  Calls Tryz.prog 148 #[.slice A n c,.slice A' n' c'] w λe w'=>e=.returned (.int .i64 (aB cols row))/\Below w.heap.size w w':=by
 have h63:=hx.le;have h63':=hy.le;have hlen:=hide hx.len;have hlen':=hide hy.len;go_enter Tryz.func148,Tryz.ntmps148;cases hs:((n':Int)==(n:Int))
 ·have he:Hid (8=aB cols row):=hide (by rw[aB,hlen.out,hlen'.out,if_pos (by simp at hs;omega)]);go_wp2;all_goals (try (exfalso;go_light;simp_all;done));go_ret;exact ⟨ai he.out,Below.refl _ _⟩
 have lF:Hid (aB cols row=ag (Bw cols) 0 row):=hide (by rw[aB,hlen.out,hlen'.out,if_neg (by simp at hs;omega)];rfl);have hnn:n=n':=by simp at hs;omega
 go_wp2;all_goals (try (exfalso;go_light;simp_all;done));have HN:=hide hnn;clear hs hnn;go_loopw [15] (λi wr=> ∃k:Nat,k<=n'/\i=.int .i64 k/\ag (Bw cols) 0 row=ag (Bw cols) k (row.drop k)/\Below w.heap.size w wr) (λi _=>n'-(intOf i).toNat)
 case atStart=>exact ⟨0,Nat.zero_le _,rfl,rfl,Below.refl _ _⟩
 case round=>
  obtain ⟨k,hk,rfl,heq,hb⟩:=hrel;have HE:=hide heq;clear heq;by_cases hlt:k<n'
  ·have Rz:k<n:=by rw[HN.out];exact hlt
   obtain ⟨b',off',x,rfl,hB',HX,f0,f1,f2,f3⟩:=(hy.below hb).val hlt;obtain ⟨b,off,y,rfl,hB,HY,e0,e1,e2,e3⟩:=(hx.below hb).col Rz;go_wp2_with fail;refine (kw x f3 _).mono ?_;rintro e w1 ⟨rfl,hb1⟩;have hbb:=aa (aa (aa hb ae) ae) hb1;obtain ⟨hc1,hf1⟩:=aP hb1;clear hb1 e0 e1 e2 f0 f1 f2;have HC:Hid (ag (Bw cols) 0 row=if bT y x=0 then ag (Bw cols) (k+1) (row.drop (k+1)) else bT y x):=hide (by
    rw[HE.out,HX.out];by_cases hz:bT y x=0
    ·rw[if_pos hz];exact aT (by rw[Ct HY.out,hz])
    ·rw[if_neg hz];exact aK (Ct HY.out) hz)
   cases hv:valid x
   ·have he:Hid (8=aB cols row):=hide (by rw[lF.out,HC.out];simp[bT,hv]);go_wp2;go_ret;exact ⟨ai he.out,hbb⟩
   ·cases hz:(x.kind==0)
    ·cases hq:(x.kind==y.kind)
     ·have he:Hid (7=aB cols row):=hide (by
       have e1:¬x.kind=0:=by simpa using hz
       have e2:¬x.kind=y.kind:=by simpa using hq
       rw[lF.out,HC.out];simp[bT,hv,e1,e2])
      go_wp2;all_goals (try (exfalso;go_light;simp_all;done));all_goals
       go_ret;exact ⟨ai he.out,hbb⟩
     ·have he:Hid (bT y x=0):=hide (by
       have e1:¬x.kind=0:=by simpa using hz
       have e2:x.kind=y.kind:=by simpa using hq
       simp[bT,hv,<-e2,e1])
      go_wp2;all_goals (try (exfalso;go_light;simp_all;done));all_goals
       go_roundw
       case rel=>exact ⟨k+1,by omega,by go_num,by rw[HC.out,if_pos he.out],hbb⟩
       case measure=>simp[intOf];omega
    ·cases hn:y.nullable
     ·have he:Hid (7=aB cols row):=hide (by
       have e1:x.kind=0:=by simpa using hz
       rw[lF.out,HC.out];simp[bT,hv,e1,hn])
      go_wp2;all_goals (try (exfalso;go_light;simp_all;done));all_goals
       go_ret;exact ⟨ai he.out,hbb⟩
     ·have he:Hid (bT y x=0):=hide (by
       have e1:x.kind=0:=by simpa using hz
       simp[bT,hv,e1,hn])
      go_wp2;all_goals (try (exfalso;go_light;simp_all;done));all_goals
       go_roundw
       case rel=>exact ⟨k+1,by omega,by go_num,by rw[HC.out,if_pos he.out],hbb⟩
       case measure=>simp[intOf];omega
  ·go_wp2;go_ret;exact ⟨ai (by rw[lF.out,HE.out,aD hy.len (by omega),ag]),hb⟩
theorem eQ {B:Nat}{a w:World}(h:Below B a w){n:Nat}:Below B a (w.drewN n):=below_drewN h n
theorem mF:(Tryz.prog.info? 36).map (λi=>(i.zero,i.size,i.bytes))=some (some (.agg #[.int .i64 0,.int .i64 0,.string ⟨#[]⟩]),3,32):=by kernel_rfl
def Part (w:World)(g:Nat)(cols:List Col)(vs:List Val):Prop:=
 (∀i,(h:i<vs.length)->At w (λ_=>False) g (i*3) vs[i])/\ ∀i,(h:i<vs.length)->(h':i<cols.length)->Fits cols[i] vs[i]
theorem Part.below {w w':World}{g:Nat}{cols:List Col}{vs:List Val}(h:Part w g cols vs)(hg:g<w.heap.size)(hb:Below w.heap.size w w'):Part w' g cols vs:=
 ⟨λi hi=>by
  obtain ⟨cs,hr,hc⟩:=h.1 i hi;exact ⟨cs,hr,λj hj=>aj hb hg (hc j hj)⟩,h.2⟩
theorem Part.add {w:World}{g:Nat}{cols:List Col}{vs:List Val}{v:Val}{u0 u1 u2:Value}(h:Part w g cols vs)(hv:v.ok)(hk:vs.length<cols.length)(hf:Fits cols[vs.length] v)(h0:w.cell? ⟨g,vs.length*3,none⟩=some u0)(h1:w.cell? ⟨g,vs.length*3+1,none⟩=some u1)(h2:w.cell? ⟨g,vs.length*3+2,none⟩=some u2):
  Part (((w.setCell ⟨g,vs.length*3,none⟩ (.int .i64 v.kind)).setCell ⟨g,vs.length*3+1,none⟩ (.int .i64 v.num)).setCell ⟨g,vs.length*3+2,none⟩ (.string v.str)) g cols (vs++[v]):=by
 refine ⟨λi hi=>?_,λi hi hi'=>?_⟩
 ·rw[List.length_append]at hi;by_cases hl:i<vs.length
  ·obtain ⟨cs,⟨rfl,hr⟩,hc⟩:=h.1 i hl;rw[List.getElem_append_left hl];refine ⟨_,⟨rfl,hr⟩,λj hj=>?_⟩;have Vw:j<3:=hj;exact af (af (af (hc j hj) (.inr (by omega))) (.inr (by omega))) (.inr (by omega))
  ·obtain rfl:i=vs.length:=by simp at hi;omega
   rw[List.getElem_append_right (Nat.le_refl _)];simp only[Nat.sub_self,List.getElem_cons_zero];refine ⟨v.cells,⟨rfl,hv⟩,λj hj=>?_⟩;have Vw:j<3:=hj;obtain rfl|rfl|rfl:j=0\/j=1\/j=2:=by omega
   ·exact af (af (bK h0) (.inr (by omega))) (.inr (by omega))
   ·exact af (bK (af h1 (.inr (by omega)))) (.inr (by omega))
   ·exact bK (af (af h2 (.inr (by omega))) (.inr (by omega)))
 ·rw[List.length_append]at hi;by_cases hl:i<vs.length
  ·rw[List.getElem_append_left hl];exact h.2 i hl hi'
  ·obtain rfl:i=vs.length:=by simp at hi;omega
   rw[List.getElem_append_right (Nat.le_refl _)];simpa using hf
theorem nP {α:Type}{f:Nat->α->Int}{l:List α}: ∀k,(∀i,(h:i<l.length)->f (k+i) l[i]=0)->ag f k l=0:=by
 induction l with
 |nil=>intro k _;rfl
 |cons x l ih=>
  intro k h;have h0:=h 0 (by simp);rw[aT (by simpa using h0)];exact ih (k+1) λi hi=>by
   have:=h (i+1) (by simpa using hi);rw[show k+1+i=k+(i+1) from by omega];simpa using this
theorem zF {cols:List Col}{vs:List Val}(hl:vs.length=cols.length)(h: ∀i,(h:i<vs.length)->(h':i<cols.length)->Fits cols[i] vs[i]):aB cols vs=0:=by
 rw[aB,if_neg (by simp[hl])];refine nP 0 λi hi=>?_;have:=(h i hi (by omega)).2;simp only[Nat.zero_add];rw[List.getD,List.getElem?_eq_getElem (by omega)];exact this
theorem mW (a:Int)(w:World):Calls Tryz.prog 241 #[.int .i64 a] w λe w'=>e=.returned (.bool (aV a))/\w=w':=by
 go_enter Tryz.func241,Tryz.ntmps241;go_wp2;all_goals (go_ret;refine ⟨ay ?_,rfl⟩;go_light;unfold aV;first|(simp_all;done)|(simp_all;omega))
def chk (r:Int):Int×Bool:=if aV r then (r,true) else (0,false)
theorem DX (v:Val)(hv:v.ok)(w:World):Calls Tryz.prog 152 #[.agg v.cells.toArray] w λe w'=>e=.returned (.int .i64 (truth v))/\Below w.heap.size w w':=by
 obtain ⟨k,n,s⟩:=v;have hv':=hv;simp only[Val.cells];by_cases h1:k=1
 ·subst h1;have HT:Hid (truth ⟨1,n,s⟩=if valid ⟨1,n,s⟩=true then n else -1):=hide (by simp[truth]);cases hvd:valid ⟨1,n,s⟩;all_goals
   rw[hvd]at HT;go_enter Tryz.func152,Tryz.ntmps152;go_wp2_with fail;refine (kw ⟨1,n,s⟩ hv' _).mono ?_;rintro e w1 ⟨rfl,hb1⟩;have hbb:=aa ae hb1;have g1:=aj (b:=w.heap.size) (o:=1) (v:=.int .i64 n) hb1 (by simp) (by simp[go_sem]);clear hb1;rw[hvd];go_wp2;go_ret;exact ⟨ai (by rw[HT.out];simp),hbb⟩
 ·have HT:Hid (truth ⟨k,n,s⟩= -1):=hide (by simp[truth,h1]);have q:(k != 1)=true:=by simpa using h1
  clear h1;go_enter Tryz.func152,Tryz.ntmps152;go_wp2;go_ret;exact ⟨ai HT.out.symm,ae⟩
def iH (_:Nat)(v:Val):Int:=if valid v then 0 else 8
theorem jc (x:Ent):aA x=if 12<x.row.length\/x.count < -65536\/65536<x.count then 2 else ag iH 0 x.row:=rfl
theorem AV (w:World)(A:Option Addr)(n c:Nat)(x:Ent)(hx:In w A n c x.row)(hc:dH x.count):
  Calls Tryz.prog 60 #[.agg #[.slice A n c,.int .i64 x.count]] w λe w'=>e=.returned (.int .i64 (aA x))/\Below w.heap.size w w':=by
 obtain ⟨row,m⟩:=x;have h63:=hx.le;have hlen:=hide hx.len;unfold dH at hc;obtain ⟨hm1,hm2⟩:=hc;simp only at hx hlen hm1 hm2⊢;go_enter Tryz.func60,Tryz.ntmps60;by_cases hs:12<n\/m < -65536\/65536<m
 ·have he:Hid (2=aA ⟨row,m⟩):=hide (by rw[jc,hlen.out,if_pos hs]);by_cases h1:12<n
  ·go_wp2;all_goals (go_ret;exact ⟨ai he.out,ae⟩)
  ·by_cases h2:m < -65536
   ·go_wp2;all_goals (go_ret;exact ⟨ai he.out,ae⟩)
   ·have h3:65536<m:=by omega
    go_wp2;all_goals (go_ret;exact ⟨ai he.out,ae⟩)
 have lF:Hid (aA ⟨row,m⟩=ag iH 0 row):=hide (by rw[jc,hlen.out,if_neg hs]);have h1:n<=12:=by omega
 have h2: -65536<=m:=by omega
 have h3:m<=65536:=by omega
 clear hs;go_wp2;go_loopw [22] (λi wr=> ∃k:Nat,k<=n/\i=.int .i64 k/\ag iH 0 row=ag iH k (row.drop k)/\Below w.heap.size w wr) (λi _=>n-(intOf i).toNat)
 case atStart=>exact ⟨0,Nat.zero_le _,rfl,rfl,ae⟩
 case round=>
  obtain ⟨k,hk,rfl,heq,hb⟩:=hrel;have HE:=hide heq;clear heq;by_cases hlt:k<n
  ·obtain ⟨b,off,x,rfl,hB,HX,f0,f1,f2,f3⟩:=(hx.below hb).val hlt;go_wp2_with fail;refine (kw x f3 _).mono ?_;rintro e w1 ⟨rfl,hb1⟩;have hbb:=aa (aa hb ae) hb1;clear hb1 f0 f1 f2;cases hv:valid x
   ·have he:Hid (8=aA ⟨row,m⟩):=hide (by rw[lF.out,HE.out,HX.out];exact (aK (by simp[iH,hv]) (by omega)).symm);go_wp2;go_ret;exact ⟨ai he.out,hbb⟩
   ·go_wp2;go_roundw
    case rel=>exact ⟨k+1,by omega,by go_num,by rw[HE.out,HX.out];exact aT (by simp[iH,hv]),hbb⟩
    case measure=>simp[intOf];omega
  ·go_wp2;go_ret;exact ⟨ai (by rw[lF.out,HE.out,aD hx.len (by omega),ag]),hb⟩
theorem iy (m:Int)(w:World):Calls Tryz.prog 75 #[.int .i64 m] w λe w'=>e=.returned (.bool (decide (-65536<=m)&&decide (m<=65536)))/\w=w':=by
 go_enter Tryz.func75,Tryz.ntmps75;go_wp2;all_goals (go_ret;refine ⟨ay ?_,rfl⟩;go_light;first|(simp_all;done)|(simp_all;omega))
theorem vQ (w:World)(A:Option Addr)(n c:Nat)(x:Ent)(hx:In w A n c x.row)(hc:dH x.count):
  Calls Tryz.prog 72 #[.agg #[.slice A n c,.int .i64 x.count]] w λe w'=>e=.returned (.int .i64 (aA x))/\Below w.heap.size w w':=by
 obtain ⟨row,m⟩:=x;have h63:=hx.le;have hlen:=hide hx.len;unfold dH at hc;obtain ⟨hm1,hm2⟩:=hc;simp only at hx hlen hm1 hm2⊢;go_enter Tryz.func72,Tryz.ntmps72;by_cases hs:12<n\/m < -65536\/65536<m
 ·have he:Hid (2=aA ⟨row,m⟩):=hide (by rw[jc,hlen.out,if_pos hs]);by_cases h1:12<n
  ·go_wp2;all_goals (go_ret;exact ⟨ai he.out,ae⟩)
  ·by_cases h2:m < -65536
   ·have hq:decide ((-65536:Int)<=m)=false:=by simp;omega
    go_wp2_with (go_at_call 75;refine (iy _ _).mono ?_;rintro e w' ⟨rfl,rfl⟩);all_goals (try (exfalso;go_light;simp_all;done));all_goals (go_ret;exact ⟨ai he.out,ae⟩)
   ·have h3:65536<m:=by omega
    have hq:decide (m<=(65536:Int))=false:=by simp;omega
    go_wp2_with (go_at_call 75;refine (iy _ _).mono ?_;rintro e w' ⟨rfl,rfl⟩);all_goals (try (exfalso;go_light;simp_all;done));all_goals (go_ret;exact ⟨ai he.out,ae⟩)
 have lF:Hid (aA ⟨row,m⟩=ag iH 0 row):=hide (by rw[jc,hlen.out,if_neg hs]);have h1:n<=12:=by omega
 have h2: -65536<=m:=by omega
 have h3:m<=65536:=by omega
 clear hs;go_wp2_with (go_at_call 75;refine (iy _ _).mono ?_;rintro e w' ⟨rfl,rfl⟩);all_goals (try (exfalso;go_light;simp_all;done));go_loopw [3] (λi wr=> ∃k:Nat,k<=n/\i=.int .i64 k/\ag iH 0 row=ag iH k (row.drop k)/\Below (w.alloc (.cells #[.slice A n c,.int .i64 m] 50)).heap.size (w.alloc (.cells #[.slice A n c,.int .i64 m] 50)) wr) (λi _=>n-(intOf i).toNat)
 case atStart=>exact ⟨0,Nat.zero_le _,rfl,rfl,Below.refl _ _⟩
 case round=>
  obtain ⟨k,hk,rfl,heq,hb0⟩:=hrel;have HE:=hide heq;clear heq;have hb:Below w.heap.size w wr:=aa ae hb0;have g0:wr.cell? ⟨w.heap.size,0,none⟩=some (.slice A n c):=aj hb0 (by simp) (by simp[go_sem]);have HB0:=hide hb0;clear hb0;by_cases hlt:k<n
  ·obtain ⟨b,off,x,rfl,hB,HX,f0,f1,f2,f3⟩:=(hx.below hb).val hlt;go_wp2_with fail;refine (Ea x f3 _).mono ?_;rintro e w1 ⟨rfl,hb1⟩;have hbb:=aa hb hb1;have HB1:=hide (aa HB0.out hb1);clear hb1 f0 f1 f2;cases hv:valid x
   ·have he:Hid (8=aA ⟨row,m⟩):=hide (by rw[lF.out,HE.out,HX.out];exact (aK (by simp[iH,hv]) (by omega)).symm);go_wp2;go_ret;exact ⟨ai he.out,hbb⟩
   ·go_wp2;go_roundw
    case rel=>exact ⟨k+1,by omega,by go_num,by rw[HE.out,HX.out];exact aT (by simp[iH,hv]),HB1.out⟩
    case measure=>simp[intOf];omega
  ·go_wp2;go_ret;exact ⟨ai (by rw[lF.out,HE.out,aD hx.len (by omega),ag]),hb⟩
theorem rO (w:World)(A A':Option Addr)(n n' c c':Nat)(xs ys:List Val)(hx:In w A n c xs)(hy:In w A' n' c' ys):
  Calls Tryz.prog 57 #[.slice A n c,.slice A' n' c',.func (.func 58) #[] #[]] w
   λe w'=>e=.returned (.int .i64 (ah xs ys))/\Below w.heap.size w w':=by
 have h63:=hx.le;have h63':=hy.le;go_enter Tryz.func57,Tryz.ntmps57;go_wp2;go_loopw [13] (λi wr=> ∃k:Nat,k<=n/\k<=n'/\i=.int .i64 k/\ah xs ys=ah (xs.drop k) (ys.drop k)/\Below w.heap.size w wr) (λi _=>n-(intOf i).toNat)
 case atStart=>exact ⟨0,Nat.zero_le _,Nat.zero_le _,rfl,rfl,Below.refl _ _⟩
 case round=>
  obtain ⟨k,hk,hk',rfl,heq,hb⟩:=hrel;have HE:=hide heq;clear heq;by_cases hlt:k<n
  ·obtain ⟨b,off,x,rfl,hB,HX,e0,e1,e2,e3⟩:=(hx.below hb).val hlt;by_cases hlt':k<n'
   ·obtain ⟨b',off',y,rfl,hB',HY,f0,f1,f2,f3⟩:=(hy.below hb).val hlt';go_wp2_with fail;refine (wU x y _).mono ?_;rintro e w1 ⟨rfl,hb1⟩;have hbb:=aa (aa (aa hb ae) ae) hb1;clear hb1 e0 e1 e2 f0 f1 f2;by_cases hz:bD x y=0
    ·rw[hz];go_wp2;go_roundw
     case rel=>exact ⟨k+1,by omega,by omega,by go_num,by rw[HE.out,HX.out,HY.out,ah,if_neg (by simp[hz])],hbb⟩
     case measure=>simp[intOf];omega
    ·have hz':(bD x y==0)=false:=by simp[hz]
     go_wp2;go_ret;exact ⟨ai (by rw[HE.out,HX.out,HY.out,ah,if_pos hz]),hbb⟩
   ·go_wp2;go_ret;exact ⟨ai (by rw[HE.out,HX.out,aD hy.len (by omega),ah]),hb.alloc hb.size _⟩
  ·have hkn:n<=k:=by omega
   by_cases hlt':n<n'
   ·go_wp2;go_ret;refine ⟨ai ?_,hb⟩;rw[HE.out,aD hx.len hkn];have:ys.drop k≠[]:=by intro h;have:=congrArg List.length h;rw[List.length_drop,hy.len]at this;simp at this;omega
    match h:ys.drop k with
    | []=>exact absurd h this
    | _ :: _=>rw[ah]
   ·go_wp2;go_ret;refine ⟨ai ?_,hb⟩;rw[HE.out,aD hx.len hkn,aD hy.len (by omega),ah]
theorem lw (w:World)(A A':Option Addr)(n n' c c':Nat)(xs ys:List Val)(hx:In w A n c xs)(hy:In w A' n' c' ys):
  Calls Tryz.prog 31 #[.slice A n c,.slice A' n' c'] w λe w'=>e=.returned (.int .i64 (ah xs ys))/\Below w.heap.size w w':=by
 go_enter Tryz.func31,Tryz.ntmps31;go_wp2_with fail;refine (rO _ _ _ _ _ _ _ xs ys hx hy).mono ?_;rintro e w1 ⟨rfl,hb1⟩;go_wp2;go_ret;exact ⟨rfl,hb1⟩
theorem In.prev {w:World}{A:Option Addr}{n c k:Nat}{b:List Ent}(h:In w A n c b)(hk:k<n)(h0:0<k): ∃bl off A' n' c' y,A=some ⟨bl,off,none⟩/\bl<w.heap.size/\
  w.cell? ⟨bl,off+(k-1)*2,none⟩=some (.slice A' n' c')/\In w A' n' c' y/\Hid ((b.getD (k-1) default).row=y):=by
 obtain ⟨bl,off,x,e,hb,hx,A',n',c',h1,h2,h3,h4⟩:=h.ent (show k-1<n by omega);exact ⟨bl,off,A',n',c',x.row,e,hb,h1,h3,hide (by rw[getD_drop hx.out])⟩
theorem dK (b:List Ent)(i:Nat)(x:Ent):bI b i x=if aA x≠0 then aA x else if x.count=0 then 8 else if 0<i/\0<=ah (b.getD (i-1) default).row x.row then 14 else 0:=rfl
theorem wQ (w:World)(A:Option Addr)(n c:Nat)(bs:List Ent)(hx:In w A n c bs):
  Calls Tryz.prog 35 #[.slice A n c] w λe w'=>e=.returned (.int .i64 (au bs))/\Below w.heap.size w w':=by
 have h63:=hx.le;have hlen:=hide hx.len;go_enter Tryz.func35,Tryz.ntmps35;by_cases hs:4096<n
 ·have he:Hid (2=au bs):=hide (by rw[au,hlen.out,if_pos hs]);go_wp2;go_ret;exact ⟨ai he.out,Below.refl _ _⟩
 have lF:Hid (au bs=ag (bI bs) 0 bs):=hide (by rw[au,hlen.out,if_neg hs]);have hs1:n<=4096:=by omega
 clear hs;go_wp2;go_loopw [11] (λi wr=> ∃k:Nat,k<=n/\i=.int .i64 k/\ag (bI bs) 0 bs=ag (bI bs) k (bs.drop k)/\Below w.heap.size w wr) (λi _=>n-(intOf i).toNat)
 case atStart=>exact ⟨0,Nat.zero_le _,rfl,rfl,Below.refl _ _⟩
 case round=>
  obtain ⟨k,hk,rfl,heq,hb⟩:=hrel;have HE:=hide heq;clear heq;by_cases hlt:k<n
  ·obtain ⟨b,off,x,rfl,hB,HX,A',n',c',e0,e1,e2,e3⟩:=(hx.below hb).ent hlt;go_wp2_with fail;refine (AV _ A' n' c' x (e2.below ae) e3).mono ?_;rintro e w1 ⟨rfl,hb1⟩;have hbb:=aa (aa hb ae) hb1;have g0:w1.cell? ⟨wr.heap.size,0,none⟩=some (.slice A' n' c'):=aj hb1 (by simp) (by simp[go_sem]);have g1:w1.cell? ⟨wr.heap.size,1,none⟩=some (.int .i64 x.count):=aj hb1 (by simp) (by simp[go_sem]);have hin1:=e2.below (aa ae hb1);have hsz:wr.heap.size<w1.heap.size:=by have:=hb1.size;simp at this;omega
   obtain ⟨hm1,hm2⟩:=e3;clear hb1 e0 e1 e2;by_cases hz:aA x=0
   ·rw[hz];have HC:Hid (ag (bI bs) 0 bs=if x.count=0 then 8 else if 0<k/\0<=ah (bs.getD (k-1) default).row x.row then 14 else ag (bI bs) (k+1) (bs.drop (k+1))):=hide (by
     rw[HE.out,HX.out];by_cases q1:x.count=0
     ·rw[if_pos q1];exact aK (by rw[dK,if_neg (by simp[hz]),if_pos q1]) (by omega)
     ·by_cases q2:0<k/\0<=ah (bs.getD (k-1) default).row x.row
      ·rw[if_neg q1,if_pos q2];exact aK (by rw[dK,if_neg (by simp[hz]),if_neg q1,if_pos q2]) (by omega)
      ·rw[if_neg q1,if_neg q2];exact aT (by rw[dK,if_neg (by simp[hz]),if_neg q1,if_neg q2]))
    clear hz;cases hq:(x.count==0)
    ·have hq1:¬x.count=0:=by simpa using hq
     by_cases h0:0<k
     ·obtain ⟨bl,off',A0,n0,c0,pr,e,hbl,f0,f1,HP⟩:=In.prev (hx.below hbb) hlt h0;injection e with e;injection e with e_1 e_2;subst e_1 e_2;have i0:(0:Int)<(k:Int):=by omega
      have i1:(0:Int)<=(k:Int)-1:=by omega
      have i2:(k:Int)-1<(n:Int):=by omega
      have i3:((k:Int)-1).toNat=k-1:=by omega
      have i5:(1:Int)<=(k:Int):=by omega
      have i6:(k:Int)<=(n:Int):=by omega
      have i4:IntKind.i64.wrap ((k:Int)-1)=(k:Int)-1:=IntWalk.i64_in _ (by omega);go_wp2_with fail;go_region_held3 (λw'=>w'.cell? ⟨b,off+(k-1)*2,none⟩=some (.slice A0 n0 c0)/\w'.cell? ⟨wr.heap.size,0,none⟩=some (.slice A' n' c')) (first|exact ⟨f0,g0⟩|(have hq:=ak hb2;exact ⟨aj hq hbl f0,aj hq hsz g0⟩)) (first|(go_at_call 31;refine (lw _ A0 A' n0 n' c0 c' pr x.row (by exact f1) (by exact hin1)).mono ?_;rintro e w2 ⟨rfl,hb2⟩));have yZ:=aa hbb (ak hb2);clear hb2 i4 i3 i2 i1;by_cases hcmp:0<=ah pr x.row
      ·have he:Hid (14=au bs):=hide (by rw[lF.out,HC.out,HP.out,if_neg hq1,if_pos ⟨h0,hcmp⟩]);have hd:decide (0<=ah pr x.row)=true:=by simp;omega
       go_wp2;all_goals (try (exfalso;go_light;simp_all;done));go_ret;exact ⟨ai he.out,yZ⟩
      ·have he:Hid (ag (bI bs) 0 bs=ag (bI bs) (k+1) (bs.drop (k+1))):=hide (by rw[HC.out,HP.out,if_neg hq1,if_neg (λh=>hcmp h.2)]);have hd:decide (0<=ah pr x.row)=false:=by simp;omega
       go_wp2;all_goals (try (exfalso;go_light;simp_all;done));go_roundw
       case rel=>exact ⟨k+1,by omega,by go_num,he.out,yZ⟩
       case measure=>simp[intOf];omega
     ·have h0':k=0:=by omega
      have he:Hid (ag (bI bs) 0 bs=ag (bI bs) (k+1) (bs.drop (k+1))):=hide (by rw[HC.out,if_neg hq1,if_neg (λh=>h0 h.1)]);subst h0';go_wp2;go_quiet (fail);go_wp2;go_roundw
      case rel=>exact ⟨0+1,by omega,by go_num,he.out,eQ hbb⟩
      case measure=>simp[intOf];omega
    ·have he:Hid (8=au bs):=hide (by rw[lF.out,HC.out,if_pos (by simpa using hq)]);go_wp2;go_ret;exact ⟨ai he.out,hbb⟩
   ·have hz':(aA x==0)=false:=by simp[hz]
    have he:Hid (aA x=au bs):=hide (by rw[lF.out,HE.out,HX.out];exact (aK (by rw[dK,if_pos hz]) hz).symm);go_wp2;all_goals (try (exfalso;go_light;simp_all;done));go_ret;exact ⟨ai he.out,hbb⟩
  ·go_wp2;go_ret;exact ⟨ai (by rw[lF.out,HE.out,aD hx.len (by omega),ag]),hb⟩
def iE:Nat->List Ent->Int
 | _,[]=> -1
 |k,x :: l=>if x.count<0 then k else iE (k+1) l
theorem zx (l:List Ent): ∀k,(decide (0<=iE k l))=!(l.all λx=>decide (0<=x.count)):=by
 induction l with
 |nil=>intro k;rfl
 |cons x l ih=>
  intro k;rw[iE];by_cases h:x.count<0
  ·rw[if_pos h];have:¬0<=x.count:=by omega
   simp[this]
  ·rw[if_neg h,ih (k+1)];have:0<=x.count:=by omega
   simp[this]
theorem JD (A:Option Addr)(n c:Nat)(m:Int)(w:World):
  Calls Tryz.prog 62 #[.agg #[.slice A n c,.int .i64 m]] w λe w'=>e=.returned (.bool (decide (m<0)))/\Below w.heap.size w w':=by
 go_enter Tryz.func62,Tryz.ntmps62;go_wp2;go_ret;exact ⟨rfl,ae⟩
theorem uW (w:World)(A:Option Addr)(n c:Nat)(xs:List Ent)(hx:In w A n c xs):
  Calls Tryz.prog 87 #[.slice A n c,.func (.func 62) #[] #[]] w
   λe w'=>e=.returned (.int .i64 (iE 0 xs))/\Below w.heap.size w w':=by
 have h63:=hx.le;go_enter Tryz.func87,Tryz.ntmps87;go_wp2;go_loopw [8] (λi wr=> ∃k:Nat,k<=n/\i=.int .i64 k/\iE 0 xs=iE k (xs.drop k)/\Below w.heap.size w wr) (λi _=>n-(intOf i).toNat)
 case atStart=>exact ⟨0,Nat.zero_le _,rfl,rfl,Below.refl _ _⟩
 case round=>
  obtain ⟨k,hk,rfl,heq,hb⟩:=hrel;have HE:=hide heq;clear heq;by_cases hlt':k<n
  ·obtain ⟨b,off,x,rfl,hB,HX,A',n',c',e0,e1,e2,e3⟩:=(hx.below hb).ent hlt';go_wp2_with fail;refine (JD _ _ _ _ _).mono ?_;rintro e w1 ⟨rfl,hb1⟩;have hbb:=aa hb hb1;clear hb1 e0 e1 e2;by_cases hz:x.count<0
   ·have hd:decide (x.count<0)=true:=by simp[hz]
    go_wp2;all_goals (try (exfalso;go_light;simp_all;done));go_ret;exact ⟨ai (by rw[HE.out,HX.out,iE,if_pos hz]),hbb⟩
   ·have hd:decide (x.count<0)=false:=by simp;omega
    go_wp2;all_goals (try (exfalso;go_light;simp_all;done));go_roundw
    case rel=>exact ⟨k+1,by omega,by go_num,by rw[HE.out,HX.out,iE,if_neg (by omega)],hbb⟩
    case measure=>simp[intOf];omega
  ·go_wp2;go_ret;exact ⟨ai (by rw[HE.out,aD hx.len (by omega),iE]),hb⟩
theorem qx (w:World)(A:Option Addr)(n c:Nat)(xs:List Ent)(hx:In w A n c xs):
  Calls Tryz.prog 61 #[.slice A n c,.func (.func 62) #[] #[]] w
   λe w'=>e=.returned (.bool (decide (0<=iE 0 xs)))/\Below w.heap.size w w':=by
 go_enter Tryz.func61,Tryz.ntmps61;go_wp2_with fail;refine (uW _ _ _ _ xs hx).mono ?_;rintro e w1 ⟨rfl,hb1⟩;go_wp2;go_ret;exact ⟨rfl,hb1⟩
theorem qU (w:World)(A:Option Addr)(n c:Nat)(xs:List Ent)(hx:In w A n c xs):
  Calls Tryz.prog 36 #[.slice A n c] w λe w'=>e=.returned (.bool (cO xs))/\Below w.heap.size w w':=by
 go_enter Tryz.func36,Tryz.ntmps36;go_wp2_with fail;refine (wQ _ _ _ _ xs hx).mono ?_;rintro e w1 ⟨rfl,hb1⟩;cases hz:(au xs==0)
 ·go_wp2;all_goals (try (exfalso;go_light;simp_all;done));go_ret;exact ⟨ay (by rw[cO,hz];rfl),hb1⟩
 ·go_wp2_with fail;all_goals (try (exfalso;go_light;simp_all;done));refine (qx _ _ _ _ xs (hx.below hb1)).mono ?_;rintro e w2 ⟨rfl,hb2⟩;have hbb:=aa hb1 hb2;have HN:=hide (zx xs 0);clear hb2;go_wp2;all_goals (try (exfalso;go_light;simp_all;done));go_ret;refine ⟨ay ?_,hbb⟩;go_light;rw[cO,hz];have:=HN.out;cases h:(xs.all λx=>decide (0<=x.count)) <;> rw[h]at this <;> simp_all
def pos (b:List Ent):Bool:=b.all λx=>decide (0<x.count)
theorem iI (w:World)(A A':Option Addr)(n n' c c':Nat)(xs ys:List Val)(hx:In w A n c xs)(hy:In w A' n' c' ys):
  Calls Tryz.prog 64 #[.slice A n c,.slice A' n' c'] w λe w'=>e=.returned (.int .i64 (ah xs ys))/\Below w.heap.size w w':=by
 have h63:=hx.le;have h63':=hy.le;go_enter Tryz.func64,Tryz.ntmps64;go_wp2;go_loopw [5] (λi wr=> ∃k:Nat,k<=n/\k<=n'/\i=.int .i64 k/\ah xs ys=ah (xs.drop k) (ys.drop k)/\Below w.heap.size w wr) (λi _=>n-(intOf i).toNat)
 case atStart=>exact ⟨0,Nat.zero_le _,Nat.zero_le _,rfl,rfl,Below.refl _ _⟩
 case round=>
  obtain ⟨k,hk,hk',rfl,heq,hb⟩:=hrel;have HE:=hide heq;clear heq;by_cases hlt:k<n
  ·by_cases hlt':k<n'
   ·obtain ⟨b,off,x,rfl,hB,HX,e0,e1,e2,e3⟩:=(hx.below hb).val hlt;obtain ⟨b',off',y,rfl,hB',HY,f0,f1,f2,f3⟩:=(hy.below hb).val hlt';go_wp2_with fail;go_region_held3 (λw'=>Below wr.heap.size wr w'/\w'.cell? ⟨b,off+k*3,none⟩=some (.int .i64 x.kind)/\w'.cell? ⟨b,off+k*3+1,none⟩=some (.int .i64 x.num)/\w'.cell? ⟨b,off+k*3+2,none⟩=some (.string x.str)/\w'.cell? ⟨b',off'+k*3,none⟩=some (.int .i64 y.kind)/\w'.cell? ⟨b',off'+k*3+1,none⟩=some (.int .i64 y.num)/\w'.cell? ⟨b',off'+k*3+2,none⟩=some (.string y.str)) (first|exact ⟨(Below.refl _ _).drew,e0,e1,e2,f0,f1,f2⟩|(have hq:=ak hb1;exact ⟨hq,aj hq hB e0,aj hq hB e1,aj hq hB e2,aj hq hB' f0,aj hq hB' f1,aj hq hB' f2⟩)) (first|(go_at_call 89;refine (yx x y _).mono ?_;rintro e w1 ⟨rfl,hb1⟩));have hbb:=aa hb (ak hb1);clear hb1 e0 e1 e2 f0 f1 f2;by_cases hz:bD x y=0
    ·rw[hz];go_wp2;go_roundw
     case rel=>exact ⟨k+1,by omega,by omega,by go_num,by rw[HE.out,HX.out,HY.out,ah,if_neg (by simp[hz])],hbb⟩
     case measure=>simp[intOf];omega
    ·have hz':(bD x y==0)=false:=by simp[hz]
     go_wp2;go_ret;exact ⟨ai (by rw[HE.out,HX.out,HY.out,ah,if_pos hz]),hbb⟩
   ·go_wp2_with (go_at_call 90;refine (mo _ _ _).mono ?_;rintro e w' ⟨rfl,rfl⟩);go_ret;refine ⟨ai ?_,hb⟩;have hy0:=aD hy.len (show n'<=k by omega);rw[HE.out,hy0];have:xs.drop k≠[]:=by intro h;have:=congrArg List.length h;rw[List.length_drop,hx.len]at this;simp at this;omega
    match h:xs.drop k with
    | []=>exact absurd h this
    | _ :: _=>rw[ah];simp[eD];omega
  ·have hkn:n<=k:=by omega
   go_wp2_with (go_at_call 90;refine (mo _ _ _).mono ?_;rintro e w' ⟨rfl,rfl⟩);go_ret;refine ⟨ai ?_,hb⟩;rw[HE.out,aD hx.len hkn];by_cases hlt':n<n'
   ·have:ys.drop k≠[]:=by intro h;have:=congrArg List.length h;rw[List.length_drop,hy.len]at this;simp at this;omega
    match h:ys.drop k with
    | []=>exact absurd h this
    | _ :: _=>rw[ah];simp[eD];omega
   ·rw[aD hy.len (by omega),ah];have:n=n':=by omega
    simp[eD,this]
theorem mem_drop {α:Type}{xs:List α}{k:Nat}{P:α->Prop}{x:α}{l:List α}(h:xs.drop k=x :: l)(h1: ∀y∈xs.take k,P y)(h2:P x): ∀y∈xs.take (k+1),P y:=by
 have hk:k<xs.length:=by
  by_cases q:k<xs.length
  ·exact q
  ·rw[List.drop_eq_nil_of_le (by omega)]at h;cases h
 have hx:xs[k]=x:=by
  have:=List.drop_eq_getElem_cons hk;rw[h]at this;injection this with this;exact this.symm
 intro y hy;rw[List.take_succ_eq_append_getElem hk]at hy;rcases List.mem_append.1 hy with hy|hy
 ·exact h1 y hy
 ·rw[hx]at hy;simp at hy;subst hy;exact h2
def RetB (e:Ending)(P:Prop):Prop:= ∃r,e=.returned (.bool r)/\(r=true->P)
theorem within_any (w:World)(A:Option Addr)(n c:Nat)(xs:List Ent)(hx:In w A n c xs)(m:Int):
  Calls Tryz.prog 21 #[.slice A n c,.int .i64 m] w λe w'=>RetB e ((n:Int)<=m/\ ∀x∈xs,x.row.length<=20)/\Below w.heap.size w w':=by
 have h63:=hx.le;have HX0:=hide hx;by_cases hm:m<(n:Int)
 ·go_enter Tryz.func21,Tryz.ntmps21;go_wp2;go_ret;exact ⟨⟨false,rfl,λh=>by cases h⟩,Below.refl _ _⟩
 go_enter Tryz.func21,Tryz.ntmps21;go_wp2
 go_loop [5] (λi=> ∃k:Nat,k<=n/\i=.int .i64 k/\ ∀x∈xs.take k,x.row.length<=20) (λi=>n-(RowKit.intOf i).toNat)
 case atStart=>exact ⟨0,Nat.zero_le _,rfl,by simp⟩
 case round=>
  obtain ⟨k,hk,rfl,hall⟩:=hrel;have HA:=hide hall;clear hall;by_cases hlt:k<n
  ·obtain ⟨b,off,x,rfl,hBb,HX,Ax,An,Ac,e0,e1,e2,e3⟩:=HX0.out.ent hlt;have k0:(0:Int)<=(k:Int):=by omega
   have k1:(k:Int)<(n:Int):=by omega
   have HE:=hide e2;have hle:=e2.le;have hln:=e2.len;clear e2;by_cases hs:(20:Int)<(An:Int)
   ·go_wp2;go_ret;exact ⟨⟨false,rfl,λh=>by cases h⟩,Below.refl _ _⟩
   have HA2:=hide (mem_drop HX.out HA.out (by omega:x.row.length<=20));clear hln;go_wp2
   go_loop [6] (λi=> ∃q:Nat,q<=An/\i=.int .i64 q) (λi=>An-(RowKit.intOf i).toNat)
   case atStart=>exact ⟨0,Nat.zero_le _,rfl⟩
   case round=>
    obtain ⟨q,hq,rfl⟩:=hrel;by_cases hlt2:q<An
    ·obtain ⟨b2,OZ,y,rfl,N9,HY,f0,f1,f2,f3⟩:=HE.out.val hlt2;have q0:(0:Int)<=(q:Int):=by omega
     have q1:(q:Int)<(An:Int):=by omega
     by_cases hs2:(200:Int)<(y.str.size:Int)
     ·go_wp2;go_ret;exact ⟨⟨false,rfl,λh=>by cases h⟩,Below.refl _ _⟩
     go_wp2
     go_round
     case rel=>exact ⟨q+1,by omega,by go_num⟩
     case measure=>simp[RowKit.intOf];omega
    ·go_wp2
     go_round
     case rel=>exact ⟨k+1,by omega,by go_num,HA2.out⟩
     case measure=>simp[RowKit.intOf];omega
  ·have HF:Hid (∀x∈xs,x.row.length<=20):=hide (by
    have:=HA.out;rw[List.take_of_length_le (by rw[HX0.out.len];omega)]at this;exact this)
   go_wp2;go_ret;exact ⟨⟨true,rfl,λ_=>by first|exact ⟨by omega,HF.out⟩|exact HF.out⟩,Below.refl _ _⟩
theorem vH (b:Bool)(w:World):Calls Tryz.prog 215 #[.bool b] w λe w'=>e=.returned (.agg (gI b).cells.toArray)/\Below w.heap.size w w':=by
 cases b;all_goals
  go_enter Tryz.func215,Tryz.ntmps215;go_wp2
 ·refine bodyPost_ret (v:=.agg (gI false).cells.toArray) (by simp[results,Tryz.results215,go_sem,Val.cells,gI]) rfl ⟨rfl,by exact ae⟩
 ·refine bodyPost_ret (v:=.agg (gI true).cells.toArray) (by simp[results,Tryz.results215,go_sem,Val.cells,gI]) rfl ⟨rfl,by exact ae⟩
structure Zr (w:World) (g:Nat):Prop where
 c0:w.cell? ⟨g,0,none⟩=some (.int .i64 0)
 c1:w.cell? ⟨g,1,none⟩=some (.int .i64 0)
 c2:w.cell? ⟨g,2,none⟩=some (.string ⟨#[]⟩)
 f0:w.frozen? ⟨g,0,none⟩=false
 f1:w.frozen? ⟨g,1,none⟩=false
 f2:w.frozen? ⟨g,2,none⟩=false
 lt:g<w.heap.size
theorem Zr.below {w w':World}{g:Nat}(h:Zr w g)(hb:Below w.heap.size w w'):Zr w' g:=
 ⟨aj hb h.lt h.c0,aj hb h.lt h.c1,aj hb h.lt h.c2,((aP hb).2 _ _ h.lt).trans h.f0,((aP hb).2 _ _ h.lt).trans h.f1,((aP hb).2 _ _ h.lt).trans h.f2,by have:=hb.size;have:=h.lt;omega⟩
theorem Zr.made (w:World)(t:TypeId):Zr (w.alloc (.cells #[.int .i64 0,.int .i64 0,.string ⟨#[]⟩] t)) w.heap.size:=by
 constructor <;> simp[go_sem]
theorem O3 {fn:Func}{p:Tmp}{R:Ending->World->Prop}{a:Act}{w:World}{g:Nat}{k n:Int}{s:ByteArray}(h:fn.results= #[.cell p 36])(Z:Zr w g)(hp:a.tmps.getD p undef=.pointer (some ⟨g,0,none⟩))(hd:a.defers=[])(hR:R (.returned (.agg (Val.cells ⟨k,n,s⟩).toArray)) (((w.setCell ⟨g,0,none⟩ (.int .i64 k)).setCell ⟨g,1,none⟩ (.int .i64 n)).setCell ⟨g,2,none⟩ (.string s))):
  bodyPost Tryz.prog fn R .ret a (((w.setCell ⟨g,0,none⟩ (.int .i64 k)).setCell ⟨g,1,none⟩ (.int .i64 n)).setCell ⟨g,2,none⟩ (.string s)):=
 bodyPost_ret (bC (cs:=Val.cells ⟨k,n,s⟩) h _ _ g _ hp (eZ Z.c0 Z.c1 Z.c2) Tryz.underlying36 rfl (by kernel_rfl)) hd hR
def V3 (w:World)(b o:Nat)(v:Val):Prop:=w.cell? ⟨b,o,none⟩=some (.int .i64 v.kind)/\w.cell? ⟨b,o+1,none⟩=some (.int .i64 v.num)/\w.cell? ⟨b,o+2,none⟩=some (.string v.str)
theorem V3.below {w w':World}{b o:Nat}{v:Val}(h:V3 w b o v)(hb:Below w.heap.size w w')(hl:b<w.heap.size):V3 w' b o v:=⟨aj hb hl h.1,aj hb hl h.2.1,aj hb hl h.2.2⟩
theorem Gn (w:World)(op kd nu ar:Int)(st nm:ByteArray): ∃w0,w0=((w.alloc (.cells #[.int .i64 op,.int .i64 kd,.int .i64 nu,.string st,.string nm,.int .i64 ar] 89)).alloc (.cells #[.int .i64 0,.int .i64 0,.string ⟨#[]⟩] 36))/\Hid (Zr w0 (w.heap.size+1))/\
  w0.cell? ⟨w.heap.size,0,none⟩=some (.int .i64 op)/\w0.cell? ⟨w.heap.size,1,none⟩=some (.int .i64 kd)/\w0.cell? ⟨w.heap.size,2,none⟩=some (.int .i64 nu)/\w0.cell? ⟨w.heap.size,3,none⟩=some (.string st)/\w0.cell? ⟨w.heap.size,4,none⟩=some (.string nm)/\w0.cell? ⟨w.heap.size,5,none⟩=some (.int .i64 ar)/\Below w.heap.size w w0:=
 ⟨_,rfl,hide (by have:=Zr.made (w.alloc (.cells #[.int .i64 op,.int .i64 kd,.int .i64 nu,.string st,.string nm,.int .i64 ar] 89)) 36;simpa using this),by simp[go_sem],by simp[go_sem],by simp[go_sem],by simp[go_sem],by simp[go_sem],by simp[go_sem],below_alloc2⟩
theorem dB {B g:Nat}{w w':World}(h:Below B w w')(hg:B<=g)(u v x:Value):Below B w (((w'.setCell ⟨g,0,none⟩ u).setCell ⟨g,1,none⟩ v).setCell ⟨g,2,none⟩ x):=((h.setCell hg _).setCell hg _).setCell hg _
end Go.Proofs.YtopjjlmfilgngaaGreatDoor
