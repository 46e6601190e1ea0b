/-
  schema.IsName and warehouseref5.IsName. schema.Index (slices.IndexFunc over columns) and warehouseref5.Index. schema.Validate and warehouseref5.Validate. Package warehouseref1: Valid, Compare, CompareRows. Package value: Valid, Compare, CompareRows; package cmp's Or and Compare. expr.Arity and warehouseref8.Arity: both return arity. warehousebase: At, Moment, Value, Cell, Row: what they build is well-formed. warehousebase: Cell and Row: they fit their columns. schema.CheckRow and warehouseref5.CheckRow. warehousebase.Row: the row fits the columns and lies in a new block. Checked arithmetic: package exact's and the reference's, at integers from -2^30 to 2^30 (larger ones never come in); truth values. Package warehouseref1: CompareRows. bag.formed and warehouseref6.fits. slices.CompareFunc over values, value.CompareRows. bag.Validate, bag.IsTable; warehouseref6.Validate, positive, IsTable. warehouseworld.Within: a list of entries is small. Values of conditions, numbers and moments: scalar.boolean, number, moment and the reference's truth, number, moment. Division: exact.divide, Divide, Modulo and the reference's, at integers from -2^30 to 2^30.
-/
import Derived.Test.YthnelebakkggjaaGreatDoorProg
import Derived.Test.YthnelebakkggjaaGreatDoorGac
namespace Go.Proofs.YthnelebakkggjaaGreatDoor
set_option maxHeartbeats 2000000
set_option maxRecDepth 100000
open Go.RowKit
set_option linter.unusedSimpArgs false
set_option linter.unusedVariables false
theorem qV (s:ByteArray)(i:Nat)(h:i<s.size):jG s i=(s[i]'h).toNat:=by
 have a:i<s.data.toList.length:=by simpa using h
 have:s.data.toList.getD i 0=s[i]'h:=by rw[List.getD,List.getElem?_eq_getElem a];rfl
 rw[jG,this]
theorem G9 (P:Program)(w:World)(s:ByteArray)(pos:Nat)(h:pos<s.size):
  ∃c d:Nat,(∀ty,(Instr.next (.pointer (some ⟨w.heap.size,0,none⟩)) true ty).run P (w.iter s pos)=.ok (.tuple #[.bool true,.int .i64 pos,.int .i32 (c:Int)]) (w.iter s (pos+d)))/\
   (c<128->c=jG s pos/\d=1)/\(128<=c->128<=jG s pos)/\c<=2147483647:=by
 refine⟨_,_,λty=>run_next_any w s pos ty h,λb=>?_,λb=>?_,decode_le s pos⟩
 ·by_cases a:(s[pos]'h).toNat<128
  ·rw[decode_ascii s pos h a,qV s pos h];exact⟨rfl,rfl⟩
  ·have:=(decode_high s pos h Ho).1;omega
 ·by_cases a:(s[pos]'h).toNat<128
  ·rw[decode_ascii s pos h a]at b;have:128<=(s[pos]'h).toNat:=b;omega
  ·rw[qV s pos h];omega
theorem uM (s:ByteArray)(i:Nat)(h:i<s.size):kz s (s.size-i) i=(lc (jG s i) i&&kz s (s.size-(i+1)) (i+1)):=by
 rw[show s.size-i=(s.size-(i+1))+1 from by omega,kz]
theorem jg (s:ByteArray)(i:Nat)(h:i<s.size)(hb:lc (jG s i) i=false):kz s (s.size-i) i=false:=by
 rw[uM s i h,hb];rfl
theorem iK (s:ByteArray)(i:Nat)(h:i<s.size)(hb:lc (jG s i) i=true):kz s (s.size-i) i=kz s (s.size-(i+1)) (i+1):=by
 rw[uM s i h,hb];rfl
theorem ni (c i:Nat)(h:128<=c):lc c i=false:=by
 have a:¬c<=122:=by omega
 have b:¬c=95:=by omega
 have d:¬c<=57:=by omega
 simp[lc,a,b,d]
theorem gN (c i:Nat):lc c i=true↔(97<=c/\c<=122)\/(0<i/\(c=95\/(48<=c/\c<=57))):=by simp only[lc,Bool.or_eq_true,Bool.and_eq_true,decide_eq_true_eq]
theorem Ca (s:ByteArray):(!s.toList.isEmpty)=decide (0<s.size):=by
 rw[ByteArray.toList_eq];have:s.size=s.data.toList.length:=rfl;rw[this];cases s.data.toList<;>simp
theorem qf (s:ByteArray)(hs:Str s)(w:World):
  Calls Tryz.prog 122 #[.string s] w λe w'=>e=.returned (.bool (ik s))/\Below w.heap.size w w':=by
 unfold Str at hs;go_enter Tryz.func122,Tryz.ntmps122;by_cases n:s.size<=24
 ·go_wp2;go_loopw [3] (λ_ wr=> ∃pos:Nat,pos<=s.size/\wr=w.iter s pos/\kz s s.size 0=kz s (s.size-pos) pos) (λ_ wr=>s.size-wr.iterPos w.heap.size)
  case atStart=>exact⟨0,Ho,rfl,rfl⟩
  case round=>
   obtain⟨pos,z,rfl,m⟩:=hrel;have f:=Hm m;clear m;by_cases d:pos<s.size
   ·obtain⟨c,A,u,l,j,v⟩:=G9 Tryz.prog w s pos d;have a:=Hm l;clear l;cases x:decide ((97:Int)<=(c:Int))
    ·cases p:((pos:Int)==0)
     ·cases q:((c:Int)==95)
      ·cases r:decide ((c:Int)<48)
       ·cases t:decide ((57:Int)<(c:Int))
        ·go_wp2;all_goals(try(exfalso;go_light;(try simp only[decide_eq_true_eq,decide_eq_false_iff_not,beq_iff_eq,beq_eq_false_iff_ne,ne_eq,Bool.not_eq_true',Bool.not_eq_false']at*);omega));all_goals
          go_roundw
          case rel=>
           go_light
           (try simp only[decide_eq_true_eq,decide_eq_false_iff_not,beq_iff_eq,beq_eq_false_iff_ne,ne_eq]at*);obtain⟨b,rfl⟩:=a.o Ho;refine⟨pos+1,Ho,rfl,?_⟩;rw[f.o];exact iK s pos d (by rw[<-b];exact(gN c pos).2 Ho)
          case measure=>
           go_light
           (try simp only[decide_eq_true_eq,decide_eq_false_iff_not,beq_iff_eq,beq_eq_false_iff_ne,ne_eq]at*);obtain⟨b,rfl⟩:=a.o Ho;simp;omega
        ·go_wp2;all_goals(try(exfalso;go_light;(try simp only[decide_eq_true_eq,decide_eq_false_iff_not,beq_iff_eq,beq_eq_false_iff_ne,ne_eq,Bool.not_eq_true',Bool.not_eq_false']at*);omega));all_goals
          go_ret;refine⟨eU ?_,eB⟩;go_light;have g:lc (jG s pos) pos=false:=by
           by_cases i:c<128
           ·rw[<-(a.o i).1];refine Bool.eq_false_iff.2 λh=>?_;have k:=(gN c pos).1 h
            (try simp only[decide_eq_true_eq,decide_eq_false_iff_not,beq_iff_eq,beq_eq_false_iff_ne,ne_eq]at*)<;>omega
           ·exact ni _ _ (j Ho)
          rw[ik,f.o,jg s pos d g];simp
       ·go_wp2;all_goals(try(exfalso;go_light;(try simp only[decide_eq_true_eq,decide_eq_false_iff_not,beq_iff_eq,beq_eq_false_iff_ne,ne_eq,Bool.not_eq_true',Bool.not_eq_false']at*);omega));all_goals
         go_ret;refine⟨eU ?_,eB⟩;go_light;have g:lc (jG s pos) pos=false:=by
          by_cases i:c<128
          ·rw[<-(a.o i).1];refine Bool.eq_false_iff.2 λh=>?_;have k:=(gN c pos).1 h
           (try simp only[decide_eq_true_eq,decide_eq_false_iff_not,beq_iff_eq,beq_eq_false_iff_ne,ne_eq]at*)<;>omega
          ·exact ni _ _ (j Ho)
         rw[ik,f.o,jg s pos d g];simp
      ·go_wp2;all_goals(try(exfalso;go_light;(try simp only[decide_eq_true_eq,decide_eq_false_iff_not,beq_iff_eq,beq_eq_false_iff_ne,ne_eq,Bool.not_eq_true',Bool.not_eq_false']at*);omega));all_goals
        go_roundw
        case rel=>
         go_light
         (try simp only[decide_eq_true_eq,decide_eq_false_iff_not,beq_iff_eq,beq_eq_false_iff_ne,ne_eq]at*);obtain⟨b,rfl⟩:=a.o Ho;refine⟨pos+1,Ho,rfl,?_⟩;rw[f.o];exact iK s pos d (by rw[<-b];exact(gN c pos).2 Ho)
        case measure=>
         go_light
         (try simp only[decide_eq_true_eq,decide_eq_false_iff_not,beq_iff_eq,beq_eq_false_iff_ne,ne_eq]at*);obtain⟨b,rfl⟩:=a.o Ho;simp;omega
     ·go_wp2;all_goals(try(exfalso;go_light;(try simp only[decide_eq_true_eq,decide_eq_false_iff_not,beq_iff_eq,beq_eq_false_iff_ne,ne_eq,Bool.not_eq_true',Bool.not_eq_false']at*);omega));all_goals
       go_ret;refine⟨eU ?_,eB⟩;go_light;have g:lc (jG s pos) pos=false:=by
        by_cases i:c<128
        ·rw[<-(a.o i).1];refine Bool.eq_false_iff.2 λh=>?_;have k:=(gN c pos).1 h
         (try simp only[decide_eq_true_eq,decide_eq_false_iff_not,beq_iff_eq,beq_eq_false_iff_ne,ne_eq]at*)<;>omega
        ·exact ni _ _ (j Ho)
       rw[ik,f.o,jg s pos d g];simp
    ·cases y:decide ((c:Int)<=122)
     ·cases p:((pos:Int)==0)
      ·cases q:((c:Int)==95)
       ·cases r:decide ((c:Int)<48)
        ·cases t:decide ((57:Int)<(c:Int))
         ·go_wp2;all_goals(try(exfalso;go_light;(try simp only[decide_eq_true_eq,decide_eq_false_iff_not,beq_iff_eq,beq_eq_false_iff_ne,ne_eq,Bool.not_eq_true',Bool.not_eq_false']at*);omega));all_goals
           go_roundw
           case rel=>
            go_light
            (try simp only[decide_eq_true_eq,decide_eq_false_iff_not,beq_iff_eq,beq_eq_false_iff_ne,ne_eq]at*);obtain⟨b,rfl⟩:=a.o Ho;refine⟨pos+1,Ho,rfl,?_⟩;rw[f.o];exact iK s pos d (by rw[<-b];exact(gN c pos).2 Ho)
           case measure=>
            go_light
            (try simp only[decide_eq_true_eq,decide_eq_false_iff_not,beq_iff_eq,beq_eq_false_iff_ne,ne_eq]at*);obtain⟨b,rfl⟩:=a.o Ho;simp;omega
         ·go_wp2;all_goals(try(exfalso;go_light;(try simp only[decide_eq_true_eq,decide_eq_false_iff_not,beq_iff_eq,beq_eq_false_iff_ne,ne_eq,Bool.not_eq_true',Bool.not_eq_false']at*);omega));all_goals
           go_ret;refine⟨eU ?_,eB⟩;go_light;have g:lc (jG s pos) pos=false:=by
            by_cases i:c<128
            ·rw[<-(a.o i).1];refine Bool.eq_false_iff.2 λh=>?_;have k:=(gN c pos).1 h
             (try simp only[decide_eq_true_eq,decide_eq_false_iff_not,beq_iff_eq,beq_eq_false_iff_ne,ne_eq]at*)<;>omega
            ·exact ni _ _ (j Ho)
           rw[ik,f.o,jg s pos d g];simp
        ·go_wp2;all_goals(try(exfalso;go_light;(try simp only[decide_eq_true_eq,decide_eq_false_iff_not,beq_iff_eq,beq_eq_false_iff_ne,ne_eq,Bool.not_eq_true',Bool.not_eq_false']at*);omega));all_goals
          go_ret;refine⟨eU ?_,eB⟩;go_light;have g:lc (jG s pos) pos=false:=by
           by_cases i:c<128
           ·rw[<-(a.o i).1];refine Bool.eq_false_iff.2 λh=>?_;have k:=(gN c pos).1 h
            (try simp only[decide_eq_true_eq,decide_eq_false_iff_not,beq_iff_eq,beq_eq_false_iff_ne,ne_eq]at*)<;>omega
           ·exact ni _ _ (j Ho)
          rw[ik,f.o,jg s pos d g];simp
       ·go_wp2;all_goals(try(exfalso;go_light;(try simp only[decide_eq_true_eq,decide_eq_false_iff_not,beq_iff_eq,beq_eq_false_iff_ne,ne_eq,Bool.not_eq_true',Bool.not_eq_false']at*);omega));all_goals
         go_roundw
         case rel=>
          go_light
          (try simp only[decide_eq_true_eq,decide_eq_false_iff_not,beq_iff_eq,beq_eq_false_iff_ne,ne_eq]at*);obtain⟨b,rfl⟩:=a.o Ho;refine⟨pos+1,Ho,rfl,?_⟩;rw[f.o];exact iK s pos d (by rw[<-b];exact(gN c pos).2 Ho)
         case measure=>
          go_light
          (try simp only[decide_eq_true_eq,decide_eq_false_iff_not,beq_iff_eq,beq_eq_false_iff_ne,ne_eq]at*);obtain⟨b,rfl⟩:=a.o Ho;simp;omega
      ·go_wp2;all_goals(try(exfalso;go_light;(try simp only[decide_eq_true_eq,decide_eq_false_iff_not,beq_iff_eq,beq_eq_false_iff_ne,ne_eq,Bool.not_eq_true',Bool.not_eq_false']at*);omega));all_goals
        go_ret;refine⟨eU ?_,eB⟩;go_light;have g:lc (jG s pos) pos=false:=by
         by_cases i:c<128
         ·rw[<-(a.o i).1];refine Bool.eq_false_iff.2 λh=>?_;have k:=(gN c pos).1 h
          (try simp only[decide_eq_true_eq,decide_eq_false_iff_not,beq_iff_eq,beq_eq_false_iff_ne,ne_eq]at*)<;>omega
         ·exact ni _ _ (j Ho)
        rw[ik,f.o,jg s pos d g];simp
     ·go_wp2;all_goals(try(exfalso;go_light;(try simp only[decide_eq_true_eq,decide_eq_false_iff_not,beq_iff_eq,beq_eq_false_iff_ne,ne_eq,Bool.not_eq_true',Bool.not_eq_false']at*);omega));all_goals
       go_roundw
       case rel=>
        go_light
        (try simp only[decide_eq_true_eq,decide_eq_false_iff_not,beq_iff_eq,beq_eq_false_iff_ne,ne_eq]at*);obtain⟨b,rfl⟩:=a.o Ho;refine⟨pos+1,Ho,rfl,?_⟩;rw[f.o];exact iK s pos d (by rw[<-b];exact(gN c pos).2 Ho)
       case measure=>
        go_light
        (try simp only[decide_eq_true_eq,decide_eq_false_iff_not,beq_iff_eq,beq_eq_false_iff_ne,ne_eq]at*);obtain⟨b,rfl⟩:=a.o Ho;simp;omega
   ·have u: ∀ty,(Instr.next (.pointer (some ⟨w.heap.size,0,none⟩)) true ty).run Tryz.prog (w.iter s pos)=_:=λty=>run_next_end w s pos ty d;go_wp2;go_ret;refine⟨eU ?_,eB⟩;go_light;have:pos=s.size:=by omega
    subst this;rw[ik,f.o,Nat.sub_self,kz];rw[Ca];simp[n]
 ·go_wp2;go_ret;exact⟨eU (by simp[ik,n]),IJ⟩
theorem kY (s:ByteArray)(hs:Str s)(w:World):
  Calls Tryz.prog 132 #[.string s] w λe w'=>e=.returned (.bool (ik s))/\w=w':=by
 unfold Str at hs;go_enter Tryz.func132,Tryz.ntmps132;obtain p|p|p:s.size<1\/24<s.size\/(1<=s.size/\s.size<=24):=by omega
 ·go_wp2;all_goals(try(exfalso;go_light;(try simp only[decide_eq_true_eq,decide_eq_false_iff_not,beq_iff_eq,beq_eq_false_iff_ne,ne_eq,Bool.not_eq_true',Bool.not_eq_false']at*);omega));all_goals
   go_ret;refine⟨eU ?_,rfl⟩;go_light;have k:¬0<s.size:=by omega
   simp[ik,k]
 ·go_wp2;all_goals(try(exfalso;go_light;(try simp only[decide_eq_true_eq,decide_eq_false_iff_not,beq_iff_eq,beq_eq_false_iff_ne,ne_eq,Bool.not_eq_true',Bool.not_eq_false']at*);omega));all_goals
   go_ret;refine⟨eU ?_,rfl⟩;go_light;have k:¬s.size<=24:=by omega
   simp[ik,k]
 ·obtain⟨C,z⟩:=p;have l:0<s.size:=by omega
  obtain⟨d,hd⟩: ∃d,(s[0]'l).toNat=d:=⟨_,rfl⟩;have q:Hl (d=jG s 0):=Hm (by rw[qV s 0 l,hd]);have early:(d<97\/122<d)->ik s=false:=λh=>by
   have g:lc (jG s 0) 0=false:=by
    rw[<-q.o];refine Bool.eq_false_iff.2 λj=>?_;have:=(gN d 0).1 j;omega
   have:=jg s 0 l g;rw[Nat.sub_zero]at this;rw[ik,this];simp
  cases t:decide ((d:Int)<97)
  ·cases u:decide ((122:Int)<(d:Int))
   ·go_wp2
    go_loop [3] (λi=> ∃pos:Nat,pos<=s.size/\i=.int .i64 pos/\kz s s.size 0=kz s (s.size-pos) pos) (λi=>s.size-(intOf i).toNat)
    case atStart=>exact⟨0,Ho,rfl,rfl⟩
    case round=>
     obtain⟨pos,D,rfl,r⟩:=hrel;have f:=Hm r;clear r;by_cases a:pos<s.size
     ·obtain⟨c,y⟩: ∃c,(s[pos]'a).toNat=c:=⟨_,rfl⟩;have b:Hl (c=jG s pos):=Hm (by rw[qV s pos a,y]);have k:pos=0->c=d:=by intro h;subst h;rw[b.o,q.o]
      cases A:decide ((97:Int)<=(c:Int))
      ·cases v:decide ((48:Int)<=(c:Int))
       ·cases m:((c:Int)==95)
        ·go_wp2;all_goals(try(exfalso;go_light;(try simp only[decide_eq_true_eq,decide_eq_false_iff_not,beq_iff_eq,beq_eq_false_iff_ne,ne_eq,Bool.not_eq_true',Bool.not_eq_false']at*);omega));all_goals
          go_ret;refine⟨eU ?_,rfl⟩;go_light;have g:lc (jG s pos) pos=false:=by
           rw[<-b.o];refine Bool.eq_false_iff.2 λh=>?_;have j:=(gN c pos).1 h
           (try simp only[decide_eq_true_eq,decide_eq_false_iff_not,beq_iff_eq,beq_eq_false_iff_ne,ne_eq]at*)<;>omega
          rw[ik,f.o,jg s pos a g];simp
        ·go_wp2;all_goals(try(exfalso;go_light;(try simp only[decide_eq_true_eq,decide_eq_false_iff_not,beq_iff_eq,beq_eq_false_iff_ne,ne_eq,Bool.not_eq_true',Bool.not_eq_false']at*);omega));all_goals
          go_round
          case rel=>
           go_light
           (try simp only[decide_eq_true_eq,decide_eq_false_iff_not,beq_iff_eq,beq_eq_false_iff_ne,ne_eq]at*);refine⟨pos+1,Ho,by go_num,?_⟩;rw[f.o];exact iK s pos a (by rw[<-b.o];exact(gN c pos).2 Ho)
          case measure=>simp[intOf];omega
       ·cases x:decide ((c:Int)<=57)
        ·cases m:((c:Int)==95)
         ·go_wp2;all_goals(try(exfalso;go_light;(try simp only[decide_eq_true_eq,decide_eq_false_iff_not,beq_iff_eq,beq_eq_false_iff_ne,ne_eq,Bool.not_eq_true',Bool.not_eq_false']at*);omega));all_goals
           go_ret;refine⟨eU ?_,rfl⟩;go_light;have g:lc (jG s pos) pos=false:=by
            rw[<-b.o];refine Bool.eq_false_iff.2 λh=>?_;have j:=(gN c pos).1 h
            (try simp only[decide_eq_true_eq,decide_eq_false_iff_not,beq_iff_eq,beq_eq_false_iff_ne,ne_eq]at*)<;>omega
           rw[ik,f.o,jg s pos a g];simp
         ·go_wp2;all_goals(try(exfalso;go_light;(try simp only[decide_eq_true_eq,decide_eq_false_iff_not,beq_iff_eq,beq_eq_false_iff_ne,ne_eq,Bool.not_eq_true',Bool.not_eq_false']at*);omega));all_goals
           go_round
           case rel=>
            go_light
            (try simp only[decide_eq_true_eq,decide_eq_false_iff_not,beq_iff_eq,beq_eq_false_iff_ne,ne_eq]at*);refine⟨pos+1,Ho,by go_num,?_⟩;rw[f.o];exact iK s pos a (by rw[<-b.o];exact(gN c pos).2 Ho)
           case measure=>simp[intOf];omega
        ·go_wp2;all_goals(try(exfalso;go_light;(try simp only[decide_eq_true_eq,decide_eq_false_iff_not,beq_iff_eq,beq_eq_false_iff_ne,ne_eq,Bool.not_eq_true',Bool.not_eq_false']at*);omega));all_goals
          go_round
          case rel=>
           go_light
           (try simp only[decide_eq_true_eq,decide_eq_false_iff_not,beq_iff_eq,beq_eq_false_iff_ne,ne_eq]at*);refine⟨pos+1,Ho,by go_num,?_⟩;rw[f.o];exact iK s pos a (by rw[<-b.o];exact(gN c pos).2 Ho)
          case measure=>simp[intOf];omega
      ·cases B:decide ((c:Int)<=122)
       ·cases v:decide ((48:Int)<=(c:Int))
        ·cases m:((c:Int)==95)
         ·go_wp2;all_goals(try(exfalso;go_light;(try simp only[decide_eq_true_eq,decide_eq_false_iff_not,beq_iff_eq,beq_eq_false_iff_ne,ne_eq,Bool.not_eq_true',Bool.not_eq_false']at*);omega));all_goals
           go_ret;refine⟨eU ?_,rfl⟩;go_light;have g:lc (jG s pos) pos=false:=by
            rw[<-b.o];refine Bool.eq_false_iff.2 λh=>?_;have j:=(gN c pos).1 h
            (try simp only[decide_eq_true_eq,decide_eq_false_iff_not,beq_iff_eq,beq_eq_false_iff_ne,ne_eq]at*)<;>omega
           rw[ik,f.o,jg s pos a g];simp
         ·go_wp2;all_goals(try(exfalso;go_light;(try simp only[decide_eq_true_eq,decide_eq_false_iff_not,beq_iff_eq,beq_eq_false_iff_ne,ne_eq,Bool.not_eq_true',Bool.not_eq_false']at*);omega));all_goals
           go_round
           case rel=>
            go_light
            (try simp only[decide_eq_true_eq,decide_eq_false_iff_not,beq_iff_eq,beq_eq_false_iff_ne,ne_eq]at*);refine⟨pos+1,Ho,by go_num,?_⟩;rw[f.o];exact iK s pos a (by rw[<-b.o];exact(gN c pos).2 Ho)
           case measure=>simp[intOf];omega
        ·cases x:decide ((c:Int)<=57)
         ·cases m:((c:Int)==95)
          ·go_wp2;all_goals(try(exfalso;go_light;(try simp only[decide_eq_true_eq,decide_eq_false_iff_not,beq_iff_eq,beq_eq_false_iff_ne,ne_eq,Bool.not_eq_true',Bool.not_eq_false']at*);omega));all_goals
            go_ret;refine⟨eU ?_,rfl⟩;go_light;have g:lc (jG s pos) pos=false:=by
             rw[<-b.o];refine Bool.eq_false_iff.2 λh=>?_;have j:=(gN c pos).1 h
             (try simp only[decide_eq_true_eq,decide_eq_false_iff_not,beq_iff_eq,beq_eq_false_iff_ne,ne_eq]at*)<;>omega
            rw[ik,f.o,jg s pos a g];simp
          ·go_wp2;all_goals(try(exfalso;go_light;(try simp only[decide_eq_true_eq,decide_eq_false_iff_not,beq_iff_eq,beq_eq_false_iff_ne,ne_eq,Bool.not_eq_true',Bool.not_eq_false']at*);omega));all_goals
            go_round
            case rel=>
             go_light
             (try simp only[decide_eq_true_eq,decide_eq_false_iff_not,beq_iff_eq,beq_eq_false_iff_ne,ne_eq]at*);refine⟨pos+1,Ho,by go_num,?_⟩;rw[f.o];exact iK s pos a (by rw[<-b.o];exact(gN c pos).2 Ho)
            case measure=>simp[intOf];omega
         ·go_wp2;all_goals(try(exfalso;go_light;(try simp only[decide_eq_true_eq,decide_eq_false_iff_not,beq_iff_eq,beq_eq_false_iff_ne,ne_eq,Bool.not_eq_true',Bool.not_eq_false']at*);omega));all_goals
           go_round
           case rel=>
            go_light
            (try simp only[decide_eq_true_eq,decide_eq_false_iff_not,beq_iff_eq,beq_eq_false_iff_ne,ne_eq]at*);refine⟨pos+1,Ho,by go_num,?_⟩;rw[f.o];exact iK s pos a (by rw[<-b.o];exact(gN c pos).2 Ho)
           case measure=>simp[intOf];omega
       ·go_wp2;all_goals(try(exfalso;go_light;(try simp only[decide_eq_true_eq,decide_eq_false_iff_not,beq_iff_eq,beq_eq_false_iff_ne,ne_eq,Bool.not_eq_true',Bool.not_eq_false']at*);omega));all_goals
         go_round
         case rel=>
          go_light
          (try simp only[decide_eq_true_eq,decide_eq_false_iff_not,beq_iff_eq,beq_eq_false_iff_ne,ne_eq]at*);refine⟨pos+1,Ho,by go_num,?_⟩;rw[f.o];exact iK s pos a (by rw[<-b.o];exact(gN c pos).2 Ho)
         case measure=>simp[intOf];omega
     ·go_wp2;go_ret;refine⟨eU ?_,rfl⟩;go_light;have:pos=s.size:=by omega
      subst this;rw[ik,f.o,Nat.sub_self,kz];simp[z,l]
   ·have n:=early (.inr (by simp only[decide_eq_true_eq]at u;omega));go_wp2;all_goals(go_ret;exact⟨eU n.symm,rfl⟩)
  ·have n:=early (.inl (by simp only[decide_eq_true_eq]at t;omega));go_wp2;all_goals(go_ret;exact⟨eU n.symm,rfl⟩)
theorem GL (c:Col)(name:ByteArray)(g:Nat)(w:World)(a:w.cell? ⟨g,0,none⟩=some (.string name))(b:g<w.heap.size):
  Calls Tryz.prog 120 #[.agg c.cells.toArray,.pointer (some ⟨g,0,none⟩)] w λe w'=>e=.returned (.bool (c.name.toList==name.toList))/\Below w.heap.size w w':=by
 simp only[Col.cells];go_enter Tryz.func120,Tryz.ntmps120;go_wp2;go_ret;exact⟨rfl,eB⟩
theorem zV (w:World)(A:Option Addr)(n c:Nat)(xs:List Col)(d:In w A n c xs)(name:ByteArray)(g:Nat)(t:w.cell? ⟨g,0,none⟩=some (.string name))(m:g<w.heap.size):
  Calls Tryz.prog 119 #[.slice A n c,.func (.func 120) #[] #[.pointer (some ⟨g,0,none⟩)]] w
   λe w'=>e=.returned (.int .i64 (index xs name))/\Below w.heap.size w w':=by
 have y:=d.le;go_enter Tryz.func119,Tryz.ntmps119;go_wp2;go_loopw [8] (λi wr=> ∃k:Nat,k<=n/\i=.int .i64 k/\index xs name=fU name k (xs.drop k)/\Below w.heap.size w wr) (λi _=>n-(intOf i).toNat)
 case atStart=>exact⟨0,Nat.zero_le _,rfl,rfl,IJ⟩
 case round=>
  obtain⟨k,B,rfl,l,hb⟩:=hrel;have a:=Hm l;clear l;by_cases u:k<n
  ·obtain⟨b,off,x,rfl,z,f,q,r,s,v⟩:=(d.b hb).col u;go_wp2_with fail;refine(GL x name g _ (eG hb m t) (Nat.lt_of_lt_of_le m hb.size)).mono ?_;rintro e C ⟨rfl,h⟩;have j:=eu hb h;clear h q r s;cases p:(x.name.toList==name.toList)
   ·go_wp2;go_roundw
    case rel=>exact⟨k+1,Ho,by go_num,by rw[a.o,f.o,fU,if_neg (by simp[p])],j⟩
    case measure=>simp[intOf];omega
   ·go_wp2;go_ret;exact⟨eQ (by rw[a.o,f.o,fU,if_pos p]),j⟩
  ·go_wp2;go_ret;exact⟨eQ (by rw[a.o,fG d.len Ho,fU]),hb⟩
theorem wT (w:World)(A:Option Addr)(n c:Nat)(xs:List Col)(f:In w A n c xs)(name:ByteArray):
  Calls Tryz.prog 86 #[.slice A n c,.string name] w λe w'=>e=.returned (.int .i64 (index xs name))/\Below w.heap.size w w':=by
 go_enter Tryz.func86,Tryz.ntmps86;go_wp2_with fail;refine(zV _ _ _ _ xs (f.b eB) name w.heap.size (by simp[go_sem]) II).mono ?_;rintro e g ⟨rfl,a⟩;have d:=eu eB a;go_wp2;go_ret;exact⟨rfl,d⟩
theorem rq (w:World)(A:Option Addr)(n c:Nat)(xs:List Col)(d:In w A n c xs)(name:ByteArray):
  Calls Tryz.prog 133 #[.slice A n c,.string name] w λe w'=>e=.returned (.int .i64 (index xs name))/\w=w':=by
 have r:=d.le;go_enter Tryz.func133,Tryz.ntmps133;go_wp2
 go_loop [5] (λi=> ∃k:Nat,k<=n/\i=.int .i64 k/\index xs name=fU name k (xs.drop k)) (λi=>n-(intOf i).toNat)
 case atStart=>exact⟨0,Nat.zero_le _,rfl,rfl⟩
 case round=>
  obtain⟨k,t,rfl,g⟩:=hrel;have a:=Hm g;clear g;by_cases j:k<n
  ·obtain⟨b,off,x,rfl,s,f,l,m,p,q⟩:=d.col j;cases h:(x.name.toList==name.toList)
   ·go_wp2
    go_round
    case rel=>exact⟨k+1,Ho,by go_num,by rw[a.o,f.o,fU,if_neg (by simp[h])]⟩
    case measure=>simp[intOf];omega
   ·go_wp2;go_ret;exact⟨eQ (by rw[a.o,f.o,fU,if_pos h]),rfl⟩
  ·go_wp2;go_ret;exact⟨eQ (by rw[a.o,fG d.len Ho,fU]),rfl⟩
theorem gG {α:Type}{f:Nat->α->Int}{k:Nat}{x:α}{l:List α}(h:f k x=0):eH f k (x::l)=eH f (k+1) l:=by simp[eH,h]
theorem fI {α:Type}{f:Nat->α->Int}{k:Nat}{x:α}{l:List α}{e:Int}(h:f k x=e)(a:e≠0):eH f k (x::l)=e:=by simp[eH,h,a]
theorem BP (name:ByteArray)(l:List Col): ∀k i,(h:i<l.length)->(l[i].name.toList==name.toList)=true->0<=fU name k l/\fU name k l<=k+i:=by
 induction l with
 |nil=>intro k i h;simp at h
 |cons c l d=>
  intro k i h a;rw[fU]
  split
  ·exact⟨Ho,Ho⟩
  ·rename_i b;cases i with
   |zero=>exact absurd a b
   |succ i=>
    have:=d (k+1) i (by simpa using h) (by simpa using a);omega
theorem qX (w:World)(A:Option Addr)(n c:Nat)(xs:List Col)(f:In w A n c xs):
  Calls Tryz.prog 91 #[.slice A n c] w λe w'=>e=.returned (.int .i64 (fq xs))/\Below w.heap.size w w':=by
 have H:=f.le;have y:=Hm f.len;go_enter Tryz.func91,Tryz.ntmps91;by_cases hs:n<1\/12<n
 ·have l:Hl (2=fq xs):=Hm (by rw[fq,y.o,if_pos hs]);rcases hs with hs|hs
  all_goals
   go_wp2;go_ret;exact⟨eQ l.o,IJ⟩
 have g:Hl (fq xs=eH (kM xs) 0 xs):=Hm (by rw[fq,y.o,if_neg hs]);have O:1<=n:=by omega
 have P:n<=12:=by omega
 clear hs;go_wp2;go_loopw [15] (λi wr=> ∃k:Nat,k<=n/\i=.int .i64 k/\eH (kM xs) 0 xs=eH (kM xs) k (xs.drop k)/\Below w.heap.size w wr) (λi _=>n-(intOf i).toNat)
 case atStart=>exact⟨0,Nat.zero_le _,rfl,rfl,IJ⟩
 case round=>
  obtain⟨k,J,rfl,v,hb⟩:=hrel;have d:=Hm v;clear v;by_cases G:k<n
  ·obtain⟨b,off,x,rfl,I,h,z,B,C,s⟩:=(f.b hb).col G;go_wp2_with fail;refine(qf x.name s.1 _).mono ?_;rintro e Q ⟨rfl,p⟩;have j:=eu (eu hb eB) p;obtain⟨D,E⟩:=eO p;have F:=f.b j;clear p z B C;obtain⟨K,L⟩:=s.2;cases q:ik x.name
   ·go_wp2;go_ret;exact⟨eQ (by rw[g.o,d.o,h.o];exact(fI (by simp[kM,q]) Ho).symm),j⟩
   ·by_cases a:x.kind<1\/4<x.kind
    ·have l:kM xs k x=7:=by rw[kM,if_neg (by simp[q]),if_pos a]
     have m:Hl (7=fq xs):=Hm (by rw[g.o,d.o,h.o];exact(fI l Ho).symm);clear l;rcases a with a|a
     all_goals
      go_wp2;go_ret;exact⟨eQ m.o,j⟩
    ·have M:1<=x.kind:=by omega
     have N:x.kind<=4:=by omega
     have r:Hl (kM xs k x=if index xs x.name<k then 6 else 0):=Hm (by rw[kM,if_neg (by simp[q]),if_neg a]);clear a;go_wp2_with fail;refine(wT _ _ _ _ xs F x.name).mono ?_;rintro e R ⟨rfl,t⟩;have u:=eu j t;clear t D E;by_cases hi:index xs x.name<k
     ·have m:Hl (6=fq xs):=Hm (by rw[g.o,d.o,h.o];exact(fI (by rw[r.o,if_pos hi]) Ho).symm);go_wp2;go_ret;exact⟨eQ m.o,u⟩
     ·go_wp2;go_roundw
      case rel=>exact⟨k+1,Ho,by go_num,by rw[d.o,h.o];exact gG (by rw[r.o,if_neg Ho]),u⟩
      case measure=>simp[intOf];omega
  ·go_wp2;go_ret;exact⟨eQ (by rw[g.o,d.o,fG f.len Ho,eH]),hb⟩
theorem index_self {xs:List Col}{k:Nat}{x:Col}{l:List Col}(h:xs.drop k=x::l):0<=index xs x.name/\index xs x.name<=k:=by
 obtain⟨a,b⟩:=iI h;rw[List.getElem?_eq_getElem b]at a;injection a with a;have:=BP x.name xs 0 k b (by rw[a];simp);rw[index];omega
theorem mG (w:World)(A:Option Addr)(n c:Nat)(xs:List Col)(d:In w A n c xs):
  Calls Tryz.prog 102 #[.slice A n c] w λe w'=>e=.returned (.int .i64 (fq xs))/\w=w':=by
 have C:=d.le;have s:=Hm d.len;go_enter Tryz.func102,Tryz.ntmps102;by_cases hs:n<1\/12<n
 ·have m:Hl (2=fq xs):=Hm (by rw[fq,s.o,if_pos hs]);rcases hs with hs|hs
  all_goals
   go_wp2;go_ret;exact⟨eQ m.o,rfl⟩
 have l:Hl (fq xs=eH (kM xs) 0 xs):=Hm (by rw[fq,s.o,if_neg hs]);have J:1<=n:=by omega
 have K:n<=12:=by omega
 clear hs;go_wp2
 go_loop [3] (λi=> ∃k:Nat,k<=n/\i=.int .i64 k/\eH (kM xs) 0 xs=eH (kM xs) k (xs.drop k)) (λi=>n-(intOf i).toNat)
 case atStart=>exact⟨0,Nat.zero_le _,rfl,rfl⟩
 case round=>
  obtain⟨k,E,rfl,r⟩:=hrel;have f:=Hm r;clear r;by_cases t:k<n
  ·obtain⟨b,off,x,rfl,D,h,y,z,B,j⟩:=d.col t;obtain⟨F,G⟩:=j.2;cases p:ik x.name
   ·go_wp2_with (go_at_call 132;refine(kY x.name j.1 _).mono ?_;rintro e w' ⟨rfl,rfl⟩);go_ret;exact⟨eQ (by rw[l.o,f.o,h.o];exact(fI (by simp[kM,p]) Ho).symm),rfl⟩
   ·by_cases a:x.kind<1\/4<x.kind
    ·have m:kM xs k x=7:=by rw[kM,if_neg (by simp[p]),if_pos a]
     have g:Hl (7=fq xs):=Hm (by rw[l.o,f.o,h.o];exact(fI m Ho).symm);clear m;rcases a with a|a
     all_goals
      go_wp2_with (go_at_call 132;refine(kY x.name j.1 _).mono ?_;rintro e w' ⟨rfl,rfl⟩);go_ret;exact⟨eQ g.o,rfl⟩
    ·have H:1<=x.kind:=by omega
     have I:x.kind<=4:=by omega
     have q:Hl (kM xs k x=if index xs x.name<k then 6 else 0):=Hm (by rw[kM,if_neg (by simp[p]),if_neg a]);clear a;obtain⟨L,M⟩:=index_self h.o;by_cases hi:index xs x.name=k
     ·have g:Hl (kM xs k x=0):=Hm (by rw[q.o,if_neg Ho]);have u:(index xs x.name==(k:Int))=true:=by simp[hi]
      have v:=Hm hi;clear hi;go_wp2_with (first|(go_at_call 132;refine(kY x.name j.1 _).mono ?_;rintro e w' ⟨rfl,rfl⟩)|(go_at_call 133;refine(rq _ _ _ _ xs d x.name).mono ?_;rintro e w' ⟨rfl,rfl⟩));all_goals(try(exfalso;go_light;simp_all;done))
      go_round
      case rel=>exact⟨k+1,Ho,by go_num,by rw[f.o,h.o];exact gG g.o⟩
      case measure=>simp[intOf];omega
     ·have g:Hl (6=fq xs):=Hm (by rw[l.o,f.o,h.o];exact(fI (by rw[q.o,if_pos Ho]) Ho).symm);have u:(index xs x.name==(k:Int))=false:=by simp[hi]
      go_wp2_with (first|(go_at_call 132;refine(kY x.name j.1 _).mono ?_;rintro e w' ⟨rfl,rfl⟩)|(go_at_call 133;refine(rq _ _ _ _ xs d x.name).mono ?_;rintro e w' ⟨rfl,rfl⟩));all_goals(try(exfalso;go_light;simp_all;done));go_ret;exact⟨eQ g.o,rfl⟩
  ·go_wp2;go_ret;exact⟨eQ (by rw[l.o,f.o,fG d.len Ho,eH]),rfl⟩
theorem xg (v:Val)(a:v.ok)(w:World):
  Calls Tryz.prog 111 #[.agg v.cells.toArray] w λe w'=>e=.returned (.bool (valid v))/\Below w.heap.size w w':=by
 obtain⟨k,n,s⟩:=v;simp only[Val.cells,Val.ok,Str,jP]at*;obtain⟨⟨b,c⟩,⟨d,f⟩,g⟩:=a;go_enter Tryz.func111,Tryz.ntmps111;go_wp2;all_goals
  go_ret;refine⟨eU ?_,eB⟩;go_light;simp only[beq_iff_eq,beq_eq_false_iff_ne,ne_eq]at*;try subst k
  simp_all[valid,jH]
 all_goals(try omega);all_goals(try(repeat' split<;>omega))
theorem tO (a b:Int)(w:World):Calls Tryz.prog 115 #[.int .i64 a,.int .i64 b] w λe w'=>e=.returned (.int .i64 (kW a b))/\w=w':=by
 go_enter Tryz.func115,Tryz.ntmps115;go_wp2;all_goals(go_ret;refine⟨eQ ?_,rfl⟩;go_light;simp only[kW];(repeat' split)<;>omega)
theorem iH (a b:Val)(w:World):
  Calls Tryz.prog 114 #[.agg a.cells.toArray,.agg b.cells.toArray] w λe w'=>e=.returned (.int .i64 (fV a b))/\Below w.heap.size w w':=by
 obtain⟨k,n,s⟩:=a;obtain⟨c,n',d⟩:=b;simp only[Val.cells];go_enter Tryz.func114,Tryz.ntmps114;go_wp2_with (go_at_call 115;refine(tO _ _ _).mono ?_;rintro e w' ⟨rfl,rfl⟩);all_goals
  go_ret;refine⟨eQ ?_,below_alloc2⟩;go_light
  (try simp only[bne_iff_ne,ne_eq]at*)
  (first|(simp_all[fV];done)|(simp_all[fV,kL];done))
theorem rD (v:Val)(a:v.ok)(w:World):
  Calls Tryz.prog 88 #[.agg v.cells.toArray] w λe w'=>e=.returned (.bool (valid v))/\Below w.heap.size w w':=by
 obtain⟨k,n,s⟩:=v;simp only[Val.cells,Val.ok,Str,jP]at*;obtain⟨⟨b,c⟩,⟨d,f⟩,g⟩:=a;go_enter Tryz.func88,Tryz.ntmps88;go_wp2;all_goals
  go_ret;refine⟨eU ?_,eB⟩;go_light;simp only[beq_iff_eq,beq_eq_false_iff_ne,ne_eq]at*;try subst k
  simp_all[valid,jH]
 all_goals(try omega);all_goals(try(repeat' split<;>omega))
theorem GM (a:Int)(w:World):Calls Tryz.prog 141 #[.int .i64 a] w λe w'=>e=.returned (.bool false)/\w=w':=by
 go_enter Tryz.func141,Tryz.ntmps141;go_wp2;all_goals(go_ret;exact⟨by simp,rfl⟩)
theorem GN (a:ByteArray)(w:World):Calls Tryz.prog 142 #[.string a] w λe w'=>e=.returned (.bool false)/\w=w':=by
 go_enter Tryz.func142,Tryz.ntmps142;go_wp2;all_goals(go_ret;exact⟨by simp,rfl⟩)
theorem JZ (a b:Int)(w:World):Calls Tryz.prog 117 #[.int .i64 a,.int .i64 b] w λe w'=>e=.returned (.int .i64 (kW a b))/\w=w':=by
 go_enter Tryz.func117,Tryz.ntmps117;go_wp2_with (go_at_call 141;refine(GM _ _).mono ?_;rintro e w' ⟨rfl,rfl⟩);all_goals(go_ret;refine⟨eQ ?_,rfl⟩;go_light;simp only[kW];(repeat' split)<;>omega)
theorem J8 (a b:ByteArray)(w:World):Calls Tryz.prog 118 #[.string a,.string b] w λe w'=>e=.returned (.int .i64 (kL a b))/\w=w':=by
 go_enter Tryz.func118,Tryz.ntmps118;go_wp2_with (go_at_call 142;refine(GN _ _).mono ?_;rintro e w' ⟨rfl,rfl⟩);all_goals(go_ret;refine⟨eQ ?_,rfl⟩;go_light;simp only[kL];simp_all)
def Np (a b c:Int):Int:=if a≠0 then a else if b≠0 then b else c
theorem Js (a b c:Int)(w:World)(g:Nat)(h:w.cell? ⟨g,0,none⟩=some (.int .i64 a))(j:w.cell? ⟨g,1,none⟩=some (.int .i64 b))(l:w.cell? ⟨g,2,none⟩=some (.int .i64 c)):
  Calls Tryz.prog 116 #[.slice (some ⟨g,0,none⟩) 3 3] w λe w'=>e=.returned (.int .i64 (Np a b c))/\w=w':=by
 go_enter Tryz.func116,Tryz.ntmps116;go_wp2
 go_loop [5,8] (λ_ i=> ∃k:Nat,k<=3/\i=.int .i64 k/\(1<=k->a=0)/\(2<=k->b=0)/\(3<=k->c=0)) (λ_ i=>3-(intOf i).toNat)
 case atStart=>exact⟨0,Ho,rfl,Ho,Ho,Ho⟩
 case round=>
  obtain⟨k,m,rfl,d,hb,f⟩:=hrel;obtain rfl|rfl|rfl|rfl:k=0\/k=1\/k=2\/k=3:=by omega
  ·clear d hb f;go_wp2
   ·go_ret;exact⟨eQ (by go_light;simp_all[Np]),rfl⟩
   ·go_round
    case rel=>exact⟨1,Ho,by go_num,(by intro _;go_light;simp_all),Ho,Ho⟩
    case measure=>simp[intOf]
  ·have d:=d Ho;subst d;clear hb f;go_wp2
   ·go_ret;exact⟨eQ (by go_light;simp_all[Np]),rfl⟩
   ·go_round
    case rel=>exact⟨2,Ho,by go_num,(by first|trivial|(intro _;rfl)),(by intro _;go_light;simp_all),Ho⟩
    case measure=>simp[intOf]
  ·have d:=d Ho;have hb:=hb Ho;subst d hb;clear f;go_wp2
   ·go_ret;exact⟨eQ (by go_light;simp_all[Np]),rfl⟩
   ·go_round
    case rel=>exact⟨3,Ho,by go_num,(by first|trivial|(intro _;rfl)),(by first|trivial|(intro _;rfl)),(by intro _;go_light;simp_all)⟩
    case measure=>simp[intOf]
  ·have d:=d Ho;have hb:=hb Ho;have f:=f Ho;subst d hb f;go_wp2;go_ret;exact⟨eQ (by simp[Np]),rfl⟩
theorem BC (a b:Val)(w:World):
  Calls Tryz.prog 85 #[.agg a.cells.toArray,.agg b.cells.toArray] w λe w'=>e=.returned (.int .i64 (fV a b))/\Below w.heap.size w w':=by
 obtain⟨k,n,s⟩:=a;obtain⟨d,n',f⟩:=b;simp only[Val.cells];go_enter Tryz.func85,Tryz.ntmps85;go_wp2_with fail;generalize c:((w.alloc _).alloc _)=W;have c0:W.cell? ⟨w.heap.size,0,none⟩=some (.int .i64 k):=by subst c;simp[World.cell?_alloc_lt,go_sem]
 have c1:W.cell? ⟨w.heap.size,1,none⟩=some (.int .i64 n):=by subst c;simp[World.cell?_alloc_lt,go_sem]
 have c2:W.cell? ⟨w.heap.size,2,none⟩=some (.string s):=by subst c;simp[World.cell?_alloc_lt,go_sem]
 have g:W.cell? ⟨w.heap.size+1,0,none⟩=some (.int .i64 d):=by subst c;simp[go_sem]
 have h:W.cell? ⟨w.heap.size+1,1,none⟩=some (.int .i64 n'):=by subst c;simp[go_sem]
 have i:W.cell? ⟨w.heap.size+1,2,none⟩=some (.string f):=by subst c;simp[go_sem]
 have hb:Below w.heap.size w W:=by subst c;exact below_alloc2
 clear c;go_region_held3 (λw'=>w'.cell? ⟨w.heap.size,0,none⟩=some (.int .i64 k)/\w'.cell? ⟨w.heap.size,1,none⟩=some (.int .i64 n)/\w'.cell? ⟨w.heap.size,2,none⟩=some (.string s)
   /\w'.cell? ⟨w.heap.size+1,0,none⟩=some (.int .i64 d)/\w'.cell? ⟨w.heap.size+1,1,none⟩=some (.int .i64 n')/\w'.cell? ⟨w.heap.size+1,2,none⟩=some (.string f)) (go_keep)
  (first|(go_at_call 117;refine(JZ _ _ _).mono ?_;rintro e w' ⟨rfl,rfl⟩)|(go_at_call 118;refine(J8 _ _ _).mono ?_;rintro e w' ⟨rfl,rfl⟩)|(go_at_call 116;refine(Js (kW k d) (kW n n') (kL s f) _ _ ?_ ?_ ?_).mono ?_;(simp[go_sem]);(simp[go_sem]);(simp[go_sem]);rintro e w' ⟨rfl,rfl⟩))
 go_wp2;go_ret;exact⟨rfl,(hb.alloc hb.size _).drew⟩
theorem qU (n:Node)(w:World):Calls Tryz.prog 128 #[.agg n.cells.toArray] w λe w'=>e=.returned (.int .i64 (arity n.op n.arity))/\Below w.heap.size w w':=by
 obtain⟨c,⟨kd,b,st⟩,nm,a⟩:=n;simp only[Node.cells];go_enter Tryz.func128,Tryz.ntmps128;go_wp2;all_goals(go_ret;refine⟨eQ ?_,eB⟩;go_light;unfold arity;first|(simp_all;done)|(simp_all;omega)|(repeat' split)<;>omega)
theorem pK (n:Node)(w:World):Calls Tryz.prog 136 #[.agg n.cells.toArray] w λe w'=>e=.returned (.int .i64 (arity n.op n.arity))/\Below w.heap.size w w':=by
 obtain⟨c,⟨kd,b,st⟩,nm,a⟩:=n;simp only[Node.cells];go_enter Tryz.func136,Tryz.ntmps136;go_wp2;all_goals(go_ret;refine⟨eQ ?_,eB⟩;go_light;unfold arity;first|(simp_all;done)|(simp_all;omega)|(repeat' split)<;>omega)
def Made (kind:Int)(v:Val):Prop:=valid v=true/\v.ok/\(1<=kind->kind<=4->v.kind=kind)/\(kind<1\/4<kind->v.kind=0)
theorem vO:jH ⟨#[]⟩=true:=by rw[jH,ByteArray.toList_eq];rfl
theorem Bb {d:Int}(a:0<=d)(b:d<=1):Made 1 ⟨1,d,⟨#[]⟩⟩:=by
 refine⟨?_,⟨⟨by simp only;omega,by simp only;omega⟩,⟨by simp only;omega,by simp only;omega⟩,by simp[Str,ByteArray.size]⟩,λ_ _=>rfl,λh=>by omega⟩;obtain rfl|rfl:d=0\/d=1:=by omega
 all_goals simp[valid,vO]
theorem Dn {d:Int}(a: -1073741824<=d)(b:d<=1073741824):Made 2 ⟨2,d,⟨#[]⟩⟩:=by
 refine⟨?_,⟨⟨by simp only;omega,by simp only;omega⟩,⟨by simp only;omega,by simp only;omega⟩,by simp[Str,ByteArray.size]⟩,λ_ _=>rfl,λh=>by omega⟩;simp[valid,vO,a,b]
theorem Bc {s:ByteArray}(h:s.size<=64):Made 3 ⟨3,0,s⟩:=by
 refine⟨?_,⟨⟨by simp only;omega,by simp only;omega⟩,⟨by simp only;omega,by simp only;omega⟩,by unfold Str;simp only;omega⟩,λ_ _=>rfl,λh=>by omega⟩;simp[valid,h]
theorem Bd {d:Int}(a:0<=d)(b:d<=575999999):Made 4 ⟨4,d,⟨#[]⟩⟩:=by
 refine⟨?_,⟨⟨by simp only;omega,by simp only;omega⟩,⟨by simp only;omega,by simp only;omega⟩,by simp[Str,ByteArray.size]⟩,λ_ _=>rfl,λh=>by omega⟩;simp[valid,vO,a,b]
theorem GX {k:Int}(h:k<1\/4<k):Made k ⟨0,0,⟨#[]⟩⟩:=by
 refine⟨?_,⟨⟨by simp only;omega,by simp only;omega⟩,⟨by simp only;omega,by simp only;omega⟩,by simp[Str,ByteArray.size]⟩,λ_ _=>by omega,λ_=>rfl⟩;simp[valid,vO]
def Fits (c:Col)(v:Val):Prop:=v.ok/\iq c v=0
def Col.good (c:Col):Prop:=c.ok/\1<=c.kind/\c.kind<=4
theorem Gx {c:Col}(h:c.nullable=true):Fits c ⟨0,0,⟨#[]⟩⟩:=by
 obtain⟨a,b,_,d⟩:=GX (k:=0) Ho;exact⟨b,by simp[iq,a,h]⟩
theorem mY {c:Col}{v:Val}(a:c.good)(h:Made c.kind v):Fits c v:=by
 obtain⟨b,d,e,g⟩:=h;have f:=e a.2.1 a.2.2;have:v.kind≠0:=by have:=a.2.1;omega
 exact⟨d,by simp[iq,b,f];have:=a.2.1;omega⟩
theorem getD_drop {α:Type}{xs:List α}{k:Nat}{x d:α}{l:List α}(h:xs.drop k=x::l):xs.getD k d=x:=by
 rw[List.getD,(iI h).1];rfl
def xP (cols:List Col)(i:Nat)(v:Val):Int:=iq (cols.getD i default) v
theorem yf {cols:List Col}{k:Nat}{y:Col}{l:List Col}{x:Val}(h:cols.drop k=y::l):xP cols k x=iq y x:=by rw[xP,getD_drop h]
theorem vB (w:World)(A A':Option Addr)(n n' c c':Nat)(cols:List Col)(row:List Val)(r:In w A n c cols)(p:In w A' n' c' row):
  Calls Tryz.prog 97 #[.slice A n c,.slice A' n' c'] w λe w'=>e=.returned (.int .i64 (fB cols row))/\Below w.heap.size w w':=by
 have O:=r.le;have P:=p.le;have v:=Hm r.len;have z:=Hm p.len;go_enter Tryz.func97,Tryz.ntmps97;cases hs:((n':Int)==(n:Int))
 ·have a:Hl (8=fB cols row):=Hm (by rw[fB,v.o,z.o,if_pos (by simp at hs;omega)]);go_wp2;all_goals(try(exfalso;go_light;simp_all;done));go_ret;exact⟨eQ a.o,IJ⟩
 have m:Hl (fB cols row=eH (xP cols) 0 row):=Hm (by rw[fB,v.o,z.o,if_neg (by simp at hs;omega)];rfl);have D:n=n':=by simp at hs;omega
 go_wp2;all_goals(try(exfalso;go_light;simp_all;done));have F:=Hm D;clear hs D;go_loopw [15] (λi wr=> ∃k:Nat,k<=n'/\i=.int .i64 k/\eH (xP cols) 0 row=eH (xP cols) k (row.drop k)/\Below w.heap.size w wr) (λi _=>n'-(intOf i).toNat)
 case atStart=>exact⟨0,Nat.zero_le _,rfl,rfl,IJ⟩
 case round=>
  obtain⟨k,U,rfl,u,hb⟩:=hrel;have s:=Hm u;clear u;by_cases B:k<n'
  ·have L:k<n:=by rw[F.o];exact B
   obtain⟨M,V,x,rfl,R,G,I,f1,J,K⟩:=(p.b hb).val B;obtain⟨b,off,y,rfl,Q,t,H,d,h,N⟩:=(r.b hb).col L;go_wp2_with fail;refine(rD x K _).mono ?_;rintro e W ⟨rfl,q⟩;have j:=eu (eu (eu hb eB) eB) q;obtain⟨S,T⟩:=eO q;clear q H d h I f1 J;have g:Hl (eH (xP cols) 0 row=if iq y x=0 then eH (xP cols) (k+1) (row.drop (k+1)) else iq y x):=Hm (by
    rw[s.o,G.o];by_cases f:iq y x=0
    ·rw[if_pos f];exact gG (by rw[yf t.o,f])
    ·rw[if_neg f];exact fI (yf t.o) f)
   cases l:valid x
   ·have a:Hl (8=fB cols row):=Hm (by rw[m.o,g.o];simp[iq,l]);go_wp2;go_ret;exact⟨eQ a.o,j⟩
   ·cases f:(x.kind==0)
    ·cases E:(x.kind==y.kind)
     ·have a:Hl (7=fB cols row):=Hm (by
       have d:¬x.kind=0:=by simpa using f
       have h:¬x.kind=y.kind:=by simpa using E
       rw[m.o,g.o];simp[iq,l,d,h])
      go_wp2;all_goals(try(exfalso;go_light;simp_all;done));all_goals
       go_ret;exact⟨eQ a.o,j⟩
     ·have a:Hl (iq y x=0):=Hm (by
       have d:¬x.kind=0:=by simpa using f
       have h:x.kind=y.kind:=by simpa using E
       simp[iq,l,<-h,d])
      go_wp2;all_goals(try(exfalso;go_light;simp_all;done));all_goals
       go_roundw
       case rel=>exact⟨k+1,Ho,by go_num,by rw[g.o,if_pos a.o],j⟩
       case measure=>simp[intOf];omega
    ·cases C:y.nullable
     ·have a:Hl (7=fB cols row):=Hm (by
       have d:x.kind=0:=by simpa using f
       rw[m.o,g.o];simp[iq,l,d,C])
      go_wp2;all_goals(try(exfalso;go_light;simp_all;done));all_goals
       go_ret;exact⟨eQ a.o,j⟩
     ·have a:Hl (iq y x=0):=Hm (by
       have d:x.kind=0:=by simpa using f
       simp[iq,l,d,C])
      go_wp2;all_goals(try(exfalso;go_light;simp_all;done));all_goals
       go_roundw
       case rel=>exact⟨k+1,Ho,by go_num,by rw[g.o,if_pos a.o],j⟩
       case measure=>simp[intOf];omega
  ·go_wp2;go_ret;exact⟨eQ (by rw[m.o,s.o,fG p.len Ho,eH]),hb⟩
theorem ib {B:Nat}{a w:World}(h:Below B a w){n:Nat}:Below B a (w.drewN n):=below_drewN h n
theorem vC (w:World)(A A':Option Addr)(n n' c c':Nat)(cols:List Col)(row:List Val)(u:In w A n c cols)(r:In w A' n' c' row):
  Calls Tryz.prog 106 #[.slice A n c,.slice A' n' c'] w λe w'=>e=.returned (.int .i64 (fB cols row))/\Below w.heap.size w w':=by
 have T:=u.le;have U:=r.le;have F:=Hm u.len;have G:=Hm r.len;go_enter Tryz.func106,Tryz.ntmps106;cases hs:((n:Int)==(n':Int))
 ·have a:Hl (8=fB cols row):=Hm (by rw[fB,F.o,G.o,if_pos (by simp at hs;omega)]);go_wp2;all_goals(try(exfalso;go_light;simp_all;done));go_ret;exact⟨eQ a.o,IJ⟩
 have p:Hl (fB cols row=eH (xP cols) 0 row):=Hm (by rw[fB,F.o,G.o,if_neg (by simp at hs;omega)];rfl);have J:n=n':=by simp at hs;omega
 go_wp2;all_goals(try(exfalso;go_light;simp_all;done));have K:=Hm J;clear hs J;go_loopw [5] (λi wr=> ∃k:Nat,k<=n'/\i=.int .i64 k/\eH (xP cols) 0 row=eH (xP cols) k (row.drop k)/\Below w.heap.size w wr) (λi _=>n'-(intOf i).toNat)
 case atStart=>exact⟨0,Nat.zero_le _,rfl,rfl,IJ⟩
 case round=>
  obtain⟨k,V,rfl,E,hb⟩:=hrel;have v:=Hm E;clear E;by_cases H:k<n'
  ·have N:k<n:=by rw[K.o];exact H
   obtain⟨Q,W,x,rfl,t,L,C,f1,D,M⟩:=(r.b hb).val H;obtain⟨b,off,y,rfl,s,z,B,f,j,R⟩:=(u.b hb).col N;go_wp2_with fail;refine(xg x M _).mono ?_;rintro e X ⟨rfl,g⟩;have h:=eu hb g;replace B:=eG g s B;replace f:=eG g s f;replace j:=eG g s j;replace C:=eG g t C;replace f1:=eG g t f1;replace D:=eG g t D;clear g;have S:(0:Int)<=(k:Int):=by omega
   have g1:(k:Int)<(n:Int):=by omega
   have g2:(k:Int)<(n':Int):=by omega
   have l:Hl (eH (xP cols) 0 row=if iq y x=0 then eH (xP cols) (k+1) (row.drop (k+1)) else iq y x):=Hm (by
    rw[v.o,L.o];by_cases d:iq y x=0
    ·rw[if_pos d];exact gG (by rw[yf z.o,d])
    ·rw[if_neg d];exact fI (yf z.o) d)
   cases m:valid x
   ·have a:Hl (8=fB cols row):=Hm (by rw[p.o,l.o];simp[iq,m]);go_wp2;go_ret
    first|exact⟨eQ a.o,h⟩|exact⟨eQ a.o,ib h⟩
   ·cases d:(x.kind==0)
    ·have P:(x.kind != 0)=true:=by rw[bne,d];rfl
     cases q:(x.kind==y.kind)
     ·have O:(x.kind != y.kind)=true:=by rw[bne,q];rfl
      have a:Hl (7=fB cols row):=Hm (by
       have f:¬x.kind=0:=by simpa using d
       have j:¬x.kind=y.kind:=by simpa using q
       rw[p.o,l.o];simp[iq,m,f,j])
      go_wp2;go_quiet (fail);go_wp2;all_goals(try(exfalso;go_light;simp_all;done));all_goals
       go_ret
       first|exact⟨eQ a.o,h⟩|exact⟨eQ a.o,ib h⟩
     ·have O:(x.kind != y.kind)=false:=by rw[bne,q];rfl
      have a:Hl (iq y x=0):=Hm (by
       have f:¬x.kind=0:=by simpa using d
       have j:x.kind=y.kind:=by simpa using q
       simp[iq,m,<-j,f])
      go_wp2;go_quiet (fail);go_wp2;all_goals(try(exfalso;go_light;simp_all;done));all_goals
       go_roundw
       case rel=>exact⟨k+1,Ho,by go_num,by rw[l.o,if_pos a.o],ib h⟩
       case measure=>simp[intOf];omega
    ·have P:(x.kind != 0)=false:=by rw[bne,d];rfl
     cases I:y.nullable
     ·have a:Hl (7=fB cols row):=Hm (by
       have f:x.kind=0:=by simpa using d
       rw[p.o,l.o];simp[iq,m,f,I])
      go_wp2;go_quiet (fail);go_wp2;all_goals(try(exfalso;go_light;simp_all;done));all_goals
       go_ret
       first|exact⟨eQ a.o,h⟩|exact⟨eQ a.o,ib h⟩
     ·have a:Hl (iq y x=0):=Hm (by
       have f:x.kind=0:=by simpa using d
       simp[iq,m,f,I])
      go_wp2;go_quiet (fail);go_wp2;all_goals(try(exfalso;go_light;simp_all;done));all_goals
       go_roundw
       case rel=>exact⟨k+1,Ho,by go_num,by rw[l.o,if_pos a.o],ib h⟩
       case measure=>simp[intOf];omega
  ·go_wp2;go_ret;exact⟨eQ (by rw[p.o,v.o,fG r.len Ho,eH]),hb⟩
theorem oO:(Tryz.prog.info? 67).map (λi=>(i.zero,i.size,i.bytes))=some (some (.agg #[.int .i64 0,.int .i64 0,.string ⟨#[]⟩]),3,32):=by kernel_rfl
def Part (w:World)(g:Nat)(cols:List Col)(vs:List Val):Prop:=
 (∀i,(h:i<vs.length)->At w (λ_=>False) g (i*3) vs[i])/\ ∀i,(h:i<vs.length)->(a:i<cols.length)->Fits cols[i] vs[i]
theorem Part.b {w w':World}{g:Nat}{cols:List Col}{vs:List Val}(h:Part w g cols vs)(d:g<w.heap.size)(hb:Below w.heap.size w w'):Part w' g cols vs:=
 ⟨λi hi=>by
  obtain⟨a,f,c⟩:=h.1 i hi;exact⟨a,f,λj e=>eG hb d (c j e)⟩,h.2⟩
theorem Part.add {w:World}{g:Nat}{cols:List Col}{vs:List Val}{v:Val}{p q r:Value}(h:Part w g cols vs)(o:v.ok)(t:vs.length<cols.length)(k:Fits cols[vs.length] v)(c:w.cell? ⟨g,vs.length*3,none⟩=some p)(d:w.cell? ⟨g,vs.length*3+1,none⟩=some q)(e:w.cell? ⟨g,vs.length*3+2,none⟩=some r):
  Part (((w.setCell ⟨g,vs.length*3,none⟩ (.int .i64 v.kind)).setCell ⟨g,vs.length*3+1,none⟩ (.int .i64 v.num)).setCell ⟨g,vs.length*3+2,none⟩ (.string v.str)) g cols (vs++[v]):=by
 refine⟨λi hi=>?_,λi hi l=>?_⟩
 ·rw[List.length_append]at hi;by_cases a:i<vs.length
  ·obtain⟨s,⟨rfl,n⟩,f⟩:=h.1 i a;rw[List.getElem_append_left a];refine⟨_,⟨rfl,n⟩,λj b=>?_⟩;have m:j<3:=b;exact eD (eD (eD (f j b) (.inr Ho)) (.inr Ho)) (.inr Ho)
  ·obtain rfl:i=vs.length:=by simp at hi;omega
   rw[List.getElem_append_right IK];simp only[Nat.sub_self,List.getElem_cons_zero];refine⟨v.cells,⟨rfl,o⟩,λj b=>?_⟩;have m:j<3:=b;obtain rfl|rfl|rfl:j=0\/j=1\/j=2:=by omega
   ·exact eD (eD (iY c) (.inr Ho)) (.inr Ho)
   ·exact eD (iY (eD d (.inr Ho))) (.inr Ho)
   ·exact iY (eD (eD e (.inr Ho)) (.inr Ho))
 ·rw[List.length_append]at hi;by_cases a:i<vs.length
  ·rw[List.getElem_append_left a];exact h.2 i a l
  ·obtain rfl:i=vs.length:=by simp at hi;omega
   rw[List.getElem_append_right IK];simpa using k
theorem uL {α:Type}{f:Nat->α->Int}{l:List α}: ∀k,(∀i,(h:i<l.length)->f (k+i) l[i]=0)->eH f k l=0:=by
 induction l with
 |nil=>intro k _;rfl
 |cons x l b=>
  intro k h;have a:=h 0 II;rw[gG (by simpa using a)];exact b (k+1) λi hi=>by
   have:=h (i+1) (by simpa using hi);rw[show k+1+i=k+(i+1) from by omega];simpa using this
theorem DN {cols:List Col}{vs:List Val}(a:vs.length=cols.length)(h: ∀i,(h:i<vs.length)->(b:i<cols.length)->Fits cols[i] vs[i]):fB cols vs=0:=by
 rw[fB,if_neg (by simp[a])];refine uL 0 λi hi=>?_;have:=(h i hi Ho).2;simp only[Nat.zero_add];rw[List.getD,List.getElem?_eq_getElem Ho];exact this
def eX (n:Int):Prop:= -1073741824<=n/\n<=1073741824
theorem jq (a:Int)(w:World):Calls Tryz.prog 172 #[.int .i64 a] w λe w'=>e=.returned (.bool (gX a))/\w=w':=by
 go_enter Tryz.func172,Tryz.ntmps172;go_wp2;all_goals(go_ret;refine⟨eU ?_,rfl⟩;go_light;unfold gX;first|(simp_all;done)|(simp_all;omega))
theorem qi (a:Int)(w:World):Calls Tryz.prog 209 #[.int .i64 a] w λe w'=>e=.returned (.bool (gX a))/\w=w':=by
 go_enter Tryz.func209,Tryz.ntmps209;go_wp2;all_goals(go_ret;refine⟨eU ?_,rfl⟩;go_light;unfold gX;first|(simp_all;done)|(simp_all;omega))
theorem iF {a:Int}(h:eX a):gX a=true:=by unfold eX at h;simp[gX];omega
def chk (r:Int):Int×Bool:=if gX r then(r,true) else(0,false)
theorem Cq {a b:Int}(c:eX a)(hb:eX b):rE a b=chk (a+b):=by simp[rE,chk,iF c,iF hb]
theorem DV {a b:Int}(c:eX a)(hb:eX b):kR a b=chk (a-b):=by simp[kR,chk,iF c,iF hb]
theorem Du {a b:Int}(c:eX a)(hb:eX b):rT a b=chk (a*b):=by simp[rT,chk,iF c,iF hb]
theorem sS (r:Int)(w:World):Calls Tryz.prog 173 #[.int .i64 r] w λe w'=>e=.returned (.tuple #[.int .i64 (chk r).1,.bool (chk r).2])/\w=w':=by
 go_enter Tryz.func173,Tryz.ntmps173;cases h:gX r
 ·go_wp2_with (go_at_call 172;refine(jq _ _).mono ?_;rintro e w' ⟨rfl,rfl⟩);go_ret2;exact⟨by simp[chk,h],rfl⟩
 ·go_wp2_with (go_at_call 172;refine(jq _ _).mono ?_;rintro e w' ⟨rfl,rfl⟩);go_ret2;exact⟨by simp[chk,h],rfl⟩
theorem rO (a b r:Int)(c:eX a)(hb:eX b)(w:World):Calls Tryz.prog 198 #[.int .i64 a,.int .i64 b,.int .i64 r] w λe w'=>e=.returned (.tuple #[.int .i64 (chk r).1,.bool (chk r).2])/\w=w':=by
 have d:=iF c;have f:=iF hb;go_enter Tryz.func198,Tryz.ntmps198;cases h:gX r
 ·go_wp2_with (go_at_call 209;refine(qi _ _).mono ?_;rintro e w' ⟨rfl,rfl⟩);go_ret2;exact⟨by simp[chk,h],rfl⟩
 ·go_wp2_with (go_at_call 209;refine(qi _ _).mono ?_;rintro e w' ⟨rfl,rfl⟩);go_ret2;exact⟨by simp[chk,h],rfl⟩
theorem EX {a b:Int}(c:eX a)(hb:eX b): -1152921504606846976<=a*b/\a*b<=1152921504606846976:=by
 have h:(a*b).natAbs<=1073741824*1073741824:=by
  rw[Int.natAbs_mul];exact Nat.mul_le_mul (by unfold eX at c;omega) (by unfold eX at hb;omega)
 omega
theorem JS (a b:Int)(c:eX a)(hb:eX b)(w:World):Calls Tryz.prog 177 #[.int .i64 a,.int .i64 b] w λe w'=>e=.returned (.tuple #[.int .i64 (rE a b).1,.bool (rE a b).2])/\w=w':=by
 rw[Cq c hb];have d:=iF c;have f:=iF hb;have hw:IntKind.i64.wrap (a+b)=a+b:=IntWalk.i64_in _ (by unfold eX at c hb;omega);go_enter Tryz.func177,Tryz.ntmps177;go_wp2_with (first|(go_at_call 172;refine(jq _ _).mono ?_;rintro e w' ⟨rfl,rfl⟩)|(go_at_call 173;(try rw[hw]);refine(sS _ _).mono ?_;rintro e w' ⟨rfl,rfl⟩));go_ret2;exact⟨rfl,rfl⟩
theorem JU (a b:Int)(c:eX a)(hb:eX b)(w:World):Calls Tryz.prog 202 #[.int .i64 a,.int .i64 b] w λe w'=>e=.returned (.tuple #[.int .i64 (rE a b).1,.bool (rE a b).2])/\w=w':=by
 rw[Cq c hb];have hw:IntKind.i64.wrap (a+b)=a+b:=IntWalk.i64_in _ (by unfold eX at c hb;omega);go_enter Tryz.func202,Tryz.ntmps202;go_wp2_with (go_at_call 198;(try rw[hw]);refine(rO _ _ _ c hb _).mono ?_;rintro e w' ⟨rfl,rfl⟩);go_ret2;exact⟨rfl,rfl⟩
theorem Cg (a b:Int)(c:eX a)(hb:eX b)(w:World):Calls Tryz.prog 152 #[.int .i64 a,.int .i64 b] w λe w'=>e=.returned (.tuple #[.int .i64 (kR a b).1,.bool (kR a b).2])/\w=w':=by
 rw[DV c hb];have d:=iF c;have f:=iF hb;have hw:IntKind.i64.wrap (a-b)=a-b:=IntWalk.i64_in _ (by unfold eX at c hb;omega);go_enter Tryz.func152,Tryz.ntmps152;go_wp2_with (first|(go_at_call 172;refine(jq _ _).mono ?_;rintro e w' ⟨rfl,rfl⟩)|(go_at_call 173;(try rw[hw]);refine(sS _ _).mono ?_;rintro e w' ⟨rfl,rfl⟩));go_ret2;exact⟨rfl,rfl⟩
theorem Ch (a b:Int)(c:eX a)(hb:eX b)(w:World):Calls Tryz.prog 188 #[.int .i64 a,.int .i64 b] w λe w'=>e=.returned (.tuple #[.int .i64 (kR a b).1,.bool (kR a b).2])/\w=w':=by
 rw[DV c hb];have hw:IntKind.i64.wrap (a-b)=a-b:=IntWalk.i64_in _ (by unfold eX at c hb;omega);go_enter Tryz.func188,Tryz.ntmps188;go_wp2_with (go_at_call 198;(try rw[hw]);refine(rO _ _ _ c hb _).mono ?_;rintro e w' ⟨rfl,rfl⟩);go_ret2;exact⟨rfl,rfl⟩
theorem La (a b:Int)(c:eX a)(hb:eX b)(w:World):Calls Tryz.prog 178 #[.int .i64 a,.int .i64 b] w λe w'=>e=.returned (.tuple #[.int .i64 (rT a b).1,.bool (rT a b).2])/\w=w':=by
 rw[Du c hb];have f:=iF c;have g:=iF hb;have d: -1152921504606846976<=a*b/\a*b<=1152921504606846976:=EX c hb;have hw:IntKind.i64.wrap (a*b)=a*b:=IntWalk.i64_in _ (by unfold eX at c hb;omega);go_enter Tryz.func178,Tryz.ntmps178;go_wp2_with (first|(go_at_call 172;refine(jq _ _).mono ?_;rintro e w' ⟨rfl,rfl⟩)|(go_at_call 173;(try rw[hw]);refine(sS _ _).mono ?_;rintro e w' ⟨rfl,rfl⟩));go_ret2;exact⟨rfl,rfl⟩
theorem Lb (a b:Int)(c:eX a)(hb:eX b)(w:World):Calls Tryz.prog 203 #[.int .i64 a,.int .i64 b] w λe w'=>e=.returned (.tuple #[.int .i64 (rT a b).1,.bool (rT a b).2])/\w=w':=by
 rw[Du c hb];have d: -1152921504606846976<=a*b/\a*b<=1152921504606846976:=EX c hb;have hw:IntKind.i64.wrap (a*b)=a*b:=IntWalk.i64_in _ (by unfold eX at c hb;omega);go_enter Tryz.func203,Tryz.ntmps203;go_wp2_with (go_at_call 198;(try rw[hw]);refine(rO _ _ _ c hb _).mono ?_;rintro e w' ⟨rfl,rfl⟩);go_ret2;exact⟨rfl,rfl⟩
theorem rC (v:Val)(h:v.ok)(w:World):Calls Tryz.prog 101 #[.agg v.cells.toArray] w λe w'=>e=.returned (.int .i64 (truth v))/\Below w.heap.size w w':=by
 obtain⟨k,n,s⟩:=v;have i:=h;simp only[Val.cells];by_cases c:k=1
 ·subst c;have a:Hl (truth ⟨1,n,s⟩=if valid ⟨1,n,s⟩=true then n else -1):=Hm (by simp[truth]);cases f:valid ⟨1,n,s⟩;all_goals
   rw[f]at a;go_enter Tryz.func101,Tryz.ntmps101;go_wp2_with fail;refine(rD ⟨1,n,s⟩ i _).mono ?_;rintro e j ⟨rfl,d⟩;have g:=eu eB d;have g1:=eG (b:=w.heap.size) (o:=1) (v:=.int .i64 n) d II (by simp[go_sem]);clear d;rw[f];go_wp2;go_ret;exact⟨eQ (by rw[a.o];simp),g⟩
 ·have a:Hl (truth ⟨k,n,s⟩= -1):=Hm (by simp[truth,c]);have q:(k != 1)=true:=by simpa using c
  clear c;go_enter Tryz.func101,Tryz.ntmps101;go_wp2;go_ret;exact⟨eQ a.o.symm,eB⟩
theorem sF (v:Val)(a:v.ok)(w:World):Calls Tryz.prog 109 #[.agg v.cells.toArray] w λe w'=>e=.returned (.int .i64 (truth v))/\Below w.heap.size w w':=by
 obtain⟨k,n,s⟩:=v;simp only[Val.cells];go_enter Tryz.func109,Tryz.ntmps109;go_wp2;all_goals(go_ret;refine⟨eQ ?_,eB⟩;go_light;(try simp only[bne_iff_ne,ne_eq,beq_iff_eq,beq_eq_false_iff_ne]at*);simp_all[truth,valid,jH])
theorem sI (w:World)(A A':Option Addr)(n n' c c':Nat)(xs d:List Val)(j:In w A n c xs)(f:In w A' n' c' d):
  Calls Tryz.prog 83 #[.slice A n c,.slice A' n' c'] w λe w'=>e=.returned (.int .i64 (eZ xs d))/\Below w.heap.size w w':=by
 have M:=j.le;have N:=f.le;go_enter Tryz.func83,Tryz.ntmps83;go_wp2;go_loopw [5] (λi wr=> ∃k:Nat,k<=n/\k<=n'/\i=.int .i64 k/\eZ xs d=eZ (xs.drop k) (d.drop k)/\Below w.heap.size w wr) (λi _=>n-(intOf i).toNat)
 case atStart=>exact⟨0,Nat.zero_le _,Nat.zero_le _,rfl,rfl,IJ⟩
 case round=>
  obtain⟨k,O,P,rfl,F,hb⟩:=hrel;have g:=Hm F;clear F;by_cases I:k<n
  ·by_cases G:k<n'
   ·obtain⟨b,off,x,rfl,u,C,p,q,r,K⟩:=(j.b hb).val I;obtain⟨m,B,y,rfl,v,D,s,f1,t,L⟩:=(f.b hb).val G;go_wp2_with fail;go_region_held3 (λw'=>Below wr.heap.size wr w'/\w'.cell? ⟨b,off+k*3,none⟩=some (.int .i64 x.kind)/\w'.cell? ⟨b,off+k*3+1,none⟩=some (.int .i64 x.num)/\w'.cell? ⟨b,off+k*3+2,none⟩=some (.string x.str)/\w'.cell? ⟨m,B+k*3,none⟩=some (.int .i64 y.kind)/\w'.cell? ⟨m,B+k*3+1,none⟩=some (.int .i64 y.num)/\w'.cell? ⟨m,B+k*3+2,none⟩=some (.string y.str)) (first|exact⟨(IJ).drew,p,q,r,s,f1,t⟩|(have a:=eF z;exact⟨a,eG a u p,eG a u q,eG a u r,eG a v s,eG a v f1,eG a v t⟩)) (first|(go_at_call 114;refine(iH x y _).mono ?_;rintro e R ⟨rfl,z⟩));have E:=eu hb (eF z);clear z p q r s f1 t;by_cases l:fV x y=0
    ·rw[l];go_wp2;go_roundw
     case rel=>exact⟨k+1,Ho,Ho,by go_num,by rw[g.o,C.o,D.o,eZ,if_neg (by simp[l])],E⟩
     case measure=>simp[intOf];omega
    ·have Q:(fV x y==0)=false:=by simp[l]
     go_wp2;go_ret;exact⟨eQ (by rw[g.o,C.o,D.o,eZ,if_pos l]),E⟩
   ·go_wp2_with (go_at_call 115;refine(tO _ _ _).mono ?_;rintro e w' ⟨rfl,rfl⟩);go_ret;refine⟨eQ ?_,hb⟩;have J:=fG f.len (show n'<=k by omega);rw[g.o,J];have:xs.drop k≠[]:=by intro h;have:=congrArg List.length h;rw[List.length_drop,j.len]at this;simp at this;omega
    match h:xs.drop k with
    | []=>exact absurd h this
    | _::_=>rw[eZ];simp[kW];omega
  ·have H:n<=k:=by omega
   go_wp2_with (go_at_call 115;refine(tO _ _ _).mono ?_;rintro e w' ⟨rfl,rfl⟩);go_ret;refine⟨eQ ?_,hb⟩;rw[g.o,fG j.len H];by_cases G:n<n'
   ·have:d.drop k≠[]:=by intro h;have:=congrArg List.length h;rw[List.length_drop,f.len]at this;simp at this;omega
    match h:d.drop k with
    | []=>exact absurd h this
    | _::_=>rw[eZ];simp[kW];omega
   ·rw[fG f.len Ho,eZ];have:n=n':=by omega
    simp[kW,this]
def oN (_:Nat)(v:Val):Int:=if valid v then 0 else 8
theorem p8 (x:Ent):gy x=if 12<x.row.length\/x.count < -65536\/65536<x.count then 2 else eH oN 0 x.row:=rfl
theorem EK (w:World)(A:Option Addr)(n c:Nat)(x:Ent)(d:In w A n c x.row)(q:jP x.count):
  Calls Tryz.prog 113 #[.agg #[.slice A n c,.int .i64 x.count]] w λe w'=>e=.returned (.int .i64 (gy x))/\Below w.heap.size w w':=by
 obtain⟨row,m⟩:=x;have F:=d.le;have g:=Hm d.len;unfold jP at q;obtain⟨D,E⟩:=q;simp only at d g D E⊢;go_enter Tryz.func113,Tryz.ntmps113;by_cases hs:12<n\/m < -65536\/65536<m
 ·have a:Hl (2=gy ⟨row,m⟩):=Hm (by rw[p8,g.o,if_pos hs]);by_cases y:12<n
  ·go_wp2;all_goals(go_ret;exact⟨eQ a.o,eB⟩)
  ·by_cases z:m < -65536
   ·go_wp2;all_goals(go_ret;exact⟨eQ a.o,eB⟩)
   ·have B:65536<m:=by omega
    go_wp2;all_goals(go_ret;exact⟨eQ a.o,eB⟩)
 have h:Hl (gy ⟨row,m⟩=eH oN 0 row):=Hm (by rw[p8,g.o,if_neg hs]);have y:n<=12:=by omega
 have z: -65536<=m:=by omega
 have B:m<=65536:=by omega
 clear hs;go_wp2;go_loopw [22] (λi wr=> ∃k:Nat,k<=n/\i=.int .i64 k/\eH oN 0 row=eH oN k (row.drop k)/\Below w.heap.size w wr) (λi _=>n-(intOf i).toNat)
 case atStart=>exact⟨0,Nat.zero_le _,rfl,rfl,eB⟩
 case round=>
  obtain⟨k,H,rfl,r,hb⟩:=hrel;have f:=Hm r;clear r;by_cases C:k<n
  ·obtain⟨b,off,x,rfl,G,j,t,f1,u,v⟩:=(d.b hb).val C;go_wp2_with fail;refine(rD x v _).mono ?_;rintro e I ⟨rfl,l⟩;have p:=eu (eu hb eB) l;clear l t f1 u;cases s:valid x
   ·have a:Hl (8=gy ⟨row,m⟩):=Hm (by rw[h.o,f.o,j.o];exact(fI (by simp[oN,s]) Ho).symm);go_wp2;go_ret;exact⟨eQ a.o,p⟩
   ·go_wp2;go_roundw
    case rel=>exact⟨k+1,Ho,by go_num,by rw[f.o,j.o];exact gG (by simp[oN,s]),p⟩
    case measure=>simp[intOf];omega
  ·go_wp2;go_ret;exact⟨eQ (by rw[h.o,f.o,fG d.len Ho,eH]),hb⟩
theorem om (m:Int)(w:World):Calls Tryz.prog 82 #[.int .i64 m] w λe w'=>e=.returned (.bool (decide (-65536<=m)&&decide (m<=65536)))/\w=w':=by
 go_enter Tryz.func82,Tryz.ntmps82;go_wp2;all_goals(go_ret;refine⟨eU ?_,rfl⟩;go_light;first|(simp_all;done)|(simp_all;omega))
theorem AQ (w:World)(A:Option Addr)(n c:Nat)(x:Ent)(d:In w A n c x.row)(q:jP x.count):
  Calls Tryz.prog 76 #[.agg #[.slice A n c,.int .i64 x.count]] w λe w'=>e=.returned (.int .i64 (gy x))/\Below w.heap.size w w':=by
 obtain⟨row,m⟩:=x;have K:=d.le;have j:=Hm d.len;unfold jP at q;obtain⟨G,H⟩:=q;simp only at d j G H⊢;go_enter Tryz.func76,Tryz.ntmps76;by_cases hs:12<n\/m < -65536\/65536<m
 ·have a:Hl (2=gy ⟨row,m⟩):=Hm (by rw[p8,j.o,if_pos hs]);by_cases B:12<n
  ·go_wp2;all_goals(go_ret;exact⟨eQ a.o,eB⟩)
  ·by_cases C:m < -65536
   ·have I:decide ((-65536:Int)<=m)=false:=by simp;omega
    go_wp2_with (go_at_call 82;refine(om _ _).mono ?_;rintro e w' ⟨rfl,rfl⟩);all_goals(try(exfalso;go_light;simp_all;done));all_goals(go_ret;exact⟨eQ a.o,eB⟩)
   ·have D:65536<m:=by omega
    have I:decide (m<=(65536:Int))=false:=by simp;omega
    go_wp2_with (go_at_call 82;refine(om _ _).mono ?_;rintro e w' ⟨rfl,rfl⟩);all_goals(try(exfalso;go_light;simp_all;done));all_goals(go_ret;exact⟨eQ a.o,eB⟩)
 have l:Hl (gy ⟨row,m⟩=eH oN 0 row):=Hm (by rw[p8,j.o,if_neg hs]);have B:n<=12:=by omega
 have C: -65536<=m:=by omega
 have D:m<=65536:=by omega
 clear hs;go_wp2_with (go_at_call 82;refine(om _ _).mono ?_;rintro e w' ⟨rfl,rfl⟩);all_goals(try(exfalso;go_light;simp_all;done));go_loopw [3] (λi wr=> ∃k:Nat,k<=n/\i=.int .i64 k/\eH oN 0 row=eH oN k (row.drop k)/\Below (w.alloc (.cells #[.slice A n c,.int .i64 m] 55)).heap.size (w.alloc (.cells #[.slice A n c,.int .i64 m] 55)) wr) (λi _=>n-(intOf i).toNat)
 case atStart=>exact⟨0,Nat.zero_le _,rfl,rfl,IJ⟩
 case round=>
  obtain⟨k,M,rfl,r,f⟩:=hrel;have g:=Hm r;clear r;have hb:Below w.heap.size w wr:=eu eB f;have J:wr.cell? ⟨w.heap.size,0,none⟩=some (.slice A n c):=eG f II (by simp[go_sem]);have t:=Hm f;clear f;by_cases F:k<n
  ·obtain⟨b,off,x,rfl,L,p,v,f1,y,z⟩:=(d.b hb).val F;go_wp2_with fail;refine(xg x z _).mono ?_;rintro e N ⟨rfl,h⟩;have E:=eu hb h;have u:=Hm (eu t.o h);clear h v f1 y;cases s:valid x
   ·have a:Hl (8=gy ⟨row,m⟩):=Hm (by rw[l.o,g.o,p.o];exact(fI (by simp[oN,s]) Ho).symm);go_wp2;go_ret;exact⟨eQ a.o,E⟩
   ·go_wp2;go_roundw
    case rel=>exact⟨k+1,Ho,by go_num,by rw[g.o,p.o];exact gG (by simp[oN,s]),u.o⟩
    case measure=>simp[intOf];omega
  ·go_wp2;go_ret;exact⟨eQ (by rw[l.o,g.o,fG d.len Ho,eH]),hb⟩
theorem xO (w:World)(A A':Option Addr)(n n' c c':Nat)(xs a:List Val)(g:In w A n c xs)(f:In w A' n' c' a):
  Calls Tryz.prog 84 #[.slice A n c,.slice A' n' c',.func (.func 85) #[] #[]] w
   λe w'=>e=.returned (.int .i64 (eZ xs a))/\Below w.heap.size w w':=by
 have H:=g.le;have I:=f.le;go_enter Tryz.func84,Tryz.ntmps84;go_wp2;go_loopw [13] (λi wr=> ∃k:Nat,k<=n/\k<=n'/\i=.int .i64 k/\eZ xs a=eZ (xs.drop k) (a.drop k)/\Below w.heap.size w wr) (λi _=>n-(intOf i).toNat)
 case atStart=>exact⟨0,Nat.zero_le _,Nat.zero_le _,rfl,rfl,IJ⟩
 case round=>
  obtain⟨k,L,M,rfl,r,hb⟩:=hrel;have d:=Hm r;clear r;by_cases D:k<n
  ·obtain⟨b,off,x,rfl,J,l,u,v,z,F⟩:=(g.b hb).val D;by_cases t:k<n'
   ·obtain⟨E,O,y,rfl,K,m,B,f1,C,G⟩:=(f.b hb).val t;go_wp2_with fail;refine(BC x y _).mono ?_;rintro e P ⟨rfl,p⟩;have q:=eu (eu (eu hb eB) eB) p;clear p u v z B f1 C;by_cases j:fV x y=0
    ·rw[j];go_wp2;go_roundw
     case rel=>exact⟨k+1,Ho,Ho,by go_num,by rw[d.o,l.o,m.o,eZ,if_neg (by simp[j])],q⟩
     case measure=>simp[intOf];omega
    ·have N:(fV x y==0)=false:=by simp[j]
     go_wp2;go_ret;exact⟨eQ (by rw[d.o,l.o,m.o,eZ,if_pos j]),q⟩
   ·go_wp2;go_ret;exact⟨eQ (by rw[d.o,l.o,fG f.len Ho,eZ]),hb.alloc hb.size _⟩
  ·have s:n<=k:=by omega
   by_cases t:n<n'
   ·go_wp2;go_ret;refine⟨eQ ?_,hb⟩;rw[d.o,fG g.len s];have:a.drop k≠[]:=by intro h;have:=congrArg List.length h;rw[List.length_drop,f.len]at this;simp at this;omega
    match h:a.drop k with
    | []=>exact absurd h this
    | _::_=>rw[eZ]
   ·go_wp2;go_ret;refine⟨eQ ?_,hb⟩;rw[d.o,fG g.len s,fG f.len Ho,eZ]
theorem oU (w:World)(A A':Option Addr)(n n' c c':Nat)(xs a:List Val)(d:In w A n c xs)(f:In w A' n' c' a):
  Calls Tryz.prog 51 #[.slice A n c,.slice A' n' c'] w λe w'=>e=.returned (.int .i64 (eZ xs a))/\Below w.heap.size w w':=by
 go_enter Tryz.func51,Tryz.ntmps51;go_wp2_with fail;refine(xO _ _ _ _ _ _ _ xs a d f).mono ?_;rintro e g ⟨rfl,b⟩;go_wp2;go_ret;exact⟨rfl,b⟩
theorem In.prev {w:World}{A:Option Addr}{n c k:Nat}{b:List Ent}(h:In w A n c b)(m:k<n)(i:0<k): ∃a off A' n' c' y,A=some ⟨a,off,none⟩/\a<w.heap.size/\
  w.cell? ⟨a,off+(k-1)*2,none⟩=some (.slice A' n' c')/\In w A' n' c' y/\Hl ((b.getD (k-1) default).row=y):=by
 obtain⟨a,off,x,e,hb,g,A',n',c',d,j,f,l⟩:=h.ent (show k-1<n by omega);exact⟨a,off,A',n',c',x.row,e,hb,d,f,Hm (by rw[getD_drop g.o])⟩
theorem kg (b:List Ent)(i:Nat)(x:Ent):iT b i x=if gy x≠0 then gy x else if x.count=0 then 8 else if 0<i/\0<=eZ (b.getD (i-1) default).row x.row then 14 else 0:=rfl
theorem xW (w:World)(A:Option Addr)(n c:Nat)(a:List Ent)(p:In w A n c a):
  Calls Tryz.prog 78 #[.slice A n c] w λe w'=>e=.returned (.int .i64 (fA a))/\Below w.heap.size w w':=by
 have aa:=p.le;have M:=Hm p.len;go_enter Tryz.func78,Tryz.ntmps78;by_cases hs:4096<n
 ·have d:Hl (2=fA a):=Hm (by rw[fA,M.o,if_pos hs]);go_wp2;go_ret;exact⟨eQ d.o,IJ⟩
 have r:Hl (fA a=eH (iT a) 0 a):=Hm (by rw[fA,M.o,if_neg hs]);have ad:n<=4096:=by omega
 clear hs;go_wp2;go_loopw [11] (λi wr=> ∃k:Nat,k<=n/\i=.int .i64 k/\eH (iT a) 0 a=eH (iT a) k (a.drop k)/\Below w.heap.size w wr) (λi _=>n-(intOf i).toNat)
 case atStart=>exact⟨0,Nat.zero_le _,rfl,rfl,IJ⟩
 case round=>
  obtain⟨k,hk,rfl,L,hb⟩:=hrel;have u:=Hm L;clear L;by_cases N:k<n
  ·obtain⟨b,off,x,rfl,hB,F,A',n',c',P,Q,v,G⟩:=(p.b hb).ent N;go_wp2_with fail;refine(EK _ A' n' c' x (v.b eB) G).mono ?_;rintro e C ⟨rfl,g⟩;have l:=eu (eu hb eB) g;have I:C.cell? ⟨wr.heap.size,0,none⟩=some (.slice A' n' c'):=eG g II (by simp[go_sem]);have g1:C.cell? ⟨wr.heap.size,1,none⟩=some (.int .i64 x.count):=eG g II (by simp[go_sem]);have T:=v.b (eu eB g);have U:wr.heap.size<C.heap.size:=by have:=g.size;simp at this;omega
   obtain⟨ab,ac⟩:=G;clear g P Q v;by_cases f:gy x=0
   ·rw[f];have q:Hl (eH (iT a) 0 a=if x.count=0 then 8 else if 0<k/\0<=eZ (a.getD (k-1) default).row x.row then 14 else eH (iT a) (k+1) (a.drop (k+1))):=Hm (by
     rw[u.o,F.o];by_cases j:x.count=0
     ·rw[if_pos j];exact fI (by rw[kg,if_neg (by simp[f]),if_pos j]) Ho
     ·by_cases t:0<k/\0<=eZ (a.getD (k-1) default).row x.row
      ·rw[if_neg j,if_pos t];exact fI (by rw[kg,if_neg (by simp[f]),if_neg j,if_pos t]) Ho
      ·rw[if_neg j,if_neg t];exact gG (by rw[kg,if_neg (by simp[f]),if_neg j,if_neg t]))
    clear f;cases m:(x.count==0)
    ·have B:¬x.count=0:=by simpa using m
     by_cases y:0<k
     ·obtain⟨Z,af,D,O,c0,s,e,S,H,f1,E⟩:=In.prev (p.b l) N y;injection e with e;injection e with e_1 e_2;subst e_1 e_2;have i0:(0:Int)<(k:Int):=by omega
      have V:(0:Int)<=(k:Int)-1:=by omega
      have W:(k:Int)-1<(n:Int):=by omega
      have X:((k:Int)-1).toNat=k-1:=by omega
      have i5:(1:Int)<=(k:Int):=by omega
      have i6:(k:Int)<=(n:Int):=by omega
      have Y:IntKind.i64.wrap ((k:Int)-1)=(k:Int)-1:=IntWalk.i64_in _ Ho;go_wp2_with fail;go_region_held3 (λw'=>w'.cell? ⟨b,off+(k-1)*2,none⟩=some (.slice D O c0)/\w'.cell? ⟨wr.heap.size,0,none⟩=some (.slice A' n' c')) (first|exact⟨H,I⟩|(have m:=eF z;exact⟨eG m S H,eG m U I⟩)) (first|(go_at_call 51;refine(oU _ D A' O n' c0 c' s x.row (by exact f1) (by exact T)).mono ?_;rintro e w2 ⟨rfl,z⟩));have J:=eu l (eF z);clear z Y X W V;by_cases K:0<=eZ s x.row
      ·have d:Hl (14=fA a):=Hm (by rw[r.o,q.o,E.o,if_neg B,if_pos ⟨y,K⟩]);have hd:decide (0<=eZ s x.row)=true:=by simp;omega
       go_wp2;all_goals(try(exfalso;go_light;simp_all;done));go_ret;exact⟨eQ d.o,J⟩
      ·have d:Hl (eH (iT a) 0 a=eH (iT a) (k+1) (a.drop (k+1))):=Hm (by rw[q.o,E.o,if_neg B,if_neg (λh=>K h.2)]);have hd:decide (0<=eZ s x.row)=false:=by simp;omega
       go_wp2;all_goals(try(exfalso;go_light;simp_all;done));go_roundw
       case rel=>exact⟨k+1,Ho,by go_num,d.o,J⟩
       case measure=>simp[intOf];omega
     ·have R:k=0:=by omega
      have d:Hl (eH (iT a) 0 a=eH (iT a) (k+1) (a.drop (k+1))):=Hm (by rw[q.o,if_neg B,if_neg (λh=>y h.1)]);subst R;go_wp2;go_quiet (fail);go_wp2;go_roundw
      case rel=>exact⟨0+1,Ho,by go_num,d.o,ib l⟩
      case measure=>simp[intOf];omega
    ·have d:Hl (8=fA a):=Hm (by rw[r.o,q.o,if_pos (by simpa using m)]);go_wp2;go_ret;exact⟨eQ d.o,l⟩
   ·have ae:(gy x==0)=false:=by simp[f]
    have d:Hl (gy x=fA a):=Hm (by rw[r.o,u.o,F.o];exact(fI (by rw[kg,if_pos f]) f).symm);go_wp2;all_goals(try(exfalso;go_light;simp_all;done));go_ret;exact⟨eQ d.o,l⟩
  ·go_wp2;go_ret;exact⟨eQ (by rw[r.o,u.o,fG p.len Ho,eH]),hb⟩
theorem Jl {α:Type}{xs:List α}{k:Nat}{P:α->Prop}{x:α}{l:List α}(h:xs.drop k=x::l)(c: ∀y∈xs.take k,P y)(d:P x): ∀y∈xs.take (k+1),P y:=by
 have b:k<xs.length:=by
  by_cases q:k<xs.length
  ·exact q
  ·rw[List.drop_eq_nil_of_le Ho]at h;cases h
 have e:xs[k]=x:=by
  have:=List.drop_eq_getElem_cons b;rw[h]at this;injection this with this;exact this.symm
 intro y a;rw[List.take_succ_eq_append_getElem b]at a;rcases List.mem_append.1 a with a|a
 ·exact c y a
 ·rw[e]at a;simp at a;subst a;exact d
def uD (e:Ending)(P:Prop):Prop:= ∃r,e=.returned (.bool r)/\(r=true->P)
theorem qm (w:World)(A:Option Addr)(n c:Nat)(xs:List Ent)(p:In w A n c xs)(m:Int):
  Calls Tryz.prog 14 #[.slice A n c,.int .i64 m] w λe w'=>uD e ((n:Int)<=m/\ ∀x∈xs,x.row.length<=20)/\Below w.heap.size w w':=by
 have K:=p.le;have j:=Hm p;by_cases P:m<(n:Int)
 ·go_enter Tryz.func14,Tryz.ntmps14;go_wp2;go_ret;exact⟨⟨false,rfl,λh=>by cases h⟩,IJ⟩
 go_enter Tryz.func14,Tryz.ntmps14;go_wp2
 go_loop [5] (λi=> ∃k:Nat,k<=n/\i=.int .i64 k/\ ∀x∈xs.take k,x.row.length<=20) (λi=>n-(RowKit.intOf i).toNat)
 case atStart=>exact⟨0,Nat.zero_le _,rfl,by simp⟩
 case round=>
  obtain⟨k,N,rfl,l⟩:=hrel;have f:=Hm l;clear l;by_cases v:k<n
  ·obtain⟨b,off,x,rfl,L,t,C,a,B,E,F,d,G⟩:=j.o.ent v;have S:(0:Int)<=(k:Int):=by omega
   have T:(k:Int)<(n:Int):=by omega
   have s:=Hm d;have O:=d.le;have u:=d.len;clear d;by_cases hs:(20:Int)<(a:Int)
   ·go_wp2;go_ret;exact⟨⟨false,rfl,λh=>by cases h⟩,IJ⟩
   have r:=Hm (Jl t.o f.o (by omega:x.row.length<=20));clear u;go_wp2
   go_loop [6] (λi=> ∃q:Nat,q<=a/\i=.int .i64 q) (λi=>a-(RowKit.intOf i).toNat)
   case atStart=>exact⟨0,Nat.zero_le _,rfl⟩
   case round=>
    obtain⟨q,Q,rfl⟩:=hrel;by_cases z:q<a
    ·obtain⟨b2,U,y,rfl,M,D,H,f1,I,J⟩:=s.o.val z;have V:(0:Int)<=(q:Int):=by omega
     have W:(q:Int)<(a:Int):=by omega
     by_cases R:(200:Int)<(y.str.size:Int)
     ·go_wp2;go_ret;exact⟨⟨false,rfl,λh=>by cases h⟩,IJ⟩
     go_wp2
     go_round
     case rel=>exact⟨q+1,Ho,by go_num⟩
     case measure=>simp[RowKit.intOf];omega
    ·go_wp2
     go_round
     case rel=>exact⟨k+1,Ho,by go_num,r.o⟩
     case measure=>simp[RowKit.intOf];omega
  ·have g:Hl (∀x∈xs,x.row.length<=20):=Hm (by
    have:=f.o;rw[List.take_of_length_le (by rw[j.o.len];omega)]at this;exact this)
   go_wp2;go_ret;exact⟨⟨true,rfl,λ_=>by first|exact⟨Ho,g.o⟩|exact g.o⟩,IJ⟩
theorem mV (b:Bool)(w:World):Calls Tryz.prog 149 #[.bool b] w λe w'=>e=.returned (.agg (iM b).cells.toArray)/\Below w.heap.size w w':=by
 cases b;all_goals
  go_enter Tryz.func149,Tryz.ntmps149;go_wp2
 ·refine bodyPost_ret (v:=.agg (iM false).cells.toArray) (by simp[results,Tryz.results149,go_sem,Val.cells,iM]) rfl ⟨rfl,by exact eB⟩
 ·refine bodyPost_ret (v:=.agg (iM true).cells.toArray) (by simp[results,Tryz.results149,go_sem,Val.cells,iM]) rfl ⟨rfl,by exact eB⟩
theorem mW (b:Bool)(w:World):Calls Tryz.prog 186 #[.bool b] w λe w'=>e=.returned (.agg (iM b).cells.toArray)/\Below w.heap.size w w':=by
 cases b;all_goals
  go_enter Tryz.func186,Tryz.ntmps186;go_wp2
 ·refine bodyPost_ret (v:=.agg (iM false).cells.toArray) (by simp[results,Tryz.results186,go_sem,Val.cells,iM]) rfl ⟨rfl,by exact eB⟩
 ·refine bodyPost_ret (v:=.agg (iM true).cells.toArray) (by simp[results,Tryz.results186,go_sem,Val.cells,iM]) rfl ⟨rfl,by exact eB⟩
theorem nI (n:Int)(ok:Bool)(w:World):Calls Tryz.prog 151 #[.int .i64 n,.bool ok] w λe w'=>e=.returned (.agg (jb n ok).cells.toArray)/\Below w.heap.size w w':=by
 cases ok;all_goals
  go_enter Tryz.func151,Tryz.ntmps151;go_wp2
 ·refine bodyPost_ret (v:=.agg (jb n false).cells.toArray) (by simp[results,Tryz.results151,go_sem,Val.cells,jb,fP]) rfl ⟨rfl,by exact eB⟩
 ·refine bodyPost_ret (v:=.agg (jb n true).cells.toArray) (by simp[results,Tryz.results151,go_sem,Val.cells,jb]) rfl ⟨rfl,by exact eB⟩
theorem nJ (n:Int)(ok:Bool)(w:World):Calls Tryz.prog 187 #[.int .i64 n,.bool ok] w λe w'=>e=.returned (.agg (jb n ok).cells.toArray)/\Below w.heap.size w w':=by
 cases ok;all_goals
  go_enter Tryz.func187,Tryz.ntmps187;go_wp2
 ·refine bodyPost_ret (v:=.agg (jb n false).cells.toArray) (by simp[results,Tryz.results187,go_sem,Val.cells,jb,fP]) rfl ⟨rfl,by exact eB⟩
 ·refine bodyPost_ret (v:=.agg (jb n true).cells.toArray) (by simp[results,Tryz.results187,go_sem,Val.cells,jb]) rfl ⟨rfl,by exact eB⟩
theorem Dr (n:Int)(w:World):Calls Tryz.prog 176 #[.int .i64 n] w λe w'=>e=.returned (.agg (o7 n).cells.toArray)/\Below w.heap.size w w':=by
 by_cases h:n<0\/575999999<n
 ·have a:Hl (o7 n=fP):=Hm (by rw[o7,if_pos h]);rcases h with h|h
  all_goals
   go_enter Tryz.func176,Tryz.ntmps176;go_wp2;refine bodyPost_ret (v:=.agg fP.cells.toArray) (by simp[results,Tryz.results176,go_sem,Val.cells,fP]) rfl ⟨by rw[a.o],by exact eB⟩
 ·have a:Hl (o7 n=⟨4,n,⟨#[]⟩⟩):=Hm (by rw[o7,if_neg h]);have b:0<=n:=by omega
  have c:n<=575999999:=by omega
  clear h;go_enter Tryz.func176,Tryz.ntmps176;go_wp2;refine bodyPost_ret (v:=.agg (Val.cells ⟨4,n,⟨#[]⟩⟩).toArray) (by simp[results,Tryz.results176,go_sem,Val.cells]) rfl ⟨by rw[a.o],by exact eB⟩
theorem Dt (n:Int)(w:World):Calls Tryz.prog 201 #[.int .i64 n] w λe w'=>e=.returned (.agg (o7 n).cells.toArray)/\Below w.heap.size w w':=by
 by_cases h:n<0\/575999999<n
 ·have a:Hl (o7 n=fP):=Hm (by rw[o7,if_pos h]);rcases h with h|h
  all_goals
   go_enter Tryz.func201,Tryz.ntmps201;go_wp2;refine bodyPost_ret (v:=.agg fP.cells.toArray) (by simp[results,Tryz.results201,go_sem,Val.cells,fP]) rfl ⟨by rw[a.o],by exact eB⟩
 ·have a:Hl (o7 n=⟨4,n,⟨#[]⟩⟩):=Hm (by rw[o7,if_neg h]);have b:0<=n:=by omega
  have c:n<=575999999:=by omega
  clear h;go_enter Tryz.func201,Tryz.ntmps201;go_wp2;refine bodyPost_ret (v:=.agg (Val.cells ⟨4,n,⟨#[]⟩⟩).toArray) (by simp[results,Tryz.results201,go_sem,Val.cells]) rfl ⟨by rw[a.o],by exact eB⟩
theorem Gc {a b:Int}(c:eX a)(d:b≠0): -1073741824<=a.tdiv b/\a.tdiv b<=1073741824:=by
 have h:(a.tdiv b).natAbs<=a.natAbs:=by
  rw[Int.natAbs_tdiv];exact Nat.div_le_self _ _
 unfold eX at c;omega
theorem Gd {a b:Int}(hb:eX b)(c:b≠0):(a.tmod b).natAbs<b.natAbs:=by
 rw[Int.natAbs_tmod];exact Nat.mod_lt _ Ho
theorem sZ {a b:Int}(c:b≠0):
  (a.tmod b≠0/\(decide (a.tmod b<0) != decide (b<0))=true->a.fdiv b=a.tdiv b-1/\a.fmod b=a.tmod b+b)/\
  (¬(a.tmod b≠0/\(decide (a.tmod b<0) != decide (b<0))=true)->a.fdiv b=a.tdiv b/\a.fmod b=a.tmod b):=by
 have d:=Int.tmod_add_mul_tdiv a b;have g:(a.tmod b).natAbs<b.natAbs:=by rw[Int.natAbs_tmod];exact Nat.mod_lt _ Ho
 generalize a.tmod b=r at*;generalize a.tdiv b=q at*;have e:b*(q-1)=b*q-b:=by rw[Int.mul_sub,Int.mul_one]
 constructor
 ·rintro⟨h,hs⟩;rcases Int.lt_or_gt_of_ne c with hb|hb
  ·have:¬r<0:=by intro q;simp[q,hb]at hs
   exact(Int.fdiv_fmod_unique' hb).2 ⟨by rw[e];omega,Ho,Ho⟩
  ·have:r<0:=by
    by_cases q:r<0
    ·exact q
    ·exfalso;simp[q,show ¬b<0 by omega]at hs
   exact(Int.fdiv_fmod_unique Ho).2 ⟨by rw[e];omega,Ho,Ho⟩
 ·intro f;rcases Int.lt_or_gt_of_ne c with hb|hb
  ·have:r<=0:=by
    by_cases q:r<=0
    ·exact q
    ·exact absurd ⟨Ho,by simp[hb];omega⟩ f
   exact(Int.fdiv_fmod_unique' hb).2 ⟨d,Ho,Ho⟩
  ·have:0<=r:=by
    by_cases q:0<=r
    ·exact q
    ·exact absurd ⟨Ho,by simp[show ¬b<0 by omega];omega⟩ f
   exact(Int.fdiv_fmod_unique Ho).2 ⟨d,Ho,Ho⟩
theorem wO (a:Int):oW a 0=(0,false)/\pI a 0=(0,false):=by simp[oW,pI]
theorem BF {a b:Int}(d:eX a)(hb:eX b)(c:b≠0):oW a b=(a.fdiv b,true)/\pI a b=(a.fmod b,true):=by simp[oW,pI,iF d,iF hb,c]
theorem yG (a b:Int)(l:eX a)(hb:eX b)(w:World):Calls Tryz.prog 195 #[.int .i64 a,.int .i64 b] w λe w'=>e=.returned (.tuple #[.int .i64 (oW a b).1,.int .i64 (pI a b).1,.bool (oW a b).2])/\Below w.heap.size w w':=by
 have y:=iF l;have z:=iF hb;by_cases i:b=0
 ·subst i;have d:=Hm (wO a);clear l hb;go_enter Tryz.func195,Tryz.ntmps195;go_wp2_with (go_at_call 172;refine(jq _ _).mono ?_;rintro e w' ⟨rfl,rfl⟩)
  go_ret3
  exact⟨by rw[d.o.1,d.o.2]<;>rfl,IJ⟩
 ·have d:=Hm (BF l hb i);have k:=Hm (sZ (a:=a) i);have x:(b==0)=false:=by simpa using i
  have hd:=Gc l i;have r:=Gd (a:=a) hb i;have q:b.natAbs<=1073741824:=by unfold eX at hb;omega
  have s:IntKind.i64.wrap (a.tdiv b)=a.tdiv b:=IntWalk.i64_in _ Ho;have t:IntKind.i64.wrap (a.tdiv b-1)=a.tdiv b-1:=IntWalk.i64_in _ Ho;have u:IntKind.i64.wrap (a.tmod b+b)=a.tmod b+b:=IntWalk.i64_in _ Ho;have v:IntKind.i64.wrap (a.tmod b)=a.tmod b:=IntWalk.i64_in _ Ho;by_cases j:a.tmod b=0
  ·have p:(a.tmod b != 0)=false:=by simpa using j
   have c:=Hm (k.o.2 (λh=>h.1 j));go_enter Tryz.func195,Tryz.ntmps195;go_wp2_with (go_at_call 172;refine(jq _ _).mono ?_;rintro e w' ⟨rfl,rfl⟩);all_goals(try go_quiet (fail));go_wp2
   go_ret3
   exact⟨by rw[d.o.1,d.o.2,c.o.1,c.o.2,j]<;>rfl,below_drewN IJ _⟩
  ·have p:(a.tmod b != 0)=true:=by simpa using j
   by_cases g:a.tmod b<0
   ·by_cases f:b<0
    ·have c:=Hm (k.o.2 (λh=>by have:=h.2;simp[g,f]at this));have m:decide (a.tmod b<0)=true:=by simp[g]
     have n:decide (b<0)=true:=by simp[f]
     go_enter Tryz.func195,Tryz.ntmps195;go_wp2_with (go_at_call 172;refine(jq _ _).mono ?_;rintro e w' ⟨rfl,rfl⟩);all_goals(try go_quiet (fail));go_wp2
     go_ret3
     exact⟨by rw[d.o.1,d.o.2,c.o.1,c.o.2]<;>rfl,below_drewN IJ _⟩
    ·have c:=Hm (k.o.1 ⟨j,by simp[g,f]⟩);have m:decide (a.tmod b<0)=true:=by simp[g]
     have n:decide (b<0)=false:=by simp[f]
     go_enter Tryz.func195,Tryz.ntmps195;go_wp2_with (go_at_call 172;refine(jq _ _).mono ?_;rintro e w' ⟨rfl,rfl⟩);all_goals(try go_quiet (fail));go_wp2
     go_ret3
     exact⟨by rw[d.o.1,d.o.2,c.o.1,c.o.2]<;>rfl,below_drewN IJ _⟩
   ·by_cases f:b<0
    ·have c:=Hm (k.o.1 ⟨j,by simp[g,f]⟩);have m:decide (a.tmod b<0)=false:=by simp[g]
     have n:decide (b<0)=true:=by simp[f]
     go_enter Tryz.func195,Tryz.ntmps195;go_wp2_with (go_at_call 172;refine(jq _ _).mono ?_;rintro e w' ⟨rfl,rfl⟩);all_goals(try go_quiet (fail));go_wp2
     go_ret3
     exact⟨by rw[d.o.1,d.o.2,c.o.1,c.o.2]<;>rfl,below_drewN IJ _⟩
    ·have c:=Hm (k.o.2 (λh=>by have:=h.2;simp[g,f]at this));have m:decide (a.tmod b<0)=false:=by simp[g]
     have n:decide (b<0)=false:=by simp[f]
     go_enter Tryz.func195,Tryz.ntmps195;go_wp2_with (go_at_call 172;refine(jq _ _).mono ?_;rintro e w' ⟨rfl,rfl⟩);all_goals(try go_quiet (fail));go_wp2
     go_ret3
     exact⟨by rw[d.o.1,d.o.2,c.o.1,c.o.2]<;>rfl,below_drewN IJ _⟩
theorem IQ (a b:Int):(oW a b).2=(pI a b).2:=by
 rw[oW,pI];split<;>rfl
theorem Km (a b:Int)(c:eX a)(hb:eX b)(w:World):Calls Tryz.prog 179 #[.int .i64 a,.int .i64 b] w λe w'=>e=.returned (.tuple #[.int .i64 (oW a b).1,.bool (oW a b).2])/\Below w.heap.size w w':=by
 go_enter Tryz.func179,Tryz.ntmps179;go_wp2_with fail;refine(yG a b c hb _).mono ?_;rintro e f ⟨rfl,d⟩;go_wp2;go_ret2;exact⟨rfl,d⟩
theorem K8 (a b:Int)(c:eX a)(hb:eX b)(w:World):Calls Tryz.prog 180 #[.int .i64 a,.int .i64 b] w λe w'=>e=.returned (.tuple #[.int .i64 (pI a b).1,.bool (pI a b).2])/\Below w.heap.size w w':=by
 rw[<-IQ];go_enter Tryz.func180,Tryz.ntmps180;go_wp2_with fail;refine(yG a b c hb _).mono ?_;rintro e f ⟨rfl,d⟩;go_wp2;go_ret2;exact⟨rfl,d⟩
theorem yM (a b:Int)(i:eX a)(hb:eX b)(j:0<b)(w:World):Calls Tryz.prog 211 #[.int .i64 a,.int .i64 b] w λe w'=>e=.returned (.int .i64 (a.fdiv b))/\w=w':=by
 have c:b≠0:=by omega
 have f:=Hm (sZ (a:=a) c);have p:(b==0)=false:=by simpa using c
 have hd:=Gc i c;have k:=Gd (a:=a) hb c;have l:IntKind.i64.wrap (a.tdiv b)=a.tdiv b:=IntWalk.i64_in _ Ho;have m:IntKind.i64.wrap (a.tdiv b-1)=a.tdiv b-1:=IntWalk.i64_in _ Ho;have n:IntKind.i64.wrap (a.tmod b)=a.tmod b:=IntWalk.i64_in _ (by unfold eX at hb;omega);by_cases g:a.tmod b<0
 ·have d:=Hm (f.o.1 ⟨Ho,by simp[g,show ¬b<0 by omega]⟩);go_enter Tryz.func211,Tryz.ntmps211;go_wp2;go_ret;exact⟨eQ (by rw[d.o.1]<;>rfl),rfl⟩
 ·have d:=Hm (f.o.2 (by rintro⟨_,h⟩;simp[g,show ¬b<0 by omega]at h));go_enter Tryz.func211,Tryz.ntmps211;go_wp2;go_ret;exact⟨eQ (by rw[d.o.1]<;>rfl),rfl⟩
theorem BG (a b:Int)(d:eX a)(hb:eX b)(w:World):Calls Tryz.prog 204 #[.int .i64 a,.int .i64 b] w λe w'=>e=.returned (.tuple #[.int .i64 (oW a b).1,.bool (oW a b).2])/\w=w':=by
 have k:=iF d;have l:=iF hb;by_cases f:b=0
 ·subst f;have c:=Hm (wO a);go_enter Tryz.func204,Tryz.ntmps204;go_wp2_with (go_at_call 209;refine(qi _ _).mono ?_;rintro e w' ⟨rfl,rfl⟩);go_ret2;exact⟨by rw[c.o.1]<;>rfl,rfl⟩
 ·have c:=Hm (BF d hb f);have j:(b==0)=false:=by simpa using f
  have g:IntKind.i64.wrap (-a)= -a:=IntWalk.i64_in _ (by unfold eX at d;omega);have h:IntKind.i64.wrap (-b)= -b:=IntWalk.i64_in _ (by unfold eX at hb;omega);by_cases i:b<0
  ·go_enter Tryz.func204,Tryz.ntmps204;go_wp2_with (first|(go_at_call 209;refine(qi _ _).mono ?_;rintro e w' ⟨rfl,rfl⟩)|(go_at_call 211;(try rw[g]);(try rw[h]);refine(yM (-a) (-b) (by unfold eX at*;omega) (by unfold eX at*;omega) Ho _).mono ?_;rintro e w' ⟨rfl,rfl⟩));go_ret2;exact⟨by rw[c.o.1]<;>rfl,rfl⟩
  ·go_enter Tryz.func204,Tryz.ntmps204;go_wp2_with (first|(go_at_call 209;refine(qi _ _).mono ?_;rintro e w' ⟨rfl,rfl⟩)|(go_at_call 211;refine(yM a b d hb Ho _).mono ?_;rintro e w' ⟨rfl,rfl⟩));go_ret2;exact⟨by rw[c.o.1]<;>rfl,rfl⟩
theorem K9 (a b:Int)(d:eX a)(hb:eX b)(w:World):Calls Tryz.prog 205 #[.int .i64 a,.int .i64 b] w λe w'=>e=.returned (.tuple #[.int .i64 (pI a b).1,.bool (pI a b).2])/\w=w':=by
 by_cases f:b=0
 ·subst f;have c:=Hm (wO a);go_enter Tryz.func205,Tryz.ntmps205;go_wp2_with (go_at_call 204;refine(BG a 0 d hb _).mono ?_;rintro e w' ⟨rfl,rfl⟩;rw[c.o.1]);go_ret2;exact⟨by rw[c.o.2]<;>rfl,rfl⟩
 ·have c:=Hm (BF d hb f);have j:=Int.fmod_add_mul_fdiv a b;have g:a.fmod b=a-b*a.fdiv b:=by omega
  have i:=Hm g;have k:=Int.natAbs_fdiv_le_natAbs a b;have h:eX (a.fdiv b):=by unfold eX at*;omega
  have l:=EX hb h;have m:IntKind.i64.wrap (b*a.fdiv b)=b*a.fdiv b:=IntWalk.i64_in _ Ho;have n:IntKind.i64.wrap (a-b*a.fdiv b)=a-b*a.fdiv b:=IntWalk.i64_in _ (by unfold eX at d;omega);clear j g k h;go_enter Tryz.func205,Tryz.ntmps205;go_wp2_with (go_at_call 204;refine(BG a b d hb _).mono ?_;rintro e w' ⟨rfl,rfl⟩;rw[c.o.1]);go_ret2;exact⟨by rw[c.o.2,i.o]<;>rfl,rfl⟩
end Go.Proofs.YthnelebakkggjaaGreatDoor
