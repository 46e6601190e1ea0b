/-
  schema.IsName and warehouseref5.IsName. schema.Index (slices.IndexFunc over columns) and warehouseref5.Index. schema.Validate and warehouseref5.Validate. Package warehouseref1: Valid, Compare, CompareRows. Package value: Valid, Compare, CompareRows; package cmp's Or and Compare. expr.Arity and warehouseref8.Arity: both return arity. warehousebase: At, Moment, Value, Cell, Row: what they build is well-formed. warehousebase: Cell and Row: they fit their columns. schema.CheckRow and warehouseref5.CheckRow. warehousebase.Row: the row fits the columns and lies in a new block. Checked arithmetic: package exact's and the reference's, at integers from -2^30 to 2^30 (larger ones never come in); truth values. bag.formed and warehouseref6.fits. slices.CompareFunc over values, value.CompareRows. bag.Validate, bag.IsTable; warehouseref6.Validate, positive, IsTable. Package warehouseref1: CompareRows. Values of conditions, numbers and moments: scalar.boolean, number, moment and the reference's truth, number, moment. scalar.logic and warehouseref9.logic: they return logicV; a result block of three cells. (Printed by gen_logic.py.) Division: exact.divide, Divide, Modulo and the reference's, at integers from -2^30 to 2^30. warehouseref1.SameRow, warehouseref6.Count.
-/
import Derived.Test.YtopjjlmfilgngaaGreatDoorProg
import Derived.Test.YtopjjlmfilgngaaGreatDoorGac
namespace Go.Proofs.YtopjjlmfilgngaaGreatDoor
set_option maxHeartbeats 2000000
set_option maxRecDepth 100000
open Go.RowKit
set_option linter.unusedSimpArgs false
set_option linter.unusedVariables false
theorem qW (s:ByteArray)(i:Nat)(h:i<s.size):jW s i=(s[i]'h).toNat:=by
 have a:i<s.data.toList.length:=by simpa using h
 have:s.data.toList.getD i 0=s[i]'h:=by rw[List.getD,List.getElem?_eq_getElem a];rfl
 rw[jW,this]
theorem Jl (P:Program)(w:World)(s:ByteArray)(pos:Nat)(h:pos<s.size):
  ∃c d:Nat,(∀ty,(Instr.next (.pointer (some ⟨w.heap.size,0,none⟩)) true ty).run P (w.iter s pos)=.ok (.tuple #[.bool true,.int .i64 pos,.int .i32 (c:Int)]) (w.iter s (pos+d)))/\
   (c<128->c=jW s pos/\d=1)/\(128<=c->128<=jW s pos)/\c<=2147483647:=by
 refine⟨_,_,λty=>run_next_any w s pos ty h,λb=>?_,λb=>?_,decode_le s pos⟩
 ·by_cases a:(s[pos]'h).toNat<128
  ·rw[decode_ascii s pos h a,qW s pos h];exact⟨rfl,rfl⟩
  ·have:=(decode_high s pos h (by omega)).1;omega
 ·by_cases a:(s[pos]'h).toNat<128
  ·rw[decode_ascii s pos h a]at b;have:128<=(s[pos]'h).toNat:=b;omega
  ·rw[qW s pos h];omega
theorem vv (s:ByteArray)(i:Nat)(h:i<s.size):kE s (s.size-i) i=(lh (jW s i) i&&kE s (s.size-(i+1)) (i+1)):=by
 rw[show s.size-i=(s.size-(i+1))+1 from by omega,kE]
theorem jG (s:ByteArray)(i:Nat)(h:i<s.size)(hb:lh (jW s i) i=false):kE s (s.size-i) i=false:=by
 rw[vv s i h,hb];rfl
theorem jk (s:ByteArray)(i:Nat)(h:i<s.size)(hb:lh (jW s i) i=true):kE s (s.size-i) i=kE s (s.size-(i+1)) (i+1):=by
 rw[vv s i h,hb];rfl
theorem nG (c i:Nat)(h:128<=c):lh c i=false:=by
 have a:¬c<=122:=by omega
 have b:¬c=95:=by omega
 have d:¬c<=57:=by omega
 simp[lh,a,b,d]
theorem iB (c i:Nat):lh c i=true↔(97<=c/\c<=122)\/(0<i/\(c=95\/(48<=c/\c<=57))):=by simp only[lh,Bool.or_eq_true,Bool.and_eq_true,decide_eq_true_eq]
theorem Dj (s:ByteArray):(!s.toList.isEmpty)=decide (0<s.size):=by
 rw[ByteArray.toList_eq];have:s.size=s.data.toList.length:=rfl;rw[this];cases s.data.toList<;>simp
theorem qa (s:ByteArray)(hs:Str s)(w:World):
  Calls Tryz.prog 184 #[.string s] w λe w'=>e=.returned (.bool (iY s))/\Below w.heap.size w w':=by
 unfold Str at hs;go_enter Tryz.func184,Tryz.ntmps184;by_cases n:s.size<=24
 ·go_wp2;go_loopw [3] (λ_ wr=> ∃pos:Nat,pos<=s.size/\wr=w.iter s pos/\kE s s.size 0=kE s (s.size-pos) pos) (λ_ wr=>s.size-wr.iterPos w.heap.size)
  case atStart=>exact⟨0,by omega,rfl,rfl⟩
  case round=>
   obtain⟨pos,z,rfl,m⟩:=hrel;have f:=Hm m;clear m;by_cases d:pos<s.size
   ·obtain⟨c,A,u,l,j,v⟩:=Jl Tryz.prog w s pos d;have a:=Hm l;clear l;cases x:decide ((97:Int)<=(c:Int))
    ·cases p:((pos:Int)==0)
     ·cases q:((c:Int)==95)
      ·cases r:decide ((c:Int)<48)
       ·cases t:decide ((57:Int)<(c:Int))
        ·go_wp2;all_goals(try(exfalso;go_light;(try simp only[decide_eq_true_eq,decide_eq_false_iff_not,beq_iff_eq,beq_eq_false_iff_ne,ne_eq,Bool.not_eq_true',Bool.not_eq_false']at*);omega));all_goals
          go_roundw
          case rel=>
           go_light
           (try simp only[decide_eq_true_eq,decide_eq_false_iff_not,beq_iff_eq,beq_eq_false_iff_ne,ne_eq]at*);obtain⟨b,rfl⟩:=a.o (by omega);refine⟨pos+1,by omega,rfl,?_⟩;rw[f.o];exact jk s pos d (by rw[<-b];exact(iB c pos).2 (by omega))
          case measure=>
           go_light
           (try simp only[decide_eq_true_eq,decide_eq_false_iff_not,beq_iff_eq,beq_eq_false_iff_ne,ne_eq]at*);obtain⟨b,rfl⟩:=a.o (by omega);simp;omega
        ·go_wp2;all_goals(try(exfalso;go_light;(try simp only[decide_eq_true_eq,decide_eq_false_iff_not,beq_iff_eq,beq_eq_false_iff_ne,ne_eq,Bool.not_eq_true',Bool.not_eq_false']at*);omega));all_goals
          go_ret;refine⟨gp ?_,fI⟩;go_light;have g:lh (jW s pos) pos=false:=by
           by_cases i:c<128
           ·rw[<-(a.o i).1];refine Bool.eq_false_iff.2 λh=>?_;have k:=(iB c pos).1 h
            (try simp only[decide_eq_true_eq,decide_eq_false_iff_not,beq_iff_eq,beq_eq_false_iff_ne,ne_eq]at*)<;>omega
           ·exact nG _ _ (j (by omega))
          rw[iY,f.o,jG s pos d g];simp
       ·go_wp2;all_goals(try(exfalso;go_light;(try simp only[decide_eq_true_eq,decide_eq_false_iff_not,beq_iff_eq,beq_eq_false_iff_ne,ne_eq,Bool.not_eq_true',Bool.not_eq_false']at*);omega));all_goals
         go_ret;refine⟨gp ?_,fI⟩;go_light;have g:lh (jW s pos) pos=false:=by
          by_cases i:c<128
          ·rw[<-(a.o i).1];refine Bool.eq_false_iff.2 λh=>?_;have k:=(iB c pos).1 h
           (try simp only[decide_eq_true_eq,decide_eq_false_iff_not,beq_iff_eq,beq_eq_false_iff_ne,ne_eq]at*)<;>omega
          ·exact nG _ _ (j (by omega))
         rw[iY,f.o,jG s pos d g];simp
      ·go_wp2;all_goals(try(exfalso;go_light;(try simp only[decide_eq_true_eq,decide_eq_false_iff_not,beq_iff_eq,beq_eq_false_iff_ne,ne_eq,Bool.not_eq_true',Bool.not_eq_false']at*);omega));all_goals
        go_roundw
        case rel=>
         go_light
         (try simp only[decide_eq_true_eq,decide_eq_false_iff_not,beq_iff_eq,beq_eq_false_iff_ne,ne_eq]at*);obtain⟨b,rfl⟩:=a.o (by omega);refine⟨pos+1,by omega,rfl,?_⟩;rw[f.o];exact jk s pos d (by rw[<-b];exact(iB c pos).2 (by omega))
        case measure=>
         go_light
         (try simp only[decide_eq_true_eq,decide_eq_false_iff_not,beq_iff_eq,beq_eq_false_iff_ne,ne_eq]at*);obtain⟨b,rfl⟩:=a.o (by omega);simp;omega
     ·go_wp2;all_goals(try(exfalso;go_light;(try simp only[decide_eq_true_eq,decide_eq_false_iff_not,beq_iff_eq,beq_eq_false_iff_ne,ne_eq,Bool.not_eq_true',Bool.not_eq_false']at*);omega));all_goals
       go_ret;refine⟨gp ?_,fI⟩;go_light;have g:lh (jW s pos) pos=false:=by
        by_cases i:c<128
        ·rw[<-(a.o i).1];refine Bool.eq_false_iff.2 λh=>?_;have k:=(iB c pos).1 h
         (try simp only[decide_eq_true_eq,decide_eq_false_iff_not,beq_iff_eq,beq_eq_false_iff_ne,ne_eq]at*)<;>omega
        ·exact nG _ _ (j (by omega))
       rw[iY,f.o,jG s pos d g];simp
    ·cases y:decide ((c:Int)<=122)
     ·cases p:((pos:Int)==0)
      ·cases q:((c:Int)==95)
       ·cases r:decide ((c:Int)<48)
        ·cases t:decide ((57:Int)<(c:Int))
         ·go_wp2;all_goals(try(exfalso;go_light;(try simp only[decide_eq_true_eq,decide_eq_false_iff_not,beq_iff_eq,beq_eq_false_iff_ne,ne_eq,Bool.not_eq_true',Bool.not_eq_false']at*);omega));all_goals
           go_roundw
           case rel=>
            go_light
            (try simp only[decide_eq_true_eq,decide_eq_false_iff_not,beq_iff_eq,beq_eq_false_iff_ne,ne_eq]at*);obtain⟨b,rfl⟩:=a.o (by omega);refine⟨pos+1,by omega,rfl,?_⟩;rw[f.o];exact jk s pos d (by rw[<-b];exact(iB c pos).2 (by omega))
           case measure=>
            go_light
            (try simp only[decide_eq_true_eq,decide_eq_false_iff_not,beq_iff_eq,beq_eq_false_iff_ne,ne_eq]at*);obtain⟨b,rfl⟩:=a.o (by omega);simp;omega
         ·go_wp2;all_goals(try(exfalso;go_light;(try simp only[decide_eq_true_eq,decide_eq_false_iff_not,beq_iff_eq,beq_eq_false_iff_ne,ne_eq,Bool.not_eq_true',Bool.not_eq_false']at*);omega));all_goals
           go_ret;refine⟨gp ?_,fI⟩;go_light;have g:lh (jW s pos) pos=false:=by
            by_cases i:c<128
            ·rw[<-(a.o i).1];refine Bool.eq_false_iff.2 λh=>?_;have k:=(iB c pos).1 h
             (try simp only[decide_eq_true_eq,decide_eq_false_iff_not,beq_iff_eq,beq_eq_false_iff_ne,ne_eq]at*)<;>omega
            ·exact nG _ _ (j (by omega))
           rw[iY,f.o,jG s pos d g];simp
        ·go_wp2;all_goals(try(exfalso;go_light;(try simp only[decide_eq_true_eq,decide_eq_false_iff_not,beq_iff_eq,beq_eq_false_iff_ne,ne_eq,Bool.not_eq_true',Bool.not_eq_false']at*);omega));all_goals
          go_ret;refine⟨gp ?_,fI⟩;go_light;have g:lh (jW s pos) pos=false:=by
           by_cases i:c<128
           ·rw[<-(a.o i).1];refine Bool.eq_false_iff.2 λh=>?_;have k:=(iB c pos).1 h
            (try simp only[decide_eq_true_eq,decide_eq_false_iff_not,beq_iff_eq,beq_eq_false_iff_ne,ne_eq]at*)<;>omega
           ·exact nG _ _ (j (by omega))
          rw[iY,f.o,jG s pos d g];simp
       ·go_wp2;all_goals(try(exfalso;go_light;(try simp only[decide_eq_true_eq,decide_eq_false_iff_not,beq_iff_eq,beq_eq_false_iff_ne,ne_eq,Bool.not_eq_true',Bool.not_eq_false']at*);omega));all_goals
         go_roundw
         case rel=>
          go_light
          (try simp only[decide_eq_true_eq,decide_eq_false_iff_not,beq_iff_eq,beq_eq_false_iff_ne,ne_eq]at*);obtain⟨b,rfl⟩:=a.o (by omega);refine⟨pos+1,by omega,rfl,?_⟩;rw[f.o];exact jk s pos d (by rw[<-b];exact(iB c pos).2 (by omega))
         case measure=>
          go_light
          (try simp only[decide_eq_true_eq,decide_eq_false_iff_not,beq_iff_eq,beq_eq_false_iff_ne,ne_eq]at*);obtain⟨b,rfl⟩:=a.o (by omega);simp;omega
      ·go_wp2;all_goals(try(exfalso;go_light;(try simp only[decide_eq_true_eq,decide_eq_false_iff_not,beq_iff_eq,beq_eq_false_iff_ne,ne_eq,Bool.not_eq_true',Bool.not_eq_false']at*);omega));all_goals
        go_ret;refine⟨gp ?_,fI⟩;go_light;have g:lh (jW s pos) pos=false:=by
         by_cases i:c<128
         ·rw[<-(a.o i).1];refine Bool.eq_false_iff.2 λh=>?_;have k:=(iB c pos).1 h
          (try simp only[decide_eq_true_eq,decide_eq_false_iff_not,beq_iff_eq,beq_eq_false_iff_ne,ne_eq]at*)<;>omega
         ·exact nG _ _ (j (by omega))
        rw[iY,f.o,jG s pos d g];simp
     ·go_wp2;all_goals(try(exfalso;go_light;(try simp only[decide_eq_true_eq,decide_eq_false_iff_not,beq_iff_eq,beq_eq_false_iff_ne,ne_eq,Bool.not_eq_true',Bool.not_eq_false']at*);omega));all_goals
       go_roundw
       case rel=>
        go_light
        (try simp only[decide_eq_true_eq,decide_eq_false_iff_not,beq_iff_eq,beq_eq_false_iff_ne,ne_eq]at*);obtain⟨b,rfl⟩:=a.o (by omega);refine⟨pos+1,by omega,rfl,?_⟩;rw[f.o];exact jk s pos d (by rw[<-b];exact(iB c pos).2 (by omega))
       case measure=>
        go_light
        (try simp only[decide_eq_true_eq,decide_eq_false_iff_not,beq_iff_eq,beq_eq_false_iff_ne,ne_eq]at*);obtain⟨b,rfl⟩:=a.o (by omega);simp;omega
   ·have u: ∀ty,(Instr.next (.pointer (some ⟨w.heap.size,0,none⟩)) true ty).run Tryz.prog (w.iter s pos)=_:=λty=>run_next_end w s pos ty d;go_wp2;go_ret;refine⟨gp ?_,fI⟩;go_light;have:pos=s.size:=by omega
    subst this;rw[iY,f.o,Nat.sub_self,kE];rw[Dj];simp[n]
 ·go_wp2;go_ret;exact⟨gp (by simp[iY,n]),Below.refl _ _⟩
theorem lg (s:ByteArray)(hs:Str s)(w:World):
  Calls Tryz.prog 127 #[.string s] w λe w'=>e=.returned (.bool (iY s))/\w=w':=by
 unfold Str at hs;go_enter Tryz.func127,Tryz.ntmps127;obtain p|p|p:s.size<1\/24<s.size\/(1<=s.size/\s.size<=24):=by omega
 ·go_wp2;all_goals(try(exfalso;go_light;(try simp only[decide_eq_true_eq,decide_eq_false_iff_not,beq_iff_eq,beq_eq_false_iff_ne,ne_eq,Bool.not_eq_true',Bool.not_eq_false']at*);omega));all_goals
   go_ret;refine⟨gp ?_,rfl⟩;go_light;have k:¬0<s.size:=by omega
   simp[iY,k]
 ·go_wp2;all_goals(try(exfalso;go_light;(try simp only[decide_eq_true_eq,decide_eq_false_iff_not,beq_iff_eq,beq_eq_false_iff_ne,ne_eq,Bool.not_eq_true',Bool.not_eq_false']at*);omega));all_goals
   go_ret;refine⟨gp ?_,rfl⟩;go_light;have k:¬s.size<=24:=by omega
   simp[iY,k]
 ·obtain⟨C,z⟩:=p;have l:0<s.size:=by omega
  obtain⟨d,hd⟩: ∃d,(s[0]'l).toNat=d:=⟨_,rfl⟩;have q:Hl (d=jW s 0):=Hm (by rw[qW s 0 l,hd]);have early:(d<97\/122<d)->iY s=false:=λh=>by
   have g:lh (jW s 0) 0=false:=by
    rw[<-q.o];refine Bool.eq_false_iff.2 λj=>?_;have:=(iB d 0).1 j;omega
   have:=jG s 0 l g;rw[Nat.sub_zero]at this;rw[iY,this];simp
  cases t:decide ((d:Int)<97)
  ·cases u:decide ((122:Int)<(d:Int))
   ·go_wp2
    go_loop [3] (λi=> ∃pos:Nat,pos<=s.size/\i=.int .i64 pos/\kE s s.size 0=kE s (s.size-pos) pos) (λi=>s.size-(intOf i).toNat)
    case atStart=>exact⟨0,by omega,rfl,rfl⟩
    case round=>
     obtain⟨pos,D,rfl,r⟩:=hrel;have f:=Hm r;clear r;by_cases a:pos<s.size
     ·obtain⟨c,y⟩: ∃c,(s[pos]'a).toNat=c:=⟨_,rfl⟩;have b:Hl (c=jW s pos):=Hm (by rw[qW s pos a,y]);have k:pos=0->c=d:=by intro h;subst h;rw[b.o,q.o]
      cases A:decide ((97:Int)<=(c:Int))
      ·cases v:decide ((48:Int)<=(c:Int))
       ·cases m:((c:Int)==95)
        ·go_wp2;all_goals(try(exfalso;go_light;(try simp only[decide_eq_true_eq,decide_eq_false_iff_not,beq_iff_eq,beq_eq_false_iff_ne,ne_eq,Bool.not_eq_true',Bool.not_eq_false']at*);omega));all_goals
          go_ret;refine⟨gp ?_,rfl⟩;go_light;have g:lh (jW s pos) pos=false:=by
           rw[<-b.o];refine Bool.eq_false_iff.2 λh=>?_;have j:=(iB c pos).1 h
           (try simp only[decide_eq_true_eq,decide_eq_false_iff_not,beq_iff_eq,beq_eq_false_iff_ne,ne_eq]at*)<;>omega
          rw[iY,f.o,jG s pos a g];simp
        ·go_wp2;all_goals(try(exfalso;go_light;(try simp only[decide_eq_true_eq,decide_eq_false_iff_not,beq_iff_eq,beq_eq_false_iff_ne,ne_eq,Bool.not_eq_true',Bool.not_eq_false']at*);omega));all_goals
          go_round
          case rel=>
           go_light
           (try simp only[decide_eq_true_eq,decide_eq_false_iff_not,beq_iff_eq,beq_eq_false_iff_ne,ne_eq]at*);refine⟨pos+1,by omega,by go_num,?_⟩;rw[f.o];exact jk s pos a (by rw[<-b.o];exact(iB c pos).2 (by omega))
          case measure=>simp[intOf];omega
       ·cases x:decide ((c:Int)<=57)
        ·cases m:((c:Int)==95)
         ·go_wp2;all_goals(try(exfalso;go_light;(try simp only[decide_eq_true_eq,decide_eq_false_iff_not,beq_iff_eq,beq_eq_false_iff_ne,ne_eq,Bool.not_eq_true',Bool.not_eq_false']at*);omega));all_goals
           go_ret;refine⟨gp ?_,rfl⟩;go_light;have g:lh (jW s pos) pos=false:=by
            rw[<-b.o];refine Bool.eq_false_iff.2 λh=>?_;have j:=(iB c pos).1 h
            (try simp only[decide_eq_true_eq,decide_eq_false_iff_not,beq_iff_eq,beq_eq_false_iff_ne,ne_eq]at*)<;>omega
           rw[iY,f.o,jG s pos a g];simp
         ·go_wp2;all_goals(try(exfalso;go_light;(try simp only[decide_eq_true_eq,decide_eq_false_iff_not,beq_iff_eq,beq_eq_false_iff_ne,ne_eq,Bool.not_eq_true',Bool.not_eq_false']at*);omega));all_goals
           go_round
           case rel=>
            go_light
            (try simp only[decide_eq_true_eq,decide_eq_false_iff_not,beq_iff_eq,beq_eq_false_iff_ne,ne_eq]at*);refine⟨pos+1,by omega,by go_num,?_⟩;rw[f.o];exact jk s pos a (by rw[<-b.o];exact(iB c pos).2 (by omega))
           case measure=>simp[intOf];omega
        ·go_wp2;all_goals(try(exfalso;go_light;(try simp only[decide_eq_true_eq,decide_eq_false_iff_not,beq_iff_eq,beq_eq_false_iff_ne,ne_eq,Bool.not_eq_true',Bool.not_eq_false']at*);omega));all_goals
          go_round
          case rel=>
           go_light
           (try simp only[decide_eq_true_eq,decide_eq_false_iff_not,beq_iff_eq,beq_eq_false_iff_ne,ne_eq]at*);refine⟨pos+1,by omega,by go_num,?_⟩;rw[f.o];exact jk s pos a (by rw[<-b.o];exact(iB c pos).2 (by omega))
          case measure=>simp[intOf];omega
      ·cases B:decide ((c:Int)<=122)
       ·cases v:decide ((48:Int)<=(c:Int))
        ·cases m:((c:Int)==95)
         ·go_wp2;all_goals(try(exfalso;go_light;(try simp only[decide_eq_true_eq,decide_eq_false_iff_not,beq_iff_eq,beq_eq_false_iff_ne,ne_eq,Bool.not_eq_true',Bool.not_eq_false']at*);omega));all_goals
           go_ret;refine⟨gp ?_,rfl⟩;go_light;have g:lh (jW s pos) pos=false:=by
            rw[<-b.o];refine Bool.eq_false_iff.2 λh=>?_;have j:=(iB c pos).1 h
            (try simp only[decide_eq_true_eq,decide_eq_false_iff_not,beq_iff_eq,beq_eq_false_iff_ne,ne_eq]at*)<;>omega
           rw[iY,f.o,jG s pos a g];simp
         ·go_wp2;all_goals(try(exfalso;go_light;(try simp only[decide_eq_true_eq,decide_eq_false_iff_not,beq_iff_eq,beq_eq_false_iff_ne,ne_eq,Bool.not_eq_true',Bool.not_eq_false']at*);omega));all_goals
           go_round
           case rel=>
            go_light
            (try simp only[decide_eq_true_eq,decide_eq_false_iff_not,beq_iff_eq,beq_eq_false_iff_ne,ne_eq]at*);refine⟨pos+1,by omega,by go_num,?_⟩;rw[f.o];exact jk s pos a (by rw[<-b.o];exact(iB c pos).2 (by omega))
           case measure=>simp[intOf];omega
        ·cases x:decide ((c:Int)<=57)
         ·cases m:((c:Int)==95)
          ·go_wp2;all_goals(try(exfalso;go_light;(try simp only[decide_eq_true_eq,decide_eq_false_iff_not,beq_iff_eq,beq_eq_false_iff_ne,ne_eq,Bool.not_eq_true',Bool.not_eq_false']at*);omega));all_goals
            go_ret;refine⟨gp ?_,rfl⟩;go_light;have g:lh (jW s pos) pos=false:=by
             rw[<-b.o];refine Bool.eq_false_iff.2 λh=>?_;have j:=(iB c pos).1 h
             (try simp only[decide_eq_true_eq,decide_eq_false_iff_not,beq_iff_eq,beq_eq_false_iff_ne,ne_eq]at*)<;>omega
            rw[iY,f.o,jG s pos a g];simp
          ·go_wp2;all_goals(try(exfalso;go_light;(try simp only[decide_eq_true_eq,decide_eq_false_iff_not,beq_iff_eq,beq_eq_false_iff_ne,ne_eq,Bool.not_eq_true',Bool.not_eq_false']at*);omega));all_goals
            go_round
            case rel=>
             go_light
             (try simp only[decide_eq_true_eq,decide_eq_false_iff_not,beq_iff_eq,beq_eq_false_iff_ne,ne_eq]at*);refine⟨pos+1,by omega,by go_num,?_⟩;rw[f.o];exact jk s pos a (by rw[<-b.o];exact(iB c pos).2 (by omega))
            case measure=>simp[intOf];omega
         ·go_wp2;all_goals(try(exfalso;go_light;(try simp only[decide_eq_true_eq,decide_eq_false_iff_not,beq_iff_eq,beq_eq_false_iff_ne,ne_eq,Bool.not_eq_true',Bool.not_eq_false']at*);omega));all_goals
           go_round
           case rel=>
            go_light
            (try simp only[decide_eq_true_eq,decide_eq_false_iff_not,beq_iff_eq,beq_eq_false_iff_ne,ne_eq]at*);refine⟨pos+1,by omega,by go_num,?_⟩;rw[f.o];exact jk s pos a (by rw[<-b.o];exact(iB c pos).2 (by omega))
           case measure=>simp[intOf];omega
       ·go_wp2;all_goals(try(exfalso;go_light;(try simp only[decide_eq_true_eq,decide_eq_false_iff_not,beq_iff_eq,beq_eq_false_iff_ne,ne_eq,Bool.not_eq_true',Bool.not_eq_false']at*);omega));all_goals
         go_round
         case rel=>
          go_light
          (try simp only[decide_eq_true_eq,decide_eq_false_iff_not,beq_iff_eq,beq_eq_false_iff_ne,ne_eq]at*);refine⟨pos+1,by omega,by go_num,?_⟩;rw[f.o];exact jk s pos a (by rw[<-b.o];exact(iB c pos).2 (by omega))
         case measure=>simp[intOf];omega
     ·go_wp2;go_ret;refine⟨gp ?_,rfl⟩;go_light;have:pos=s.size:=by omega
      subst this;rw[iY,f.o,Nat.sub_self,kE];simp[z,l]
   ·have n:=early (.inr (by simp only[decide_eq_true_eq]at u;omega));go_wp2;all_goals(go_ret;exact⟨gp n.symm,rfl⟩)
  ·have n:=early (.inl (by simp only[decide_eq_true_eq]at t;omega));go_wp2;all_goals(go_ret;exact⟨gp n.symm,rfl⟩)
theorem I4 (c:Col)(name:ByteArray)(g:Nat)(w:World)(a:w.cell? ⟨g,0,none⟩=some (.string name))(b:g<w.heap.size):
  Calls Tryz.prog 182 #[.agg c.cells.toArray,.pointer (some ⟨g,0,none⟩)] w λe w'=>e=.returned (.bool (c.name.toList==name.toList))/\Below w.heap.size w w':=by
 simp only[Col.cells];go_enter Tryz.func182,Tryz.ntmps182;go_wp2;go_ret;exact⟨rfl,fI⟩
theorem AC (w:World)(A:Option Addr)(n c:Nat)(xs:List Col)(d:In w A n c xs)(name:ByteArray)(g:Nat)(t:w.cell? ⟨g,0,none⟩=some (.string name))(m:g<w.heap.size):
  Calls Tryz.prog 181 #[.slice A n c,.func (.func 182) #[] #[.pointer (some ⟨g,0,none⟩)]] w
   λe w'=>e=.returned (.int .i64 (index xs name))/\Below w.heap.size w w':=by
 have y:=d.le;go_enter Tryz.func181,Tryz.ntmps181;go_wp2;go_loopw [8] (λi wr=> ∃k:Nat,k<=n/\i=.int .i64 k/\index xs name=gV name k (xs.drop k)/\Below w.heap.size w wr) (λi _=>n-(intOf i).toNat)
 case atStart=>exact⟨0,Nat.zero_le _,rfl,rfl,Below.refl _ _⟩
 case round=>
  obtain⟨k,B,rfl,l,hb⟩:=hrel;have a:=Hm l;clear l;by_cases u:k<n
  ·obtain⟨b,off,x,rfl,z,f,q,r,s,v⟩:=(d.below hb).col u;go_wp2_with fail;refine(I4 x name g _ (fO hb m t) (Nat.lt_of_lt_of_le m hb.size)).mono ?_;rintro e C ⟨rfl,h⟩;have j:=fH hb h;clear h q r s;cases p:(x.name.toList==name.toList)
   ·go_wp2;go_roundw
    case rel=>exact⟨k+1,by omega,by go_num,by rw[a.o,f.o,gV,if_neg (by simp[p])],j⟩
    case measure=>simp[intOf];omega
   ·go_wp2;go_ret;exact⟨fV (by rw[a.o,f.o,gV,if_pos p]),j⟩
  ·go_wp2;go_ret;exact⟨fV (by rw[a.o,gG d.len (by omega),gV]),hb⟩
theorem xw (w:World)(A:Option Addr)(n c:Nat)(xs:List Col)(d:In w A n c xs)(name:ByteArray):
  Calls Tryz.prog 139 #[.slice A n c,.string name] w λe w'=>e=.returned (.int .i64 (index xs name))/\Below w.heap.size w w':=by
 go_enter Tryz.func139,Tryz.ntmps139;go_wp2_with fail;refine(AC _ _ _ _ xs (d.below fI) name w.heap.size (by simp[go_sem]) (by simp)).mono ?_;rintro e f ⟨rfl,a⟩;have b:=fH fI a;go_wp2;go_ret;exact⟨rfl,b⟩
theorem rA (w:World)(A:Option Addr)(n c:Nat)(xs:List Col)(d:In w A n c xs)(name:ByteArray):
  Calls Tryz.prog 128 #[.slice A n c,.string name] w λe w'=>e=.returned (.int .i64 (index xs name))/\w=w':=by
 have r:=d.le;go_enter Tryz.func128,Tryz.ntmps128;go_wp2
 go_loop [5] (λi=> ∃k:Nat,k<=n/\i=.int .i64 k/\index xs name=gV name k (xs.drop k)) (λi=>n-(intOf i).toNat)
 case atStart=>exact⟨0,Nat.zero_le _,rfl,rfl⟩
 case round=>
  obtain⟨k,t,rfl,g⟩:=hrel;have a:=Hm g;clear g;by_cases j:k<n
  ·obtain⟨b,off,x,rfl,s,f,l,m,p,q⟩:=d.col j;cases h:(x.name.toList==name.toList)
   ·go_wp2
    go_round
    case rel=>exact⟨k+1,by omega,by go_num,by rw[a.o,f.o,gV,if_neg (by simp[h])]⟩
    case measure=>simp[intOf];omega
   ·go_wp2;go_ret;exact⟨fV (by rw[a.o,f.o,gV,if_pos h]),rfl⟩
  ·go_wp2;go_ret;exact⟨fV (by rw[a.o,gG d.len (by omega),gV]),rfl⟩
theorem ig {α:Type}{f:Nat->α->Int}{k:Nat}{x:α}{l:List α}(h:f k x=0):fQ f k (x::l)=fQ f (k+1) l:=by simp[fQ,h]
theorem gL {α:Type}{f:Nat->α->Int}{k:Nat}{x:α}{l:List α}{e:Int}(h:f k x=e)(a:e≠0):fQ f k (x::l)=e:=by simp[fQ,h,a]
theorem CO (name:ByteArray)(l:List Col): ∀k i,(h:i<l.length)->(l[i].name.toList==name.toList)=true->0<=gV name k l/\gV name k l<=k+i:=by
 induction l with
 |nil=>intro k i h;simp at h
 |cons c l d=>
  intro k i h a;rw[gV]
  split
  ·exact⟨by omega,by omega⟩
  ·rename_i b;cases i with
   |zero=>exact absurd a b
   |succ i=>
    have:=d (k+1) i (by simpa using h) (by simpa using a);omega
theorem qY (w:World)(A:Option Addr)(n c:Nat)(xs:List Col)(f:In w A n c xs):
  Calls Tryz.prog 143 #[.slice A n c] w λe w'=>e=.returned (.int .i64 (gu xs))/\Below w.heap.size w w':=by
 have H:=f.le;have y:=Hm f.len;go_enter Tryz.func143,Tryz.ntmps143;by_cases hs:n<1\/12<n
 ·have l:Hl (2=gu xs):=Hm (by rw[gu,y.o,if_pos hs]);rcases hs with hs|hs
  all_goals
   go_wp2;go_ret;exact⟨fV l.o,Below.refl _ _⟩
 have g:Hl (gu xs=fQ (kP xs) 0 xs):=Hm (by rw[gu,y.o,if_neg hs]);have O:1<=n:=by omega
 have P:n<=12:=by omega
 clear hs;go_wp2;go_loopw [15] (λi wr=> ∃k:Nat,k<=n/\i=.int .i64 k/\fQ (kP xs) 0 xs=fQ (kP xs) k (xs.drop k)/\Below w.heap.size w wr) (λi _=>n-(intOf i).toNat)
 case atStart=>exact⟨0,Nat.zero_le _,rfl,rfl,Below.refl _ _⟩
 case round=>
  obtain⟨k,J,rfl,v,hb⟩:=hrel;have d:=Hm v;clear v;by_cases G:k<n
  ·obtain⟨b,off,x,rfl,I,h,z,B,C,s⟩:=(f.below hb).col G;go_wp2_with fail;refine(qa x.name s.1 _).mono ?_;rintro e Q ⟨rfl,p⟩;have j:=fH (fH hb fI) p;obtain⟨D,E⟩:=fU p;have F:=f.below j;clear p z B C;obtain⟨K,L⟩:=s.2;cases q:iY x.name
   ·go_wp2;go_ret;exact⟨fV (by rw[g.o,d.o,h.o];exact(gL (by simp[kP,q]) (by omega)).symm),j⟩
   ·by_cases a:x.kind<1\/4<x.kind
    ·have l:kP xs k x=7:=by rw[kP,if_neg (by simp[q]),if_pos a]
     have m:Hl (7=gu xs):=Hm (by rw[g.o,d.o,h.o];exact(gL l (by omega)).symm);clear l;rcases a with a|a
     all_goals
      go_wp2;go_ret;exact⟨fV m.o,j⟩
    ·have M:1<=x.kind:=by omega
     have N:x.kind<=4:=by omega
     have r:Hl (kP xs k x=if index xs x.name<k then 6 else 0):=Hm (by rw[kP,if_neg (by simp[q]),if_neg a]);clear a;go_wp2_with fail;refine(xw _ _ _ _ xs F x.name).mono ?_;rintro e R ⟨rfl,t⟩;have u:=fH j t;clear t D E;by_cases hi:index xs x.name<k
     ·have m:Hl (6=gu xs):=Hm (by rw[g.o,d.o,h.o];exact(gL (by rw[r.o,if_pos hi]) (by omega)).symm);go_wp2;go_ret;exact⟨fV m.o,u⟩
     ·go_wp2;go_roundw
      case rel=>exact⟨k+1,by omega,by go_num,by rw[d.o,h.o];exact ig (by rw[r.o,if_neg (by omega)]),u⟩
      case measure=>simp[intOf];omega
  ·go_wp2;go_ret;exact⟨fV (by rw[g.o,d.o,gG f.len (by omega),fQ]),hb⟩
theorem index_self {xs:List Col}{k:Nat}{x:Col}{l:List Col}(h:xs.drop k=x::l):0<=index xs x.name/\index xs x.name<=k:=by
 obtain⟨a,b⟩:=iR h;rw[List.getElem?_eq_getElem b]at a;injection a with a;have:=CO x.name xs 0 k b (by rw[a];simp);rw[index];omega
theorem mJ (w:World)(A:Option Addr)(n c:Nat)(xs:List Col)(d:In w A n c xs):
  Calls Tryz.prog 91 #[.slice A n c] w λe w'=>e=.returned (.int .i64 (gu xs))/\w=w':=by
 have C:=d.le;have s:=Hm d.len;go_enter Tryz.func91,Tryz.ntmps91;by_cases hs:n<1\/12<n
 ·have m:Hl (2=gu xs):=Hm (by rw[gu,s.o,if_pos hs]);rcases hs with hs|hs
  all_goals
   go_wp2;go_ret;exact⟨fV m.o,rfl⟩
 have l:Hl (gu xs=fQ (kP xs) 0 xs):=Hm (by rw[gu,s.o,if_neg hs]);have J:1<=n:=by omega
 have K:n<=12:=by omega
 clear hs;go_wp2
 go_loop [3] (λi=> ∃k:Nat,k<=n/\i=.int .i64 k/\fQ (kP xs) 0 xs=fQ (kP xs) k (xs.drop k)) (λi=>n-(intOf i).toNat)
 case atStart=>exact⟨0,Nat.zero_le _,rfl,rfl⟩
 case round=>
  obtain⟨k,E,rfl,r⟩:=hrel;have f:=Hm r;clear r;by_cases t:k<n
  ·obtain⟨b,off,x,rfl,D,h,y,z,B,j⟩:=d.col t;obtain⟨F,G⟩:=j.2;cases p:iY x.name
   ·go_wp2_with (go_at_call 127;refine(lg x.name j.1 _).mono ?_;rintro e w' ⟨rfl,rfl⟩);go_ret;exact⟨fV (by rw[l.o,f.o,h.o];exact(gL (by simp[kP,p]) (by omega)).symm),rfl⟩
   ·by_cases a:x.kind<1\/4<x.kind
    ·have m:kP xs k x=7:=by rw[kP,if_neg (by simp[p]),if_pos a]
     have g:Hl (7=gu xs):=Hm (by rw[l.o,f.o,h.o];exact(gL m (by omega)).symm);clear m;rcases a with a|a
     all_goals
      go_wp2_with (go_at_call 127;refine(lg x.name j.1 _).mono ?_;rintro e w' ⟨rfl,rfl⟩);go_ret;exact⟨fV g.o,rfl⟩
    ·have H:1<=x.kind:=by omega
     have I:x.kind<=4:=by omega
     have q:Hl (kP xs k x=if index xs x.name<k then 6 else 0):=Hm (by rw[kP,if_neg (by simp[p]),if_neg a]);clear a;obtain⟨L,M⟩:=index_self h.o;by_cases hi:index xs x.name=k
     ·have g:Hl (kP xs k x=0):=Hm (by rw[q.o,if_neg (by omega)]);have u:(index xs x.name==(k:Int))=true:=by simp[hi]
      have v:=Hm hi;clear hi;go_wp2_with (first|(go_at_call 127;refine(lg x.name j.1 _).mono ?_;rintro e w' ⟨rfl,rfl⟩)|(go_at_call 128;refine(rA _ _ _ _ xs d x.name).mono ?_;rintro e w' ⟨rfl,rfl⟩));all_goals(try(exfalso;go_light;simp_all;done))
      go_round
      case rel=>exact⟨k+1,by omega,by go_num,by rw[f.o,h.o];exact ig g.o⟩
      case measure=>simp[intOf];omega
     ·have g:Hl (6=gu xs):=Hm (by rw[l.o,f.o,h.o];exact(gL (by rw[q.o,if_pos (by omega)]) (by omega)).symm);have u:(index xs x.name==(k:Int))=false:=by simp[hi]
      go_wp2_with (first|(go_at_call 127;refine(lg x.name j.1 _).mono ?_;rintro e w' ⟨rfl,rfl⟩)|(go_at_call 128;refine(rA _ _ _ _ xs d x.name).mono ?_;rintro e w' ⟨rfl,rfl⟩));all_goals(try(exfalso;go_light;simp_all;done));go_ret;exact⟨fV g.o,rfl⟩
  ·go_wp2;go_ret;exact⟨fV (by rw[l.o,f.o,gG d.len (by omega),fQ]),rfl⟩
theorem xH (v:Val)(a:v.ok)(w:World):
  Calls Tryz.prog 100 #[.agg v.cells.toArray] w λe w'=>e=.returned (.bool (valid v))/\Below w.heap.size w w':=by
 obtain⟨k,n,s⟩:=v;simp only[Val.cells,Val.ok,Str,jU]at*;obtain⟨⟨b,c⟩,⟨d,f⟩,g⟩:=a;go_enter Tryz.func100,Tryz.ntmps100;go_wp2;all_goals
  go_ret;refine⟨gp ?_,fI⟩;go_light;simp only[beq_iff_eq,beq_eq_false_iff_ne,ne_eq]at*;try subst k
  simp_all[valid,jI]
 all_goals(try omega);all_goals(try(repeat' split<;>omega))
theorem uh (a b:Int)(w:World):Calls Tryz.prog 90 #[.int .i64 a,.int .i64 b] w λe w'=>e=.returned (.int .i64 (lZ a b))/\w=w':=by
 go_enter Tryz.func90,Tryz.ntmps90;go_wp2;all_goals(go_ret;refine⟨fV ?_,rfl⟩;go_light;simp only[lZ];(repeat' split)<;>omega)
theorem ji (a b:Val)(w:World):
  Calls Tryz.prog 89 #[.agg a.cells.toArray,.agg b.cells.toArray] w λe w'=>e=.returned (.int .i64 (iq a b))/\Below w.heap.size w w':=by
 obtain⟨k,n,s⟩:=a;obtain⟨c,n',d⟩:=b;simp only[Val.cells];go_enter Tryz.func89,Tryz.ntmps89;go_wp2_with (go_at_call 90;refine(uh _ _ _).mono ?_;rintro e w' ⟨rfl,rfl⟩);all_goals
  go_ret;refine⟨fV ?_,below_alloc2⟩;go_light
  (try simp only[bne_iff_ne,ne_eq]at*)
  (first|(simp_all[iq];done)|(simp_all[iq,lI];done))
theorem rO (v:Val)(a:v.ok)(w:World):
  Calls Tryz.prog 86 #[.agg v.cells.toArray] w λe w'=>e=.returned (.bool (valid v))/\Below w.heap.size w w':=by
 obtain⟨k,n,s⟩:=v;simp only[Val.cells,Val.ok,Str,jU]at*;obtain⟨⟨b,c⟩,⟨d,f⟩,g⟩:=a;go_enter Tryz.func86,Tryz.ntmps86;go_wp2;all_goals
  go_ret;refine⟨gp ?_,fI⟩;go_light;simp only[beq_iff_eq,beq_eq_false_iff_ne,ne_eq]at*;try subst k
  simp_all[valid,jI]
 all_goals(try omega);all_goals(try(repeat' split<;>omega))
theorem I5 (a:Int)(w:World):Calls Tryz.prog 111 #[.int .i64 a] w λe w'=>e=.returned (.bool false)/\w=w':=by
 go_enter Tryz.func111,Tryz.ntmps111;go_wp2;all_goals(go_ret;exact⟨by simp,rfl⟩)
theorem I6 (a:ByteArray)(w:World):Calls Tryz.prog 112 #[.string a] w λe w'=>e=.returned (.bool false)/\w=w':=by
 go_enter Tryz.func112,Tryz.ntmps112;go_wp2;all_goals(go_ret;exact⟨by simp,rfl⟩)
theorem MI (a b:Int)(w:World):Calls Tryz.prog 82 #[.int .i64 a,.int .i64 b] w λe w'=>e=.returned (.int .i64 (lZ a b))/\w=w':=by
 go_enter Tryz.func82,Tryz.ntmps82;go_wp2_with (go_at_call 111;refine(I5 _ _).mono ?_;rintro e w' ⟨rfl,rfl⟩);all_goals(go_ret;refine⟨fV ?_,rfl⟩;go_light;simp only[lZ];(repeat' split)<;>omega)
theorem MJ (a b:ByteArray)(w:World):Calls Tryz.prog 83 #[.string a,.string b] w λe w'=>e=.returned (.int .i64 (lI a b))/\w=w':=by
 go_enter Tryz.func83,Tryz.ntmps83;go_wp2_with (go_at_call 112;refine(I6 _ _).mono ?_;rintro e w' ⟨rfl,rfl⟩);all_goals(go_ret;refine⟨fV ?_,rfl⟩;go_light;simp only[lI];simp_all)
def Px (a b c:Int):Int:=if a≠0 then a else if b≠0 then b else c
theorem LA (a b c:Int)(w:World)(g:Nat)(h:w.cell? ⟨g,0,none⟩=some (.int .i64 a))(j:w.cell? ⟨g,1,none⟩=some (.int .i64 b))(l:w.cell? ⟨g,2,none⟩=some (.int .i64 c)):
  Calls Tryz.prog 81 #[.slice (some ⟨g,0,none⟩) 3 3] w λe w'=>e=.returned (.int .i64 (Px a b c))/\w=w':=by
 go_enter Tryz.func81,Tryz.ntmps81;go_wp2
 go_loop [5,8] (λ_ i=> ∃k:Nat,k<=3/\i=.int .i64 k/\(1<=k->a=0)/\(2<=k->b=0)/\(3<=k->c=0)) (λ_ i=>3-(intOf i).toNat)
 case atStart=>exact⟨0,by omega,rfl,by omega,by omega,by omega⟩
 case round=>
  obtain⟨k,m,rfl,d,hb,f⟩:=hrel;obtain rfl|rfl|rfl|rfl:k=0\/k=1\/k=2\/k=3:=by omega
  ·clear d hb f;go_wp2
   ·go_ret;exact⟨fV (by go_light;simp_all[Px]),rfl⟩
   ·go_round
    case rel=>exact⟨1,by omega,by go_num,(by intro _;go_light;simp_all),by omega,by omega⟩
    case measure=>simp[intOf]
  ·have d:=d (by omega);subst d;clear hb f;go_wp2
   ·go_ret;exact⟨fV (by go_light;simp_all[Px]),rfl⟩
   ·go_round
    case rel=>exact⟨2,by omega,by go_num,(by first|trivial|(intro _;rfl)),(by intro _;go_light;simp_all),by omega⟩
    case measure=>simp[intOf]
  ·have d:=d (by omega);have hb:=hb (by omega);subst d hb;clear f;go_wp2
   ·go_ret;exact⟨fV (by go_light;simp_all[Px]),rfl⟩
   ·go_round
    case rel=>exact⟨3,by omega,by go_num,(by first|trivial|(intro _;rfl)),(by first|trivial|(intro _;rfl)),(by intro _;go_light;simp_all)⟩
    case measure=>simp[intOf]
  ·have d:=d (by omega);have hb:=hb (by omega);have f:=f (by omega);subst d hb f;go_wp2;go_ret;exact⟨fV (by simp[Px]),rfl⟩
theorem Cv (a b:Val)(w:World):
  Calls Tryz.prog 58 #[.agg a.cells.toArray,.agg b.cells.toArray] w λe w'=>e=.returned (.int .i64 (iq a b))/\Below w.heap.size w w':=by
 obtain⟨k,n,s⟩:=a;obtain⟨d,n',f⟩:=b;simp only[Val.cells];go_enter Tryz.func58,Tryz.ntmps58;go_wp2_with fail;generalize c:((w.alloc _).alloc _)=W;have c0:W.cell? ⟨w.heap.size,0,none⟩=some (.int .i64 k):=by subst c;simp[World.cell?_alloc_lt,go_sem]
 have c1:W.cell? ⟨w.heap.size,1,none⟩=some (.int .i64 n):=by subst c;simp[World.cell?_alloc_lt,go_sem]
 have c2:W.cell? ⟨w.heap.size,2,none⟩=some (.string s):=by subst c;simp[World.cell?_alloc_lt,go_sem]
 have g:W.cell? ⟨w.heap.size+1,0,none⟩=some (.int .i64 d):=by subst c;simp[go_sem]
 have h:W.cell? ⟨w.heap.size+1,1,none⟩=some (.int .i64 n'):=by subst c;simp[go_sem]
 have i:W.cell? ⟨w.heap.size+1,2,none⟩=some (.string f):=by subst c;simp[go_sem]
 have hb:Below w.heap.size w W:=by subst c;exact below_alloc2
 clear c;go_region_held3 (λw'=>w'.cell? ⟨w.heap.size,0,none⟩=some (.int .i64 k)/\w'.cell? ⟨w.heap.size,1,none⟩=some (.int .i64 n)/\w'.cell? ⟨w.heap.size,2,none⟩=some (.string s)
   /\w'.cell? ⟨w.heap.size+1,0,none⟩=some (.int .i64 d)/\w'.cell? ⟨w.heap.size+1,1,none⟩=some (.int .i64 n')/\w'.cell? ⟨w.heap.size+1,2,none⟩=some (.string f)) (go_keep)
  (first|(go_at_call 82;refine(MI _ _ _).mono ?_;rintro e w' ⟨rfl,rfl⟩)|(go_at_call 83;refine(MJ _ _ _).mono ?_;rintro e w' ⟨rfl,rfl⟩)|(go_at_call 81;refine(LA (lZ k d) (lZ n n') (lI s f) _ _ ?_ ?_ ?_).mono ?_;(simp[go_sem]);(simp[go_sem]);(simp[go_sem]);rintro e w' ⟨rfl,rfl⟩))
 go_wp2;go_ret;exact⟨rfl,(hb.alloc hb.size _).drew⟩
theorem qV (n:Node)(w:World):Calls Tryz.prog 188 #[.agg n.cells.toArray] w λe w'=>e=.returned (.int .i64 (arity n.op n.arity))/\Below w.heap.size w w':=by
 obtain⟨c,⟨kd,b,st⟩,nm,a⟩:=n;simp only[Node.cells];go_enter Tryz.func188,Tryz.ntmps188;go_wp2;all_goals(go_ret;refine⟨fV ?_,fI⟩;go_light;unfold arity;first|(simp_all;done)|(simp_all;omega)|(repeat' split)<;>omega)
theorem pM (n:Node)(w:World):Calls Tryz.prog 131 #[.agg n.cells.toArray] w λe w'=>e=.returned (.int .i64 (arity n.op n.arity))/\Below w.heap.size w w':=by
 obtain⟨c,⟨kd,b,st⟩,nm,a⟩:=n;simp only[Node.cells];go_enter Tryz.func131,Tryz.ntmps131;go_wp2;all_goals(go_ret;refine⟨fV ?_,fI⟩;go_light;unfold arity;first|(simp_all;done)|(simp_all;omega)|(repeat' split)<;>omega)
def Made (kind:Int)(v:Val):Prop:=valid v=true/\v.ok/\(1<=kind->kind<=4->v.kind=kind)/\(kind<1\/4<kind->v.kind=0)
theorem wF:jI ⟨#[]⟩=true:=by rw[jI,ByteArray.toList_eq];rfl
theorem BP {d:Int}(a:0<=d)(b:d<=1):Made 1 ⟨1,d,⟨#[]⟩⟩:=by
 refine⟨?_,⟨⟨by simp only;omega,by simp only;omega⟩,⟨by simp only;omega,by simp only;omega⟩,by simp[Str,ByteArray.size]⟩,λ_ _=>rfl,λh=>by omega⟩;obtain rfl|rfl:d=0\/d=1:=by omega
 all_goals simp[valid,wF]
theorem EC {d:Int}(a: -1073741824<=d)(b:d<=1073741824):Made 2 ⟨2,d,⟨#[]⟩⟩:=by
 refine⟨?_,⟨⟨by simp only;omega,by simp only;omega⟩,⟨by simp only;omega,by simp only;omega⟩,by simp[Str,ByteArray.size]⟩,λ_ _=>rfl,λh=>by omega⟩;simp[valid,wF,a,b]
theorem BQ {s:ByteArray}(h:s.size<=64):Made 3 ⟨3,0,s⟩:=by
 refine⟨?_,⟨⟨by simp only;omega,by simp only;omega⟩,⟨by simp only;omega,by simp only;omega⟩,by unfold Str;simp only;omega⟩,λ_ _=>rfl,λh=>by omega⟩;simp[valid,h]
theorem BU {d:Int}(a:0<=d)(b:d<=575999999):Made 4 ⟨4,d,⟨#[]⟩⟩:=by
 refine⟨?_,⟨⟨by simp only;omega,by simp only;omega⟩,⟨by simp only;omega,by simp only;omega⟩,by simp[Str,ByteArray.size]⟩,λ_ _=>rfl,λh=>by omega⟩;simp[valid,wF,a,b]
theorem Jg {k:Int}(h:k<1\/4<k):Made k ⟨0,0,⟨#[]⟩⟩:=by
 refine⟨?_,⟨⟨by simp only;omega,by simp only;omega⟩,⟨by simp only;omega,by simp only;omega⟩,by simp[Str,ByteArray.size]⟩,λ_ _=>by omega,λ_=>rfl⟩;simp[valid,wF]
def Fits (c:Col)(v:Val):Prop:=v.ok/\ja c v=0
def Col.good (c:Col):Prop:=c.ok/\1<=c.kind/\c.kind<=4
theorem IR {c:Col}(h:c.nullable=true):Fits c ⟨0,0,⟨#[]⟩⟩:=by
 obtain⟨a,b,_,d⟩:=Jg (k:=0) (by omega);exact⟨b,by simp[ja,a,h]⟩
theorem nC {c:Col}{v:Val}(a:c.good)(h:Made c.kind v):Fits c v:=by
 obtain⟨b,d,e,g⟩:=h;have f:=e a.2.1 a.2.2;have:v.kind≠0:=by have:=a.2.1;omega
 exact⟨d,by simp[ja,b,f];have:=a.2.1;omega⟩
theorem getD_drop {α:Type}{xs:List α}{k:Nat}{x d:α}{l:List α}(h:xs.drop k=x::l):xs.getD k d=x:=by
 rw[List.getD,(iR h).1];rfl
def ym (cols:List Col)(i:Nat)(v:Val):Int:=ja (cols.getD i default) v
theorem yC {cols:List Col}{k:Nat}{y:Col}{l:List Col}{x:Val}(h:cols.drop k=y::l):ym cols k x=ja y x:=by rw[ym,getD_drop h]
theorem vU (w:World)(A A':Option Addr)(n n' c c':Nat)(cols:List Col)(row:List Val)(r:In w A n c cols)(p:In w A' n' c' row):
  Calls Tryz.prog 148 #[.slice A n c,.slice A' n' c'] w λe w'=>e=.returned (.int .i64 (gF cols row))/\Below w.heap.size w w':=by
 have O:=r.le;have P:=p.le;have v:=Hm r.len;have z:=Hm p.len;go_enter Tryz.func148,Tryz.ntmps148;cases hs:((n':Int)==(n:Int))
 ·have a:Hl (8=gF cols row):=Hm (by rw[gF,v.o,z.o,if_pos (by simp at hs;omega)]);go_wp2;all_goals(try(exfalso;go_light;simp_all;done));go_ret;exact⟨fV a.o,Below.refl _ _⟩
 have m:Hl (gF cols row=fQ (ym cols) 0 row):=Hm (by rw[gF,v.o,z.o,if_neg (by simp at hs;omega)];rfl);have D:n=n':=by simp at hs;omega
 go_wp2;all_goals(try(exfalso;go_light;simp_all;done));have F:=Hm D;clear hs D;go_loopw [15] (λi wr=> ∃k:Nat,k<=n'/\i=.int .i64 k/\fQ (ym cols) 0 row=fQ (ym cols) k (row.drop k)/\Below w.heap.size w wr) (λi _=>n'-(intOf i).toNat)
 case atStart=>exact⟨0,Nat.zero_le _,rfl,rfl,Below.refl _ _⟩
 case round=>
  obtain⟨k,U,rfl,u,hb⟩:=hrel;have s:=Hm u;clear u;by_cases B:k<n'
  ·have L:k<n:=by rw[F.o];exact B
   obtain⟨M,V,x,rfl,R,G,I,f1,J,K⟩:=(p.below hb).val B;obtain⟨b,off,y,rfl,Q,t,H,d,h,N⟩:=(r.below hb).col L;go_wp2_with fail;refine(rO x K _).mono ?_;rintro e W ⟨rfl,q⟩;have j:=fH (fH (fH hb fI) fI) q;obtain⟨S,T⟩:=fU q;clear q H d h I f1 J;have g:Hl (fQ (ym cols) 0 row=if ja y x=0 then fQ (ym cols) (k+1) (row.drop (k+1)) else ja y x):=Hm (by
    rw[s.o,G.o];by_cases f:ja y x=0
    ·rw[if_pos f];exact ig (by rw[yC t.o,f])
    ·rw[if_neg f];exact gL (yC t.o) f)
   cases l:valid x
   ·have a:Hl (8=gF cols row):=Hm (by rw[m.o,g.o];simp[ja,l]);go_wp2;go_ret;exact⟨fV a.o,j⟩
   ·cases f:(x.kind==0)
    ·cases E:(x.kind==y.kind)
     ·have a:Hl (7=gF cols row):=Hm (by
       have d:¬x.kind=0:=by simpa using f
       have h:¬x.kind=y.kind:=by simpa using E
       rw[m.o,g.o];simp[ja,l,d,h])
      go_wp2;all_goals(try(exfalso;go_light;simp_all;done));all_goals
       go_ret;exact⟨fV a.o,j⟩
     ·have a:Hl (ja y x=0):=Hm (by
       have d:¬x.kind=0:=by simpa using f
       have h:x.kind=y.kind:=by simpa using E
       simp[ja,l,<-h,d])
      go_wp2;all_goals(try(exfalso;go_light;simp_all;done));all_goals
       go_roundw
       case rel=>exact⟨k+1,by omega,by go_num,by rw[g.o,if_pos a.o],j⟩
       case measure=>simp[intOf];omega
    ·cases C:y.nullable
     ·have a:Hl (7=gF cols row):=Hm (by
       have d:x.kind=0:=by simpa using f
       rw[m.o,g.o];simp[ja,l,d,C])
      go_wp2;all_goals(try(exfalso;go_light;simp_all;done));all_goals
       go_ret;exact⟨fV a.o,j⟩
     ·have a:Hl (ja y x=0):=Hm (by
       have d:x.kind=0:=by simpa using f
       simp[ja,l,d,C])
      go_wp2;all_goals(try(exfalso;go_light;simp_all;done));all_goals
       go_roundw
       case rel=>exact⟨k+1,by omega,by go_num,by rw[g.o,if_pos a.o],j⟩
       case measure=>simp[intOf];omega
  ·go_wp2;go_ret;exact⟨fV (by rw[m.o,s.o,gG p.len (by omega),fQ]),hb⟩
theorem iH {B:Nat}{a w:World}(h:Below B a w){n:Nat}:Below B a (w.drewN n):=below_drewN h n
theorem vV (w:World)(A A':Option Addr)(n n' c c':Nat)(cols:List Col)(row:List Val)(u:In w A n c cols)(r:In w A' n' c' row):
  Calls Tryz.prog 95 #[.slice A n c,.slice A' n' c'] w λe w'=>e=.returned (.int .i64 (gF cols row))/\Below w.heap.size w w':=by
 have V:=u.le;have W:=r.le;have F:=Hm u.len;have G:=Hm r.len;go_enter Tryz.func95,Tryz.ntmps95;cases hs:((n:Int)==(n':Int))
 ·have a:Hl (8=gF cols row):=Hm (by rw[gF,F.o,G.o,if_pos (by simp at hs;omega)]);go_wp2;all_goals(try(exfalso;go_light;simp_all;done));go_ret;exact⟨fV a.o,Below.refl _ _⟩
 have p:Hl (gF cols row=fQ (ym cols) 0 row):=Hm (by rw[gF,F.o,G.o,if_neg (by simp at hs;omega)];rfl);have J:n=n':=by simp at hs;omega
 go_wp2;all_goals(try(exfalso;go_light;simp_all;done));have K:=Hm J;clear hs J;go_loopw [5] (λi wr=> ∃k:Nat,k<=n'/\i=.int .i64 k/\fQ (ym cols) 0 row=fQ (ym cols) k (row.drop k)/\Below w.heap.size w wr) (λi _=>n'-(intOf i).toNat)
 case atStart=>exact⟨0,Nat.zero_le _,rfl,rfl,Below.refl _ _⟩
 case round=>
  obtain⟨k,X,rfl,E,hb⟩:=hrel;have v:=Hm E;clear E;by_cases H:k<n'
  ·have N:k<n:=by rw[K.o];exact H
   obtain⟨Q,Y,x,rfl,t,L,C,f1,D,M⟩:=(r.below hb).val H;obtain⟨b,off,y,rfl,s,z,B,f,j,R⟩:=(u.below hb).col N;go_wp2_with fail;refine(xH x M _).mono ?_;rintro e Z ⟨rfl,g⟩;have h:=fH hb g;replace B:=fO g s B;replace f:=fO g s f;replace j:=fO g s j;replace C:=fO g t C;replace f1:=fO g t f1;replace D:=fO g t D;clear g;have S:(0:Int)<=(k:Int):=by omega
   have T:(k:Int)<(n:Int):=by omega
   have U:(k:Int)<(n':Int):=by omega
   have l:Hl (fQ (ym cols) 0 row=if ja y x=0 then fQ (ym cols) (k+1) (row.drop (k+1)) else ja y x):=Hm (by
    rw[v.o,L.o];by_cases d:ja y x=0
    ·rw[if_pos d];exact ig (by rw[yC z.o,d])
    ·rw[if_neg d];exact gL (yC z.o) d)
   cases m:valid x
   ·have a:Hl (8=gF cols row):=Hm (by rw[p.o,l.o];simp[ja,m]);go_wp2;go_ret
    first|exact⟨fV a.o,h⟩|exact⟨fV a.o,iH h⟩
   ·cases d:(x.kind==0)
    ·have P:(x.kind != 0)=true:=by rw[bne,d];rfl
     cases q:(x.kind==y.kind)
     ·have O:(x.kind != y.kind)=true:=by rw[bne,q];rfl
      have a:Hl (7=gF cols row):=Hm (by
       have f:¬x.kind=0:=by simpa using d
       have j:¬x.kind=y.kind:=by simpa using q
       rw[p.o,l.o];simp[ja,m,f,j])
      go_wp2;go_quiet (fail);go_wp2;all_goals(try(exfalso;go_light;simp_all;done));all_goals
       go_ret
       first|exact⟨fV a.o,h⟩|exact⟨fV a.o,iH h⟩
     ·have O:(x.kind != y.kind)=false:=by rw[bne,q];rfl
      have a:Hl (ja y x=0):=Hm (by
       have f:¬x.kind=0:=by simpa using d
       have j:x.kind=y.kind:=by simpa using q
       simp[ja,m,<-j,f])
      go_wp2;go_quiet (fail);go_wp2;all_goals(try(exfalso;go_light;simp_all;done));all_goals
       go_roundw
       case rel=>exact⟨k+1,by omega,by go_num,by rw[l.o,if_pos a.o],iH h⟩
       case measure=>simp[intOf];omega
    ·have P:(x.kind != 0)=false:=by rw[bne,d];rfl
     cases I:y.nullable
     ·have a:Hl (7=gF cols row):=Hm (by
       have f:x.kind=0:=by simpa using d
       rw[p.o,l.o];simp[ja,m,f,I])
      go_wp2;go_quiet (fail);go_wp2;all_goals(try(exfalso;go_light;simp_all;done));all_goals
       go_ret
       first|exact⟨fV a.o,h⟩|exact⟨fV a.o,iH h⟩
     ·have a:Hl (ja y x=0):=Hm (by
       have f:x.kind=0:=by simpa using d
       simp[ja,m,f,I])
      go_wp2;go_quiet (fail);go_wp2;all_goals(try(exfalso;go_light;simp_all;done));all_goals
       go_roundw
       case rel=>exact⟨k+1,by omega,by go_num,by rw[l.o,if_pos a.o],iH h⟩
       case measure=>simp[intOf];omega
  ·go_wp2;go_ret;exact⟨fV (by rw[p.o,v.o,gG r.len (by omega),fQ]),hb⟩
theorem nQ:(Tryz.prog.info? 36).map (λi=>(i.zero,i.size,i.bytes))=some (some (.agg #[.int .i64 0,.int .i64 0,.string ⟨#[]⟩]),3,32):=by kernel_rfl
def Part (w:World)(g:Nat)(cols:List Col)(vs:List Val):Prop:=
 (∀i,(h:i<vs.length)->At w (λ_=>False) g (i*3) vs[i])/\ ∀i,(h:i<vs.length)->(a:i<cols.length)->Fits cols[i] vs[i]
theorem Part.below {w w':World}{g:Nat}{cols:List Col}{vs:List Val}(h:Part w g cols vs)(c:g<w.heap.size)(hb:Below w.heap.size w w'):Part w' g cols vs:=
 ⟨λi hi=>by
  obtain⟨a,e,b⟩:=h.1 i hi;exact⟨a,e,λj d=>fO hb c (b j d)⟩,h.2⟩
theorem Part.add {w:World}{g:Nat}{cols:List Col}{vs:List Val}{v:Val}{p q r:Value}(h:Part w g cols vs)(o:v.ok)(t:vs.length<cols.length)(k:Fits cols[vs.length] v)(c:w.cell? ⟨g,vs.length*3,none⟩=some p)(d:w.cell? ⟨g,vs.length*3+1,none⟩=some q)(e:w.cell? ⟨g,vs.length*3+2,none⟩=some r):
  Part (((w.setCell ⟨g,vs.length*3,none⟩ (.int .i64 v.kind)).setCell ⟨g,vs.length*3+1,none⟩ (.int .i64 v.num)).setCell ⟨g,vs.length*3+2,none⟩ (.string v.str)) g cols (vs++[v]):=by
 refine⟨λi hi=>?_,λi hi l=>?_⟩
 ·rw[List.length_append]at hi;by_cases a:i<vs.length
  ·obtain⟨s,⟨rfl,n⟩,f⟩:=h.1 i a;rw[List.getElem_append_left a];refine⟨_,⟨rfl,n⟩,λj b=>?_⟩;have m:j<3:=b;exact fM (fM (fM (f j b) (.inr (by omega))) (.inr (by omega))) (.inr (by omega))
  ·obtain rfl:i=vs.length:=by simp at hi;omega
   rw[List.getElem_append_right (Nat.le_refl _)];simp only[Nat.sub_self,List.getElem_cons_zero];refine⟨v.cells,⟨rfl,o⟩,λj b=>?_⟩;have m:j<3:=b;obtain rfl|rfl|rfl:j=0\/j=1\/j=2:=by omega
   ·exact fM (fM (iC c) (.inr (by omega))) (.inr (by omega))
   ·exact fM (iC (fM d (.inr (by omega)))) (.inr (by omega))
   ·exact iC (fM (fM e (.inr (by omega))) (.inr (by omega)))
 ·rw[List.length_append]at hi;by_cases a:i<vs.length
  ·rw[List.getElem_append_left a];exact h.2 i a l
  ·obtain rfl:i=vs.length:=by simp at hi;omega
   rw[List.getElem_append_right (Nat.le_refl _)];simpa using k
theorem vo {α:Type}{f:Nat->α->Int}{l:List α}: ∀k,(∀i,(h:i<l.length)->f (k+i) l[i]=0)->fQ f k l=0:=by
 induction l with
 |nil=>intro k _;rfl
 |cons x l b=>
  intro k h;have a:=h 0 (by simp);rw[ig (by simpa using a)];exact b (k+1) λi hi=>by
   have:=h (i+1) (by simpa using hi);rw[show k+1+i=k+(i+1) from by omega];simpa using this
theorem ER {cols:List Col}{vs:List Val}(a:vs.length=cols.length)(h: ∀i,(h:i<vs.length)->(b:i<cols.length)->Fits cols[i] vs[i]):gF cols vs=0:=by
 rw[gF,if_neg (by simp[a])];refine vo 0 λi hi=>?_;have:=(h i hi (by omega)).2;simp only[Nat.zero_add];rw[List.getD,List.getElem?_eq_getElem (by omega)];exact this
def gD (n:Int):Prop:= -1073741824<=n/\n<=1073741824
theorem uL (a:Int)(w:World):Calls Tryz.prog 241 #[.int .i64 a] w λe w'=>e=.returned (.bool (iP a))/\w=w':=by
 go_enter Tryz.func241,Tryz.ntmps241;go_wp2;all_goals(go_ret;refine⟨gp ?_,rfl⟩;go_light;unfold iP;first|(simp_all;done)|(simp_all;omega))
theorem qf (a:Int)(w:World):Calls Tryz.prog 250 #[.int .i64 a] w λe w'=>e=.returned (.bool (iP a))/\w=w':=by
 go_enter Tryz.func250,Tryz.ntmps250;go_wp2;all_goals(go_ret;refine⟨gp ?_,rfl⟩;go_light;unfold iP;first|(simp_all;done)|(simp_all;omega))
theorem ky {a:Int}(h:gD a):iP a=true:=by unfold gD at h;simp[iP];omega
def chk (r:Int):Int×Bool:=if iP r then(r,true) else(0,false)
theorem J8 {a b:Int}(c:gD a)(hb:gD b):wU a b=chk (a+b):=by simp[wU,chk,ky c,ky hb]
theorem Me {a b:Int}(c:gD a)(hb:gD b):qg a b=chk (a-b):=by simp[qg,chk,ky c,ky hb]
theorem Lh {a b:Int}(c:gD a)(hb:gD b):xA a b=chk (a*b):=by simp[xA,chk,ky c,ky hb]
theorem rZ (a b r:Int)(c:gD a)(hb:gD b)(w:World):Calls Tryz.prog 223 #[.int .i64 a,.int .i64 b,.int .i64 r] w λe w'=>e=.returned (.tuple #[.int .i64 (chk r).1,.bool (chk r).2])/\w=w':=by
 have d:=ky c;have f:=ky hb;go_enter Tryz.func223,Tryz.ntmps223;cases h:iP r
 ·go_wp2_with (go_at_call 250;refine(qf _ _).mono ?_;rintro e w' ⟨rfl,rfl⟩);go_ret2;exact⟨by simp[chk,h],rfl⟩
 ·go_wp2_with (go_at_call 250;refine(qf _ _).mono ?_;rintro e w' ⟨rfl,rfl⟩);go_ret2;exact⟨by simp[chk,h],rfl⟩
theorem Li {a b:Int}(c:gD a)(hb:gD b): -1152921504606846976<=a*b/\a*b<=1152921504606846976:=by
 have h:(a*b).natAbs<=1073741824*1073741824:=by
  rw[Int.natAbs_mul];exact Nat.mul_le_mul (by unfold gD at c;omega) (by unfold gD at hb;omega)
 omega
theorem MC (a b:Int)(c:gD a)(hb:gD b)(w:World):Calls Tryz.prog 227 #[.int .i64 a,.int .i64 b] w λe w'=>e=.returned (.tuple #[.int .i64 (wU a b).1,.bool (wU a b).2])/\w=w':=by
 rw[J8 c hb];have hw:IntKind.i64.wrap (a+b)=a+b:=IntWalk.i64_in _ (by unfold gD at c hb;omega);go_enter Tryz.func227,Tryz.ntmps227;go_wp2_with (go_at_call 223;(try rw[hw]);refine(rZ _ _ _ c hb _).mono ?_;rintro e w' ⟨rfl,rfl⟩);go_ret2;exact⟨rfl,rfl⟩
theorem H9 (a b:Int)(c:gD a)(hb:gD b)(w:World):Calls Tryz.prog 199 #[.int .i64 a,.int .i64 b] w λe w'=>e=.returned (.tuple #[.int .i64 (qg a b).1,.bool (qg a b).2])/\w=w':=by
 rw[Me c hb];have hw:IntKind.i64.wrap (a-b)=a-b:=IntWalk.i64_in _ (by unfold gD at c hb;omega);go_enter Tryz.func199,Tryz.ntmps199;go_wp2_with (go_at_call 223;(try rw[hw]);refine(rZ _ _ _ c hb _).mono ?_;rintro e w' ⟨rfl,rfl⟩);go_ret2;exact⟨rfl,rfl⟩
theorem ND (a b:Int)(c:gD a)(hb:gD b)(w:World):Calls Tryz.prog 228 #[.int .i64 a,.int .i64 b] w λe w'=>e=.returned (.tuple #[.int .i64 (xA a b).1,.bool (xA a b).2])/\w=w':=by
 rw[Lh c hb];have d: -1152921504606846976<=a*b/\a*b<=1152921504606846976:=Li c hb;have hw:IntKind.i64.wrap (a*b)=a*b:=IntWalk.i64_in _ (by unfold gD at c hb;omega);go_enter Tryz.func228,Tryz.ntmps228;go_wp2_with (go_at_call 223;(try rw[hw]);refine(rZ _ _ _ c hb _).mono ?_;rintro e w' ⟨rfl,rfl⟩);go_ret2;exact⟨rfl,rfl⟩
theorem JH (v:Val)(h:v.ok)(w:World):Calls Tryz.prog 152 #[.agg v.cells.toArray] w λe w'=>e=.returned (.int .i64 (truth v))/\Below w.heap.size w w':=by
 obtain⟨k,n,s⟩:=v;have i:=h;simp only[Val.cells];by_cases c:k=1
 ·subst c;have a:Hl (truth ⟨1,n,s⟩=if valid ⟨1,n,s⟩=true then n else -1):=Hm (by simp[truth]);cases f:valid ⟨1,n,s⟩;all_goals
   rw[f]at a;go_enter Tryz.func152,Tryz.ntmps152;go_wp2_with fail;refine(rO ⟨1,n,s⟩ i _).mono ?_;rintro e l ⟨rfl,d⟩;have g:=fH fI d;have j:=fO (b:=w.heap.size) (o:=1) (v:=.int .i64 n) d (by simp) (by simp[go_sem]);clear d;rw[f];go_wp2;go_ret;exact⟨fV (by rw[a.o];simp),g⟩
 ·have a:Hl (truth ⟨k,n,s⟩= -1):=Hm (by simp[truth,c]);have q:(k != 1)=true:=by simpa using c
  clear c;go_enter Tryz.func152,Tryz.ntmps152;go_wp2;go_ret;exact⟨fV a.o.symm,fI⟩
theorem GK (v:Val)(a:v.ok)(w:World):Calls Tryz.prog 98 #[.agg v.cells.toArray] w λe w'=>e=.returned (.int .i64 (truth v))/\Below w.heap.size w w':=by
 obtain⟨k,n,s⟩:=v;simp only[Val.cells];go_enter Tryz.func98,Tryz.ntmps98;go_wp2;all_goals(go_ret;refine⟨fV ?_,fI⟩;go_light;(try simp only[bne_iff_ne,ne_eq,beq_iff_eq,beq_eq_false_iff_ne]at*);simp_all[truth,valid,jI])
def oW (_:Nat)(v:Val):Int:=if valid v then 0 else 8
theorem pX (x:Ent):ib x=if 12<x.row.length\/x.count < -65536\/65536<x.count then 2 else fQ oW 0 x.row:=rfl
theorem FQ (w:World)(A:Option Addr)(n c:Nat)(x:Ent)(d:In w A n c x.row)(q:jU x.count):
  Calls Tryz.prog 60 #[.agg #[.slice A n c,.int .i64 x.count]] w λe w'=>e=.returned (.int .i64 (ib x))/\Below w.heap.size w w':=by
 obtain⟨row,m⟩:=x;have F:=d.le;have g:=Hm d.len;unfold jU at q;obtain⟨D,E⟩:=q;simp only at d g D E⊢;go_enter Tryz.func60,Tryz.ntmps60;by_cases hs:12<n\/m < -65536\/65536<m
 ·have a:Hl (2=ib ⟨row,m⟩):=Hm (by rw[pX,g.o,if_pos hs]);by_cases y:12<n
  ·go_wp2;all_goals(go_ret;exact⟨fV a.o,fI⟩)
  ·by_cases z:m < -65536
   ·go_wp2;all_goals(go_ret;exact⟨fV a.o,fI⟩)
   ·have B:65536<m:=by omega
    go_wp2;all_goals(go_ret;exact⟨fV a.o,fI⟩)
 have h:Hl (ib ⟨row,m⟩=fQ oW 0 row):=Hm (by rw[pX,g.o,if_neg hs]);have y:n<=12:=by omega
 have z: -65536<=m:=by omega
 have B:m<=65536:=by omega
 clear hs;go_wp2;go_loopw [22] (λi wr=> ∃k:Nat,k<=n/\i=.int .i64 k/\fQ oW 0 row=fQ oW k (row.drop k)/\Below w.heap.size w wr) (λi _=>n-(intOf i).toNat)
 case atStart=>exact⟨0,Nat.zero_le _,rfl,rfl,fI⟩
 case round=>
  obtain⟨k,H,rfl,r,hb⟩:=hrel;have f:=Hm r;clear r;by_cases C:k<n
  ·obtain⟨b,off,x,rfl,G,j,t,f1,u,v⟩:=(d.below hb).val C;go_wp2_with fail;refine(rO x v _).mono ?_;rintro e I ⟨rfl,l⟩;have p:=fH (fH hb fI) l;clear l t f1 u;cases s:valid x
   ·have a:Hl (8=ib ⟨row,m⟩):=Hm (by rw[h.o,f.o,j.o];exact(gL (by simp[oW,s]) (by omega)).symm);go_wp2;go_ret;exact⟨fV a.o,p⟩
   ·go_wp2;go_roundw
    case rel=>exact⟨k+1,by omega,by go_num,by rw[f.o,j.o];exact ig (by simp[oW,s]),p⟩
    case measure=>simp[intOf];omega
  ·go_wp2;go_ret;exact⟨fV (by rw[h.o,f.o,gG d.len (by omega),fQ]),hb⟩
theorem oF (m:Int)(w:World):Calls Tryz.prog 75 #[.int .i64 m] w λe w'=>e=.returned (.bool (decide (-65536<=m)&&decide (m<=65536)))/\w=w':=by
 go_enter Tryz.func75,Tryz.ntmps75;go_wp2;all_goals(go_ret;refine⟨gp ?_,rfl⟩;go_light;first|(simp_all;done)|(simp_all;omega))
theorem BI (w:World)(A:Option Addr)(n c:Nat)(x:Ent)(d:In w A n c x.row)(q:jU x.count):
  Calls Tryz.prog 72 #[.agg #[.slice A n c,.int .i64 x.count]] w λe w'=>e=.returned (.int .i64 (ib x))/\Below w.heap.size w w':=by
 obtain⟨row,m⟩:=x;have K:=d.le;have j:=Hm d.len;unfold jU at q;obtain⟨G,H⟩:=q;simp only at d j G H⊢;go_enter Tryz.func72,Tryz.ntmps72;by_cases hs:12<n\/m < -65536\/65536<m
 ·have a:Hl (2=ib ⟨row,m⟩):=Hm (by rw[pX,j.o,if_pos hs]);by_cases B:12<n
  ·go_wp2;all_goals(go_ret;exact⟨fV a.o,fI⟩)
  ·by_cases C:m < -65536
   ·have I:decide ((-65536:Int)<=m)=false:=by simp;omega
    go_wp2_with (go_at_call 75;refine(oF _ _).mono ?_;rintro e w' ⟨rfl,rfl⟩);all_goals(try(exfalso;go_light;simp_all;done));all_goals(go_ret;exact⟨fV a.o,fI⟩)
   ·have D:65536<m:=by omega
    have I:decide (m<=(65536:Int))=false:=by simp;omega
    go_wp2_with (go_at_call 75;refine(oF _ _).mono ?_;rintro e w' ⟨rfl,rfl⟩);all_goals(try(exfalso;go_light;simp_all;done));all_goals(go_ret;exact⟨fV a.o,fI⟩)
 have l:Hl (ib ⟨row,m⟩=fQ oW 0 row):=Hm (by rw[pX,j.o,if_neg hs]);have B:n<=12:=by omega
 have C: -65536<=m:=by omega
 have D:m<=65536:=by omega
 clear hs;go_wp2_with (go_at_call 75;refine(oF _ _).mono ?_;rintro e w' ⟨rfl,rfl⟩);all_goals(try(exfalso;go_light;simp_all;done));go_loopw [3] (λi wr=> ∃k:Nat,k<=n/\i=.int .i64 k/\fQ oW 0 row=fQ oW k (row.drop k)/\Below (w.alloc (.cells #[.slice A n c,.int .i64 m] 50)).heap.size (w.alloc (.cells #[.slice A n c,.int .i64 m] 50)) wr) (λi _=>n-(intOf i).toNat)
 case atStart=>exact⟨0,Nat.zero_le _,rfl,rfl,Below.refl _ _⟩
 case round=>
  obtain⟨k,M,rfl,r,f⟩:=hrel;have g:=Hm r;clear r;have hb:Below w.heap.size w wr:=fH fI f;have J:wr.cell? ⟨w.heap.size,0,none⟩=some (.slice A n c):=fO f (by simp) (by simp[go_sem]);have t:=Hm f;clear f;by_cases F:k<n
  ·obtain⟨b,off,x,rfl,L,p,v,f1,y,z⟩:=(d.below hb).val F;go_wp2_with fail;refine(xH x z _).mono ?_;rintro e N ⟨rfl,h⟩;have E:=fH hb h;have u:=Hm (fH t.o h);clear h v f1 y;cases s:valid x
   ·have a:Hl (8=ib ⟨row,m⟩):=Hm (by rw[l.o,g.o,p.o];exact(gL (by simp[oW,s]) (by omega)).symm);go_wp2;go_ret;exact⟨fV a.o,E⟩
   ·go_wp2;go_roundw
    case rel=>exact⟨k+1,by omega,by go_num,by rw[g.o,p.o];exact ig (by simp[oW,s]),u.o⟩
    case measure=>simp[intOf];omega
  ·go_wp2;go_ret;exact⟨fV (by rw[l.o,g.o,gG d.len (by omega),fQ]),hb⟩
theorem yh (w:World)(A A':Option Addr)(n n' c c':Nat)(xs a:List Val)(g:In w A n c xs)(f:In w A' n' c' a):
  Calls Tryz.prog 57 #[.slice A n c,.slice A' n' c',.func (.func 58) #[] #[]] w
   λe w'=>e=.returned (.int .i64 (gq xs a))/\Below w.heap.size w w':=by
 have H:=g.le;have I:=f.le;go_enter Tryz.func57,Tryz.ntmps57;go_wp2;go_loopw [13] (λi wr=> ∃k:Nat,k<=n/\k<=n'/\i=.int .i64 k/\gq xs a=gq (xs.drop k) (a.drop k)/\Below w.heap.size w wr) (λi _=>n-(intOf i).toNat)
 case atStart=>exact⟨0,Nat.zero_le _,Nat.zero_le _,rfl,rfl,Below.refl _ _⟩
 case round=>
  obtain⟨k,L,M,rfl,r,hb⟩:=hrel;have d:=Hm r;clear r;by_cases D:k<n
  ·obtain⟨b,off,x,rfl,J,l,u,v,z,F⟩:=(g.below hb).val D;by_cases t:k<n'
   ·obtain⟨E,O,y,rfl,K,m,B,f1,C,G⟩:=(f.below hb).val t;go_wp2_with fail;refine(Cv x y _).mono ?_;rintro e P ⟨rfl,p⟩;have q:=fH (fH (fH hb fI) fI) p;clear p u v z B f1 C;by_cases j:iq x y=0
    ·rw[j];go_wp2;go_roundw
     case rel=>exact⟨k+1,by omega,by omega,by go_num,by rw[d.o,l.o,m.o,gq,if_neg (by simp[j])],q⟩
     case measure=>simp[intOf];omega
    ·have N:(iq x y==0)=false:=by simp[j]
     go_wp2;go_ret;exact⟨fV (by rw[d.o,l.o,m.o,gq,if_pos j]),q⟩
   ·go_wp2;go_ret;exact⟨fV (by rw[d.o,l.o,gG f.len (by omega),gq]),hb.alloc hb.size _⟩
  ·have s:n<=k:=by omega
   by_cases t:n<n'
   ·go_wp2;go_ret;refine⟨fV ?_,hb⟩;rw[d.o,gG g.len s];have:a.drop k≠[]:=by intro h;have:=congrArg List.length h;rw[List.length_drop,f.len]at this;simp at this;omega
    match h:a.drop k with
    | []=>exact absurd h this
    | _::_=>rw[gq]
   ·go_wp2;go_ret;refine⟨fV ?_,hb⟩;rw[d.o,gG g.len s,gG f.len (by omega),gq]
theorem lw (w:World)(A A':Option Addr)(n n' c c':Nat)(xs a:List Val)(d:In w A n c xs)(f:In w A' n' c' a):
  Calls Tryz.prog 31 #[.slice A n c,.slice A' n' c'] w λe w'=>e=.returned (.int .i64 (gq xs a))/\Below w.heap.size w w':=by
 go_enter Tryz.func31,Tryz.ntmps31;go_wp2_with fail;refine(yh _ _ _ _ _ _ _ xs a d f).mono ?_;rintro e g ⟨rfl,b⟩;go_wp2;go_ret;exact⟨rfl,b⟩
theorem In.prev {w:World}{A:Option Addr}{n c k:Nat}{b:List Ent}(h:In w A n c b)(m:k<n)(i:0<k): ∃a off A' n' c' y,A=some ⟨a,off,none⟩/\a<w.heap.size/\
  w.cell? ⟨a,off+(k-1)*2,none⟩=some (.slice A' n' c')/\In w A' n' c' y/\Hl ((b.getD (k-1) default).row=y):=by
 obtain⟨a,off,x,e,hb,g,A',n',c',d,j,f,l⟩:=h.ent (show k-1<n by omega);exact⟨a,off,A',n',c',x.row,e,hb,d,f,Hm (by rw[getD_drop g.o])⟩
theorem kz (b:List Ent)(i:Nat)(x:Ent):jr b i x=if ib x≠0 then ib x else if x.count=0 then 8 else if 0<i/\0<=gq (b.getD (i-1) default).row x.row then 14 else 0:=rfl
theorem Cs (w:World)(A:Option Addr)(n c:Nat)(a:List Ent)(p:In w A n c a):
  Calls Tryz.prog 35 #[.slice A n c] w λe w'=>e=.returned (.int .i64 (gN a))/\Below w.heap.size w w':=by
 have aa:=p.le;have M:=Hm p.len;go_enter Tryz.func35,Tryz.ntmps35;by_cases hs:4096<n
 ·have d:Hl (2=gN a):=Hm (by rw[gN,M.o,if_pos hs]);go_wp2;go_ret;exact⟨fV d.o,Below.refl _ _⟩
 have r:Hl (gN a=fQ (jr a) 0 a):=Hm (by rw[gN,M.o,if_neg hs]);have ad:n<=4096:=by omega
 clear hs;go_wp2;go_loopw [11] (λi wr=> ∃k:Nat,k<=n/\i=.int .i64 k/\fQ (jr a) 0 a=fQ (jr a) k (a.drop k)/\Below w.heap.size w wr) (λi _=>n-(intOf i).toNat)
 case atStart=>exact⟨0,Nat.zero_le _,rfl,rfl,Below.refl _ _⟩
 case round=>
  obtain⟨k,hk,rfl,L,hb⟩:=hrel;have u:=Hm L;clear L;by_cases N:k<n
  ·obtain⟨b,off,x,rfl,hB,F,A',n',c',P,Q,v,G⟩:=(p.below hb).ent N;go_wp2_with fail;refine(FQ _ A' n' c' x (v.below fI) G).mono ?_;rintro e C ⟨rfl,g⟩;have l:=fH (fH hb fI) g;have I:C.cell? ⟨wr.heap.size,0,none⟩=some (.slice A' n' c'):=fO g (by simp) (by simp[go_sem]);have g1:C.cell? ⟨wr.heap.size,1,none⟩=some (.int .i64 x.count):=fO g (by simp) (by simp[go_sem]);have T:=v.below (fH fI g);have U:wr.heap.size<C.heap.size:=by have:=g.size;simp at this;omega
   obtain⟨ab,ac⟩:=G;clear g P Q v;by_cases f:ib x=0
   ·rw[f];have q:Hl (fQ (jr a) 0 a=if x.count=0 then 8 else if 0<k/\0<=gq (a.getD (k-1) default).row x.row then 14 else fQ (jr a) (k+1) (a.drop (k+1))):=Hm (by
     rw[u.o,F.o];by_cases j:x.count=0
     ·rw[if_pos j];exact gL (by rw[kz,if_neg (by simp[f]),if_pos j]) (by omega)
     ·by_cases t:0<k/\0<=gq (a.getD (k-1) default).row x.row
      ·rw[if_neg j,if_pos t];exact gL (by rw[kz,if_neg (by simp[f]),if_neg j,if_pos t]) (by omega)
      ·rw[if_neg j,if_neg t];exact ig (by rw[kz,if_neg (by simp[f]),if_neg j,if_neg t]))
    clear f;cases m:(x.count==0)
    ·have B:¬x.count=0:=by simpa using m
     by_cases y:0<k
     ·obtain⟨Z,af,D,O,c0,s,e,S,H,f1,E⟩:=In.prev (p.below l) N y;injection e with e;injection e with e_1 e_2;subst e_1 e_2;have i0:(0:Int)<(k:Int):=by omega
      have V:(0:Int)<=(k:Int)-1:=by omega
      have W:(k:Int)-1<(n:Int):=by omega
      have X:((k:Int)-1).toNat=k-1:=by omega
      have i5:(1:Int)<=(k:Int):=by omega
      have i6:(k:Int)<=(n:Int):=by omega
      have Y:IntKind.i64.wrap ((k:Int)-1)=(k:Int)-1:=IntWalk.i64_in _ (by omega);go_wp2_with fail;go_region_held3 (λw'=>w'.cell? ⟨b,off+(k-1)*2,none⟩=some (.slice D O c0)/\w'.cell? ⟨wr.heap.size,0,none⟩=some (.slice A' n' c')) (first|exact⟨H,I⟩|(have m:=fP z;exact⟨fO m S H,fO m U I⟩)) (first|(go_at_call 31;refine(lw _ D A' O n' c0 c' s x.row (by exact f1) (by exact T)).mono ?_;rintro e w2 ⟨rfl,z⟩));have J:=fH l (fP z);clear z Y X W V;by_cases K:0<=gq s x.row
      ·have d:Hl (14=gN a):=Hm (by rw[r.o,q.o,E.o,if_neg B,if_pos ⟨y,K⟩]);have hd:decide (0<=gq s x.row)=true:=by simp;omega
       go_wp2;all_goals(try(exfalso;go_light;simp_all;done));go_ret;exact⟨fV d.o,J⟩
      ·have d:Hl (fQ (jr a) 0 a=fQ (jr a) (k+1) (a.drop (k+1))):=Hm (by rw[q.o,E.o,if_neg B,if_neg (λh=>K h.2)]);have hd:decide (0<=gq s x.row)=false:=by simp;omega
       go_wp2;all_goals(try(exfalso;go_light;simp_all;done));go_roundw
       case rel=>exact⟨k+1,by omega,by go_num,d.o,J⟩
       case measure=>simp[intOf];omega
     ·have R:k=0:=by omega
      have d:Hl (fQ (jr a) 0 a=fQ (jr a) (k+1) (a.drop (k+1))):=Hm (by rw[q.o,if_neg B,if_neg (λh=>y h.1)]);subst R;go_wp2;go_quiet (fail);go_wp2;go_roundw
      case rel=>exact⟨0+1,by omega,by go_num,d.o,iH l⟩
      case measure=>simp[intOf];omega
    ·have d:Hl (8=gN a):=Hm (by rw[r.o,q.o,if_pos (by simpa using m)]);go_wp2;go_ret;exact⟨fV d.o,l⟩
   ·have ae:(ib x==0)=false:=by simp[f]
    have d:Hl (ib x=gN a):=Hm (by rw[r.o,u.o,F.o];exact(gL (by rw[kz,if_pos f]) f).symm);go_wp2;all_goals(try(exfalso;go_light;simp_all;done));go_ret;exact⟨fV d.o,l⟩
  ·go_wp2;go_ret;exact⟨fV (by rw[r.o,u.o,gG p.len (by omega),fQ]),hb⟩
theorem oZ (w:World)(A A':Option Addr)(n n' c c':Nat)(xs d:List Val)(j:In w A n c xs)(f:In w A' n' c' d):
  Calls Tryz.prog 64 #[.slice A n c,.slice A' n' c'] w λe w'=>e=.returned (.int .i64 (gq xs d))/\Below w.heap.size w w':=by
 have M:=j.le;have N:=f.le;go_enter Tryz.func64,Tryz.ntmps64;go_wp2;go_loopw [5] (λi wr=> ∃k:Nat,k<=n/\k<=n'/\i=.int .i64 k/\gq xs d=gq (xs.drop k) (d.drop k)/\Below w.heap.size w wr) (λi _=>n-(intOf i).toNat)
 case atStart=>exact⟨0,Nat.zero_le _,Nat.zero_le _,rfl,rfl,Below.refl _ _⟩
 case round=>
  obtain⟨k,O,P,rfl,F,hb⟩:=hrel;have g:=Hm F;clear F;by_cases I:k<n
  ·by_cases G:k<n'
   ·obtain⟨b,off,x,rfl,u,C,p,q,r,K⟩:=(j.below hb).val I;obtain⟨m,B,y,rfl,v,D,s,f1,t,L⟩:=(f.below hb).val G;go_wp2_with fail;go_region_held3 (λw'=>Below wr.heap.size wr w'/\w'.cell? ⟨b,off+k*3,none⟩=some (.int .i64 x.kind)/\w'.cell? ⟨b,off+k*3+1,none⟩=some (.int .i64 x.num)/\w'.cell? ⟨b,off+k*3+2,none⟩=some (.string x.str)/\w'.cell? ⟨m,B+k*3,none⟩=some (.int .i64 y.kind)/\w'.cell? ⟨m,B+k*3+1,none⟩=some (.int .i64 y.num)/\w'.cell? ⟨m,B+k*3+2,none⟩=some (.string y.str)) (first|exact⟨(Below.refl _ _).drew,p,q,r,s,f1,t⟩|(have a:=fP z;exact⟨a,fO a u p,fO a u q,fO a u r,fO a v s,fO a v f1,fO a v t⟩)) (first|(go_at_call 89;refine(ji x y _).mono ?_;rintro e R ⟨rfl,z⟩));have E:=fH hb (fP z);clear z p q r s f1 t;by_cases l:iq x y=0
    ·rw[l];go_wp2;go_roundw
     case rel=>exact⟨k+1,by omega,by omega,by go_num,by rw[g.o,C.o,D.o,gq,if_neg (by simp[l])],E⟩
     case measure=>simp[intOf];omega
    ·have Q:(iq x y==0)=false:=by simp[l]
     go_wp2;go_ret;exact⟨fV (by rw[g.o,C.o,D.o,gq,if_pos l]),E⟩
   ·go_wp2_with (go_at_call 90;refine(uh _ _ _).mono ?_;rintro e w' ⟨rfl,rfl⟩);go_ret;refine⟨fV ?_,hb⟩;have J:=gG f.len (show n'<=k by omega);rw[g.o,J];have:xs.drop k≠[]:=by intro h;have:=congrArg List.length h;rw[List.length_drop,j.len]at this;simp at this;omega
    match h:xs.drop k with
    | []=>exact absurd h this
    | _::_=>rw[gq];simp[lZ];omega
  ·have H:n<=k:=by omega
   go_wp2_with (go_at_call 90;refine(uh _ _ _).mono ?_;rintro e w' ⟨rfl,rfl⟩);go_ret;refine⟨fV ?_,hb⟩;rw[g.o,gG j.len H];by_cases G:n<n'
   ·have:d.drop k≠[]:=by intro h;have:=congrArg List.length h;rw[List.length_drop,f.len]at this;simp at this;omega
    match h:d.drop k with
    | []=>exact absurd h this
    | _::_=>rw[gq];simp[lZ];omega
   ·rw[gG f.len (by omega),gq];have:n=n':=by omega
    simp[lZ,this]
theorem Bq (b:Bool)(w:World):Calls Tryz.prog 215 #[.bool b] w λe w'=>e=.returned (.agg (j5 b).cells.toArray)/\Below w.heap.size w w':=by
 cases b;all_goals
  go_enter Tryz.func215,Tryz.ntmps215;go_wp2
 ·refine bodyPost_ret (v:=.agg (j5 false).cells.toArray) (by simp[results,Tryz.results215,go_sem,Val.cells,j5]) rfl ⟨rfl,by exact fI⟩
 ·refine bodyPost_ret (v:=.agg (j5 true).cells.toArray) (by simp[results,Tryz.results215,go_sem,Val.cells,j5]) rfl ⟨rfl,by exact fI⟩
theorem uA (b:Bool)(w:World):Calls Tryz.prog 197 #[.bool b] w λe w'=>e=.returned (.agg (j5 b).cells.toArray)/\Below w.heap.size w w':=by
 cases b;all_goals
  go_enter Tryz.func197,Tryz.ntmps197;go_wp2
 ·refine bodyPost_ret (v:=.agg (j5 false).cells.toArray) (by simp[results,Tryz.results197,go_sem,Val.cells,j5]) rfl ⟨rfl,by exact fI⟩
 ·refine bodyPost_ret (v:=.agg (j5 true).cells.toArray) (by simp[results,Tryz.results197,go_sem,Val.cells,j5]) rfl ⟨rfl,by exact fI⟩
theorem rF (n:Int)(ok:Bool)(w:World):Calls Tryz.prog 198 #[.int .i64 n,.bool ok] w λe w'=>e=.returned (.agg (ni n ok).cells.toArray)/\Below w.heap.size w w':=by
 cases ok;all_goals
  go_enter Tryz.func198,Tryz.ntmps198;go_wp2
 ·refine bodyPost_ret (v:=.agg (ni n false).cells.toArray) (by simp[results,Tryz.results198,go_sem,Val.cells,ni,iG]) rfl ⟨rfl,by exact fI⟩
 ·refine bodyPost_ret (v:=.agg (ni n true).cells.toArray) (by simp[results,Tryz.results198,go_sem,Val.cells,ni]) rfl ⟨rfl,by exact fI⟩
theorem EF (n:Int)(w:World):Calls Tryz.prog 226 #[.int .i64 n] w λe w'=>e=.returned (.agg (uV n).cells.toArray)/\Below w.heap.size w w':=by
 by_cases h:n<0\/575999999<n
 ·have a:Hl (uV n=iG):=Hm (by rw[uV,if_pos h]);rcases h with h|h
  all_goals
   go_enter Tryz.func226,Tryz.ntmps226;go_wp2;refine bodyPost_ret (v:=.agg iG.cells.toArray) (by simp[results,Tryz.results226,go_sem,Val.cells,iG]) rfl ⟨by rw[a.o],by exact fI⟩
 ·have a:Hl (uV n=⟨4,n,⟨#[]⟩⟩):=Hm (by rw[uV,if_neg h]);have b:0<=n:=by omega
  have c:n<=575999999:=by omega
  clear h;go_enter Tryz.func226,Tryz.ntmps226;go_wp2;refine bodyPost_ret (v:=.agg (Val.cells ⟨4,n,⟨#[]⟩⟩).toArray) (by simp[results,Tryz.results226,go_sem,Val.cells]) rfl ⟨by rw[a.o],by exact fI⟩
structure Zr (w:World) (g:Nat):Prop where
 c0:w.cell? ⟨g,0,none⟩=some (.int .i64 0)
 c1:w.cell? ⟨g,1,none⟩=some (.int .i64 0)
 c2:w.cell? ⟨g,2,none⟩=some (.string ⟨#[]⟩)
 f0:w.frozen? ⟨g,0,none⟩=false
 f1:w.frozen? ⟨g,1,none⟩=false
 f2:w.frozen? ⟨g,2,none⟩=false
 lt:g<w.heap.size
theorem Zr.below {w w':World}{g:Nat}(h:Zr w g)(hb:Below w.heap.size w w'):Zr w' g:=
 ⟨fO hb h.lt h.c0,fO hb h.lt h.c1,fO hb h.lt h.c2,((fU hb).2 _ _ h.lt).trans h.f0,((fU hb).2 _ _ h.lt).trans h.f1,((fU hb).2 _ _ h.lt).trans h.f2,by have:=hb.size;have:=h.lt;omega⟩
theorem Zr.made (w:World)(t:TypeId):Zr (w.alloc (.cells #[.int .i64 0,.int .i64 0,.string ⟨#[]⟩] t)) w.heap.size:=by
 constructor<;>simp[go_sem]
theorem tF {b:Func}{p:Tmp}{R:Ending->World->Prop}{a:Act}{w:World}{g:Nat}{k n:Int}{s:ByteArray}(h:b.results= #[.cell p 36])(Z:Zr w g)(d:a.tmps.getD p undef=.pointer (some ⟨g,0,none⟩))(hd:a.defers=[])(c:R (.returned (.agg (Val.cells ⟨k,n,s⟩).toArray)) (((w.setCell ⟨g,0,none⟩ (.int .i64 k)).setCell ⟨g,1,none⟩ (.int .i64 n)).setCell ⟨g,2,none⟩ (.string s))):
  bodyPost Tryz.prog b R .ret a (((w.setCell ⟨g,0,none⟩ (.int .i64 k)).setCell ⟨g,1,none⟩ (.int .i64 n)).setCell ⟨g,2,none⟩ (.string s)):=
 bodyPost_ret (iM (cs:=Val.cells ⟨k,n,s⟩) h _ _ g _ d (iJ Z.c0 Z.c1 Z.c2) Tryz.underlying36 rfl (by kernel_rfl)) hd c
def V3 (w:World)(b o:Nat)(v:Val):Prop:=w.cell? ⟨b,o,none⟩=some (.int .i64 v.kind)/\w.cell? ⟨b,o+1,none⟩=some (.int .i64 v.num)/\w.cell? ⟨b,o+2,none⟩=some (.string v.str)
theorem V3.below {w w':World}{b o:Nat}{v:Val}(h:V3 w b o v)(hb:Below w.heap.size w w')(a:b<w.heap.size):V3 w' b o v:=⟨fO hb a h.1,fO hb a h.2.1,fO hb a h.2.2⟩
theorem below_alloc3 {w:World}{o a b:Obj}:Below w.heap.size w (((w.alloc o).alloc a).alloc b):=fH below_alloc2 fI
theorem nP (w:World)(b c d e:Int)(xs f:ByteArray): ∃a,a=(((w.alloc (.cells #[.int .i64 b,.int .i64 c,.string xs] 36)).alloc (.cells #[.int .i64 d,.int .i64 e,.string f] 36)).alloc (.cells #[.int .i64 0,.int .i64 0,.string ⟨#[]⟩] 36))/\
  V3 a w.heap.size 0 ⟨b,c,xs⟩/\V3 a (w.heap.size+1) 0 ⟨d,e,f⟩/\Hl (Zr a (w.heap.size+1+1))/\Below w.heap.size w a:=by
 refine⟨_,rfl,?_,?_,?_,below_alloc3⟩
 ·exact V3.below (w:=w.alloc (.cells #[.int .i64 b,.int .i64 c,.string xs] 36)) ⟨by simp[go_sem],by simp[go_sem],by simp[go_sem]⟩ below_alloc2 (by simp)
 ·exact V3.below (w:=(w.alloc (.cells #[.int .i64 b,.int .i64 c,.string xs] 36)).alloc (.cells #[.int .i64 d,.int .i64 e,.string f] 36)) ⟨by simp[go_sem],by simp[go_sem],by simp[go_sem]⟩ fI (by simp)
 ·exact Hm (by have:=Zr.made ((w.alloc (.cells #[.int .i64 b,.int .i64 c,.string xs] 36)).alloc (.cells #[.int .i64 d,.int .i64 e,.string f] 36)) 36;simpa using this)
theorem Dq (w:World)(d kd c b:Int)(st nm:ByteArray): ∃a,a=((w.alloc (.cells #[.int .i64 d,.int .i64 kd,.int .i64 c,.string st,.string nm,.int .i64 b] 89)).alloc (.cells #[.int .i64 0,.int .i64 0,.string ⟨#[]⟩] 36))/\Hl (Zr a (w.heap.size+1))/\
  a.cell? ⟨w.heap.size,0,none⟩=some (.int .i64 d)/\a.cell? ⟨w.heap.size,1,none⟩=some (.int .i64 kd)/\a.cell? ⟨w.heap.size,2,none⟩=some (.int .i64 c)/\a.cell? ⟨w.heap.size,3,none⟩=some (.string st)/\a.cell? ⟨w.heap.size,4,none⟩=some (.string nm)/\a.cell? ⟨w.heap.size,5,none⟩=some (.int .i64 b)/\Below w.heap.size w a:=
 ⟨_,rfl,Hm (by have:=Zr.made (w.alloc (.cells #[.int .i64 d,.int .i64 kd,.int .i64 c,.string st,.string nm,.int .i64 b] 89)) 36;simpa using this),by simp[go_sem],by simp[go_sem],by simp[go_sem],by simp[go_sem],by simp[go_sem],by simp[go_sem],below_alloc2⟩
theorem gK {B g:Nat}{w w':World}(h:Below B w w')(a:B<=g)(u v x:Value):Below B w (((w'.setCell ⟨g,0,none⟩ u).setCell ⟨g,1,none⟩ v).setCell ⟨g,2,none⟩ x):=((h.setCell a _).setCell a _).setCell a _
theorem NP {a b:Int}(c:gD a)(d:b≠0): -1073741824<=a.tdiv b/\a.tdiv b<=1073741824:=by
 have h:(a.tdiv b).natAbs<=a.natAbs:=by
  rw[Int.natAbs_tdiv];exact Nat.div_le_self _ _
 unfold gD at c;omega
theorem NQ {a b:Int}(hb:gD b)(c:b≠0):(a.tmod b).natAbs<b.natAbs:=by
 rw[Int.natAbs_tmod];exact Nat.mod_lt _ (by omega)
theorem zb {a b:Int}(c:b≠0):
  (a.tmod b≠0/\(decide (a.tmod b<0) != decide (b<0))=true->a.fdiv b=a.tdiv b-1/\a.fmod b=a.tmod b+b)/\
  (¬(a.tmod b≠0/\(decide (a.tmod b<0) != decide (b<0))=true)->a.fdiv b=a.tdiv b/\a.fmod b=a.tmod b):=by
 have d:=Int.tmod_add_mul_tdiv a b;have g:(a.tmod b).natAbs<b.natAbs:=by rw[Int.natAbs_tmod];exact Nat.mod_lt _ (by omega)
 generalize a.tmod b=r at*;generalize a.tdiv b=q at*;have e:b*(q-1)=b*q-b:=by rw[Int.mul_sub,Int.mul_one]
 constructor
 ·rintro⟨h,hs⟩;rcases Int.lt_or_gt_of_ne c with hb|hb
  ·have:¬r<0:=by intro q;simp[q,hb]at hs
   exact(Int.fdiv_fmod_unique' hb).2 ⟨by rw[e];omega,by omega,by omega⟩
  ·have:r<0:=by
    by_cases q:r<0
    ·exact q
    ·exfalso;simp[q,show ¬b<0 by omega]at hs
   exact(Int.fdiv_fmod_unique (by omega)).2 ⟨by rw[e];omega,by omega,by omega⟩
 ·intro f;rcases Int.lt_or_gt_of_ne c with hb|hb
  ·have:r<=0:=by
    by_cases q:r<=0
    ·exact q
    ·exact absurd ⟨by omega,by simp[hb];omega⟩ f
   exact(Int.fdiv_fmod_unique' hb).2 ⟨d,by omega,by omega⟩
  ·have:0<=r:=by
    by_cases q:0<=r
    ·exact q
    ·exact absurd ⟨by omega,by simp[show ¬b<0 by omega];omega⟩ f
   exact(Int.fdiv_fmod_unique (by omega)).2 ⟨d,by omega,by omega⟩
theorem BC (a:Int):vC a 0=(0,false)/\vF a 0=(0,false):=by simp[vC,vF]
theorem Ho {a b:Int}(d:gD a)(hb:gD b)(c:b≠0):vC a b=(a.fdiv b,true)/\vF a b=(a.fmod b,true):=by simp[vC,vF,ky d,ky hb,c]
theorem za (a b:Int)(i:gD a)(hb:gD b)(j:0<b)(w:World):Calls Tryz.prog 252 #[.int .i64 a,.int .i64 b] w λe w'=>e=.returned (.int .i64 (a.fdiv b))/\w=w':=by
 have c:b≠0:=by omega
 have f:=Hm (zb (a:=a) c);have p:(b==0)=false:=by simpa using c
 have hd:=NP i c;have k:=NQ (a:=a) hb c;have l:IntKind.i64.wrap (a.tdiv b)=a.tdiv b:=IntWalk.i64_in _ (by omega);have m:IntKind.i64.wrap (a.tdiv b-1)=a.tdiv b-1:=IntWalk.i64_in _ (by omega);have n:IntKind.i64.wrap (a.tmod b)=a.tmod b:=IntWalk.i64_in _ (by unfold gD at hb;omega);by_cases g:a.tmod b<0
 ·have d:=Hm (f.o.1 ⟨by omega,by simp[g,show ¬b<0 by omega]⟩);go_enter Tryz.func252,Tryz.ntmps252;go_wp2;go_ret;exact⟨fV (by rw[d.o.1]<;>rfl),rfl⟩
 ·have d:=Hm (f.o.2 (by rintro⟨_,h⟩;simp[g,show ¬b<0 by omega]at h));go_enter Tryz.func252,Tryz.ntmps252;go_wp2;go_ret;exact⟨fV (by rw[d.o.1]<;>rfl),rfl⟩
theorem Cy (a b:Int)(d:gD a)(hb:gD b)(w:World):Calls Tryz.prog 229 #[.int .i64 a,.int .i64 b] w λe w'=>e=.returned (.tuple #[.int .i64 (vC a b).1,.bool (vC a b).2])/\w=w':=by
 have j:=ky d;have k:=ky hb;by_cases f:b=0
 ·subst f;have c:=Hm (BC a);go_enter Tryz.func229,Tryz.ntmps229;go_wp2_with (go_at_call 250;refine(qf _ _).mono ?_;rintro e w' ⟨rfl,rfl⟩);go_ret2;exact⟨by rw[c.o.1]<;>rfl,rfl⟩
 ·have c:=Hm (Ho d hb f);have i:(b==0)=false:=by simpa using f
  have g:IntKind.i64.wrap (-a)= -a:=IntWalk.i64_in _ (by unfold gD at d;omega);have n2:IntKind.i64.wrap (-b)= -b:=IntWalk.i64_in _ (by unfold gD at hb;omega);by_cases h:b<0
  ·go_enter Tryz.func229,Tryz.ntmps229;go_wp2_with (first|(go_at_call 250;refine(qf _ _).mono ?_;rintro e w' ⟨rfl,rfl⟩)|(go_at_call 252;(try rw[g]);(try rw[n2]);refine(za (-a) (-b) (by unfold gD at*;omega) (by unfold gD at*;omega) (by omega) _).mono ?_;rintro e w' ⟨rfl,rfl⟩));go_ret2;exact⟨by rw[c.o.1]<;>rfl,rfl⟩
  ·go_enter Tryz.func229,Tryz.ntmps229;go_wp2_with (first|(go_at_call 250;refine(qf _ _).mono ?_;rintro e w' ⟨rfl,rfl⟩)|(go_at_call 252;refine(za a b d hb (by omega) _).mono ?_;rintro e w' ⟨rfl,rfl⟩));go_ret2;exact⟨by rw[c.o.1]<;>rfl,rfl⟩
theorem NC (a b:Int)(d:gD a)(hb:gD b)(w:World):Calls Tryz.prog 230 #[.int .i64 a,.int .i64 b] w λe w'=>e=.returned (.tuple #[.int .i64 (vF a b).1,.bool (vF a b).2])/\w=w':=by
 by_cases f:b=0
 ·subst f;have c:=Hm (BC a);go_enter Tryz.func230,Tryz.ntmps230;go_wp2_with (go_at_call 229;refine(Cy a 0 d hb _).mono ?_;rintro e w' ⟨rfl,rfl⟩;rw[c.o.1]);go_ret2;exact⟨by rw[c.o.2]<;>rfl,rfl⟩
 ·have c:=Hm (Ho d hb f);have j:=Int.fmod_add_mul_fdiv a b;have g:a.fmod b=a-b*a.fdiv b:=by omega
  have i:=Hm g;have k:=Int.natAbs_fdiv_le_natAbs a b;have h:gD (a.fdiv b):=by unfold gD at*;omega
  have l:=Li hb h;have m:IntKind.i64.wrap (b*a.fdiv b)=b*a.fdiv b:=IntWalk.i64_in _ (by omega);have n2:IntKind.i64.wrap (a-b*a.fdiv b)=a-b*a.fdiv b:=IntWalk.i64_in _ (by unfold gD at d;omega);clear j g k h;go_enter Tryz.func230,Tryz.ntmps230;go_wp2_with (go_at_call 229;refine(Cy a b d hb _).mono ?_;rintro e w' ⟨rfl,rfl⟩;rw[c.o.1]);go_ret2;exact⟨by rw[c.o.2,i.o]<;>rfl,rfl⟩
theorem Dn (w:World)(A A2:Option Addr)(n n2 c c2:Nat)(xs a:List Val)(d:In w A n c xs)(f:In w A2 n2 c2 a):
  Calls Tryz.prog 39 #[.slice A n c,.slice A2 n2 c2] w λe w'=>e=.returned (.bool (gq xs a==0))/\Below w.heap.size w w':=by
 go_enter Tryz.func39,Tryz.ntmps39;have h:=Hm d;clear d;have i:=Hm f;clear f;go_wp2_with fail;refine(oZ _ A A2 n n2 c c2 xs a h.o i.o).mono ?_;rintro e l ⟨rfl,b⟩;have j:=Hm b;clear b;have g:=Hm j.o;have k:=Hm (rfl:gq xs a=gq xs a);go_wp2;go_ret;exact⟨rfl,g.o⟩
theorem Bv (w:World)(A:Option Addr)(n c:Nat)(d:List Ent)(h:In w A n c d)(A2:Option Addr)(n2 c2:Nat)(row:List Val)(D:In w A2 n2 c2 row):
  Calls Tryz.prog 15 #[.slice A n c,.slice A2 n2 c2] w λe w'=>e=.returned (.int .i64 (cntF d row))/\Below w.heap.size w w':=by
 obtain⟨R,p⟩: ∃R,cntF d row=R:=⟨_,rfl⟩;have M:=Hm p;rw[p];clear p;have O:=Hm h.len;have Q:=h.le;go_enter Tryz.func15,Tryz.ntmps15;have g:=Hm h;clear h;have m:=Hm D;clear D;go_wp2;go_loopw [5] (λi wr=> ∃k:Nat,k<=n/\i=.int .i64 k/\R=cntF (d.drop k) row/\Below w.heap.size w wr) (λi _=>n-(RowKit.intOf i).toNat)
 case atStart=>exact⟨0,Nat.zero_le _,rfl,M.o.symm,Below.refl _ _⟩
 case round=>
  obtain⟨k,S,rfl,C,hb⟩:=hrel;have l:=Hm C;clear C;have g:=Hm (g.o.below hb);have m:=Hm (m.o.below hb);have t:=Hm hb;clear hb;by_cases N:k<n
  ·obtain⟨b,off,x,rfl,B,r,G,F,E,v,y,z,P⟩:=g.o.ent N;have T:(0:Int)<=(k:Int):=by omega
   have U:(k:Int)<(n:Int):=by omega
   have J:=Hm z;have H:=Hm v;have I:=Hm y;clear z;go_wp2_with fail;refine(Dn _ G A2 F n2 E c2 x.row row (by exact J.o) m.o).mono ?_;rintro e V ⟨rfl,q⟩;have s:=Hm q;have u:=Hm (fH t.o q);clear q;have v:=fO s.o B H.o;have y:=fO s.o B I.o;have K:=Hm u.o;have j:=Hm u.o;by_cases a:gq x.row row=0
   ·obtain rfl:R=x.count:=by rw[l.o,r.o,cntF,if_pos a]
    have f:(gq x.row row==0)=true:=by simpa using a
    rw[f];clear f a;go_wp2;all_goals(try(exfalso;go_light;simp_all;done));go_ret;exact⟨rfl,j.o⟩
   ·have f:(gq x.row row==0)=false:=by simpa using a
    have L:Hl (R=cntF (d.drop (k+1)) row):=Hm (by rw[l.o,r.o,cntF,if_neg a]);rw[f];clear f a;go_wp2;all_goals(try(exfalso;go_light;simp_all;done));go_roundw
    case rel=>exact⟨k+1,by omega,by go_num,L.o,K.o⟩
    case measure=>simp[RowKit.intOf];omega
  ·obtain rfl:R=0:=by rw[l.o,gG g.o.len (by omega)];rfl
   have j:=Hm t.o;go_wp2;go_ret;exact⟨rfl,j.o⟩
end Go.Proofs.YtopjjlmfilgngaaGreatDoor
