/-
  value.Encode. (Printed by gen_enc.py.)
-/
import Derived.Test.YtopjjlmfilgngaaGreatDoorEnc
import Derived.Test.YtopjjlmfilgngaaGreatDoorGad
namespace Go.Proofs.YtopjjlmfilgngaaGreatDoor
set_option maxHeartbeats 8000000
set_option maxRecDepth 100000
open Go.RowKit
set_option linter.unusedSimpArgs false
set_option linter.unusedVariables false
def dw (v:Val):List UInt8:=
 u8 v.kind :: (if v.kind=1 then [u8 v.num] else if v.kind=2 then fO (v.num+1073741824) else if v.kind=4 then fO v.num else if v.kind=3 then u8 v.str.size :: v.str.data.toList else [])
def encR (row:List Val):List UInt8:=u8 row.length :: row.flatMap dw
def encS (row:List Val):Int×List UInt8:=if 12<row.length then (2,[]) else if ag je 0 row≠0 then (8,[]) else (0,encR row)
theorem jl (v:Val){s:ByteArray}(h:s.size<=64)(hv:v.str=s):(dw v).length<=66:=by
 have h1:v.str.data.toList.length<=64:=by rw[hv];exact h
 rw[dw]
 split
 ·simp
 ·split
  ·simp[fO]
  ·split
   ·simp[fO]
   ·split
    ·simp only[List.length_cons];omega
    ·simp
theorem iZ {v:Val}(h:valid v=true):(v.kind=0/\v.num=0/\v.str.size=0)\/(v.kind=1/\(v.num=0\/v.num=1)/\v.str.size=0)\/(v.kind=2/\ -1073741824<=v.num/\v.num<=1073741824/\v.str.size=0)\/(v.kind=3/\v.num=0/\v.str.size<=64)\/(v.kind=4/\0<=v.num/\v.num<=575999999/\v.str.size=0):=by
 have hs: ∀s:ByteArray,di s=true->s.size=0:=λs hs=>by
  rw[di,ByteArray.toList_eq,List.isEmpty_iff]at hs;have:=congrArg List.length hs;simpa using this
 rw[valid]at h;by_cases h0:v.kind=0
 ·rw[if_pos h0]at h;simp at h;exact .inl ⟨h0,h.1,hs _ h.2⟩
 rw[if_neg h0]at h;by_cases h1:v.kind=1
 ·rw[if_pos h1]at h;simp at h;exact .inr (.inl ⟨h1,h.2,hs _ h.1⟩)
 rw[if_neg h1]at h;by_cases h2:v.kind=2
 ·rw[if_pos h2]at h;simp at h;exact .inr (.inr (.inl ⟨h2,h.2.1,h.2.2,hs _ h.1⟩))
 rw[if_neg h2]at h;by_cases h3:v.kind=3
 ·rw[if_pos h3]at h;simp at h;exact .inr (.inr (.inr (.inl ⟨h3,h.1,h.2⟩)))
 rw[if_neg h3]at h;by_cases h4:v.kind=4
 ·rw[if_pos h4]at h;simp at h;exact .inr (.inr (.inr (.inr ⟨h4,h.2.1,h.2.2,hs _ h.1⟩)))
 rw[if_neg h4]at h;cases h
theorem qa: ∀{w:World} {S:Nat->Prop} {bs:List UInt8} {cs:List Value},Cells w S cs bs->cs=bs.map (λb=>Value.int .u8 b.toNat)
 | _,_,[],cs,h=>h
 |w,S,b :: bs,cs,⟨c0,c1,e,h0,h1⟩=>by
  rw[e,show c0=[.int .u8 b.toNat] from h0,qa h1];rfl
theorem OL.built {α:Type}[Rep α]{w:World}{e:TypeId}{B:Nat}{O:Nat->Prop}{T:List TypeId}{arr:Array Value}{m:Nat}{xs:List α}(hB:B<=w.heap.size)(hm:m<=maxLen)(hl:xs.length=m)(hs:arr.size=m*Rep.size α)(hc:Cells (w.alloc (.cells arr e)) (BS B O T (w.alloc (.cells arr e))) arr.toList xs):
  OL e B O T (w.alloc (.cells arr e)) (.slice (some ⟨w.heap.size,0,none⟩) m m) xs:=
 ⟨⟨arr.toList,⟨by rw[Array.length_toList,hs,hl],.inr ⟨w.heap.size,m,arr,by rw[hl],hB,heap_alloc_new w _,by omega,hm,hs,by rw[hl,<-hs];exact List.take_of_length_le (by simp)⟩⟩,hc⟩,Nat.le_trans hB (ae (o:=.cells arr e)).size⟩
theorem sw {ops:Array Oper}{rest:List Oper}{o:Oper}{a:Act}{Q:Exit->Act->World->Prop}{w:World}(hgd:o.guard=none)(sl x:Operand)(ho:o.op=.call {callee:=.builtin .append,args:= #[sl,x],argTypes:= #[120,9]}){B:Nat}{v:Value}{bs:List UInt8}(hO:OB B w v bs)(hs:a.eval sl=v)(s:ByteArray)(hx:a.eval x=.string s)(h63:bs.length+s.size<=maxLen)(hbytes:bs.length+s.size<=140737488355328)(h: ∀v' w',OB B w' v' (bs++s.data.toList)->Below B w w'->wpList Tryz.prog ops Q rest (a.put o.dst v') w'):wpList Tryz.prog ops Q (o :: rest) a w:=by
 obtain ⟨i0,hi,hz0,hz1,hz2⟩:=info_parts sM;obtain ⟨cs,h1,h2⟩:=hO.own;obtain rfl:=qa h2;refine Lib.wpList_append_own_string w hgd sl x 120 9 ho B 5 i0 Tryz.underlying120 Tryz.underlying9 hi hz0 hz1 hz2 v bs.length _ hs h1 s hx h63 hbytes hO.base λv' w' g1 g2 _=>?_;have hb:Below B w w':=(Below.refl B w).grown g2 hO.base λj q=>(nD h1 q).1;refine h v' w' ⟨⟨_,?_,Cells.bytes rfl⟩,Nat.le_trans hO.base hb.size⟩ hb;rw[List.length_append,List.map_append];exact g1
theorem own_ne {α:Type}[Rep α]{e:TypeId}{B:Nat}{O:Nat->Prop}{T:List TypeId}{w:World}{v:Value}{xs:List α}(h:OL e B O T w v xs):some w.heap.size≠v.ownBlock:=λq=>by
 have:=(h.ty q.symm).2.lt;omega
theorem jW {b n:Nat}{v v':Value}(h:some b≠v.ownBlock)(hb:b<n)(hat:v'.ownBlock=v.ownBlock\/ ∃k,v'.ownBlock=some k/\n<=k):some b≠v'.ownBlock:=λq=>by
 rcases hat with h1|⟨k,h1,h2⟩
 ·exact h (q.trans h1)
 ·rw[h1]at q;injection q with q;omega
theorem dG {row:List Val}{k:Nat}{x:Val}{l:List Val}(h:row.drop k=x :: l):(row.take (k+1)).flatMap dw=(row.take k).flatMap dw++dw x:=by
 rw[bf h,List.flatMap_append];simp
theorem qi (w:World)(A:Option Addr)(n c:Nat)(row:List Val)(hx:In w A n c row):
  Calls Tryz.prog 63 #[.slice A n c] w
   λe w'=>(∃v,e=.returned (.tuple #[v,.int .i64 (encS row).1])/\OB w.heap.size w' v (encS row).2)/\Below w.heap.size w w':=by
 have HD:=hide (show encS row=if 12<row.length then (2,[]) else if ag je 0 row≠0 then (8,[]) else (0,encR row) from rfl);obtain ⟨R,hR⟩: ∃R,encS row=R:=⟨_,rfl⟩;rw[hR]at HD;rw[hR];clear hR;have bS:=hide hx;have h63:=hx.le;clear hx;by_cases h12:12<n
 ·have he:Hid (R=(2,[])):=hide (by rw[HD.out,bS.out.len,if_pos h12]);obtain rfl:=he.out;go_enter Tryz.func63,Tryz.ntmps63;go_wp2;all_goals (try (exfalso;go_light;simp_all;done));go_ret2;exact ⟨⟨_,rfl,OL.nil (Nat.le_refl _)⟩,Below.refl _ _⟩
 have HD2:Hid (R=if ag je 0 row≠0 then (8,[]) else (0,encR row)):=hide (by rw[HD.out,bS.out.len,if_neg h12]);have HB0:Hid (OB w.heap.size (w.alloc (.cells #[.int .u8 (n:Int)] 5)) (.slice (some ⟨w.heap.size,0,none⟩) 1 1) [u8 n]):=hide (OL.built (Nat.le_refl _) (by simp only[maxLen];omega) rfl rfl (Cells.bytes (by
  simp only[List.map_cons,List.map_nil];rw[bU (n:=(n:Int)) (m:=(n:Int)) (by omega)])))
 go_enter Tryz.func63,Tryz.ntmps63;go_wp2;go_loopw [4,16] (λo i wr=> ∃(k:Nat) (bs:List UInt8),k<=n/\i=.int .i64 k/\bs=u8 n :: (row.take k).flatMap dw/\bs.length<=1+66*k/\ag je 0 row=ag je k (row.drop k)/\OB w.heap.size wr o bs/\Below w.heap.size w wr) (λ_ i _=>n-(RowKit.intOf i).toNat)
 case atStart=>exact ⟨0,[u8 n],Nat.zero_le _,rfl,by simp,by simp,rfl,HB0.out,ae⟩
 case round=>
  clear HB0;obtain ⟨k,bs,hk,rfl,hbs,hbl,heq,ho,hb⟩:=hrel;have rC:=hide hbs;have HE:=hide heq;have HO:=hide ho;have HB:=hide hb;have dE:=hide (own_ne ho);clear hbs heq ho hb;by_cases hlt:k<n
  ·obtain ⟨b,off,x,rfl,hBb,HX,f0,f1,f2,f3⟩:=(bS.out.below HB.out).val hlt;go_wp2_with fail;refine (jB x f3 _).mono ?_;rintro e w1 ⟨rfl,hb1⟩;have wY:=hide (aa (aa HB.out ae) hb1);have c0:w1.cell? ⟨wr.heap.size,0,none⟩=some (.int .i64 x.kind):=ah hb1 (by simp) (by simp[go_sem]);have c1:w1.cell? ⟨wr.heap.size,1,none⟩=some (.int .i64 x.num):=ah hb1 (by simp) (by simp[go_sem]);have c2:w1.cell? ⟨wr.heap.size,2,none⟩=some (.string x.str):=ah hb1 (by simp) (by simp[go_sem]);have yX:=hide ((HO.out.below ae).below hb1);have Io:=hide (lt_of_cell c0);clear hb1 f0 f1 f2 f3;cases hv:valid x
   ·have he:Hid (R=(8,[])):=hide (by
     have h1:ag je 0 row=8:=by rw[HE.out,HX.out];exact aU (by rw[je,hv];rfl) (by omega)
     rw[HD2.out,h1,if_pos (by omega)])
    obtain rfl:=he.out;go_wp2;all_goals (try (exfalso;go_light;simp_all;done));go_ret2;exact ⟨⟨_,rfl,OL.nil wY.out.size⟩,wY.out⟩
   ·have HC:Hid (ag je 0 row=ag je (k+1) (row.drop (k+1))):=hide (by rw[HE.out,HX.out];exact bF (by rw[je,hv];rfl));have Np:=iZ hv;clear hv;obtain ⟨xk,xn,xs⟩:=x;simp only at c0 c1 c2 Np;rcases Np with ⟨rfl,_,hst⟩|⟨rfl,LW,hst⟩|⟨rfl,hx1,hx2,hst⟩|⟨rfl,rfl,hst⟩|⟨rfl,hx1,hx2,hst⟩
    ·have hst:xs.size<=64:=by omega
     have tQ:Hid ([Value.int .u8 (0)]=[.int .u8 ((u8 (0)).toNat:Int)]):=hide (by rw[bU (n:=0) (m:=0) (by omega)]);have hp2:(bs).length+1<=maxLen:=by simp only[maxLen];(try simp only[List.length_append,List.length_cons,List.length_nil]);omega
     have hq2:((bs).length+1)*1<=140737488355328:=by (try simp only[List.length_append,List.length_cons,List.length_nil]);omega
     go_wp2_with (at_builtin;refine aT _ rfl _ _ _ rfl dQ (by simp) _ _ rfl yX.out rfl rfl (u8 (0)) tQ.out hp2 hq2 ?_;intro v2 w2 ho2 hb2 hg2 mX;have nL:=hide ho2;have c0:=hg2.cell (a:=⟨wr.heap.size,0,none⟩) c0 dE.out;have c1:=hg2.cell (a:=⟨wr.heap.size,1,none⟩) c1 dE.out;have c2:=hg2.cell (a:=⟨wr.heap.size,2,none⟩) c2 dE.out;have pq:=hide (jW dE.out Io.out mX);have Gy:=hide (lt_of_cell c0);have HW2:=hide hb2;clear ho2 hg2 mX hb2);have Dq:=hide (wY.out.trans HW2.out);have uR:Hid (bs++[u8 0]=u8 n :: (row.take (k+1)).flatMap dw):=hide (by rw[dG HX.out,<-List.cons_append,<-rC.out,show dw _=_ from rfl];simp[dw,List.append_assoc]);have AL:(bs++[u8 0]).length<=1+66*(k+1):=by
      rw[uR.out,dG HX.out,List.length_cons,List.length_append];have h1:(dw ⟨0,xn,xs⟩).length<=66:=jl _ hst rfl;have h2:=hbl;rw[rC.out,List.length_cons]at h2;omega
     have Dr:=hide (nL.out);go_wp2;go_roundw
     case rel=>exact ⟨k+1,_,by omega,by go_num,uR.out,AL,HC.out,Dr.out,Dq.out⟩
     case measure=>simp[RowKit.intOf];omega
    ·have hst:xs.size<=64:=by omega
     have hx1:0<=xn:=by omega
     have hx2:xn<=1:=by omega
     have tQ:Hid ([Value.int .u8 (1)]=[.int .u8 ((u8 (1)).toNat:Int)]):=hide (by rw[bU (n:=1) (m:=1) (by omega)]);have hp2:(bs).length+1<=maxLen:=by simp only[maxLen];(try simp only[List.length_append,List.length_cons,List.length_nil]);omega
     have hq2:((bs).length+1)*1<=140737488355328:=by (try simp only[List.length_append,List.length_cons,List.length_nil]);omega
     have FJ:Hid ([Value.int .u8 (xn)]=[.int .u8 ((u8 (xn)).toNat:Int)]):=hide (by rw[bU (n:=xn) (m:=xn) (by omega)]);have hp3:(bs++[u8 1]).length+1<=maxLen:=by simp only[maxLen];(try simp only[List.length_append,List.length_cons,List.length_nil]);omega
     have hq3:((bs++[u8 1]).length+1)*1<=140737488355328:=by (try simp only[List.length_append,List.length_cons,List.length_nil]);omega
     go_wp2_with (first|(at_builtin;refine aT _ rfl _ _ _ rfl dQ (by simp) _ _ rfl yX.out rfl rfl (u8 (1)) tQ.out hp2 hq2 ?_;intro v2 w2 ho2 hb2 hg2 mX;have nL:=hide ho2;have c0:=hg2.cell (a:=⟨wr.heap.size,0,none⟩) c0 dE.out;have c1:=hg2.cell (a:=⟨wr.heap.size,1,none⟩) c1 dE.out;have c2:=hg2.cell (a:=⟨wr.heap.size,2,none⟩) c2 dE.out;have pq:=hide (jW dE.out Io.out mX);have Gy:=hide (lt_of_cell c0);have HW2:=hide hb2;clear ho2 hg2 mX hb2)|(at_builtin;refine aT _ rfl _ _ _ rfl dQ (by simp) _ _ rfl nL.out rfl rfl (u8 (xn)) FJ.out hp3 hq3 ?_;intro v3 w3 ho3 hb3 hg3 BP;have Dw:=hide ho3;have c0:=hg3.cell (a:=⟨wr.heap.size,0,none⟩) c0 pq.out;have c1:=hg3.cell (a:=⟨wr.heap.size,1,none⟩) c1 pq.out;have c2:=hg3.cell (a:=⟨wr.heap.size,2,none⟩) c2 pq.out;have Kv:=hide (jW pq.out Gy.out BP);have OV:=hide (lt_of_cell c0);have HW3:=hide hb3;clear ho3 hg3 BP hb3));have Dq:=hide ((wY.out.trans HW2.out).trans HW3.out);have uR:Hid ((bs++[u8 1])++[u8 xn]=u8 n :: (row.take (k+1)).flatMap dw):=hide (by rw[dG HX.out,<-List.cons_append,<-rC.out,show dw _=_ from rfl];simp[dw,List.append_assoc]);have AL:((bs++[u8 1])++[u8 xn]).length<=1+66*(k+1):=by
      rw[uR.out,dG HX.out,List.length_cons,List.length_append];have h1:(dw ⟨1,xn,xs⟩).length<=66:=jl _ hst rfl;have h2:=hbl;rw[rC.out,List.length_cons]at h2;omega
     have Dr:=hide (Dw.out);go_wp2;go_roundw
     case rel=>exact ⟨k+1,_,by omega,by go_num,uR.out,AL,HC.out,Dr.out,Dq.out⟩
     case measure=>simp[RowKit.intOf];omega
    ·have hst:xs.size<=64:=by omega
     have tQ:Hid ([Value.int .u8 (2)]=[.int .u8 ((u8 (2)).toNat:Int)]):=hide (by rw[bU (n:=2) (m:=2) (by omega)]);have hp2:(bs).length+1<=maxLen:=by simp only[maxLen];(try simp only[List.length_append,List.length_cons,List.length_nil]);omega
     have hq2:((bs).length+1)*1<=140737488355328:=by (try simp only[List.length_append,List.length_cons,List.length_nil]);omega
     have PQ:IntKind.i64.wrap (xn+1073741824)=xn+1073741824:=IntWalk.i64_in _ (by omega);have hpw:(bs++[u8 2]).length<=1048576:=by (try simp only[List.length_append,List.length_cons,List.length_nil]);omega
     go_wp2_with (first|(at_builtin;refine aT _ rfl _ _ _ rfl dQ (by simp) _ _ rfl yX.out rfl rfl (u8 (2)) tQ.out hp2 hq2 ?_;intro v2 w2 ho2 hb2 hg2 mX;have nL:=hide ho2;have c0:=hg2.cell (a:=⟨wr.heap.size,0,none⟩) c0 dE.out;have c1:=hg2.cell (a:=⟨wr.heap.size,1,none⟩) c1 dE.out;have c2:=hg2.cell (a:=⟨wr.heap.size,2,none⟩) c2 dE.out;have pq:=hide (jW dE.out Io.out mX);have Gy:=hide (lt_of_cell c0);have HW2:=hide hb2;clear ho2 hg2 mX hb2)|(go_at_call 88;refine (wP _ w.heap.size _ _ nL.out (xn+1073741824) (by omega) (by omega) hpw).mono ?_;rintro e w3 ⟨⟨v3,rfl,ho3⟩,hg3,hb3⟩;have Dw:=hide ho3;have HW3:=hide hb3;clear ho3 hg3 hb3));have Dq:=hide ((wY.out.trans HW2.out).trans HW3.out);have uR:Hid ((bs++[u8 2])++fO (xn+1073741824)=u8 n :: (row.take (k+1)).flatMap dw):=hide (by rw[dG HX.out,<-List.cons_append,<-rC.out,show dw _=_ from rfl];simp[dw,List.append_assoc]);have AL:((bs++[u8 2])++fO (xn+1073741824)).length<=1+66*(k+1):=by
      rw[uR.out,dG HX.out,List.length_cons,List.length_append];have h1:(dw ⟨2,xn,xs⟩).length<=66:=jl _ hst rfl;have h2:=hbl;rw[rC.out,List.length_cons]at h2;omega
     have Dr:=hide (Dw.out);go_wp2;go_roundw
     case rel=>exact ⟨k+1,_,by omega,by go_num,uR.out,AL,HC.out,Dr.out,Dq.out⟩
     case measure=>simp[RowKit.intOf];omega
    ·have hst:xs.size<=64:=by omega
     have tQ:Hid ([Value.int .u8 (3)]=[.int .u8 ((u8 (3)).toNat:Int)]):=hide (by rw[bU (n:=3) (m:=3) (by omega)]);have hp2:(bs).length+1<=maxLen:=by simp only[maxLen];(try simp only[List.length_append,List.length_cons,List.length_nil]);omega
     have hq2:((bs).length+1)*1<=140737488355328:=by (try simp only[List.length_append,List.length_cons,List.length_nil]);omega
     have FJ:Hid ([Value.int .u8 ((xs.size:Int))]=[.int .u8 ((u8 ((xs.size:Int))).toNat:Int)]):=hide (by rw[bU (n:=(xs.size:Int)) (m:=(xs.size:Int)) (by omega)]);have hp3:(bs++[u8 3]).length+1<=maxLen:=by simp only[maxLen];(try simp only[List.length_append,List.length_cons,List.length_nil]);omega
     have hq3:((bs++[u8 3]).length+1)*1<=140737488355328:=by (try simp only[List.length_append,List.length_cons,List.length_nil]);omega
     have JY:((bs++[u8 3])++[u8 (xs.size:Int)]).length+xs.size<=maxLen:=by simp only[maxLen,List.length_append,List.length_cons,List.length_nil];omega
     have hq4:((bs++[u8 3])++[u8 (xs.size:Int)]).length+xs.size<=140737488355328:=by simp only[List.length_append,List.length_cons,List.length_nil];omega
     go_wp2_with (first|(at_builtin;refine aT _ rfl _ _ _ rfl dQ (by simp) _ _ rfl yX.out rfl rfl (u8 (3)) tQ.out hp2 hq2 ?_;intro v2 w2 ho2 hb2 hg2 mX;have nL:=hide ho2;have c0:=hg2.cell (a:=⟨wr.heap.size,0,none⟩) c0 dE.out;have c1:=hg2.cell (a:=⟨wr.heap.size,1,none⟩) c1 dE.out;have c2:=hg2.cell (a:=⟨wr.heap.size,2,none⟩) c2 dE.out;have pq:=hide (jW dE.out Io.out mX);have Gy:=hide (lt_of_cell c0);have HW2:=hide hb2;clear ho2 hg2 mX hb2)|(at_builtin;refine aT _ rfl _ _ _ rfl dQ (by simp) _ _ rfl nL.out rfl rfl (u8 ((xs.size:Int))) FJ.out hp3 hq3 ?_;intro v3 w3 ho3 hb3 hg3 BP;have Dw:=hide ho3;have c0:=hg3.cell (a:=⟨wr.heap.size,0,none⟩) c0 pq.out;have c1:=hg3.cell (a:=⟨wr.heap.size,1,none⟩) c1 pq.out;have c2:=hg3.cell (a:=⟨wr.heap.size,2,none⟩) c2 pq.out;have Kv:=hide (jW pq.out Gy.out BP);have OV:=hide (lt_of_cell c0);have HW3:=hide hb3;clear ho3 hg3 BP hb3)|(at_builtin;refine sw rfl _ _ rfl Dw.out rfl xs rfl JY hq4 ?_;intro v4 w4 Ja hb4;have Ou:=hide Ja;have OD:=hide hb4;clear Ja hb4));have Dq:=hide (((wY.out.trans HW2.out).trans HW3.out).trans OD.out);have uR:Hid (((bs++[u8 3])++[u8 (xs.size:Int)])++xs.data.toList=u8 n :: (row.take (k+1)).flatMap dw):=hide (by rw[dG HX.out,<-List.cons_append,<-rC.out,show dw _=_ from rfl];simp[dw,List.append_assoc]);have AL:(((bs++[u8 3])++[u8 (xs.size:Int)])++xs.data.toList).length<=1+66*(k+1):=by
      rw[uR.out,dG HX.out,List.length_cons,List.length_append];have h1:(dw ⟨3,0,xs⟩).length<=66:=jl _ hst rfl;have h2:=hbl;rw[rC.out,List.length_cons]at h2;omega
     have Dr:=hide (Ou.out);go_wp2;go_roundw
     case rel=>exact ⟨k+1,_,by omega,by go_num,uR.out,AL,HC.out,Dr.out,Dq.out⟩
     case measure=>simp[RowKit.intOf];omega
    ·have hst:xs.size<=64:=by omega
     have tQ:Hid ([Value.int .u8 (4)]=[.int .u8 ((u8 (4)).toNat:Int)]):=hide (by rw[bU (n:=4) (m:=4) (by omega)]);have hp2:(bs).length+1<=maxLen:=by simp only[maxLen];(try simp only[List.length_append,List.length_cons,List.length_nil]);omega
     have hq2:((bs).length+1)*1<=140737488355328:=by (try simp only[List.length_append,List.length_cons,List.length_nil]);omega
     have hpw:(bs++[u8 4]).length<=1048576:=by (try simp only[List.length_append,List.length_cons,List.length_nil]);omega
     go_wp2_with (first|(at_builtin;refine aT _ rfl _ _ _ rfl dQ (by simp) _ _ rfl yX.out rfl rfl (u8 (4)) tQ.out hp2 hq2 ?_;intro v2 w2 ho2 hb2 hg2 mX;have nL:=hide ho2;have c0:=hg2.cell (a:=⟨wr.heap.size,0,none⟩) c0 dE.out;have c1:=hg2.cell (a:=⟨wr.heap.size,1,none⟩) c1 dE.out;have c2:=hg2.cell (a:=⟨wr.heap.size,2,none⟩) c2 dE.out;have pq:=hide (jW dE.out Io.out mX);have Gy:=hide (lt_of_cell c0);have HW2:=hide hb2;clear ho2 hg2 mX hb2)|(go_at_call 88;refine (wP _ w.heap.size _ _ nL.out (xn) (by omega) (by omega) hpw).mono ?_;rintro e w3 ⟨⟨v3,rfl,ho3⟩,hg3,hb3⟩;have Dw:=hide ho3;have HW3:=hide hb3;clear ho3 hg3 hb3));have Dq:=hide ((wY.out.trans HW2.out).trans HW3.out);have uR:Hid ((bs++[u8 4])++fO (xn)=u8 n :: (row.take (k+1)).flatMap dw):=hide (by rw[dG HX.out,<-List.cons_append,<-rC.out,show dw _=_ from rfl];simp[dw,List.append_assoc]);have AL:((bs++[u8 4])++fO (xn)).length<=1+66*(k+1):=by
      rw[uR.out,dG HX.out,List.length_cons,List.length_append];have h1:(dw ⟨4,xn,xs⟩).length<=66:=jl _ hst rfl;have h2:=hbl;rw[rC.out,List.length_cons]at h2;omega
     have Dr:=hide (Dw.out);go_wp2;go_roundw
     case rel=>exact ⟨k+1,_,by omega,by go_num,uR.out,AL,HC.out,Dr.out,Dq.out⟩
     case measure=>simp[RowKit.intOf];omega
  ·have he:Hid (R=(0,bs)):=hide (by
    have h1:ag je 0 row=0:=by rw[HE.out,aM bS.out.len (by omega),ag]
    rw[HD2.out,h1,if_neg (by omega),rC.out,List.take_of_length_le (by rw[bS.out.len];omega),encR,bS.out.len])
   obtain rfl:=he.out;go_wp2;all_goals (try (exfalso;go_light;simp_all;done));go_ret2;exact ⟨⟨_,rfl,HO.out⟩,HB.out⟩
end Go.Proofs.YtopjjlmfilgngaaGreatDoor
