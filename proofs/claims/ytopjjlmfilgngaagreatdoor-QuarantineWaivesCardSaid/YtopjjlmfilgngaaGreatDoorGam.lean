/-
  value.word, value.Encode: the bytes of a row. value.Encode. (Printed by gen_enc.py.) Plain law: the encodings of two valid rows are equal only if the rows are. No program is in sight. A map from strings that the call has made: what lies at each key. No program is in sight. A map from strings to lists of strings that the call builds: each list is the call's own. No program is in sight.
-/
import Derived.Lib.AppendStr
import Derived.Laws.IdiomStrings
import Derived.Test.YtopjjlmfilgngaaGreatDoorGai
import Derived.Test.YtopjjlmfilgngaaGreatDoorGrp
import Derived.Test.YtopjjlmfilgngaaGreatDoorGad
import Derived.Test.YtopjjlmfilgngaaGreatDoorGae
namespace Go.Proofs.YtopjjlmfilgngaaGreatDoor
set_option maxHeartbeats 8000000
set_option maxRecDepth 100000
open Go.RowKit
set_option linter.unusedSimpArgs false
set_option linter.unusedVariables false
instance:Rep UInt8 where
 size:=1
 rd _ _ cs b:=cs=[.int .u8 b.toNat]
 len h:=by rw[h];rfl
 keep _ h:=h
 mono _ h:=h
instance:One UInt8:=⟨by rintro w S cs a rfl u hu;simp at hu;subst hu;rfl⟩
theorem Ca:(Tryz.prog.info? 5).map (λi=>(i.zero,i.size,i.bytes))=some (some (.int .u8 0),1,1):=by kernel_rfl
theorem iQ:Elem Tryz.prog 120 5 1 1:=ni _ Tryz.underlying120 Ca rfl (by decide)
abbrev OB (B:Nat)(w:World)(v:Value)(bs:List UInt8):Prop:=OL 5 B (λ_=>False) [] w v bs
def u8 (n:Int):UInt8:=UInt8.ofNat (n % 256).toNat
def kM (n:Int):List UInt8:=[u8 (n / 16777216),u8 (n / 65536),u8 (n / 256),u8 n]
theorem II (n:Int):((u8 n).toNat:Int)=n % 256:=by
 have h0:0<=n % 256:=Int.emod_nonneg _ (by decide);have h1:n % 256<256:=Int.emod_lt_of_pos _ (by decide);rw[u8,UInt8.toNat_ofNat'];omega
theorem fU {n m:Int}(h:m=n % 256):Value.int .u8 m=.int .u8 ((u8 n).toNat:Int):=by rw[II,h]
theorem Cells.bytes {w:World}{S:Nat->Prop}: ∀{bs:List UInt8} {cs:List Value},cs=bs.map (λb=>Value.int .u8 b.toNat)->Cells w S cs bs
 | [],cs,h=>h
 |b :: bs,cs,h=>⟨[.int .u8 b.toNat],bs.map (λb=>Value.int .u8 b.toNat),by rw[h];rfl,rfl,Cells.bytes rfl⟩
theorem Gj (W:World)(B:Nat)(v:Value)(bs:List UInt8)(hO:OB B W v bs)(n:Int)(h0:0<=n)(h1:n<4294967296)(hl:bs.length<=1048576):
  Calls Tryz.prog 88 #[v,.int .i64 n] W λe w'=>(∃v',e=.returned v'/\OB B w' v' (bs++kM n))/\W.grownBy w' v.ownBlock/\Below B W w':=by
 have HO:=hide hO;have HC:=hide (Cells.bytes (w:=W.alloc (.cells #[.int .u8 (n / 16777216),.int .u8 (n / 65536 % 256),.int .u8 (n / 256 % 256),.int .u8 (n % 256)] 5)) (S:=BS B (λ_=>False) [] (W.alloc (.cells #[.int .u8 (n / 16777216),.int .u8 (n / 65536 % 256),.int .u8 (n / 256 % 256),.int .u8 (n % 256)] 5))) (bs:=kM n) (cs:=[.int .u8 (n / 16777216),.int .u8 (n / 65536 % 256),.int .u8 (n / 256 % 256),.int .u8 (n % 256)]) (by
  simp only[kM,List.map_cons,List.map_nil];rw[fU (n:=n / 16777216) (by omega),fU (n:=n / 65536) rfl,fU (n:=n / 256) rfl,fU (n:=n) rfl]))
 have Y2:=hide (wN W #[.int .u8 (n / 16777216),.int .u8 (n / 65536 % 256),.int .u8 (n / 256 % 256),.int .u8 (n % 256)] 5 1 4 rfl);have PM:=hide (hO.below (ae (o:=.cells #[.int .u8 (n / 16777216),.int .u8 (n / 65536 % 256),.int .u8 (n / 256 % 256),.int .u8 (n % 256)] 5)));have hm1:bs.length+4<=maxLen:=by simp only[maxLen];omega
 have hm2:(bs.length+4)*1<=140737488355328:=by omega
 go_enter Tryz.func88,Tryz.ntmps88;go_wp2_with (at_builtin;refine pG _ rfl _ _ _ rfl iQ (by simp) PM.out rfl (some ⟨W.heap.size,0,none⟩) 4 4 _ (kM n) rfl (λh=>by cases h) Y2.out HC.out rfl hm1 hm2 ?_;intro v1 w9 oQ fK qR kJ);have qG:=hide oQ;have vP:=hide ((Below.grows (ae (w:=W)) v.ownBlock).trans qR);have uB:=hide (((ae (w:=W)).mono HO.out.base).trans fK);clear oQ fK qR kJ;go_wp2;go_ret;exact ⟨⟨_,rfl,qG.out⟩,vP.out,uB.out⟩
def ig (v:Val):List UInt8:=
 u8 v.kind :: (if v.kind=1 then [u8 v.num] else if v.kind=2 then kM (v.num+1073741824) else if v.kind=4 then kM v.num else if v.kind=3 then u8 v.str.size :: v.str.data.toList else [])
def encR (row:List Val):List UInt8:=u8 row.length :: row.flatMap ig
def encS (row:List Val):Int×List UInt8:=if 12<row.length then (2,[]) else if ai lK 0 row≠0 then (8,[]) else (0,encR row)
theorem oK (v:Val){s:ByteArray}(h:s.size<=64)(hv:v.str=s):(ig v).length<=66:=by
 have h1:v.str.data.toList.length<=64:=by rw[hv];exact h
 rw[ig]
 split
 ·simp
 ·split
  ·simp[kM]
  ·split
   ·simp[kM]
   ·split
    ·simp only[List.length_cons];omega
    ·simp
theorem nN {v:Val}(h:valid v=true):(v.kind=0/\v.num=0/\v.str.size=0)\/(v.kind=1/\(v.num=0\/v.num=1)/\v.str.size=0)\/(v.kind=2/\ -1073741824<=v.num/\v.num<=1073741824/\v.str.size=0)\/(v.kind=3/\v.num=0/\v.str.size<=64)\/(v.kind=4/\0<=v.num/\v.num<=575999999/\v.str.size=0):=by
 have hs: ∀s:ByteArray,ek s=true->s.size=0:=λs hs=>by
  rw[ek,ByteArray.toList_eq,List.isEmpty_iff]at hs;have:=congrArg List.length hs;simpa using this
 rw[valid]at h;by_cases h0:v.kind=0
 ·rw[if_pos h0]at h;simp at h;exact .inl ⟨h0,h.1,hs _ h.2⟩
 rw[if_neg h0]at h;by_cases h1:v.kind=1
 ·rw[if_pos h1]at h;simp at h;exact .inr (.inl ⟨h1,h.2,hs _ h.1⟩)
 rw[if_neg h1]at h;by_cases h2:v.kind=2
 ·rw[if_pos h2]at h;simp at h;exact .inr (.inr (.inl ⟨h2,h.2.1,h.2.2,hs _ h.1⟩))
 rw[if_neg h2]at h;by_cases h3:v.kind=3
 ·rw[if_pos h3]at h;simp at h;exact .inr (.inr (.inr (.inl ⟨h3,h.1,h.2⟩)))
 rw[if_neg h3]at h;by_cases h4:v.kind=4
 ·rw[if_pos h4]at h;simp at h;exact .inr (.inr (.inr (.inr ⟨h4,h.2.1,h.2.2,hs _ h.1⟩)))
 rw[if_neg h4]at h;cases h
theorem yI: ∀{w:World} {S:Nat->Prop} {bs:List UInt8} {cs:List Value},Cells w S cs bs->cs=bs.map (λb=>Value.int .u8 b.toNat)
 | _,_,[],cs,h=>h
 |w,S,b :: bs,cs,⟨c0,c1,e,h0,h1⟩=>by
  rw[e,show c0=[.int .u8 b.toNat] from h0,yI h1];rfl
theorem OL.built {α:Type}[Rep α]{w:World}{e:TypeId}{B:Nat}{O:Nat->Prop}{T:List TypeId}{arr:Array Value}{m:Nat}{xs:List α}(hB:B<=w.heap.size)(hm:m<=maxLen)(hl:xs.length=m)(hs:arr.size=m*Rep.size α)(hc:Cells (w.alloc (.cells arr e)) (BS B O T (w.alloc (.cells arr e))) arr.toList xs):
  OL e B O T (w.alloc (.cells arr e)) (.slice (some ⟨w.heap.size,0,none⟩) m m) xs:=
 ⟨⟨arr.toList,⟨by rw[Array.length_toList,hs,hl],.inr ⟨w.heap.size,m,arr,by rw[hl],hB,heap_alloc_new w _,by omega,hm,hs,by rw[hl,<-hs];exact List.take_of_length_le (by simp)⟩⟩,hc⟩,Nat.le_trans hB (ae (o:=.cells arr e)).size⟩
theorem BP {ops:Array Oper}{rest:List Oper}{o:Oper}{a:Act}{Q:Exit->Act->World->Prop}{w:World}(hgd:o.guard=none)(sl x:Operand)(ho:o.op=.call {callee:=.builtin .append,args:= #[sl,x],argTypes:= #[120,9]}){B:Nat}{v:Value}{bs:List UInt8}(hO:OB B w v bs)(hs:a.eval sl=v)(s:ByteArray)(hx:a.eval x=.string s)(h63:bs.length+s.size<=maxLen)(hbytes:bs.length+s.size<=140737488355328)(h: ∀v' w',OB B w' v' (bs++s.data.toList)->Below B w w'->wpList Tryz.prog ops Q rest (a.put o.dst v') w'):wpList Tryz.prog ops Q (o :: rest) a w:=by
 obtain ⟨i0,hi,hz0,hz1,hz2⟩:=info_parts Ca;obtain ⟨cs,h1,h2⟩:=hO.own;obtain rfl:=yI h2;refine Lib.wpList_append_own_string w hgd sl x 120 9 ho B 5 i0 Tryz.underlying120 Tryz.underlying9 hi hz0 hz1 hz2 v bs.length _ hs h1 s hx h63 hbytes hO.base λv' w' g1 g2 _=>?_;have hb:Below B w w':=(Below.refl B w).grown g2 hO.base λj q=>(vg h1 q).1;refine h v' w' ⟨⟨_,?_,Cells.bytes rfl⟩,Nat.le_trans hO.base hb.size⟩ hb;rw[List.length_append,List.map_append];exact g1
theorem own_ne {α:Type}[Rep α]{e:TypeId}{B:Nat}{O:Nat->Prop}{T:List TypeId}{w:World}{v:Value}{xs:List α}(h:OL e B O T w v xs):some w.heap.size≠v.ownBlock:=λq=>by
 have:=(h.ty q.symm).2.lt;omega
theorem qo {b n:Nat}{v v':Value}(h:some b≠v.ownBlock)(hb:b<n)(hat:v'.ownBlock=v.ownBlock\/ ∃k,v'.ownBlock=some k/\n<=k):some b≠v'.ownBlock:=λq=>by
 rcases hat with h1|⟨k,h1,h2⟩
 ·exact h (q.trans h1)
 ·rw[h1]at q;injection q with q;omega
theorem iD {row:List Val}{k:Nat}{x:Val}{l:List Val}(h:row.drop k=x :: l):(row.take (k+1)).flatMap ig=(row.take k).flatMap ig++ig x:=by
 rw[bg h,List.flatMap_append];simp
theorem yQ (w:World)(A:Option Addr)(n c:Nat)(row:List Val)(hx:In w A n c row):
  Calls Tryz.prog 63 #[.slice A n c] w
   λe w'=>(∃v,e=.returned (.tuple #[v,.int .i64 (encS row).1])/\OB w.heap.size w' v (encS row).2)/\Below w.heap.size w w':=by
 have HD:=hide (show encS row=if 12<row.length then (2,[]) else if ai lK 0 row≠0 then (8,[]) else (0,encR row) from rfl);obtain ⟨R,hR⟩: ∃R,encS row=R:=⟨_,rfl⟩;rw[hR]at HD;rw[hR];clear hR;have dW:=hide hx;have h63:=hx.le;clear hx;by_cases h12:12<n
 ·have he:Hid (R=(2,[])):=hide (by rw[HD.out,dW.out.len,if_pos h12]);obtain rfl:=he.out;go_enter Tryz.func63,Tryz.ntmps63;go_wp2;all_goals (try (exfalso;go_light;simp_all;done));go_ret2;exact ⟨⟨_,rfl,OL.nil (Nat.le_refl _)⟩,Below.refl _ _⟩
 have HD2:Hid (R=if ai lK 0 row≠0 then (8,[]) else (0,encR row)):=hide (by rw[HD.out,dW.out.len,if_neg h12]);have HB0:Hid (OB w.heap.size (w.alloc (.cells #[.int .u8 (n:Int)] 5)) (.slice (some ⟨w.heap.size,0,none⟩) 1 1) [u8 n]):=hide (OL.built (Nat.le_refl _) (by simp only[maxLen];omega) rfl rfl (Cells.bytes (by
  simp only[List.map_cons,List.map_nil];rw[fU (n:=(n:Int)) (m:=(n:Int)) (by omega)])))
 go_enter Tryz.func63,Tryz.ntmps63;go_wp2;go_loopw [4,16] (λo i wr=> ∃(k:Nat) (bs:List UInt8),k<=n/\i=.int .i64 k/\bs=u8 n :: (row.take k).flatMap ig/\bs.length<=1+66*k/\ai lK 0 row=ai lK k (row.drop k)/\OB w.heap.size wr o bs/\Below w.heap.size w wr) (λ_ i _=>n-(RowKit.intOf i).toNat)
 case atStart=>exact ⟨0,[u8 n],Nat.zero_le _,rfl,by simp,by simp,rfl,HB0.out,ae⟩
 case round=>
  clear HB0;obtain ⟨k,bs,hk,rfl,hbs,hbl,heq,ho,hb⟩:=hrel;have Be:=hide hbs;have HE:=hide heq;have HO:=hide ho;have HB:=hide hb;have gU:=hide (own_ne ho);clear hbs heq ho hb;by_cases hlt:k<n
  ·obtain ⟨b,off,x,rfl,hBb,HX,f0,f1,f2,f3⟩:=(dW.out.below HB.out).val hlt;go_wp2_with fail;refine (pE x f3 _).mono ?_;rintro e w1 ⟨rfl,hb1⟩;have Gw:=hide (aa (aa HB.out ae) hb1);have c0:w1.cell? ⟨wr.heap.size,0,none⟩=some (.int .i64 x.kind):=ah hb1 (by simp) (by simp[go_sem]);have c1:w1.cell? ⟨wr.heap.size,1,none⟩=some (.int .i64 x.num):=ah hb1 (by simp) (by simp[go_sem]);have c2:w1.cell? ⟨wr.heap.size,2,none⟩=some (.string x.str):=ah hb1 (by simp) (by simp[go_sem]);have PM:=hide ((HO.out.below ae).below hb1);have Vu:=hide (lt_of_cell c0);clear hb1 f0 f1 f2 f3;cases hv:valid x
   ·have he:Hid (R=(8,[])):=hide (by
     have h1:ai lK 0 row=8:=by rw[HE.out,HX.out];exact aK (by rw[lK,hv];rfl) (by omega)
     rw[HD2.out,h1,if_pos (by omega)])
    obtain rfl:=he.out;go_wp2;all_goals (try (exfalso;go_light;simp_all;done));go_ret2;exact ⟨⟨_,rfl,OL.nil Gw.out.size⟩,Gw.out⟩
   ·have HC:Hid (ai lK 0 row=ai lK (k+1) (row.drop (k+1))):=hide (by rw[HE.out,HX.out];exact aY (by rw[lK,hv];rfl));have UE:=nN hv;clear hv;obtain ⟨xk,xn,xs⟩:=x;simp only at c0 c1 c2 UE;rcases UE with ⟨rfl,_,hst⟩|⟨rfl,hxn,hst⟩|⟨rfl,hx1,hx2,hst⟩|⟨rfl,rfl,hst⟩|⟨rfl,hx1,hx2,hst⟩
    ·have hst:xs.size<=64:=by omega
     have CX:Hid ([Value.int .u8 (0)]=[.int .u8 ((u8 (0)).toNat:Int)]):=hide (by rw[fU (n:=0) (m:=0) (by omega)]);have hp2:(bs).length+1<=maxLen:=by simp only[maxLen];(try simp only[List.length_append,List.length_cons,List.length_nil]);omega
     have hq2:((bs).length+1)*1<=140737488355328:=by (try simp only[List.length_append,List.length_cons,List.length_nil]);omega
     go_wp2_with (at_builtin;refine bF _ rfl _ _ _ rfl iQ (by simp) _ _ rfl PM.out rfl rfl (u8 (0)) CX.out hp2 hq2 ?_;intro v2 w2 ho2 hb2 hg2 uV;have mq:=hide ho2;have c0:=hg2.cell (a:=⟨wr.heap.size,0,none⟩) c0 gU.out;have c1:=hg2.cell (a:=⟨wr.heap.size,1,none⟩) c1 gU.out;have c2:=hg2.cell (a:=⟨wr.heap.size,2,none⟩) c2 gU.out;have xD:=hide (qo gU.out Vu.out uV);have Uv:=hide (lt_of_cell c0);have HW2:=hide hb2;clear ho2 hg2 uV hb2);have Pz:=hide (Gw.out.trans HW2.out);have EA:Hid (bs++[u8 0]=u8 n :: (row.take (k+1)).flatMap ig):=hide (by rw[iD HX.out,<-List.cons_append,<-Be.out,show ig _=_ from rfl];simp[ig,List.append_assoc]);have xU:(bs++[u8 0]).length<=1+66*(k+1):=by
      rw[EA.out,iD HX.out,List.length_cons,List.length_append];have h1:(ig ⟨0,xn,xs⟩).length<=66:=oK _ hst rfl;have h2:=hbl;rw[Be.out,List.length_cons]at h2;omega
     have PG:=hide (mq.out);go_wp2;go_roundw
     case rel=>exact ⟨k+1,_,by omega,by go_num,EA.out,xU,HC.out,PG.out,Pz.out⟩
     case measure=>simp[RowKit.intOf];omega
    ·have hst:xs.size<=64:=by omega
     have hx1:0<=xn:=by omega
     have hx2:xn<=1:=by omega
     have CX:Hid ([Value.int .u8 (1)]=[.int .u8 ((u8 (1)).toNat:Int)]):=hide (by rw[fU (n:=1) (m:=1) (by omega)]);have hp2:(bs).length+1<=maxLen:=by simp only[maxLen];(try simp only[List.length_append,List.length_cons,List.length_nil]);omega
     have hq2:((bs).length+1)*1<=140737488355328:=by (try simp only[List.length_append,List.length_cons,List.length_nil]);omega
     have Sj:Hid ([Value.int .u8 (xn)]=[.int .u8 ((u8 (xn)).toNat:Int)]):=hide (by rw[fU (n:=xn) (m:=xn) (by omega)]);have hp3:(bs++[u8 1]).length+1<=maxLen:=by simp only[maxLen];(try simp only[List.length_append,List.length_cons,List.length_nil]);omega
     have hq3:((bs++[u8 1]).length+1)*1<=140737488355328:=by (try simp only[List.length_append,List.length_cons,List.length_nil]);omega
     go_wp2_with (first|(at_builtin;refine bF _ rfl _ _ _ rfl iQ (by simp) _ _ rfl PM.out rfl rfl (u8 (1)) CX.out hp2 hq2 ?_;intro v2 w2 ho2 hb2 hg2 uV;have mq:=hide ho2;have c0:=hg2.cell (a:=⟨wr.heap.size,0,none⟩) c0 gU.out;have c1:=hg2.cell (a:=⟨wr.heap.size,1,none⟩) c1 gU.out;have c2:=hg2.cell (a:=⟨wr.heap.size,2,none⟩) c2 gU.out;have xD:=hide (qo gU.out Vu.out uV);have Uv:=hide (lt_of_cell c0);have HW2:=hide hb2;clear ho2 hg2 uV hb2)|(at_builtin;refine bF _ rfl _ _ _ rfl iQ (by simp) _ _ rfl mq.out rfl rfl (u8 (xn)) Sj.out hp3 hq3 ?_;intro v3 w3 ho3 hb3 hg3 Nv;have PN:=hide ho3;have c0:=hg3.cell (a:=⟨wr.heap.size,0,none⟩) c0 xD.out;have c1:=hg3.cell (a:=⟨wr.heap.size,1,none⟩) c1 xD.out;have c2:=hg3.cell (a:=⟨wr.heap.size,2,none⟩) c2 xD.out;have YL:=hide (qo xD.out Uv.out Nv);have LT3:=hide (lt_of_cell c0);have HW3:=hide hb3;clear ho3 hg3 Nv hb3));have Pz:=hide ((Gw.out.trans HW2.out).trans HW3.out);have EA:Hid ((bs++[u8 1])++[u8 xn]=u8 n :: (row.take (k+1)).flatMap ig):=hide (by rw[iD HX.out,<-List.cons_append,<-Be.out,show ig _=_ from rfl];simp[ig,List.append_assoc]);have xU:((bs++[u8 1])++[u8 xn]).length<=1+66*(k+1):=by
      rw[EA.out,iD HX.out,List.length_cons,List.length_append];have h1:(ig ⟨1,xn,xs⟩).length<=66:=oK _ hst rfl;have h2:=hbl;rw[Be.out,List.length_cons]at h2;omega
     have PG:=hide (PN.out);go_wp2;go_roundw
     case rel=>exact ⟨k+1,_,by omega,by go_num,EA.out,xU,HC.out,PG.out,Pz.out⟩
     case measure=>simp[RowKit.intOf];omega
    ·have hst:xs.size<=64:=by omega
     have CX:Hid ([Value.int .u8 (2)]=[.int .u8 ((u8 (2)).toNat:Int)]):=hide (by rw[fU (n:=2) (m:=2) (by omega)]);have hp2:(bs).length+1<=maxLen:=by simp only[maxLen];(try simp only[List.length_append,List.length_cons,List.length_nil]);omega
     have hq2:((bs).length+1)*1<=140737488355328:=by (try simp only[List.length_append,List.length_cons,List.length_nil]);omega
     have hww:IntKind.i64.wrap (xn+1073741824)=xn+1073741824:=IntWalk.i64_in _ (by omega);have hpw:(bs++[u8 2]).length<=1048576:=by (try simp only[List.length_append,List.length_cons,List.length_nil]);omega
     go_wp2_with (first|(at_builtin;refine bF _ rfl _ _ _ rfl iQ (by simp) _ _ rfl PM.out rfl rfl (u8 (2)) CX.out hp2 hq2 ?_;intro v2 w2 ho2 hb2 hg2 uV;have mq:=hide ho2;have c0:=hg2.cell (a:=⟨wr.heap.size,0,none⟩) c0 gU.out;have c1:=hg2.cell (a:=⟨wr.heap.size,1,none⟩) c1 gU.out;have c2:=hg2.cell (a:=⟨wr.heap.size,2,none⟩) c2 gU.out;have xD:=hide (qo gU.out Vu.out uV);have Uv:=hide (lt_of_cell c0);have HW2:=hide hb2;clear ho2 hg2 uV hb2)|(go_at_call 88;refine (Gj _ w.heap.size _ _ mq.out (xn+1073741824) (by omega) (by omega) hpw).mono ?_;rintro e w3 ⟨⟨v3,rfl,ho3⟩,hg3,hb3⟩;have PN:=hide ho3;have HW3:=hide hb3;clear ho3 hg3 hb3));have Pz:=hide ((Gw.out.trans HW2.out).trans HW3.out);have EA:Hid ((bs++[u8 2])++kM (xn+1073741824)=u8 n :: (row.take (k+1)).flatMap ig):=hide (by rw[iD HX.out,<-List.cons_append,<-Be.out,show ig _=_ from rfl];simp[ig,List.append_assoc]);have xU:((bs++[u8 2])++kM (xn+1073741824)).length<=1+66*(k+1):=by
      rw[EA.out,iD HX.out,List.length_cons,List.length_append];have h1:(ig ⟨2,xn,xs⟩).length<=66:=oK _ hst rfl;have h2:=hbl;rw[Be.out,List.length_cons]at h2;omega
     have PG:=hide (PN.out);go_wp2;go_roundw
     case rel=>exact ⟨k+1,_,by omega,by go_num,EA.out,xU,HC.out,PG.out,Pz.out⟩
     case measure=>simp[RowKit.intOf];omega
    ·have hst:xs.size<=64:=by omega
     have CX:Hid ([Value.int .u8 (3)]=[.int .u8 ((u8 (3)).toNat:Int)]):=hide (by rw[fU (n:=3) (m:=3) (by omega)]);have hp2:(bs).length+1<=maxLen:=by simp only[maxLen];(try simp only[List.length_append,List.length_cons,List.length_nil]);omega
     have hq2:((bs).length+1)*1<=140737488355328:=by (try simp only[List.length_append,List.length_cons,List.length_nil]);omega
     have Sj:Hid ([Value.int .u8 ((xs.size:Int))]=[.int .u8 ((u8 ((xs.size:Int))).toNat:Int)]):=hide (by rw[fU (n:=(xs.size:Int)) (m:=(xs.size:Int)) (by omega)]);have hp3:(bs++[u8 3]).length+1<=maxLen:=by simp only[maxLen];(try simp only[List.length_append,List.length_cons,List.length_nil]);omega
     have hq3:((bs++[u8 3]).length+1)*1<=140737488355328:=by (try simp only[List.length_append,List.length_cons,List.length_nil]);omega
     have XV:((bs++[u8 3])++[u8 (xs.size:Int)]).length+xs.size<=maxLen:=by simp only[maxLen,List.length_append,List.length_cons,List.length_nil];omega
     have hq4:((bs++[u8 3])++[u8 (xs.size:Int)]).length+xs.size<=140737488355328:=by simp only[List.length_append,List.length_cons,List.length_nil];omega
     go_wp2_with (first|(at_builtin;refine bF _ rfl _ _ _ rfl iQ (by simp) _ _ rfl PM.out rfl rfl (u8 (3)) CX.out hp2 hq2 ?_;intro v2 w2 ho2 hb2 hg2 uV;have mq:=hide ho2;have c0:=hg2.cell (a:=⟨wr.heap.size,0,none⟩) c0 gU.out;have c1:=hg2.cell (a:=⟨wr.heap.size,1,none⟩) c1 gU.out;have c2:=hg2.cell (a:=⟨wr.heap.size,2,none⟩) c2 gU.out;have xD:=hide (qo gU.out Vu.out uV);have Uv:=hide (lt_of_cell c0);have HW2:=hide hb2;clear ho2 hg2 uV hb2)|(at_builtin;refine bF _ rfl _ _ _ rfl iQ (by simp) _ _ rfl mq.out rfl rfl (u8 ((xs.size:Int))) Sj.out hp3 hq3 ?_;intro v3 w3 ho3 hb3 hg3 Nv;have PN:=hide ho3;have c0:=hg3.cell (a:=⟨wr.heap.size,0,none⟩) c0 xD.out;have c1:=hg3.cell (a:=⟨wr.heap.size,1,none⟩) c1 xD.out;have c2:=hg3.cell (a:=⟨wr.heap.size,2,none⟩) c2 xD.out;have YL:=hide (qo xD.out Uv.out Nv);have LT3:=hide (lt_of_cell c0);have HW3:=hide hb3;clear ho3 hg3 Nv hb3)|(at_builtin;refine BP rfl _ _ rfl PN.out rfl xs rfl XV hq4 ?_;intro v4 w4 RG hb4;have YO:=hide RG;have HW4:=hide hb4;clear RG hb4));have Pz:=hide (((Gw.out.trans HW2.out).trans HW3.out).trans HW4.out);have EA:Hid (((bs++[u8 3])++[u8 (xs.size:Int)])++xs.data.toList=u8 n :: (row.take (k+1)).flatMap ig):=hide (by rw[iD HX.out,<-List.cons_append,<-Be.out,show ig _=_ from rfl];simp[ig,List.append_assoc]);have xU:(((bs++[u8 3])++[u8 (xs.size:Int)])++xs.data.toList).length<=1+66*(k+1):=by
      rw[EA.out,iD HX.out,List.length_cons,List.length_append];have h1:(ig ⟨3,0,xs⟩).length<=66:=oK _ hst rfl;have h2:=hbl;rw[Be.out,List.length_cons]at h2;omega
     have PG:=hide (YO.out);go_wp2;go_roundw
     case rel=>exact ⟨k+1,_,by omega,by go_num,EA.out,xU,HC.out,PG.out,Pz.out⟩
     case measure=>simp[RowKit.intOf];omega
    ·have hst:xs.size<=64:=by omega
     have CX:Hid ([Value.int .u8 (4)]=[.int .u8 ((u8 (4)).toNat:Int)]):=hide (by rw[fU (n:=4) (m:=4) (by omega)]);have hp2:(bs).length+1<=maxLen:=by simp only[maxLen];(try simp only[List.length_append,List.length_cons,List.length_nil]);omega
     have hq2:((bs).length+1)*1<=140737488355328:=by (try simp only[List.length_append,List.length_cons,List.length_nil]);omega
     have hpw:(bs++[u8 4]).length<=1048576:=by (try simp only[List.length_append,List.length_cons,List.length_nil]);omega
     go_wp2_with (first|(at_builtin;refine bF _ rfl _ _ _ rfl iQ (by simp) _ _ rfl PM.out rfl rfl (u8 (4)) CX.out hp2 hq2 ?_;intro v2 w2 ho2 hb2 hg2 uV;have mq:=hide ho2;have c0:=hg2.cell (a:=⟨wr.heap.size,0,none⟩) c0 gU.out;have c1:=hg2.cell (a:=⟨wr.heap.size,1,none⟩) c1 gU.out;have c2:=hg2.cell (a:=⟨wr.heap.size,2,none⟩) c2 gU.out;have xD:=hide (qo gU.out Vu.out uV);have Uv:=hide (lt_of_cell c0);have HW2:=hide hb2;clear ho2 hg2 uV hb2)|(go_at_call 88;refine (Gj _ w.heap.size _ _ mq.out (xn) (by omega) (by omega) hpw).mono ?_;rintro e w3 ⟨⟨v3,rfl,ho3⟩,hg3,hb3⟩;have PN:=hide ho3;have HW3:=hide hb3;clear ho3 hg3 hb3));have Pz:=hide ((Gw.out.trans HW2.out).trans HW3.out);have EA:Hid ((bs++[u8 4])++kM (xn)=u8 n :: (row.take (k+1)).flatMap ig):=hide (by rw[iD HX.out,<-List.cons_append,<-Be.out,show ig _=_ from rfl];simp[ig,List.append_assoc]);have xU:((bs++[u8 4])++kM (xn)).length<=1+66*(k+1):=by
      rw[EA.out,iD HX.out,List.length_cons,List.length_append];have h1:(ig ⟨4,xn,xs⟩).length<=66:=oK _ hst rfl;have h2:=hbl;rw[Be.out,List.length_cons]at h2;omega
     have PG:=hide (PN.out);go_wp2;go_roundw
     case rel=>exact ⟨k+1,_,by omega,by go_num,EA.out,xU,HC.out,PG.out,Pz.out⟩
     case measure=>simp[RowKit.intOf];omega
  ·have he:Hid (R=(0,bs)):=hide (by
    have h1:ai lK 0 row=0:=by rw[HE.out,aI dW.out.len (by omega),ai]
    rw[HD2.out,h1,if_neg (by omega),Be.out,List.take_of_length_le (by rw[dW.out.len];omega),encR,dW.out.len])
   obtain rfl:=he.out;go_wp2;all_goals (try (exfalso;go_light;simp_all;done));go_ret2;exact ⟨⟨_,rfl,HO.out⟩,HB.out⟩
theorem Ei {a b:Int}(h:u8 a=u8 b)(ha:0<=a)(ha2:a<256)(hb:0<=b)(hb2:b<256):a=b:=by
 have h1:=congrArg (λx:UInt8=>(x.toNat:Int)) h;simp only[II]at h1;omega
theorem CU {a b:Int}(h:kM a=kM b)(ha:0<=a)(ha2:a<4294967296)(hb:0<=b)(hb2:b<4294967296):a=b:=by
 rw[kM,kM]at h;injection h with h1 h;injection h with h2 h;injection h with h3 h;injection h with h4 h;have e1:=congrArg (λx:UInt8=>(x.toNat:Int)) h1;have e2:=congrArg (λx:UInt8=>(x.toNat:Int)) h2;have e3:=congrArg (λx:UInt8=>(x.toNat:Int)) h3;have e4:=congrArg (λx:UInt8=>(x.toNat:Int)) h4;simp only[II]at e1 e2 e3 e4;omega
theorem rU {s t:ByteArray}(h:s.data.toList=t.data.toList):s=t:=by
 obtain ⟨⟨a⟩⟩:=s;obtain ⟨⟨b⟩⟩:=t;simp only at h;rw[h]
theorem vD {s t:ByteArray}(h:s.size=0)(h':t.size=0):s=t:=by
 refine rU ?_;have h1:s.data.toList.length=0:=h;have h2:t.data.toList.length=0:=h';rw[List.eq_nil_of_length_eq_zero h1,List.eq_nil_of_length_eq_zero h2]
theorem M6 {v v':Val}{r r':List UInt8}(hv:valid v=true)(hv':valid v'=true)(h:ig v++r=ig v'++r'):v=v'/\r=r':=by
 obtain ⟨k,n,s⟩:=v;obtain ⟨k',n',s'⟩:=v';have c:=nN hv;have c':=nN hv';simp only at c c';have hk:0<=k/\k<256:=by omega
 have hk':0<=k'/\k'<256:=by omega
 rw[ig,ig,List.cons_append,List.cons_append]at h;injection h with h1 h;simp only at h1 h;obtain rfl:=Ei h1 hk.1 hk.2 hk'.1 hk'.2;rcases c with ⟨rfl,c1,c2⟩|⟨rfl,c1,c2⟩|⟨rfl,c1,c2,c3⟩|⟨rfl,c1,c2⟩|⟨rfl,c1,c2,c3⟩
 ·have d1:n'=0:=by omega
  have d2:s'.size=0:=by omega
  subst c1 d1;obtain rfl:=vD c2 d2;exact ⟨rfl,by simpa using h⟩
 ·have d1:n'=0\/n'=1:=by omega
  have d2:s'.size=0:=by omega
  obtain rfl:=vD c2 d2;simp only[Int.reduceEq,↓reduceIte,List.cons_append,List.nil_append]at h;injection h with h2 h;obtain rfl:=Ei h2 (by omega) (by omega) (by omega) (by omega);exact ⟨rfl,h⟩
 ·have d2:s'.size=0:=by omega
  obtain rfl:=vD c3 d2;simp only[Int.reduceEq,↓reduceIte,List.cons_append]at h;obtain ⟨h2,h3⟩:=List.append_inj h rfl;have:=CU h2 (by omega) (by omega) (by omega) (by omega);obtain rfl:n=n':=by omega
  exact ⟨rfl,h3⟩
 ·have d1:n'=0:=by omega
  have d2:s'.size<=64:=by omega
  subst c1 d1;simp only[Int.reduceEq,↓reduceIte,List.cons_append]at h;injection h with h2 h;have hs:=Ei h2 (by omega) (by omega) (by omega) (by omega);have hs2:s.data.toList.length=s'.data.toList.length:=by
   show s.size=s'.size;omega
  obtain ⟨h3,h4⟩:=List.append_inj h hs2;obtain rfl:=rU h3;exact ⟨rfl,h4⟩
 ·have d2:s'.size=0:=by omega
  obtain rfl:=vD c3 d2;simp only[Int.reduceEq,↓reduceIte,List.cons_append]at h;obtain ⟨h2,h3⟩:=List.append_inj h rfl;obtain rfl:=CU h2 (by omega) (by omega) (by omega) (by omega);exact ⟨rfl,h3⟩
theorem EX: ∀{xs ys:List Val},xs.length=ys.length->(∀x∈xs,valid x=true)->(∀y∈ys,valid y=true)->xs.flatMap ig=ys.flatMap ig->xs=ys
 | [],[],_,_,_,_=>rfl
 | [],y :: ys,h,_,_,_=>by simp at h
 |x :: xs,[],h,_,_,_=>by simp at h
 |x :: xs,y :: ys,h,hx,hy,e=>by
  rw[List.flatMap_cons,List.flatMap_cons]at e;obtain ⟨rfl,e2⟩:=M6 (hx x (by simp)) (hy y (by simp)) e;rw[EX (by simpa using h) (λz hz=>hx z (by simp[hz])) (λz hz=>hy z (by simp[hz])) e2]
theorem M5 {xs ys:List Val}(hl:xs.length<=12)(hl':ys.length<=12)(hx: ∀x∈xs,valid x=true)(hy: ∀y∈ys,valid y=true)(h:encR xs=encR ys):xs=ys:=by
 rw[encR,encR]at h;injection h with h1 h2;have:=Ei h1 (by omega) (by omega) (by omega) (by omega);exact EX (by omega) hx hy h2
open Go.RowKit Go.Maps
def jN (P:Program)(K:TypeId)(w:World)(b n:Nat)(z:Value)(f:ByteArray->Value):Prop:=
 ∃D:DataW Value,w.ownsMap P K RV b n D/\Maps.IsMap D/\ ∀s:ByteArray,D.atKey (.string s.data.toList) (.held z)=.held (f s)
section
variable {P:Program}{t K e:TypeId}{w w1:World}{b n:Nat}{z:Value}{f:ByteArray->Value}
theorem jN.made (P:Program)(K:TypeId)(w:World)(z:Value):jN P K (w.alloc (.map #[] 0)) w.heap.size 0 z (λ_=>z):=
 ⟨.map [],World.ownsMap_made _ _ _ _,Maps.isMap_empty,λ_=>rfl⟩
theorem jN.lt (h:jN P K w b n z f):b<w.heap.size:=by
 obtain ⟨D,h1,_⟩:=h;exact h1.lt
theorem jN.same (h:jN P K w b n z f)(hb:w1.heap[b]?=w.heap[b]?):jN P K w1 b n z f:=by
 obtain ⟨D,⟨es,clock,k1,k2⟩,h2,h3⟩:=h;exact ⟨D,⟨es,clock,hb.trans k1,k2⟩,h2,h3⟩
theorem jN.below (h:jN P K w b n z f)(hb:Below w.heap.size w w1):jN P K w1 b n z f:=h.same (hb.block b h.lt)
theorem jN.congr {f':ByteArray->Value}(h:jN P K w b n z f)(he: ∀s,f s=f' s):jN P K w b n z f':=by
 obtain ⟨D,h1,h2,h3⟩:=h;exact ⟨D,h1,h2,λs=>by rw[h3 s,he s]⟩
theorem jN.mono {m:Nat}(h:jN P K w b n z f)(hn:n<=m):jN P K w b m z f:=by
 obtain ⟨D,h1,h2,h3⟩:=h;exact ⟨D,h1.mono hn,h2,h3⟩
theorem jN.look (h:jN P K w b n z f)(ht:P.underlying t=some (.map K e))(hK:P.underlying K=some .string)(hz: ∀V,(zeroValue e).run P V=.ok z V){s:ByteArray}(hs:s.size<=maxLen){V:World}(hV:V.heap[b]?=w.heap[b]?):
  (Instr.lookup t (.map (some b)) (.string s) false).run P V=.ok (f s) V:=by
 obtain ⟨D,h1,h2,h3⟩:=h.same hV;obtain ⟨v,ps,hrun,hv⟩:=h1.lookup (string_keyed hK) ht (hz V) (zd:=.held z) (zp:=[]) rfl (WideMaps.keyOf_string_mk hK hs);have e1:=h3 s;simp only[RV,Option.some.injEq,Prod.mk.injEq]at hv;rw[<-hv.1]at e1;injection e1 with e1;rw[<-e1];exact hrun
theorem jN.update (h:jN P K w b n z f)(ht:P.underlying t=some (.map K e))(hK:P.underlying K=some .string){s:ByteArray}(hs:s.size<=maxLen)(hn:n<maxLen)(v:Value):
  ∃w2,(Instr.mapUpdate t (.map (some b)) (.string s) v).run P w=.ok () w2/\jN P K w2 b (n+1) z (λs'=>if s'=s then v else f s')/\w.grownBy w2 (some b):=by
 obtain ⟨D,h1,h2,h3⟩:=h;have QT:WideAt.IsKeyLit (.string s.data.toList):=trivial;obtain ⟨w2,hrun,o2,g2⟩:=h1.update (string_keyed hK) ht hn (val:=v) (d:=.held v) (ps:=[]) (WideMaps.keyOf_string_mk hK hs) rfl;refine ⟨w2,hrun,⟨_,o2,h2.put _ _,λs'=>?_⟩,g2⟩;show _=DataW.held (if s'=s then v else f s');by_cases he:s'=s
 ·subst he;rw[if_pos rfl];exact Maps.atKey_put_same h2 QT _ _
 ·rw[if_neg he,<-h3 s'];exact Maps.atKey_put_other (λq=>he (by injection q with q;exact rU q)) _ _
end
structure NMap (P:Program) (K e:TypeId) (B:Nat) (w:World) (b n:Nat) (f:ByteArray->Value) (F:ByteArray->List ByteArray):Prop where
 str:jN P K w b n (.slice none 0 0) f
 own: ∀s,OL e B (λ_=>False) [] w (f s) (F s)
 sep: ∀s s' k,(f s).ownBlock=some k->(f s').ownBlock=some k->s=s'
section
variable {P:Program}{t K e st:TypeId}{w w1:World}{B b n:Nat}{f:ByteArray->Value}{F:ByteArray->List ByteArray}
theorem NMap.lt (h:NMap P K e B w b n f F):b<w.heap.size:=h.str.lt
theorem NMap.made (P:Program)(K e:TypeId)(w:World){B:Nat}(hB:B<=w.heap.size):NMap P K e B (w.alloc (.map #[] 0)) w.heap.size 0 (λ_=>.slice none 0 0) (λ_=>[]):=
 ⟨jN.made P K w _,λs=>OL.nil (by simp;omega),λs s' k h=>by cases h⟩
theorem NMap.below (h:NMap P K e B w b n f F)(hb:Below w.heap.size w w1):NMap P K e B w1 b n f F:=⟨h.str.below hb,λs=>(h.own s).below hb,h.sep⟩
theorem NMap.mono {m:Nat}(h:NMap P K e B w b n f F)(hn:n<=m):NMap P K e B w b m f F:=⟨h.str.mono hn,h.own,h.sep⟩
theorem NMap.congr {F':ByteArray->List ByteArray}(h:NMap P K e B w b n f F)(he: ∀s,F s=F' s):NMap P K e B w b n f F':=⟨h.str,λs=>he s▸h.own s,h.sep⟩
theorem NMap.rebase {B0:Nat}(h:NMap P K e B w b n f F)(hB:B0<=B):NMap P K e B0 w b n f F:=⟨h.str,λs=>(h.own s).rebase hB,h.sep⟩
theorem NMap.off (h:NMap P K e B w b n f F)(s:ByteArray):(f s).ownBlock≠some b:=λq=>by
 obtain ⟨D,⟨es,clock,h1,_⟩,_⟩:=h.str;obtain ⟨_,c,h2⟩:=(h.own s).ty q;rw[h1]at h2;injection h2 with h2;cases h2
theorem NMap.grown {row:Option Nat}(h:NMap P K e B w b n f F)(hg:w.grownBy w1 row)(hr: ∀k,row=some k-> ∃t,dm w t k/\t≠e):NMap P K e B w1 b n f F:=
 ⟨h.str.same (hg.block b h.lt λq=>by
  obtain ⟨t,⟨c,h1⟩,_⟩:=hr b q.symm;obtain ⟨D,⟨es,clock,h2,_⟩,_⟩:=h.str;rw[h1]at h2;injection h2 with h2;cases h2),λs=>(h.own s).grown hg λk hk=>⟨λq=>by
   obtain ⟨t,h1,h2⟩:=hr k hk;exact dm.ne h1 ((h.own s).ty q).2 h2 rfl,λq=>by
   rcases q with ⟨q,_⟩|⟨_,t,ht,_⟩
   ·exact q
   ·cases ht⟩,h.sep⟩
theorem NMap.look (h:NMap P K e B w b n f F)(ht:P.underlying t=some (.map K st))(hK:P.underlying K=some .string)(hz: ∀V,(zeroValue st).run P V=.ok (.slice none 0 0) V){s:ByteArray}(hs:s.size<=maxLen){V:World}(hV:V.heap[b]?=w.heap[b]?):
  (Instr.lookup t (.map (some b)) (.string s) false).run P V=.ok (f s) V:=h.str.look ht hK hz hs hV
theorem NMap.push (h:NMap P K e B w b n f F)(ht:P.underlying t=some (.map K st))(hK:P.underlying K=some .string){T x:ByteArray}(hT:T.size<=maxLen)(hn:n<maxLen){w6:World}{v6:Value}(hg:w.grownBy w6 (f T).ownBlock)(ho:OL e B (λ_=>False) [] w6 v6 (F T++[x]))(hat:v6.ownBlock=(f T).ownBlock\/ ∃k,v6.ownBlock=some k/\w.heap.size<=k):
  ∃w7,(Instr.mapUpdate t (.map (some b)) (.string T) v6).run P w6=.ok () w7/\NMap P K e B w7 b (n+1) (λs=>if s=T then v6 else f s) (λs=>if s=T then F T++[x] else F s)/\w6.grownBy w7 (some b):=by
 have hb6:w6.heap[b]?=w.heap[b]?:=hg.block b h.lt λq=>h.off T q.symm;obtain ⟨w7,hrun,hm,Wu⟩:=(h.str.same hb6).update ht hK hT hn v6;have hmap: ∃es cl,w6.heap[b]?=some (.map es cl):=by
  obtain ⟨D,⟨es,clock,h1,_⟩,_⟩:=h.str;exact ⟨es,clock,hb6.trans h1⟩
 have hnb: ∀{v:Value} {xs:List ByteArray},OL e B (λ_=>False) [] w6 v xs->v.ownBlock≠some b:=λhv q=>by
  obtain ⟨es,cl,h1⟩:=hmap;obtain ⟨_,c,h2⟩:=hv.ty q;rw[h1]at h2;injection h2 with h2;cases h2
 have stay: ∀{v:Value} {xs:List ByteArray},OL e B (λ_=>False) [] w6 v xs->OL e B (λ_=>False) [] w7 v xs:=λhv=>
  hv.grown Wu λk hk=>by
   injection hk with hk;subst hk;refine ⟨hnb hv,λq=>?_⟩;rcases q with ⟨q,_⟩|⟨_,t,ht,_⟩
   ·exact q
   ·cases ht
 refine ⟨w7,hrun,⟨hm,λs=>?_,λs s' k hk hk'=>?_⟩,Wu⟩
 ·by_cases hs:s=T
  ·rw[if_pos hs,if_pos hs];exact stay ho
  ·rw[if_neg hs,if_neg hs];refine stay ((h.own s).grown hg λk hk=>⟨λq=>hs (h.sep _ _ k q hk),λq=>?_⟩);rcases q with ⟨q,_⟩|⟨_,t,ht,_⟩
   ·exact q
   ·cases ht
 ·have far: ∀s,s≠T-> ∀k,v6.ownBlock=some k->(f s).ownBlock≠some k:=λs hs k hk q=>by
   rcases hat with e1|⟨j,e1,hj⟩
   ·exact hs (h.sep _ _ k q (e1▸hk))
   ·rw[e1]at hk;injection hk with hk;have:=((h.own s).ty q).2.lt;omega
  by_cases hs:s=T
  ·by_cases hs':s'=T
   ·rw[hs,hs']
   ·rw[if_pos hs]at hk;rw[if_neg hs']at hk';exact absurd hk' (far s' hs' k hk)
  ·by_cases hs':s'=T
   ·rw[if_neg hs]at hk;rw[if_pos hs']at hk';exact absurd hk (far s hs k hk')
   ·rw[if_neg hs]at hk;rw[if_neg hs']at hk';exact h.sep _ _ k hk hk'
end
end Go.Proofs.YtopjjlmfilgngaaGreatDoor
