/-
  value.word, value.Encode: the bytes of a row. value.Encode. (Printed by gen_enc.py.) Plain law: the encodings of two valid rows are equal only if the rows are. No program is in sight. A map from strings that the call has made: what lies at each key. No program is in sight. A map from strings to lists of strings that the call builds: each list is the call's own. No program is in sight.
-/
import Derived.Test.YtopjjlmfilgngaaGreatDoorGao
namespace Go.Proofs.YtopjjlmfilgngaaGreatDoor
set_option maxHeartbeats 8000000
set_option maxRecDepth 100000
open Go.RowKit
set_option linter.unusedSimpArgs false
set_option linter.unusedVariables false
instance:Rep UInt8 where
 size:=1
 rd _ _ cs b:=cs=[.int .u8 b.toNat]
 len h:=by rw[h];rfl
 keep _ h:=h
 mono _ h:=h
instance:One UInt8:=⟨by rintro w S cs a rfl u hu;simp at hu;subst hu;rfl⟩
theorem Br:(Tryz.prog.info? 5).map (λi=>(i.zero,i.size,i.bytes))=some (some (.int .u8 0),1,1):=by kernel_rfl
theorem l5:Elem Tryz.prog 120 5 1 1:=mU _ Tryz.underlying120 Br rfl (by decide)
abbrev OB (B:Nat)(w:World)(v:Value)(a:List UInt8):Prop:=OL 5 B (λ_=>False) [] w v a
def u8 (n:Int):UInt8:=UInt8.ofNat (n % 256).toNat
def nW (n:Int):List UInt8:=[u8 (n / 16777216),u8 (n / 65536),u8 (n / 256),u8 n]
theorem GL (n:Int):((u8 n).toNat:Int)=n % 256:=by
 have a:0<=n % 256:=Int.emod_nonneg _ (by decide);have b:n % 256<256:=Int.emod_lt_of_pos _ (by decide);rw[u8,UInt8.toNat_ofNat'];omega
theorem kw {n m:Int}(h:m=n % 256):Value.int .u8 m=.int .u8 ((u8 n).toNat:Int):=by rw[GL,h]
theorem Cells.bytes {w:World}{S:Nat->Prop}: ∀{bs:List UInt8} {cs:List Value},cs=bs.map (λb=>Value.int .u8 b.toNat)->Cells w S cs bs
 | [],cs,h=>h
 |b::bs,cs,h=>⟨[.int .u8 b.toNat],bs.map (λb=>Value.int .u8 b.toNat),by rw[h];rfl,rfl,Cells.bytes rfl⟩
theorem Fa (W:World)(B:Nat)(v:Value)(a:List UInt8)(b:OB B W v a)(n:Int)(u:0<=n)(x:n<4294967296)(y:a.length<=1048576):
  Calls Tryz.prog 88 #[v,.int .i64 n] W λe w'=>(∃g,e=.returned g/\OB B w' g (a++nW n))/\W.grownBy w' v.ownBlock/\Below B W w':=by
 have l:=Hm b;have j:=Hm (Cells.bytes (w:=W.alloc (.cells #[.int .u8 (n / 16777216),.int .u8 (n / 65536 % 256),.int .u8 (n / 256 % 256),.int .u8 (n % 256)] 5)) (S:=BS B (λ_=>False) [] (W.alloc (.cells #[.int .u8 (n / 16777216),.int .u8 (n / 65536 % 256),.int .u8 (n / 256 % 256),.int .u8 (n % 256)] 5))) (bs:=nW n) (cs:=[.int .u8 (n / 16777216),.int .u8 (n / 65536 % 256),.int .u8 (n / 256 % 256),.int .u8 (n % 256)]) (by
  simp only[nW,List.map_cons,List.map_nil];rw[kw (n:=n / 16777216) (by omega),kw (n:=n / 65536) rfl,kw (n:=n / 256) rfl,kw (n:=n) rfl]))
 have q:=Hm (xG W #[.int .u8 (n / 16777216),.int .u8 (n / 65536 % 256),.int .u8 (n / 256 % 256),.int .u8 (n % 256)] 5 1 4 rfl);have m:=Hm (b.below (fI (o:=.cells #[.int .u8 (n / 16777216),.int .u8 (n / 65536 % 256),.int .u8 (n / 256 % 256),.int .u8 (n % 256)] 5)));have s:a.length+4<=maxLen:=by simp only[maxLen];omega
 have t:(a.length+4)*1<=140737488355328:=by omega
 go_enter Tryz.func88,Tryz.ntmps88;go_wp2_with (at_builtin;refine jC _ rfl _ _ _ rfl l5 (by simp) m.o rfl (some ⟨W.heap.size,0,none⟩) 4 4 _ (nW n) rfl (λh=>by cases h) q.o j.o rfl s t ?_;intro z A f c d r);have p:=Hm f;have k:=Hm ((Below.grows (fI (w:=W)) v.ownBlock).trans d);have i:=Hm (((fI (w:=W)).mono l.o.base).trans c);clear f c d r;go_wp2;go_ret;exact⟨⟨_,rfl,p.o⟩,k.o,i.o⟩
def lc (v:Val):List UInt8:=
 u8 v.kind::(if v.kind=1 then [u8 v.num] else if v.kind=2 then nW (v.num+1073741824) else if v.kind=4 then nW v.num else if v.kind=3 then u8 v.str.size::v.str.data.toList else [])
def encR (row:List Val):List UInt8:=u8 row.length::row.flatMap lc
def encS (row:List Val):Int×List UInt8:=if 12<row.length then(2,[]) else if fQ oW 0 row≠0 then(8,[]) else(0,encR row)
theorem rf (v:Val){s:ByteArray}(h:s.size<=64)(a:v.str=s):(lc v).length<=66:=by
 have b:v.str.data.toList.length<=64:=by rw[a];exact h
 rw[lc]
 split
 ·simp
 ·split
  ·simp[nW]
  ·split
   ·simp[nW]
   ·split
    ·simp only[List.length_cons];omega
    ·simp
theorem qI {v:Val}(h:valid v=true):(v.kind=0/\v.num=0/\v.str.size=0)\/(v.kind=1/\(v.num=0\/v.num=1)/\v.str.size=0)\/(v.kind=2/\ -1073741824<=v.num/\v.num<=1073741824/\v.str.size=0)\/(v.kind=3/\v.num=0/\v.str.size<=64)\/(v.kind=4/\0<=v.num/\v.num<=575999999/\v.str.size=0):=by
 have hs: ∀s:ByteArray,jI s=true->s.size=0:=λs hs=>by
  rw[jI,ByteArray.toList_eq,List.isEmpty_iff]at hs;have:=congrArg List.length hs;simpa using this
 rw[valid]at h;by_cases a:v.kind=0
 ·rw[if_pos a]at h;simp at h;exact .inl ⟨a,h.1,hs _ h.2⟩
 rw[if_neg a]at h;by_cases b:v.kind=1
 ·rw[if_pos b]at h;simp at h;exact .inr (.inl ⟨b,h.2,hs _ h.1⟩)
 rw[if_neg b]at h;by_cases c:v.kind=2
 ·rw[if_pos c]at h;simp at h;exact .inr (.inr (.inl ⟨c,h.2.1,h.2.2,hs _ h.1⟩))
 rw[if_neg c]at h;by_cases d:v.kind=3
 ·rw[if_pos d]at h;simp at h;exact .inr (.inr (.inr (.inl ⟨d,h.1,h.2⟩)))
 rw[if_neg d]at h;by_cases e:v.kind=4
 ·rw[if_pos e]at h;simp at h;exact .inr (.inr (.inr (.inr ⟨e,h.2.1,h.2.2,hs _ h.1⟩)))
 rw[if_neg e]at h;cases h
theorem yN: ∀{w:World} {S:Nat->Prop} {c:List UInt8} {a:List Value},Cells w S a c->a=c.map (λb=>Value.int .u8 b.toNat)
 | _,_,[],a,h=>h
 |w,S,b::c,a,⟨c0,c1,e,h0,h1⟩=>by
  rw[e,show c0=[.int .u8 b.toNat] from h0,yN h1];rfl
theorem OL.built {α:Type}[Rep α]{w:World}{e:TypeId}{B:Nat}{O:Nat->Prop}{T:List TypeId}{arr:Array Value}{m:Nat}{xs:List α}(b:B<=w.heap.size)(d:m<=maxLen)(a:xs.length=m)(hs:arr.size=m*Rep.size α)(c:Cells (w.alloc (.cells arr e)) (BS B O T (w.alloc (.cells arr e))) arr.toList xs):
  OL e B O T (w.alloc (.cells arr e)) (.slice (some ⟨w.heap.size,0,none⟩) m m) xs:=
 ⟨⟨arr.toList,⟨by rw[Array.length_toList,hs,a],.inr ⟨w.heap.size,m,arr,by rw[a],b,heap_alloc_new w _,by omega,d,hs,by rw[a,<-hs];exact List.take_of_length_le (by simp)⟩⟩,c⟩,Nat.le_trans b (fI (o:=.cells arr e)).size⟩
theorem Bn {f:Array Oper}{rest:List Oper}{o:Oper}{a:Act}{Q:Exit->Act->World->Prop}{w:World}(n:o.guard=none)(sl x:Operand)(p:o.op=.call {callee:=.builtin .append,args:= #[sl,x],argTypes:= #[120,9]}){B:Nat}{v:Value}{b:List UInt8}(c:OB B w v b)(hs:a.eval sl=v)(s:ByteArray)(r:a.eval x=.string s)(l:b.length+s.size<=maxLen)(m:b.length+s.size<=140737488355328)(h: ∀d w',OB B w' d (b++s.data.toList)->Below B w w'->wpList Tryz.prog f Q rest (a.put o.dst d) w'):wpList Tryz.prog f Q (o::rest) a w:=by
 obtain⟨z,hi,t,u,y⟩:=info_parts Br;obtain⟨A,e,k⟩:=c.own;obtain rfl:=yN k;refine Lib.wpList_append_own_string w n sl x 120 9 p B 5 z Tryz.underlying120 Tryz.underlying9 hi t u y v b.length _ hs e s r l m c.base λd w' g i _=>?_;have hb:Below B w w':=(Below.refl B w).grown i c.base λj q=>(wH e q).1;refine h d w' ⟨⟨_,?_,Cells.bytes rfl⟩,Nat.le_trans c.base hb.size⟩ hb;rw[List.length_append,List.map_append];exact g
theorem own_ne {α:Type}[Rep α]{e:TypeId}{B:Nat}{O:Nat->Prop}{T:List TypeId}{w:World}{v:Value}{xs:List α}(h:OL e B O T w v xs):some w.heap.size≠v.ownBlock:=λq=>by
 have:=(h.ty q.symm).2.lt;omega
theorem sJ {b n:Nat}{v c:Value}(h:some b≠v.ownBlock)(hb:b<n)(d:c.ownBlock=v.ownBlock\/ ∃k,c.ownBlock=some k/\n<=k):some b≠c.ownBlock:=λq=>by
 rcases d with a|⟨k,a,e⟩
 ·exact h (q.trans a)
 ·rw[a]at q;injection q with q;omega
theorem lH {row:List Val}{k:Nat}{x:Val}{l:List Val}(h:row.drop k=x::l):(row.take (k+1)).flatMap lc=(row.take k).flatMap lc++lc x:=by
 rw[ic h,List.flatMap_append];simp
theorem yX (w:World)(A:Option Addr)(n c:Nat)(row:List Val)(hx:In w A n c row):
  Calls Tryz.prog 63 #[.slice A n c] w
   λe w'=>(∃v,e=.returned (.tuple #[v,.int .i64 (encS row).1])/\OB w.heap.size w' v (encS row).2)/\Below w.heap.size w w':=by
 have HD:=Hm (show encS row=if 12<row.length then(2,[]) else if fQ oW 0 row≠0 then(8,[]) else(0,encR row) from rfl);obtain⟨R,hR⟩: ∃R,encS row=R:=⟨_,rfl⟩;rw[hR]at HD;rw[hR];clear hR;have P:=Hm hx;have ax:=hx.le;clear hx;by_cases ag:12<n
 ·have Y:Hl (R=(2,[])):=Hm (by rw[HD.o,P.o.len,if_pos ag]);obtain rfl:=Y.o;go_enter Tryz.func63,Tryz.ntmps63;go_wp2;all_goals(try(exfalso;go_light;simp_all;done));go_ret2;exact⟨⟨_,rfl,OL.nil (Nat.le_refl _)⟩,Below.refl _ _⟩
 have af:Hl (R=if fQ oW 0 row≠0 then(8,[]) else(0,encR row)):=Hm (by rw[HD.o,P.o.len,if_neg ag]);have ae:Hl (OB w.heap.size (w.alloc (.cells #[.int .u8 (n:Int)] 5)) (.slice (some ⟨w.heap.size,0,none⟩) 1 1) [u8 n]):=Hm (OL.built (Nat.le_refl _) (by simp only[maxLen];omega) rfl rfl (Cells.bytes (by
  simp only[List.map_cons,List.map_nil];rw[kw (n:=(n:Int)) (m:=(n:Int)) (by omega)])))
 go_enter Tryz.func63,Tryz.ntmps63;go_wp2;go_loopw [4,16] (λo i wr=> ∃(k:Nat) (d:List UInt8),k<=n/\i=.int .i64 k/\d=u8 n::(row.take k).flatMap lc/\d.length<=1+66*k/\fQ oW 0 row=fQ oW k (row.drop k)/\OB w.heap.size wr o d/\Below w.heap.size w wr) (λ_ i _=>n-(RowKit.intOf i).toNat)
 case atStart=>exact⟨0,[u8 n],Nat.zero_le _,rfl,by simp,by simp,rfl,ae.o,fI⟩
 case round=>
  clear ae;obtain⟨k,d,hk,rfl,ai,X,aj,ho,hb⟩:=hrel;have y:=Hm ai;have HE:=Hm aj;have HO:=Hm ho;have HB:=Hm hb;have h:=Hm (own_ne ho);clear ai aj ho hb;by_cases au:k<n
  ·obtain⟨b,off,x,rfl,ay,u,f0,f1,f2,f3⟩:=(P.o.below HB.o).val au;go_wp2_with fail;refine(rO x f3 _).mono ?_;rintro e w1 ⟨rfl,S⟩;have M:=Hm (fH (fH HB.o fI) S);have c0:w1.cell? ⟨wr.heap.size,0,none⟩=some (.int .i64 x.kind):=fO S (by simp) (by simp[go_sem]);have c1:w1.cell? ⟨wr.heap.size,1,none⟩=some (.int .i64 x.num):=fO S (by simp) (by simp[go_sem]);have c2:w1.cell? ⟨wr.heap.size,2,none⟩=some (.string x.str):=fO S (by simp) (by simp[go_sem]);have U:=Hm ((HO.o.below fI).below S);have V:=Hm (lt_of_cell c0);clear S f0 f1 f2 f3;cases Z:valid x
   ·have Y:Hl (R=(8,[])):=Hm (by
     have L:fQ oW 0 row=8:=by rw[HE.o,u.o];exact gL (by rw[oW,Z];rfl) (by omega)
     rw[af.o,L,if_pos (by omega)])
    obtain rfl:=Y.o;go_wp2;all_goals(try(exfalso;go_light;simp_all;done));go_ret2;exact⟨⟨_,rfl,OL.nil M.o.size⟩,M.o⟩
   ·have T:Hl (fQ oW 0 row=fQ oW (k+1) (row.drop (k+1))):=Hm (by rw[HE.o,u.o];exact ig (by rw[oW,Z];rfl));have al:=qI Z;clear Z;obtain⟨xk,g,xs⟩:=x;simp only at c0 c1 c2 al;rcases al with ⟨rfl,_,r⟩|⟨rfl,aA,r⟩|⟨rfl,am,an,r⟩|⟨rfl,rfl,r⟩|⟨rfl,am,an,r⟩
    ·have r:xs.size<=64:=by omega
     have E:Hl ([Value.int .u8 (0)]=[.int .u8 ((u8 (0)).toNat:Int)]):=Hm (by rw[kw (n:=0) (m:=0) (by omega)]);have J:(d).length+1<=maxLen:=by simp only[maxLen];(try simp only[List.length_append,List.length_cons,List.length_nil]);omega
     have K:((d).length+1)*1<=140737488355328:=by(try simp only[List.length_append,List.length_cons,List.length_nil]);omega
     go_wp2_with (at_builtin;refine gY _ rfl _ _ _ rfl l5 (by simp) _ _ rfl U.o rfl rfl (u8 (0)) E.o J K ?_;intro v2 w2 q p f l;have G:=Hm q;have c0:=f.cell (a:=⟨wr.heap.size,0,none⟩) c0 h.o;have c1:=f.cell (a:=⟨wr.heap.size,1,none⟩) c1 h.o;have c2:=f.cell (a:=⟨wr.heap.size,2,none⟩) c2 h.o;have t:=Hm (sJ h.o V.o l);have Q:=Hm (lt_of_cell c0);have H:=Hm p;clear q f l p);have C:=Hm (M.o.trans H.o);have j:Hl (d++[u8 0]=u8 n::(row.take (k+1)).flatMap lc):=Hm (by rw[lH u.o,<-List.cons_append,<-y.o,show lc _=_ from rfl];simp[lc,List.append_assoc]);have F:(d++[u8 0]).length<=1+66*(k+1):=by
      rw[j.o,lH u.o,List.length_cons,List.length_append];have L:(lc ⟨0,g,xs⟩).length<=66:=rf _ r rfl;have I:=X;rw[y.o,List.length_cons]at I;omega
     have D:=Hm (G.o);go_wp2;go_roundw
     case rel=>exact⟨k+1,_,by omega,by go_num,j.o,F,T.o,D.o,C.o⟩
     case measure=>simp[RowKit.intOf];omega
    ·have r:xs.size<=64:=by omega
     have am:0<=g:=by omega
     have an:g<=1:=by omega
     have E:Hl ([Value.int .u8 (1)]=[.int .u8 ((u8 (1)).toNat:Int)]):=Hm (by rw[kw (n:=1) (m:=1) (by omega)]);have J:(d).length+1<=maxLen:=by simp only[maxLen];(try simp only[List.length_append,List.length_cons,List.length_nil]);omega
     have K:((d).length+1)*1<=140737488355328:=by(try simp only[List.length_append,List.length_cons,List.length_nil]);omega
     have aa:Hl ([Value.int .u8 (g)]=[.int .u8 ((u8 (g)).toNat:Int)]):=Hm (by rw[kw (n:=g) (m:=g) (by omega)]);have ab:(d++[u8 1]).length+1<=maxLen:=by simp only[maxLen];(try simp only[List.length_append,List.length_cons,List.length_nil]);omega
     have ad:((d++[u8 1]).length+1)*1<=140737488355328:=by(try simp only[List.length_append,List.length_cons,List.length_nil]);omega
     go_wp2_with (first|(at_builtin;refine gY _ rfl _ _ _ rfl l5 (by simp) _ _ rfl U.o rfl rfl (u8 (1)) E.o J K ?_;intro v2 w2 q p f l;have G:=Hm q;have c0:=f.cell (a:=⟨wr.heap.size,0,none⟩) c0 h.o;have c1:=f.cell (a:=⟨wr.heap.size,1,none⟩) c1 h.o;have c2:=f.cell (a:=⟨wr.heap.size,2,none⟩) c2 h.o;have t:=Hm (sJ h.o V.o l);have Q:=Hm (lt_of_cell c0);have H:=Hm p;clear q f l p)|(at_builtin;refine gY _ rfl _ _ _ rfl l5 (by simp) _ _ rfl G.o rfl rfl (u8 (g)) aa.o ab ad ?_;intro v3 w3 B z s W;have N:=Hm B;have c0:=s.cell (a:=⟨wr.heap.size,0,none⟩) c0 t.o;have c1:=s.cell (a:=⟨wr.heap.size,1,none⟩) c1 t.o;have c2:=s.cell (a:=⟨wr.heap.size,2,none⟩) c2 t.o;have ao:=Hm (sJ t.o Q.o W);have ar:=Hm (lt_of_cell c0);have O:=Hm z;clear B s W z));have C:=Hm ((M.o.trans H.o).trans O.o);have j:Hl ((d++[u8 1])++[u8 g]=u8 n::(row.take (k+1)).flatMap lc):=Hm (by rw[lH u.o,<-List.cons_append,<-y.o,show lc _=_ from rfl];simp[lc,List.append_assoc]);have F:((d++[u8 1])++[u8 g]).length<=1+66*(k+1):=by
      rw[j.o,lH u.o,List.length_cons,List.length_append];have L:(lc ⟨1,g,xs⟩).length<=66:=rf _ r rfl;have I:=X;rw[y.o,List.length_cons]at I;omega
     have D:=Hm (N.o);go_wp2;go_roundw
     case rel=>exact⟨k+1,_,by omega,by go_num,j.o,F,T.o,D.o,C.o⟩
     case measure=>simp[RowKit.intOf];omega
    ·have r:xs.size<=64:=by omega
     have E:Hl ([Value.int .u8 (2)]=[.int .u8 ((u8 (2)).toNat:Int)]):=Hm (by rw[kw (n:=2) (m:=2) (by omega)]);have J:(d).length+1<=maxLen:=by simp only[maxLen];(try simp only[List.length_append,List.length_cons,List.length_nil]);omega
     have K:((d).length+1)*1<=140737488355328:=by(try simp only[List.length_append,List.length_cons,List.length_nil]);omega
     have az:IntKind.i64.wrap (g+1073741824)=g+1073741824:=IntWalk.i64_in _ (by omega);have ac:(d++[u8 2]).length<=1048576:=by(try simp only[List.length_append,List.length_cons,List.length_nil]);omega
     go_wp2_with (first|(at_builtin;refine gY _ rfl _ _ _ rfl l5 (by simp) _ _ rfl U.o rfl rfl (u8 (2)) E.o J K ?_;intro v2 w2 q p f l;have G:=Hm q;have c0:=f.cell (a:=⟨wr.heap.size,0,none⟩) c0 h.o;have c1:=f.cell (a:=⟨wr.heap.size,1,none⟩) c1 h.o;have c2:=f.cell (a:=⟨wr.heap.size,2,none⟩) c2 h.o;have t:=Hm (sJ h.o V.o l);have Q:=Hm (lt_of_cell c0);have H:=Hm p;clear q f l p)|(go_at_call 88;refine(Fa _ w.heap.size _ _ G.o (g+1073741824) (by omega) (by omega) ac).mono ?_;rintro e w3 ⟨⟨v3,rfl,B⟩,s,z⟩;have N:=Hm B;have O:=Hm z;clear B s z));have C:=Hm ((M.o.trans H.o).trans O.o);have j:Hl ((d++[u8 2])++nW (g+1073741824)=u8 n::(row.take (k+1)).flatMap lc):=Hm (by rw[lH u.o,<-List.cons_append,<-y.o,show lc _=_ from rfl];simp[lc,List.append_assoc]);have F:((d++[u8 2])++nW (g+1073741824)).length<=1+66*(k+1):=by
      rw[j.o,lH u.o,List.length_cons,List.length_append];have L:(lc ⟨2,g,xs⟩).length<=66:=rf _ r rfl;have I:=X;rw[y.o,List.length_cons]at I;omega
     have D:=Hm (N.o);go_wp2;go_roundw
     case rel=>exact⟨k+1,_,by omega,by go_num,j.o,F,T.o,D.o,C.o⟩
     case measure=>simp[RowKit.intOf];omega
    ·have r:xs.size<=64:=by omega
     have E:Hl ([Value.int .u8 (3)]=[.int .u8 ((u8 (3)).toNat:Int)]):=Hm (by rw[kw (n:=3) (m:=3) (by omega)]);have J:(d).length+1<=maxLen:=by simp only[maxLen];(try simp only[List.length_append,List.length_cons,List.length_nil]);omega
     have K:((d).length+1)*1<=140737488355328:=by(try simp only[List.length_append,List.length_cons,List.length_nil]);omega
     have aa:Hl ([Value.int .u8 ((xs.size:Int))]=[.int .u8 ((u8 ((xs.size:Int))).toNat:Int)]):=Hm (by rw[kw (n:=(xs.size:Int)) (m:=(xs.size:Int)) (by omega)]);have ab:(d++[u8 3]).length+1<=maxLen:=by simp only[maxLen];(try simp only[List.length_append,List.length_cons,List.length_nil]);omega
     have ad:((d++[u8 3]).length+1)*1<=140737488355328:=by(try simp only[List.length_append,List.length_cons,List.length_nil]);omega
     have av:((d++[u8 3])++[u8 (xs.size:Int)]).length+xs.size<=maxLen:=by simp only[maxLen,List.length_append,List.length_cons,List.length_nil];omega
     have aw:((d++[u8 3])++[u8 (xs.size:Int)]).length+xs.size<=140737488355328:=by simp only[List.length_append,List.length_cons,List.length_nil];omega
     go_wp2_with (first|(at_builtin;refine gY _ rfl _ _ _ rfl l5 (by simp) _ _ rfl U.o rfl rfl (u8 (3)) E.o J K ?_;intro v2 w2 q p f l;have G:=Hm q;have c0:=f.cell (a:=⟨wr.heap.size,0,none⟩) c0 h.o;have c1:=f.cell (a:=⟨wr.heap.size,1,none⟩) c1 h.o;have c2:=f.cell (a:=⟨wr.heap.size,2,none⟩) c2 h.o;have t:=Hm (sJ h.o V.o l);have Q:=Hm (lt_of_cell c0);have H:=Hm p;clear q f l p)|(at_builtin;refine gY _ rfl _ _ _ rfl l5 (by simp) _ _ rfl G.o rfl rfl (u8 ((xs.size:Int))) aa.o ab ad ?_;intro v3 w3 B z s W;have N:=Hm B;have c0:=s.cell (a:=⟨wr.heap.size,0,none⟩) c0 t.o;have c1:=s.cell (a:=⟨wr.heap.size,1,none⟩) c1 t.o;have c2:=s.cell (a:=⟨wr.heap.size,2,none⟩) c2 t.o;have ao:=Hm (sJ t.o Q.o W);have ar:=Hm (lt_of_cell c0);have O:=Hm z;clear B s W z)|(at_builtin;refine Bn rfl _ _ rfl N.o rfl xs rfl av aw ?_;intro v4 w4 ak ah;have ap:=Hm ak;have aq:=Hm ah;clear ak ah));have C:=Hm (((M.o.trans H.o).trans O.o).trans aq.o);have j:Hl (((d++[u8 3])++[u8 (xs.size:Int)])++xs.data.toList=u8 n::(row.take (k+1)).flatMap lc):=Hm (by rw[lH u.o,<-List.cons_append,<-y.o,show lc _=_ from rfl];simp[lc,List.append_assoc]);have F:(((d++[u8 3])++[u8 (xs.size:Int)])++xs.data.toList).length<=1+66*(k+1):=by
      rw[j.o,lH u.o,List.length_cons,List.length_append];have L:(lc ⟨3,0,xs⟩).length<=66:=rf _ r rfl;have I:=X;rw[y.o,List.length_cons]at I;omega
     have D:=Hm (ap.o);go_wp2;go_roundw
     case rel=>exact⟨k+1,_,by omega,by go_num,j.o,F,T.o,D.o,C.o⟩
     case measure=>simp[RowKit.intOf];omega
    ·have r:xs.size<=64:=by omega
     have E:Hl ([Value.int .u8 (4)]=[.int .u8 ((u8 (4)).toNat:Int)]):=Hm (by rw[kw (n:=4) (m:=4) (by omega)]);have J:(d).length+1<=maxLen:=by simp only[maxLen];(try simp only[List.length_append,List.length_cons,List.length_nil]);omega
     have K:((d).length+1)*1<=140737488355328:=by(try simp only[List.length_append,List.length_cons,List.length_nil]);omega
     have ac:(d++[u8 4]).length<=1048576:=by(try simp only[List.length_append,List.length_cons,List.length_nil]);omega
     go_wp2_with (first|(at_builtin;refine gY _ rfl _ _ _ rfl l5 (by simp) _ _ rfl U.o rfl rfl (u8 (4)) E.o J K ?_;intro v2 w2 q p f l;have G:=Hm q;have c0:=f.cell (a:=⟨wr.heap.size,0,none⟩) c0 h.o;have c1:=f.cell (a:=⟨wr.heap.size,1,none⟩) c1 h.o;have c2:=f.cell (a:=⟨wr.heap.size,2,none⟩) c2 h.o;have t:=Hm (sJ h.o V.o l);have Q:=Hm (lt_of_cell c0);have H:=Hm p;clear q f l p)|(go_at_call 88;refine(Fa _ w.heap.size _ _ G.o (g) (by omega) (by omega) ac).mono ?_;rintro e w3 ⟨⟨v3,rfl,B⟩,s,z⟩;have N:=Hm B;have O:=Hm z;clear B s z));have C:=Hm ((M.o.trans H.o).trans O.o);have j:Hl ((d++[u8 4])++nW (g)=u8 n::(row.take (k+1)).flatMap lc):=Hm (by rw[lH u.o,<-List.cons_append,<-y.o,show lc _=_ from rfl];simp[lc,List.append_assoc]);have F:((d++[u8 4])++nW (g)).length<=1+66*(k+1):=by
      rw[j.o,lH u.o,List.length_cons,List.length_append];have L:(lc ⟨4,g,xs⟩).length<=66:=rf _ r rfl;have I:=X;rw[y.o,List.length_cons]at I;omega
     have D:=Hm (N.o);go_wp2;go_roundw
     case rel=>exact⟨k+1,_,by omega,by go_num,j.o,F,T.o,D.o,C.o⟩
     case measure=>simp[RowKit.intOf];omega
  ·have Y:Hl (R=(0,d)):=Hm (by
    have L:fQ oW 0 row=0:=by rw[HE.o,gG P.o.len (by omega),fQ]
    rw[af.o,L,if_neg (by omega),y.o,List.take_of_length_le (by rw[P.o.len];omega),encR,P.o.len])
   obtain rfl:=Y.o;go_wp2;all_goals(try(exfalso;go_light;simp_all;done));go_ret2;exact⟨⟨_,rfl,HO.o⟩,HB.o⟩
theorem Dt {a b:Int}(h:u8 a=u8 b)(d:0<=a)(e:a<256)(hb:0<=b)(f:b<256):a=b:=by
 have c:=congrArg (λx:UInt8=>(x.toNat:Int)) h;simp only[GL]at c;omega
theorem Co {a b:Int}(h:nW a=nW b)(g:0<=a)(i:a<4294967296)(hb:0<=b)(j:b<4294967296):a=b:=by
 rw[nW,nW]at h;injection h with h1 h;injection h with h2 h;injection h with h3 h;injection h with h4 h;have c:=congrArg (λx:UInt8=>(x.toNat:Int)) h1;have d:=congrArg (λx:UInt8=>(x.toNat:Int)) h2;have e:=congrArg (λx:UInt8=>(x.toNat:Int)) h3;have f:=congrArg (λx:UInt8=>(x.toNat:Int)) h4;simp only[GL]at c d e f;omega
theorem uw {s t:ByteArray}(h:s.data.toList=t.data.toList):s=t:=by
 obtain⟨⟨a⟩⟩:=s;obtain⟨⟨b⟩⟩:=t;simp only at h;rw[h]
theorem wN {s t:ByteArray}(h:s.size=0)(a:t.size=0):s=t:=by
 refine uw ?_;have b:s.data.toList.length=0:=h;have c:t.data.toList.length=0:=a;rw[List.eq_nil_of_length_eq_zero b,List.eq_nil_of_length_eq_zero c]
theorem KA {v g:Val}{r m:List UInt8}(q:valid v=true)(t:valid g=true)(h:lc v++r=lc g++m):v=g/\r=m:=by
 obtain⟨k,n,s⟩:=v;obtain⟨l,n',d⟩:=g;have c:=qI q;have c':=qI t;simp only at c c';have i:0<=k/\k<256:=by omega
 have j:0<=l/\l<256:=by omega
 rw[lc,lc,List.cons_append,List.cons_append]at h;injection h with h1 h;simp only at h1 h;obtain rfl:=Dt h1 i.1 i.2 j.1 j.2;rcases c with ⟨rfl,c1,c2⟩|⟨rfl,c1,c2⟩|⟨rfl,c1,c2,c3⟩|⟨rfl,c1,c2⟩|⟨rfl,c1,c2,c3⟩
 ·have f:n'=0:=by omega
  have a:d.size=0:=by omega
  subst c1 f;obtain rfl:=wN c2 a;exact⟨rfl,by simpa using h⟩
 ·have f:n'=0\/n'=1:=by omega
  have a:d.size=0:=by omega
  obtain rfl:=wN c2 a;simp only[Int.reduceEq,↓reduceIte,List.cons_append,List.nil_append]at h;injection h with b h;obtain rfl:=Dt b (by omega) (by omega) (by omega) (by omega);exact⟨rfl,h⟩
 ·have a:d.size=0:=by omega
  obtain rfl:=wN c3 a;simp only[Int.reduceEq,↓reduceIte,List.cons_append]at h;obtain⟨b,e⟩:=List.append_inj h rfl;have:=Co b (by omega) (by omega) (by omega) (by omega);obtain rfl:n=n':=by omega
  exact⟨rfl,e⟩
 ·have f:n'=0:=by omega
  have a:d.size<=64:=by omega
  subst c1 f;simp only[Int.reduceEq,↓reduceIte,List.cons_append]at h;injection h with b h;have hs:=Dt b (by omega) (by omega) (by omega) (by omega);have p:s.data.toList.length=d.data.toList.length:=by
   show s.size=d.size;omega
  obtain⟨e,o⟩:=List.append_inj h p;obtain rfl:=uw e;exact⟨rfl,o⟩
 ·have a:d.size=0:=by omega
  obtain rfl:=wN c3 a;simp only[Int.reduceEq,↓reduceIte,List.cons_append]at h;obtain⟨b,e⟩:=List.append_inj h rfl;obtain rfl:=Co b (by omega) (by omega) (by omega) (by omega);exact⟨rfl,e⟩
theorem D5: ∀{xs a:List Val},xs.length=a.length->(∀x∈xs,valid x=true)->(∀y∈a,valid y=true)->xs.flatMap lc=a.flatMap lc->xs=a
 | [],[],_,_,_,_=>rfl
 | [],y::a,h,_,_,_=>by simp at h
 |x::xs,[],h,_,_,_=>by simp at h
 |x::xs,y::a,h,hx,hy,e=>by
  rw[List.flatMap_cons,List.flatMap_cons]at e;obtain⟨rfl,c⟩:=KA (hx x (by simp)) (hy y (by simp)) e;rw[D5 (by simpa using h) (λz b=>hx z (by simp[b])) (λz b=>hy z (by simp[b])) c]
theorem Kz {xs a:List Val}(d:xs.length<=12)(e:a.length<=12)(b: ∀x∈xs,valid x=true)(c: ∀y∈a,valid y=true)(h:encR xs=encR a):xs=a:=by
 rw[encR,encR]at h;injection h with h1 h2;have:=Dt h1 (by omega) (by omega) (by omega) (by omega);exact D5 (by omega) b c h2
open Go.RowKit Go.Maps
def mX (P:Program)(K:TypeId)(w:World)(b n:Nat)(z:Value)(f:ByteArray->Value):Prop:=
 ∃D:DataW Value,w.ownsMap P K RV b n D/\Maps.IsMap D/\ ∀s:ByteArray,D.atKey (.string s.data.toList) (.held z)=.held (f s)
section
variable {P:Program}{t K e:TypeId}{w a:World}{b n:Nat}{z:Value}{f:ByteArray->Value}
theorem mX.made (P:Program)(K:TypeId)(w:World)(z:Value):mX P K (w.alloc (.map #[] 0)) w.heap.size 0 z (λ_=>z):=
 ⟨.map [],World.ownsMap_made _ _ _ _,Maps.isMap_empty,λ_=>rfl⟩
theorem mX.lt (h:mX P K w b n z f):b<w.heap.size:=by
 obtain⟨D,c,_⟩:=h;exact c.lt
theorem mX.same (h:mX P K w b n z f)(hb:a.heap[b]?=w.heap[b]?):mX P K a b n z f:=by
 obtain⟨D,⟨es,clock,g,i⟩,c,d⟩:=h;exact⟨D,⟨es,clock,hb.trans g,i⟩,c,d⟩
theorem mX.below (h:mX P K w b n z f)(hb:Below w.heap.size w a):mX P K a b n z f:=h.same (hb.block b h.lt)
theorem mX.congr {c:ByteArray->Value}(h:mX P K w b n z f)(j: ∀s,f s=c s):mX P K w b n z c:=by
 obtain⟨D,d,g,i⟩:=h;exact⟨D,d,g,λs=>by rw[i s,j s]⟩
theorem mX.mono {m:Nat}(h:mX P K w b n z f)(i:n<=m):mX P K w b m z f:=by
 obtain⟨D,c,d,g⟩:=h;exact⟨D,c.mono i,d,g⟩
theorem mX.look (h:mX P K w b n z f)(m:P.underlying t=some (.map K e))(d:P.underlying K=some .string)(o: ∀V,(zeroValue e).run P V=.ok z V){s:ByteArray}(hs:s.size<=maxLen){V:World}(k:V.heap[b]?=w.heap[b]?):
  (Instr.lookup t (.map (some b)) (.string s) false).run P V=.ok (f s) V:=by
 obtain⟨D,i,p,j⟩:=h.same k;obtain⟨v,q,l,g⟩:=i.lookup (string_keyed d) m (o V) (zd:=.held z) (zp:=[]) rfl (WideMaps.keyOf_string_mk d hs);have c:=j s;simp only[RV,Option.some.injEq,Prod.mk.injEq]at g;rw[<-g.1]at c;injection c with c;rw[<-c];exact l
theorem mX.update (h:mX P K w b n z f)(x:P.underlying t=some (.map K e))(k:P.underlying K=some .string){s:ByteArray}(hs:s.size<=maxLen)(r:n<maxLen)(v:Value):
  ∃g,(Instr.mapUpdate t (.map (some b)) (.string s) v).run P w=.ok () g/\mX P K g b (n+1) z (λc=>if c=s then v else f c)/\w.grownBy g (some b):=by
 obtain⟨D,m,j,o⟩:=h;have p:WideAt.IsKeyLit (.string s.data.toList):=trivial;obtain⟨g,u,y,l⟩:=m.update (string_keyed k) x r (val:=v) (d:=.held v) (ps:=[]) (WideMaps.keyOf_string_mk k hs) rfl;refine⟨g,u,⟨_,y,j.put _ _,λc=>?_⟩,l⟩;show _=DataW.held (if c=s then v else f c);by_cases i:c=s
 ·subst i;rw[if_pos rfl];exact Maps.atKey_put_same j p _ _
 ·rw[if_neg i,<-o c];exact Maps.atKey_put_other (λq=>i (by injection q with q;exact uw q)) _ _
end
structure NMap (P:Program) (K e:TypeId) (B:Nat) (w:World) (b n:Nat) (f:ByteArray->Value) (F:ByteArray->List ByteArray):Prop where
 str:mX P K w b n (.slice none 0 0) f
 own: ∀s,OL e B (λ_=>False) [] w (f s) (F s)
 sep: ∀s s' k,(f s).ownBlock=some k->(f s').ownBlock=some k->s=s'
section
variable {P:Program}{t K e st:TypeId}{w a:World}{B b n:Nat}{f:ByteArray->Value}{F:ByteArray->List ByteArray}
theorem NMap.lt (h:NMap P K e B w b n f F):b<w.heap.size:=h.str.lt
theorem NMap.made (P:Program)(K e:TypeId)(w:World){B:Nat}(c:B<=w.heap.size):NMap P K e B (w.alloc (.map #[] 0)) w.heap.size 0 (λ_=>.slice none 0 0) (λ_=>[]):=
 ⟨mX.made P K w _,λs=>OL.nil (by simp;omega),λs d k h=>by cases h⟩
theorem NMap.below (h:NMap P K e B w b n f F)(hb:Below w.heap.size w a):NMap P K e B a b n f F:=⟨h.str.below hb,λs=>(h.own s).below hb,h.sep⟩
theorem NMap.mono {m:Nat}(h:NMap P K e B w b n f F)(c:n<=m):NMap P K e B w b m f F:=⟨h.str.mono c,h.own,h.sep⟩
theorem NMap.congr {c:ByteArray->List ByteArray}(h:NMap P K e B w b n f F)(d: ∀s,F s=c s):NMap P K e B w b n f c:=⟨h.str,λs=>d s▸h.own s,h.sep⟩
theorem NMap.rebase {B0:Nat}(h:NMap P K e B w b n f F)(c:B0<=B):NMap P K e B0 w b n f F:=⟨h.str,λs=>(h.own s).rebase c,h.sep⟩
theorem NMap.off (h:NMap P K e B w b n f F)(s:ByteArray):(f s).ownBlock≠some b:=λq=>by
 obtain⟨D,⟨es,clock,g,_⟩,_⟩:=h.str;obtain⟨_,c,d⟩:=(h.own s).ty q;rw[g]at d;injection d with d;cases d
theorem NMap.grown {row:Option Nat}(h:NMap P K e B w b n f F)(i:w.grownBy a row)(j: ∀k,row=some k-> ∃t,iF w t k/\t≠e):NMap P K e B a b n f F:=
 ⟨h.str.same (i.block b h.lt λq=>by
  obtain⟨t,⟨c,g⟩,_⟩:=j b q.symm;obtain⟨D,⟨es,clock,d,_⟩,_⟩:=h.str;rw[g]at d;injection d with d;cases d),λs=>(h.own s).grown i λk l=>⟨λq=>by
   obtain⟨t,g,d⟩:=j k l;exact iF.ne g ((h.own s).ty q).2 d rfl,λq=>by
   rcases q with ⟨q,_⟩|⟨_,t,m,_⟩
   ·exact q
   ·cases m⟩,h.sep⟩
theorem NMap.look (h:NMap P K e B w b n f F)(g:P.underlying t=some (.map K st))(c:P.underlying K=some .string)(i: ∀V,(zeroValue st).run P V=.ok (.slice none 0 0) V){s:ByteArray}(hs:s.size<=maxLen){V:World}(d:V.heap[b]?=w.heap[b]?):
  (Instr.lookup t (.map (some b)) (.string s) false).run P V=.ok (f s) V:=h.str.look g c i hs d
theorem NMap.push (h:NMap P K e B w b n f F)(p:P.underlying t=some (.map K st))(H:P.underlying K=some .string){T x:ByteArray}(I:T.size<=maxLen)(N:n<maxLen){g:World}{i:Value}(E:w.grownBy g (f T).ownBlock)(Q:OL e B (λ_=>False) [] g i (F T++[x]))(J:i.ownBlock=(f T).ownBlock\/ ∃k,i.ownBlock=some k/\w.heap.size<=k):
  ∃o,(Instr.mapUpdate t (.map (some b)) (.string T) i).run P g=.ok () o/\NMap P K e B o b (n+1) (λs=>if s=T then i else f s) (λs=>if s=T then F T++[x] else F s)/\g.grownBy o (some b):=by
 have C:g.heap[b]?=w.heap[b]?:=E.block b h.lt λq=>h.off T q.symm;obtain⟨o,R,L,G⟩:=(h.str.same C).update p H I N i;have M: ∃es cl,g.heap[b]?=some (.map es cl):=by
  obtain⟨D,⟨es,clock,z,_⟩,_⟩:=h.str;exact⟨es,clock,C.trans z⟩
 have O: ∀{v:Value} {xs:List ByteArray},OL e B (λ_=>False) [] g v xs->v.ownBlock≠some b:=λu q=>by
  obtain⟨es,cl,z⟩:=M;obtain⟨_,c,r⟩:=u.ty q;rw[z]at r;injection r with r;cases r
 have stay: ∀{v:Value} {xs:List ByteArray},OL e B (λ_=>False) [] g v xs->OL e B (λ_=>False) [] o v xs:=λu=>
  u.grown G λk d=>by
   injection d with d;subst d;refine⟨O u,λq=>?_⟩;rcases q with ⟨q,_⟩|⟨_,t,p,_⟩
   ·exact q
   ·cases p
 refine⟨o,R,⟨L,λs=>?_,λs A k d l=>?_⟩,G⟩
 ·by_cases hs:s=T
  ·rw[if_pos hs,if_pos hs];exact stay Q
  ·rw[if_neg hs,if_neg hs];refine stay ((h.own s).grown E λk d=>⟨λq=>hs (h.sep _ _ k q d),λq=>?_⟩);rcases q with ⟨q,_⟩|⟨_,t,p,_⟩
   ·exact q
   ·cases p
 ·have far: ∀s,s≠T-> ∀k,i.ownBlock=some k->(f s).ownBlock≠some k:=λs hs k d q=>by
   rcases J with y|⟨j,y,S⟩
   ·exact hs (h.sep _ _ k q (y▸d))
   ·rw[y]at d;injection d with d;have:=((h.own s).ty q).2.lt;omega
  by_cases hs:s=T
  ·by_cases m:A=T
   ·rw[hs,m]
   ·rw[if_pos hs]at d;rw[if_neg m]at l;exact absurd l (far A m k d)
  ·by_cases m:A=T
   ·rw[if_neg hs]at d;rw[if_pos m]at l;exact absurd d (far s hs k l)
   ·rw[if_neg hs]at d;rw[if_neg m]at l;exact h.sep _ _ k d l
end
end Go.Proofs.YtopjjlmfilgngaaGreatDoor
