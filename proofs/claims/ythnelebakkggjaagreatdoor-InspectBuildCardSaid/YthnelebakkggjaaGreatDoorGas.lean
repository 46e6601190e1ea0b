/-
  value.word, value.Encode: the bytes of a row. value.Encode. (Printed by gen_enc.py.) Plain law: the encodings of two valid rows are equal only if the rows are. No program is in sight. A map from strings that the call has made: what lies at each key. No program is in sight.
-/
import Derived.Test.YthnelebakkggjaaGreatDoorGaq
namespace Go.Proofs.YthnelebakkggjaaGreatDoor
set_option maxHeartbeats 8000000
set_option maxRecDepth 100000
open Go.RowKit
set_option linter.unusedSimpArgs false
set_option linter.unusedVariables false
instance:Rep UInt8 where
 size:=1
 rd _ _ cs b:=cs=[.int .u8 b.toNat]
 len h:=by rw[h];rfl
 keep _ h:=h
 mono _ h:=h
instance:One UInt8:=⟨by rintro w S cs a rfl u hu;simp at hu;subst hu;rfl⟩
theorem AO:(Tryz.prog.info? 5).map (λi=>(i.zero,i.size,i.bytes))=some (some (.int .u8 0),1,1):=by kernel_rfl
theorem lT:Elem Tryz.prog 95 5 1 1:=BJ _ Tryz.underlying95 AO rfl (by decide)
abbrev OB (B:Nat)(w:World)(v:Value)(a:List UInt8):Prop:=OL 5 B (λ_=>False) [] w v a
def u8 (n:Int):UInt8:=UInt8.ofNat (n % 256).toNat
def nM (n:Int):List UInt8:=[u8 (n / 16777216),u8 (n / 65536),u8 (n / 256),u8 n]
theorem FE (n:Int):((u8 n).toNat:Int)=n % 256:=by
 have a:0<=n % 256:=Int.emod_nonneg _ (by decide);have b:n % 256<256:=Int.emod_lt_of_pos _ (by decide);rw[u8,UInt8.toNat_ofNat'];omega
theorem jX {n m:Int}(h:m=n % 256):Value.int .u8 m=.int .u8 ((u8 n).toNat:Int):=by rw[FE,h]
theorem Cells.bytes {w:World}{S:Nat->Prop}: ∀{bs:List UInt8} {cs:List Value},cs=bs.map (λb=>Value.int .u8 b.toNat)->Cells w S cs bs
 | [],cs,h=>h
 |b::bs,cs,h=>⟨[.int .u8 b.toNat],bs.map (λb=>Value.int .u8 b.toNat),by rw[h];rfl,rfl,Cells.bytes rfl⟩
theorem Eh (W:World)(B:Nat)(v:Value)(a:List UInt8)(c:OB B W v a)(n:Int)(x:0<=n)(y:n<4294967296)(z:a.length<=1048576):
  Calls Tryz.prog 89 #[v,.int .i64 n] W λe w'=>(∃i,e=.returned i/\OB B w' i (a++nM n))/\W.grownBy w' v.ownBlock/\Below B W w':=by
 have m:=Hm c;have k:=Hm (Cells.bytes (w:=W.alloc (.cells #[.int .u8 (n / 16777216),.int .u8 (n / 65536 % 256),.int .u8 (n / 256 % 256),.int .u8 (n % 256)] 5)) (S:=BS B (λ_=>False) [] (W.alloc (.cells #[.int .u8 (n / 16777216),.int .u8 (n / 65536 % 256),.int .u8 (n / 256 % 256),.int .u8 (n % 256)] 5))) (bs:=nM n) (cs:=[.int .u8 (n / 16777216),.int .u8 (n / 65536 % 256),.int .u8 (n / 256 % 256),.int .u8 (n % 256)]) (by
  simp only[nM,List.map_cons,List.map_nil];rw[jX (n:=n / 16777216) Ho,jX (n:=n / 65536) rfl,jX (n:=n / 256) rfl,jX (n:=n) rfl]))
 have r:=Hm (xe W #[.int .u8 (n / 16777216),.int .u8 (n / 65536 % 256),.int .u8 (n / 256 % 256),.int .u8 (n % 256)] 5 1 4 rfl);have p:=Hm (c.b (eB (o:=.cells #[.int .u8 (n / 16777216),.int .u8 (n / 65536 % 256),.int .u8 (n / 256 % 256),.int .u8 (n % 256)] 5)));have t:a.length+4<=maxLen:=by simp only[maxLen];omega
 have u:(a.length+4)*1<=140737488355328:=by omega
 go_enter Tryz.func89,Tryz.ntmps89;go_wp2_with (at_builtin;refine ow _ rfl _ _ _ rfl lT II p.o rfl (some ⟨W.heap.size,0,none⟩) 4 4 _ (nM n) rfl (λh=>by cases h) r.o k.o rfl t u ?_;intro A C g d f s);have q:=Hm g;have l:=Hm ((Below.grows (eB (w:=W)) v.ownBlock).trans f);have j:=Hm (((eB (w:=W)).mono m.o.base).trans d);clear g d f s;go_wp2;go_ret;exact⟨⟨_,rfl,q.o⟩,l.o,j.o⟩
def kX (v:Val):List UInt8:=
 u8 v.kind::(if v.kind=1 then [u8 v.num] else if v.kind=2 then nM (v.num+1073741824) else if v.kind=4 then nM v.num else if v.kind=3 then u8 v.str.size::v.str.data.toList else [])
def encR (row:List Val):List UInt8:=u8 row.length::row.flatMap kX
def encS (row:List Val):Int×List UInt8:=if 12<row.length then(2,[]) else if eH oN 0 row≠0 then(8,[]) else(0,encR row)
theorem qZ (v:Val){s:ByteArray}(h:s.size<=64)(a:v.str=s):(kX v).length<=66:=by
 have b:v.str.data.toList.length<=64:=by rw[a];exact h
 rw[kX]
 split
 ·simp
 ·split
  ·simp[nM]
  ·split
   ·simp[nM]
   ·split
    ·simp only[List.length_cons];omega
    ·simp
theorem qH {v:Val}(h:valid v=true):(v.kind=0/\v.num=0/\v.str.size=0)\/(v.kind=1/\(v.num=0\/v.num=1)/\v.str.size=0)\/(v.kind=2/\ -1073741824<=v.num/\v.num<=1073741824/\v.str.size=0)\/(v.kind=3/\v.num=0/\v.str.size<=64)\/(v.kind=4/\0<=v.num/\v.num<=575999999/\v.str.size=0):=by
 have hs: ∀s:ByteArray,jH s=true->s.size=0:=λs hs=>by
  rw[jH,ByteArray.toList_eq,List.isEmpty_iff]at hs;have:=congrArg List.length hs;simpa using this
 rw[valid]at h;by_cases a:v.kind=0
 ·rw[if_pos a]at h;simp at h;exact .inl ⟨a,h.1,hs _ h.2⟩
 rw[if_neg a]at h;by_cases b:v.kind=1
 ·rw[if_pos b]at h;simp at h;exact .inr (.inl ⟨b,h.2,hs _ h.1⟩)
 rw[if_neg b]at h;by_cases c:v.kind=2
 ·rw[if_pos c]at h;simp at h;exact .inr (.inr (.inl ⟨c,h.2.1,h.2.2,hs _ h.1⟩))
 rw[if_neg c]at h;by_cases d:v.kind=3
 ·rw[if_pos d]at h;simp at h;exact .inr (.inr (.inr (.inl ⟨d,h.1,h.2⟩)))
 rw[if_neg d]at h;by_cases e:v.kind=4
 ·rw[if_pos e]at h;simp at h;exact .inr (.inr (.inr (.inr ⟨e,h.2.1,h.2.2,hs _ h.1⟩)))
 rw[if_neg e]at h;cases h
theorem yA: ∀{w:World} {S:Nat->Prop} {c:List UInt8} {a:List Value},Cells w S a c->a=c.map (λb=>Value.int .u8 b.toNat)
 | _,_,[],a,h=>h
 |w,S,b::c,a,⟨c0,c1,e,h0,h1⟩=>by
  rw[e,show c0=[.int .u8 b.toNat] from h0,yA h1];rfl
theorem OL.built {α:Type}[Rep α]{w:World}{e:TypeId}{B:Nat}{O:Nat->Prop}{T:List TypeId}{arr:Array Value}{m:Nat}{xs:List α}(b:B<=w.heap.size)(d:m<=maxLen)(a:xs.length=m)(hs:arr.size=m*Rep.size α)(c:Cells (w.alloc (.cells arr e)) (BS B O T (w.alloc (.cells arr e))) arr.toList xs):
  OL e B O T (w.alloc (.cells arr e)) (.slice (some ⟨w.heap.size,0,none⟩) m m) xs:=
 ⟨⟨arr.toList,⟨by rw[Array.length_toList,hs,a],.inr ⟨w.heap.size,m,arr,by rw[a],b,heap_alloc_new w _,Ho,d,hs,by rw[a,<-hs];exact List.take_of_length_le II⟩⟩,c⟩,Nat.le_trans b (eB (o:=.cells arr e)).size⟩
theorem Az {f:Array Oper}{rest:List Oper}{o:Oper}{a:Act}{Q:Exit->Act->World->Prop}{w:World}(l:o.guard=none)(sl x:Operand)(m:o.op=.call {callee:=.builtin .append,args:= #[sl,x],argTypes:= #[95,9]}){B:Nat}{v:Value}{b:List UInt8}(c:OB B w v b)(hs:a.eval sl=v)(s:ByteArray)(n:a.eval x=.string s)(i:b.length+s.size<=maxLen)(k:b.length+s.size<=140737488355328)(h: ∀d w',OB B w' d (b++s.data.toList)->Below B w w'->wpList Tryz.prog f Q rest (a.put o.dst d) w'):wpList Tryz.prog f Q (o::rest) a w:=by
 obtain⟨u,hi,p,r,t⟩:=info_parts AO;obtain⟨y,e,g⟩:=c.own;obtain rfl:=yA g;refine Lib.wpList_append_own_string w l sl x 95 9 m B 5 u Tryz.underlying95 Tryz.underlying9 hi p r t v b.length _ hs e s n i k c.base λd w' g1 g2 _=>?_;have hb:Below B w w':=(Below.refl B w).grown g2 c.base λj q=>(vS e q).1;refine h d w' ⟨⟨_,?_,Cells.bytes rfl⟩,Nat.le_trans c.base hb.size⟩ hb;rw[List.length_append,List.map_append];exact g1
theorem own_ne {α:Type}[Rep α]{e:TypeId}{B:Nat}{O:Nat->Prop}{T:List TypeId}{w:World}{v:Value}{xs:List α}(h:OL e B O T w v xs):some w.heap.size≠v.ownBlock:=λq=>by
 have:=(h.ty q.symm).2.lt;omega
theorem rX {b n:Nat}{v c:Value}(h:some b≠v.ownBlock)(hb:b<n)(d:c.ownBlock=v.ownBlock\/ ∃k,c.ownBlock=some k/\n<=k):some b≠c.ownBlock:=λq=>by
 rcases d with a|⟨k,a,e⟩
 ·exact h (q.trans a)
 ·rw[a]at q;injection q with q;omega
theorem lv {row:List Val}{k:Nat}{x:Val}{l:List Val}(h:row.drop k=x::l):(row.take (k+1)).flatMap kX=(row.take k).flatMap kX++kX x:=by
 rw[gJ h,List.flatMap_append];simp
theorem yI (w:World)(A:Option Addr)(n c:Nat)(row:List Val)(hx:In w A n c row):
  Calls Tryz.prog 53 #[.slice A n c] w
   λe w'=>(∃v,e=.returned (.tuple #[v,.int .i64 (encS row).1])/\OB w.heap.size w' v (encS row).2)/\Below w.heap.size w w':=by
 have HD:=Hm (show encS row=if 12<row.length then(2,[]) else if eH oN 0 row≠0 then(8,[]) else(0,encR row) from rfl);obtain⟨R,hR⟩: ∃R,encS row=R:=⟨_,rfl⟩;rw[hR]at HD;rw[hR];clear hR;have P:=Hm hx;have ax:=hx.le;clear hx;by_cases ag:12<n
 ·have Y:Hl (R=(2,[])):=Hm (by rw[HD.o,P.o.len,if_pos ag]);obtain rfl:=Y.o;go_enter Tryz.func53,Tryz.ntmps53;go_wp2;all_goals(try(exfalso;go_light;simp_all;done));go_ret2;exact⟨⟨_,rfl,OL.nil IK⟩,IJ⟩
 have af:Hl (R=if eH oN 0 row≠0 then(8,[]) else(0,encR row)):=Hm (by rw[HD.o,P.o.len,if_neg ag]);have ae:Hl (OB w.heap.size (w.alloc (.cells #[.int .u8 (n:Int)] 5)) (.slice (some ⟨w.heap.size,0,none⟩) 1 1) [u8 n]):=Hm (OL.built IK (by simp only[maxLen];omega) rfl rfl (Cells.bytes (by
  simp only[List.map_cons,List.map_nil];rw[jX (n:=(n:Int)) (m:=(n:Int)) Ho])))
 go_enter Tryz.func53,Tryz.ntmps53;go_wp2;go_loopw [4,16] (λo i wr=> ∃(k:Nat) (d:List UInt8),k<=n/\i=.int .i64 k/\d=u8 n::(row.take k).flatMap kX/\d.length<=1+66*k/\eH oN 0 row=eH oN k (row.drop k)/\OB w.heap.size wr o d/\Below w.heap.size w wr) (λ_ i _=>n-(RowKit.intOf i).toNat)
 case atStart=>exact⟨0,[u8 n],Nat.zero_le _,rfl,by simp,by simp,rfl,ae.o,eB⟩
 case round=>
  clear ae;obtain⟨k,d,hk,rfl,ai,X,aj,ho,hb⟩:=hrel;have y:=Hm ai;have HE:=Hm aj;have HO:=Hm ho;have HB:=Hm hb;have h:=Hm (own_ne ho);clear ai aj ho hb;by_cases au:k<n
  ·obtain⟨b,off,x,rfl,ay,u,f0,f1,f2,f3⟩:=(P.o.b HB.o).val au;go_wp2_with fail;refine(rD x f3 _).mono ?_;rintro e w1 ⟨rfl,S⟩;have M:=Hm (eu (eu HB.o eB) S);have c0:w1.cell? ⟨wr.heap.size,0,none⟩=some (.int .i64 x.kind):=eG S II (by simp[go_sem]);have c1:w1.cell? ⟨wr.heap.size,1,none⟩=some (.int .i64 x.num):=eG S II (by simp[go_sem]);have c2:w1.cell? ⟨wr.heap.size,2,none⟩=some (.string x.str):=eG S II (by simp[go_sem]);have U:=Hm ((HO.o.b eB).b S);have V:=Hm (lt_of_cell c0);clear S f0 f1 f2 f3;cases Z:valid x
   ·have Y:Hl (R=(8,[])):=Hm (by
     have L:eH oN 0 row=8:=by rw[HE.o,u.o];exact fI (by rw[oN,Z];rfl) Ho
     rw[af.o,L,if_pos Ho])
    obtain rfl:=Y.o;go_wp2;all_goals(try(exfalso;go_light;simp_all;done));go_ret2;exact⟨⟨_,rfl,OL.nil M.o.size⟩,M.o⟩
   ·have T:Hl (eH oN 0 row=eH oN (k+1) (row.drop (k+1))):=Hm (by rw[HE.o,u.o];exact gG (by rw[oN,Z];rfl));have al:=qH Z;clear Z;obtain⟨xk,g,xs⟩:=x;simp only at c0 c1 c2 al;rcases al with ⟨rfl,_,r⟩|⟨rfl,aA,r⟩|⟨rfl,am,an,r⟩|⟨rfl,rfl,r⟩|⟨rfl,am,an,r⟩
    ·have r:xs.size<=64:=by omega
     have E:Hl ([Value.int .u8 (0)]=[.int .u8 ((u8 (0)).toNat:Int)]):=Hm (by rw[jX (n:=0) (m:=0) Ho]);have J:(d).length+1<=maxLen:=by simp only[maxLen];(try simp only[List.length_append,List.length_cons,List.length_nil]);omega
     have K:((d).length+1)*1<=140737488355328:=by(try simp only[List.length_append,List.length_cons,List.length_nil]);omega
     go_wp2_with (at_builtin;refine gD _ rfl _ _ _ rfl lT II _ _ rfl U.o rfl rfl (u8 (0)) E.o J K ?_;intro v2 w2 q p f l;have G:=Hm q;have c0:=f.cell (a:=⟨wr.heap.size,0,none⟩) c0 h.o;have c1:=f.cell (a:=⟨wr.heap.size,1,none⟩) c1 h.o;have c2:=f.cell (a:=⟨wr.heap.size,2,none⟩) c2 h.o;have t:=Hm (rX h.o V.o l);have Q:=Hm (lt_of_cell c0);have H:=Hm p;clear q f l p);have C:=Hm (M.o.trans H.o);have j:Hl (d++[u8 0]=u8 n::(row.take (k+1)).flatMap kX):=Hm (by rw[lv u.o,<-List.cons_append,<-y.o,show kX _=_ from rfl];simp[kX,List.append_assoc]);have F:(d++[u8 0]).length<=1+66*(k+1):=by
      rw[j.o,lv u.o,List.length_cons,List.length_append];have L:(kX ⟨0,g,xs⟩).length<=66:=qZ _ r rfl;have I:=X;rw[y.o,List.length_cons]at I;omega
     have D:=Hm (G.o);go_wp2;go_roundw
     case rel=>exact⟨k+1,_,Ho,by go_num,j.o,F,T.o,D.o,C.o⟩
     case measure=>simp[RowKit.intOf];omega
    ·have r:xs.size<=64:=by omega
     have am:0<=g:=by omega
     have an:g<=1:=by omega
     have E:Hl ([Value.int .u8 (1)]=[.int .u8 ((u8 (1)).toNat:Int)]):=Hm (by rw[jX (n:=1) (m:=1) Ho]);have J:(d).length+1<=maxLen:=by simp only[maxLen];(try simp only[List.length_append,List.length_cons,List.length_nil]);omega
     have K:((d).length+1)*1<=140737488355328:=by(try simp only[List.length_append,List.length_cons,List.length_nil]);omega
     have aa:Hl ([Value.int .u8 (g)]=[.int .u8 ((u8 (g)).toNat:Int)]):=Hm (by rw[jX (n:=g) (m:=g) Ho]);have ab:(d++[u8 1]).length+1<=maxLen:=by simp only[maxLen];(try simp only[List.length_append,List.length_cons,List.length_nil]);omega
     have ad:((d++[u8 1]).length+1)*1<=140737488355328:=by(try simp only[List.length_append,List.length_cons,List.length_nil]);omega
     go_wp2_with (first|(at_builtin;refine gD _ rfl _ _ _ rfl lT II _ _ rfl U.o rfl rfl (u8 (1)) E.o J K ?_;intro v2 w2 q p f l;have G:=Hm q;have c0:=f.cell (a:=⟨wr.heap.size,0,none⟩) c0 h.o;have c1:=f.cell (a:=⟨wr.heap.size,1,none⟩) c1 h.o;have c2:=f.cell (a:=⟨wr.heap.size,2,none⟩) c2 h.o;have t:=Hm (rX h.o V.o l);have Q:=Hm (lt_of_cell c0);have H:=Hm p;clear q f l p)|(at_builtin;refine gD _ rfl _ _ _ rfl lT II _ _ rfl G.o rfl rfl (u8 (g)) aa.o ab ad ?_;intro v3 w3 B z s W;have N:=Hm B;have c0:=s.cell (a:=⟨wr.heap.size,0,none⟩) c0 t.o;have c1:=s.cell (a:=⟨wr.heap.size,1,none⟩) c1 t.o;have c2:=s.cell (a:=⟨wr.heap.size,2,none⟩) c2 t.o;have ao:=Hm (rX t.o Q.o W);have ar:=Hm (lt_of_cell c0);have O:=Hm z;clear B s W z));have C:=Hm ((M.o.trans H.o).trans O.o);have j:Hl ((d++[u8 1])++[u8 g]=u8 n::(row.take (k+1)).flatMap kX):=Hm (by rw[lv u.o,<-List.cons_append,<-y.o,show kX _=_ from rfl];simp[kX,List.append_assoc]);have F:((d++[u8 1])++[u8 g]).length<=1+66*(k+1):=by
      rw[j.o,lv u.o,List.length_cons,List.length_append];have L:(kX ⟨1,g,xs⟩).length<=66:=qZ _ r rfl;have I:=X;rw[y.o,List.length_cons]at I;omega
     have D:=Hm (N.o);go_wp2;go_roundw
     case rel=>exact⟨k+1,_,Ho,by go_num,j.o,F,T.o,D.o,C.o⟩
     case measure=>simp[RowKit.intOf];omega
    ·have r:xs.size<=64:=by omega
     have E:Hl ([Value.int .u8 (2)]=[.int .u8 ((u8 (2)).toNat:Int)]):=Hm (by rw[jX (n:=2) (m:=2) Ho]);have J:(d).length+1<=maxLen:=by simp only[maxLen];(try simp only[List.length_append,List.length_cons,List.length_nil]);omega
     have K:((d).length+1)*1<=140737488355328:=by(try simp only[List.length_append,List.length_cons,List.length_nil]);omega
     have az:IntKind.i64.wrap (g+1073741824)=g+1073741824:=IntWalk.i64_in _ Ho;have ac:(d++[u8 2]).length<=1048576:=by(try simp only[List.length_append,List.length_cons,List.length_nil]);omega
     go_wp2_with (first|(at_builtin;refine gD _ rfl _ _ _ rfl lT II _ _ rfl U.o rfl rfl (u8 (2)) E.o J K ?_;intro v2 w2 q p f l;have G:=Hm q;have c0:=f.cell (a:=⟨wr.heap.size,0,none⟩) c0 h.o;have c1:=f.cell (a:=⟨wr.heap.size,1,none⟩) c1 h.o;have c2:=f.cell (a:=⟨wr.heap.size,2,none⟩) c2 h.o;have t:=Hm (rX h.o V.o l);have Q:=Hm (lt_of_cell c0);have H:=Hm p;clear q f l p)|(go_at_call 89;refine(Eh _ w.heap.size _ _ G.o (g+1073741824) Ho Ho ac).mono ?_;rintro e w3 ⟨⟨v3,rfl,B⟩,s,z⟩;have N:=Hm B;have O:=Hm z;clear B s z));have C:=Hm ((M.o.trans H.o).trans O.o);have j:Hl ((d++[u8 2])++nM (g+1073741824)=u8 n::(row.take (k+1)).flatMap kX):=Hm (by rw[lv u.o,<-List.cons_append,<-y.o,show kX _=_ from rfl];simp[kX,List.append_assoc]);have F:((d++[u8 2])++nM (g+1073741824)).length<=1+66*(k+1):=by
      rw[j.o,lv u.o,List.length_cons,List.length_append];have L:(kX ⟨2,g,xs⟩).length<=66:=qZ _ r rfl;have I:=X;rw[y.o,List.length_cons]at I;omega
     have D:=Hm (N.o);go_wp2;go_roundw
     case rel=>exact⟨k+1,_,Ho,by go_num,j.o,F,T.o,D.o,C.o⟩
     case measure=>simp[RowKit.intOf];omega
    ·have r:xs.size<=64:=by omega
     have E:Hl ([Value.int .u8 (3)]=[.int .u8 ((u8 (3)).toNat:Int)]):=Hm (by rw[jX (n:=3) (m:=3) Ho]);have J:(d).length+1<=maxLen:=by simp only[maxLen];(try simp only[List.length_append,List.length_cons,List.length_nil]);omega
     have K:((d).length+1)*1<=140737488355328:=by(try simp only[List.length_append,List.length_cons,List.length_nil]);omega
     have aa:Hl ([Value.int .u8 ((xs.size:Int))]=[.int .u8 ((u8 ((xs.size:Int))).toNat:Int)]):=Hm (by rw[jX (n:=(xs.size:Int)) (m:=(xs.size:Int)) Ho]);have ab:(d++[u8 3]).length+1<=maxLen:=by simp only[maxLen];(try simp only[List.length_append,List.length_cons,List.length_nil]);omega
     have ad:((d++[u8 3]).length+1)*1<=140737488355328:=by(try simp only[List.length_append,List.length_cons,List.length_nil]);omega
     have av:((d++[u8 3])++[u8 (xs.size:Int)]).length+xs.size<=maxLen:=by simp only[maxLen,List.length_append,List.length_cons,List.length_nil];omega
     have aw:((d++[u8 3])++[u8 (xs.size:Int)]).length+xs.size<=140737488355328:=by simp only[List.length_append,List.length_cons,List.length_nil];omega
     go_wp2_with (first|(at_builtin;refine gD _ rfl _ _ _ rfl lT II _ _ rfl U.o rfl rfl (u8 (3)) E.o J K ?_;intro v2 w2 q p f l;have G:=Hm q;have c0:=f.cell (a:=⟨wr.heap.size,0,none⟩) c0 h.o;have c1:=f.cell (a:=⟨wr.heap.size,1,none⟩) c1 h.o;have c2:=f.cell (a:=⟨wr.heap.size,2,none⟩) c2 h.o;have t:=Hm (rX h.o V.o l);have Q:=Hm (lt_of_cell c0);have H:=Hm p;clear q f l p)|(at_builtin;refine gD _ rfl _ _ _ rfl lT II _ _ rfl G.o rfl rfl (u8 ((xs.size:Int))) aa.o ab ad ?_;intro v3 w3 B z s W;have N:=Hm B;have c0:=s.cell (a:=⟨wr.heap.size,0,none⟩) c0 t.o;have c1:=s.cell (a:=⟨wr.heap.size,1,none⟩) c1 t.o;have c2:=s.cell (a:=⟨wr.heap.size,2,none⟩) c2 t.o;have ao:=Hm (rX t.o Q.o W);have ar:=Hm (lt_of_cell c0);have O:=Hm z;clear B s W z)|(at_builtin;refine Az rfl _ _ rfl N.o rfl xs rfl av aw ?_;intro v4 w4 ak ah;have ap:=Hm ak;have aq:=Hm ah;clear ak ah));have C:=Hm (((M.o.trans H.o).trans O.o).trans aq.o);have j:Hl (((d++[u8 3])++[u8 (xs.size:Int)])++xs.data.toList=u8 n::(row.take (k+1)).flatMap kX):=Hm (by rw[lv u.o,<-List.cons_append,<-y.o,show kX _=_ from rfl];simp[kX,List.append_assoc]);have F:(((d++[u8 3])++[u8 (xs.size:Int)])++xs.data.toList).length<=1+66*(k+1):=by
      rw[j.o,lv u.o,List.length_cons,List.length_append];have L:(kX ⟨3,0,xs⟩).length<=66:=qZ _ r rfl;have I:=X;rw[y.o,List.length_cons]at I;omega
     have D:=Hm (ap.o);go_wp2;go_roundw
     case rel=>exact⟨k+1,_,Ho,by go_num,j.o,F,T.o,D.o,C.o⟩
     case measure=>simp[RowKit.intOf];omega
    ·have r:xs.size<=64:=by omega
     have E:Hl ([Value.int .u8 (4)]=[.int .u8 ((u8 (4)).toNat:Int)]):=Hm (by rw[jX (n:=4) (m:=4) Ho]);have J:(d).length+1<=maxLen:=by simp only[maxLen];(try simp only[List.length_append,List.length_cons,List.length_nil]);omega
     have K:((d).length+1)*1<=140737488355328:=by(try simp only[List.length_append,List.length_cons,List.length_nil]);omega
     have ac:(d++[u8 4]).length<=1048576:=by(try simp only[List.length_append,List.length_cons,List.length_nil]);omega
     go_wp2_with (first|(at_builtin;refine gD _ rfl _ _ _ rfl lT II _ _ rfl U.o rfl rfl (u8 (4)) E.o J K ?_;intro v2 w2 q p f l;have G:=Hm q;have c0:=f.cell (a:=⟨wr.heap.size,0,none⟩) c0 h.o;have c1:=f.cell (a:=⟨wr.heap.size,1,none⟩) c1 h.o;have c2:=f.cell (a:=⟨wr.heap.size,2,none⟩) c2 h.o;have t:=Hm (rX h.o V.o l);have Q:=Hm (lt_of_cell c0);have H:=Hm p;clear q f l p)|(go_at_call 89;refine(Eh _ w.heap.size _ _ G.o (g) Ho Ho ac).mono ?_;rintro e w3 ⟨⟨v3,rfl,B⟩,s,z⟩;have N:=Hm B;have O:=Hm z;clear B s z));have C:=Hm ((M.o.trans H.o).trans O.o);have j:Hl ((d++[u8 4])++nM (g)=u8 n::(row.take (k+1)).flatMap kX):=Hm (by rw[lv u.o,<-List.cons_append,<-y.o,show kX _=_ from rfl];simp[kX,List.append_assoc]);have F:((d++[u8 4])++nM (g)).length<=1+66*(k+1):=by
      rw[j.o,lv u.o,List.length_cons,List.length_append];have L:(kX ⟨4,g,xs⟩).length<=66:=qZ _ r rfl;have I:=X;rw[y.o,List.length_cons]at I;omega
     have D:=Hm (N.o);go_wp2;go_roundw
     case rel=>exact⟨k+1,_,Ho,by go_num,j.o,F,T.o,D.o,C.o⟩
     case measure=>simp[RowKit.intOf];omega
  ·have Y:Hl (R=(0,d)):=Hm (by
    have L:eH oN 0 row=0:=by rw[HE.o,fG P.o.len Ho,eH]
    rw[af.o,L,if_neg Ho,y.o,List.take_of_length_le (by rw[P.o.len];omega),encR,P.o.len])
   obtain rfl:=Y.o;go_wp2;all_goals(try(exfalso;go_light;simp_all;done));go_ret2;exact⟨⟨_,rfl,HO.o⟩,HB.o⟩
theorem Cj {a b:Int}(h:u8 a=u8 b)(d:0<=a)(e:a<256)(hb:0<=b)(f:b<256):a=b:=by
 have c:=congrArg (λx:UInt8=>(x.toNat:Int)) h;simp only[FE]at c;omega
theorem Bt {a b:Int}(h:nM a=nM b)(g:0<=a)(i:a<4294967296)(hb:0<=b)(j:b<4294967296):a=b:=by
 rw[nM,nM]at h;injection h with h1 h;injection h with h2 h;injection h with h3 h;injection h with h4 h;have c:=congrArg (λx:UInt8=>(x.toNat:Int)) h1;have d:=congrArg (λx:UInt8=>(x.toNat:Int)) h2;have e:=congrArg (λx:UInt8=>(x.toNat:Int)) h3;have f:=congrArg (λx:UInt8=>(x.toNat:Int)) h4;simp only[FE]at c d e f;omega
theorem uh {s t:ByteArray}(h:s.data.toList=t.data.toList):s=t:=by
 obtain⟨⟨a⟩⟩:=s;obtain⟨⟨b⟩⟩:=t;simp only at h;rw[h]
theorem wh {s t:ByteArray}(h:s.size=0)(a:t.size=0):s=t:=by
 refine uh ?_;have b:s.data.toList.length=0:=h;have c:t.data.toList.length=0:=a;rw[List.eq_nil_of_length_eq_zero b,List.eq_nil_of_length_eq_zero c]
theorem IW {v g:Val}{r m:List UInt8}(q:valid v=true)(t:valid g=true)(h:kX v++r=kX g++m):v=g/\r=m:=by
 obtain⟨k,n,s⟩:=v;obtain⟨l,n',d⟩:=g;have c:=qH q;have c':=qH t;simp only at c c';have i:0<=k/\k<256:=by omega
 have j:0<=l/\l<256:=by omega
 rw[kX,kX,List.cons_append,List.cons_append]at h;injection h with h1 h;simp only at h1 h;obtain rfl:=Cj h1 i.1 i.2 j.1 j.2;rcases c with ⟨rfl,c1,c2⟩|⟨rfl,c1,c2⟩|⟨rfl,c1,c2,c3⟩|⟨rfl,c1,c2⟩|⟨rfl,c1,c2,c3⟩
 ·have f:n'=0:=by omega
  have a:d.size=0:=by omega
  subst c1 f;obtain rfl:=wh c2 a;exact⟨rfl,by simpa using h⟩
 ·have f:n'=0\/n'=1:=by omega
  have a:d.size=0:=by omega
  obtain rfl:=wh c2 a;simp only[Int.reduceEq,↓reduceIte,List.cons_append,List.nil_append]at h;injection h with b h;obtain rfl:=Cj b Ho Ho Ho Ho;exact⟨rfl,h⟩
 ·have a:d.size=0:=by omega
  obtain rfl:=wh c3 a;simp only[Int.reduceEq,↓reduceIte,List.cons_append]at h;obtain⟨b,e⟩:=List.append_inj h rfl;have:=Bt b Ho Ho Ho Ho;obtain rfl:n=n':=by omega
  exact⟨rfl,e⟩
 ·have f:n'=0:=by omega
  have a:d.size<=64:=by omega
  subst c1 f;simp only[Int.reduceEq,↓reduceIte,List.cons_append]at h;injection h with b h;have hs:=Cj b Ho Ho Ho Ho;have p:s.data.toList.length=d.data.toList.length:=by
   show s.size=d.size;omega
  obtain⟨e,o⟩:=List.append_inj h p;obtain rfl:=uh e;exact⟨rfl,o⟩
 ·have a:d.size=0:=by omega
  obtain rfl:=wh c3 a;simp only[Int.reduceEq,↓reduceIte,List.cons_append]at h;obtain⟨b,e⟩:=List.append_inj h rfl;obtain rfl:=Bt b Ho Ho Ho Ho;exact⟨rfl,e⟩
theorem CG: ∀{xs a:List Val},xs.length=a.length->(∀x∈xs,valid x=true)->(∀y∈a,valid y=true)->xs.flatMap kX=a.flatMap kX->xs=a
 | [],[],_,_,_,_=>rfl
 | [],y::a,h,_,_,_=>by simp at h
 |x::xs,[],h,_,_,_=>by simp at h
 |x::xs,y::a,h,hx,hy,e=>by
  rw[List.flatMap_cons,List.flatMap_cons]at e;obtain⟨rfl,c⟩:=IW (hx x II) (hy y II) e;rw[CG (by simpa using h) (λz b=>hx z (by simp[b])) (λz b=>hy z (by simp[b])) c]
theorem IV {xs a:List Val}(d:xs.length<=12)(e:a.length<=12)(b: ∀x∈xs,valid x=true)(c: ∀y∈a,valid y=true)(h:encR xs=encR a):xs=a:=by
 rw[encR,encR]at h;injection h with h1 h2;have:=Cj h1 Ho Ho Ho Ho;exact CG Ho b c h2
open Go.RowKit Go.Maps
def lK (P:Program)(K:TypeId)(w:World)(b n:Nat)(z:Value)(f:ByteArray->Value):Prop:=
 ∃D:DataW Value,w.ownsMap P K RV b n D/\Maps.IsMap D/\ ∀s:ByteArray,D.atKey (.string s.data.toList) (.held z)=.held (f s)
section
variable {P:Program}{t K e:TypeId}{w c:World}{a n:Nat}{z:Value}{f:ByteArray->Value}
theorem lK.made (P:Program)(K:TypeId)(w:World)(z:Value):lK P K (w.alloc (.map #[] 0)) w.heap.size 0 z (λ_=>z):=
 ⟨.map [],World.ownsMap_made _ _ _ _,Maps.isMap_empty,λ_=>rfl⟩
theorem lK.lt (h:lK P K w a n z f):a<w.heap.size:=by
 obtain⟨D,b,_⟩:=h;exact b.lt
theorem lK.same (h:lK P K w a n z f)(hb:c.heap[a]?=w.heap[a]?):lK P K c a n z f:=by
 obtain⟨D,⟨es,clock,g,i⟩,b,d⟩:=h;exact⟨D,⟨es,clock,hb.trans g,i⟩,b,d⟩
theorem lK.b (h:lK P K w a n z f)(hb:Below w.heap.size w c):lK P K c a n z f:=h.same (hb.block a h.lt)
theorem lK.congr {f':ByteArray->Value}(h:lK P K w a n z f)(i: ∀s,f s=f' s):lK P K w a n z f':=by
 obtain⟨D,b,d,g⟩:=h;exact⟨D,b,d,λs=>by rw[g s,i s]⟩
theorem lK.mono {m:Nat}(h:lK P K w a n z f)(i:n<=m):lK P K w a m z f:=by
 obtain⟨D,b,d,g⟩:=h;exact⟨D,b.mono i,d,g⟩
theorem lK.look (h:lK P K w a n z f)(m:P.underlying t=some (.map K e))(d:P.underlying K=some .string)(o: ∀V,(zeroValue e).run P V=.ok z V){s:ByteArray}(hs:s.size<=maxLen){V:World}(k:V.heap[a]?=w.heap[a]?):
  (Instr.lookup t (.map (some a)) (.string s) false).run P V=.ok (f s) V:=by
 obtain⟨D,i,p,j⟩:=h.same k;obtain⟨v,q,l,g⟩:=i.lookup (string_keyed d) m (o V) (zd:=.held z) (zp:=[]) rfl (WideMaps.keyOf_string_mk d hs);have b:=j s;simp only[RV,Option.some.injEq,Prod.mk.injEq]at g;rw[<-g.1]at b;injection b with b;rw[<-b];exact l
theorem lK.update (h:lK P K w a n z f)(u:P.underlying t=some (.map K e))(k:P.underlying K=some .string){s:ByteArray}(hs:s.size<=maxLen)(p:n<maxLen)(v:Value):
  ∃g,(Instr.mapUpdate t (.map (some a)) (.string s) v).run P w=.ok () g/\lK P K g a (n+1) z (λb=>if b=s then v else f b)/\w.grownBy g (some a):=by
 obtain⟨D,l,j,m⟩:=h;have o:WideAt.IsKeyLit (.string s.data.toList):=trivial;obtain⟨g,r,x,g2⟩:=l.update (string_keyed k) u p (val:=v) (d:=.held v) (ps:=[]) (WideMaps.keyOf_string_mk k hs) rfl;refine⟨g,r,⟨_,x,j.put _ _,λb=>?_⟩,g2⟩;show _=DataW.held (if b=s then v else f b);by_cases i:b=s
 ·subst i;rw[if_pos rfl];exact Maps.atKey_put_same j o _ _
 ·rw[if_neg i,<-m b];exact Maps.atKey_put_other (λq=>i (by injection q with q;exact uh q)) _ _
end
end Go.Proofs.YthnelebakkggjaaGreatDoor
