/-
  Plain law: a table and a change of it: their sum is a table, and the opposite change leads back. No program is in sight. warehouseworld.Change: a bag of changes that turns a table into another one. warehouseref6.negated, Negate.
-/
import Derived.Test.YtggejcekmehocaaGreatDoorGax
import Derived.Test.YtggejcekmehocaaGreatDoorGan
import Derived.Test.YtggejcekmehocaaGreatDoorGaa
import Derived.Test.YtggejcekmehocaaGreatDoorGaw
import Derived.Test.YtggejcekmehocaaGreatDoorGao
import Derived.Test.YtggejcekmehocaaGreatDoorGac
namespace Go.Proofs.YtggejcekmehocaaGreatDoor
set_option maxHeartbeats 8000000
set_option maxRecDepth 100000
set_option linter.unusedSimpArgs false
set_option linter.unusedVariables false
def ChgA (old:List Ent)(k:Nat)(xs:List Ent):Prop:=
 (∀x∈xs,(-65536<=x.count/\x.count<0)/\ ∃p∈old,p.row=x.row)/\ ∀r,0<=cnt (old.take k) r+cnt xs r
theorem take_cnt {l:List Ent}{k:Nat}{x:Ent}(h:l.drop k=x :: l.drop (k+1))(r:List Val):cnt (l.take (k+1)) r=cnt (l.take k) r+(if cmpRows x.row r=0 then x.count else 0):=by
 rw[take_snoc h,cnt_app];simp[cnt]
theorem ChgA.start (old:List Ent):ChgA old 0 []:=⟨(λx hx=>by cases hx),λr=>by simp[cnt]⟩
theorem ChgA.skip {old xs:List Ent}{k:Nat}{p:Ent}(h:ChgA old k xs)(hx:old.drop k=p :: old.drop (k+1))(hp:0<=p.count):ChgA old (k+1) xs:=
 ⟨h.1,λr=>by have:=h.2 r;rw[take_cnt hx];split <;> omega⟩
theorem ChgA.take {old xs:List Ent}{k:Nat}{p:Ent}(h:ChgA old k xs)(hx:old.drop k=p :: old.drop (k+1))(hp:p.count<=65536){d:Int}(d0:0<=d)(d1:d<p.count):ChgA old (k+1) (xs++[⟨p.row, -1-d⟩]):=by
 refine ⟨λy hy=>?_,λr=>?_⟩
 ·rcases List.mem_append.1 hy with hy|hy
  ·exact h.1 y hy
  ·simp at hy;subst hy
   exact ⟨⟨by show -65536<= -1-d;omega,by show -1-d<0;omega⟩,p,mem_of_drop hx,rfl⟩
 ·have:=h.2 r
  rw[take_cnt hx,cnt_app]
  simp only[cnt]
  split <;> omega
def ChgB (az:List Ent)(s k:Nat)(xs:List Ent):Prop:= ∃bs:List Ent,xs=az++bs/\bs.length+k<=s/\ ∀x∈bs,x.count=1
theorem ChgB.start (az:List Ent)(s:Nat):ChgB az s s az:=⟨[],by simp,by simp,λx hx=>by cases hx⟩
theorem ChgB.add {az xs:List Ent}{s k:Nat}(h:ChgB az s k xs)(hk:0<k)(row:List Val):ChgB az s (k-1) (xs++[⟨row,1⟩]):=by
 obtain ⟨bs,rfl,h1,h2⟩:=h
 refine ⟨bs++[⟨row,1⟩],by simp,by simp;omega,λx hx=>?_⟩
 rcases List.mem_append.1 hx with hx|hx
 ·exact h2 x hx
 ·simp at hx;subst hx;rfl
def ChgOf (old:List Ent)(m:Nat)(xs:List Ent):Prop:= ∃az,ChgA old old.length az/\ChgB az m 0 xs
theorem ChgOf.mk {old az xs:List Ent}{n s m:Nat}(h:ChgA old n az)(hn:old.length=n)(h2:ChgB az s 0 xs)(hs:s<=m):ChgOf old m xs:=by
 subst hn
 obtain ⟨bs,h3,h4,h5⟩:=h2
 exact ⟨az,h,bs,h3,by omega,h5⟩
theorem cnt_nn {l:List Ent}(h: ∀x∈l,0<=x.count)(r:List Val):0<=cnt l r:=by
 induction l with
 |nil=>simp[cnt]
 |cons x l ih=>
  have h1:=h x (by simp)
  have h2:=ih λy hy=>h y (by simp[hy])
  rw[cnt]
  split <;> omega
theorem cnt_np {l:List Ent}(h: ∀x∈l,x.count<=0)(r:List Val):cnt l r<=0:=by
 induction l with
 |nil=>simp[cnt]
 |cons x l ih=>
  have h1:=h x (by simp)
  have h2:=ih λy hy=>h y (by simp[hy])
  rw[cnt]
  split <;> omega
theorem cnt_le1 {l:List Ent}(h: ∀x∈l,x.count=1)(r:List Val):0<=cnt l r/\cnt l r<=(l.length:Int):=by
 induction l with
 |nil=>simp[cnt]
 |cons x l ih=>
  have h1:=h x (by simp)
  have h2:=ih λy hy=>h y (by simp[hy])
  rw[cnt,List.length_cons]
  split <;> omega
theorem cnt_has {l:List Ent}{r:List Val}(h:cnt l r≠0): ∃x∈l,x.row=r:=by
 by_cases g: ∃x∈l,x.row=r
 ·exact g
 ·exact absurd (cnt_none λx hx e=>g ⟨x,hx,cr_zero.1 e⟩) h
theorem ent_of_row {cols:List Col}(hl:cols.length<=12){x:Ent}(h:rowErr cols x.row=0)(h1: -65536<=x.count)(h2:x.count<=65536):entErr x=0:=
 entErr_row.2 ⟨⟨h1,h2⟩,by rw[row_len h];exact hl,λv hv=>by
  obtain ⟨i,hi,rfl⟩:=List.mem_iff_getElem.1 hv
  exact cellErr_valid (row_cell h (List.getElem?_eq_getElem hi))⟩
theorem tabErr_mk {cols:List Col}{zs:List Ent}(hb:bagErr zs=0)(hp: ∀x∈zs,0<x.count)(hr: ∀x∈zs,rowErr cols x.row=0):tabErr cols zs=0:=by
 have ht:isTable zs=true:=by
  rw[isTable,hb]
  simp only[BEq.rfl,Bool.true_and,List.all_eq_true,decide_eq_true_eq]
  exact λx hx=>by have:=hp x hx;omega
 rw[tabErr,if_neg (by simp[hb]),ht,if_neg (by simp)]
 exact fe_zero.2 λj x hx=>hr x (List.mem_iff_getElem?.2 ⟨j,hx⟩)
structure Tb (cols:List Col) (L M:Nat) (r:List Ent):Prop where
 err:tabErr cols r=0
 len:r.length<=L
 top: ∀x∈r,x.count<=(M:Int)
theorem Tb.of {cols:List Col}(hl:cols.length<=12){zs:List Ent}(h:TabOf cols zs):Tb cols 1000 2000 zs:=
 ⟨(h.tab hl).2,(h.bag hl).2.2,λx hx=>((h.tab hl).1 x hx).2⟩
theorem Tb.bag {cols:List Col}{L M:Nat}{r:List Ent}(h:Tb cols L M r):bagErr r=0:=(tabErr_zero h.err).1
theorem Tb.pos {cols:List Col}{L M:Nat}{r:List Ent}(h:Tb cols L M r): ∀x∈r,0<x.count/\x.count<=65536:=(bag_zero (tabErr_zero h.err).1 (tabErr_zero h.err).2.1).2
theorem Tb.fit {cols:List Col}{L M:Nat}{r:List Ent}(h:Tb cols L M r): ∀x∈r,rowErr cols x.row=0:=(tabErr_zero h.err).2.2
theorem bag_top {r:List Ent}(h:bagErr r=0){M:Nat}(ht: ∀x∈r,x.count<=(M:Int))(q:List Val):cnt r q<=M:=by
 by_cases g:cnt r q=0
 ·omega
 ·obtain ⟨x,hx,rfl⟩:=cnt_has g
  rw[(bag_asc h).mem hx]
  exact ht x hx
structure Mv (cols:List Col) (r x:List Ent) (m:Nat):Prop where
 bag:bagErr x=0
 fit: ∀e∈x,rowErr cols e.row=0
 low: ∀q,0<=cnt r q+cnt x q
 high: ∀q,cnt x q<=(m:Int)
 new: ∃bs:List Ent,bs.length<=m/\ ∀q,cnt r q=0->cnt x q≠0-> ∃e∈bs,e.row=q
theorem Mv.of {cols:List Col}(hl:cols.length<=12){old xs zs:List Ent}{q:Int}{L M m:Nat}(ht:Tb cols L M old)(hf: ∀x∈xs,rowErr cols x.row=0)(hc:ChgOf old m xs)(hn:Normed xs q zs):Mv cols old zs m:=by
 obtain ⟨az,⟨ha1,ha2⟩,bs,rfl,hbl,hb1⟩:=hc
 rw[List.take_of_length_le (Nat.le_refl _)]at ha2
 have he: ∀x∈az++bs,entErr x=0:=λx hx=>by
  have h1:=hf x hx
  rcases List.mem_append.1 hx with hx|hx
  ·have:=(ha1 x hx).1
   exact ent_of_row hl h1 (by omega) (by omega)
  ·have:=hb1 x hx
   exact ent_of_row hl h1 (by omega) (by omega)
 have hn':=normed_S hn
 rw[normS_ok he]at hn'
 have a:=bagS_ok he
 have b:=bagS_rows (P:=λr=>rowErr cols r=0) hf
 have d:=bagS_cnt (xs:=az++bs)
 have e:=bagS_err (az++bs)
 simp only[hn']at a b d e
 have hpos:=ht.pos
 rcases e with e|⟨_,e⟩
 ·have c: ∀r,cnt zs r=cnt az r+cnt bs r:=λr=>by rw[d e r,cnt_app]
  refine ⟨a,b,λr=>?_,λr=>?_,bs,by omega,λr h0 h1=>?_⟩
  ·have:=ha2 r;have:=(cnt_le1 hb1 r).1;rw[c];omega
  ·have:=(cnt_le1 hb1 r).2
   have:=cnt_np (l:=az) (λx hx=>by have:=(ha1 x hx).1;omega) r
   rw[c];omega
  ·refine cnt_has λh2=>h1 ?_
   rw[c,h2]
   by_cases g:cnt az r=0
   ·omega
   ·obtain ⟨x,hx,rfl⟩:=cnt_has g
    obtain ⟨_,p,hp,hpx⟩:=ha1 x hx
    have h3:=(bag_asc ht.bag).mem hp
    rw[hpx,h0]at h3
    have:=hpos p hp
    omega
 ·have e':zs=[]:=e
  subst e'
  refine ⟨a,b,λr=>?_,λr=>by simp[cnt],[],by simp,λr _ h=>absurd rfl h⟩
  have:=cnt_nn (l:=old) (λx hx=>by have:=hpos x hx;omega) r
  simp only[cnt]
  omega
theorem sum_ok {xs:List Ent}(hc: ∀q, -65536<=cnt xs q/\cnt xs q<=65536){l:List Ent}(hl:l.length<=4096)(hr: ∀q,cnt xs q≠0-> ∃e∈l,e.row=q):(bagS xs).1=0/\(bagS xs).2.length<=l.length:=by
 have ha:=keepF_asc (sortL_asc xs)
 have hz:=keepF_noz (sortL xs)
 have h1:(keepF (sortL xs)).length<=l.length:=len_cnt ha hz λr h=>hr r (by rwa [keepF_cnt,sortL_cnt]at h)
 have h2:resErr 0 (sortL xs)=false:=by
  rw[<-resErr_keep]
  exact (resErr_iff _ 0 hz (by omega)).2 ⟨λx hx=>by
   have h3:=hc x.row
   have h4:=ha.mem hx
   rw[keepF_cnt,sortL_cnt]at h4
   omega,by omega⟩
 rw[bagS,h2]
 exact ⟨rfl,h1⟩
theorem addS_bag {a b:List Ent}(ha:bagErr a=0)(hb:bagErr b=0):addS a b=bagS (a++b):=by
 rw[addS,if_neg (by simp[ha]),if_neg (by simp[hb])]
theorem bag_app {a b:List Ent}(ha:bagErr a=0)(hb:bagErr b=0): ∀x∈a++b,entErr x=0:=λx hx=>by
 rcases List.mem_append.1 hx with hx|hx
 ·exact bag_ents ha x hx
 ·exact bag_ents hb x hx
theorem Mv.sum {cols:List Col}{r x:List Ent}{L M m:Nat}(hT:Tb cols L M r)(h:Mv cols r x m)(hL:L+m<=4096)(hM:M+m<=65536):
  (addS r x).1=0/\Tb cols (L+m) (M+m) (addS r x).2/\ ∀q,cnt (addS r x).2 q=cnt r q+cnt x q:=by
 obtain ⟨bs,hb1,hb2⟩:=h.new
 have hbt: ∀q,cnt r q+cnt x q<=(M:Int)+m:=λq=>by
  have h1:=bag_top hT.bag hT.top q
  have h2:=h.high q
  omega
 have hs:=sum_ok (xs:=r++x) (l:=r++bs) (λq=>by
  have h1:=h.low q
  have h2:=hbt q
  rw[cnt_app]
  omega) (by rw[List.length_append];have:=hT.len;omega) (λq hq=>by
  rw[cnt_app]at hq
  by_cases g:cnt r q=0
  ·obtain ⟨e,h1,h2⟩:=hb2 q g (by omega)
   exact ⟨e,by simp[h1],h2⟩
  ·obtain ⟨e,h1,h2⟩:=cnt_has g
   exact ⟨e,by simp[h1],h2⟩)
 have a:=bagS_ok (bag_app hT.bag h.bag)
 have b:=bagS_rows (P:=λs=>rowErr cols s=0) (xs:=r++x) λe he=>by
  rcases List.mem_append.1 he with he|he
  ·exact hT.fit e he
  ·exact h.fit e he
 have c: ∀q,cnt (bagS (r++x)).2 q=cnt r q+cnt x q:=λq=>by rw[bagS_cnt hs.1 q,cnt_app]
 rw[addS_bag hT.bag h.bag]
 refine ⟨hs.1,⟨tabErr_mk a (λe he=>?_) b,?_,λe he=>?_⟩,c⟩
 ·have h1:=(bag_asc a).mem he
  have h2:=h.low e.row
  have h3:=bag_noz a e he
  rw[c]at h1
  omega
 ·have:=hs.2
  rw[List.length_append]at this
  have:=hT.len
  omega
 ·have h1:=(bag_asc a).mem he
  have h2:=hbt e.row
  rw[c]at h1
  show e.count<=((M+m:Nat):Int)
  omega
theorem sg_cnt (l:List Ent)(q:List Val):cnt (sg (-1) l) q= -cnt l q:=by
 induction l with
 |nil=>simp[sg,cnt]
 |cons x l ih=>
  have h:sg (-1) (x :: l)=⟨x.row, -1*x.count⟩ :: sg (-1) l:=rfl
  rw[h,cnt,cnt,ih]
  show (if cmpRows x.row q=0 then -1*x.count else 0)+_=_
  split <;> omega
theorem sg_asc {l:List Ent}(h:AscE l):AscE (sg (-1) l):=by
 rw[sg,AscE,List.pairwise_map]
 exact h
theorem sg_bag {l:List Ent}(h:bagErr l=0):bagErr (sg (-1) l)=0:=by
 obtain ⟨h1,h2,h3⟩:=bagErr_iff.1 h
 refine bagErr_iff.2 ⟨by rw[sg_len];exact h1,λx hx=>?_,sg_asc h3⟩
 obtain ⟨y,hy,rfl⟩:=List.mem_map.1 hx
 obtain ⟨q1,q2⟩:=h2 y hy
 obtain ⟨p1,p2,p3⟩:=entErr_row.1 q1
 exact ⟨entErr_row.2 ⟨by show -65536<= -1*y.count/\ -1*y.count<=65536;omega,p2,p3⟩,by show -1*y.count≠0;omega⟩
def negS (b:List Ent):Int×List Ent:=if bagErr b≠0 then (bagErr b,[]) else (0,sg (-1) b)
theorem negS_bag {b:List Ent}(h:bagErr b=0):negS b=(0,sg (-1) b):=by rw[negS,if_neg (by simp[h])]
theorem Mv.back {cols:List Col}{r x:List Ent}{L M m:Nat}(hT:Tb cols L M r)(h:Mv cols r x m)(hL:L+m<=4096)(hM:M+m<=65536):addS (addS r x).2 (sg (-1) x)=(0,r):=by
 obtain ⟨h1,h2,h3⟩:=h.sum hT hL hM
 rw[addS_bag h2.bag (sg_bag h.bag),bagS_congr (ys:=r) λq=>by rw[cnt_app,h3,sg_cnt];omega,bagS_bag hT.bag]
theorem sub_pos {a b:List Ent}(ha:bagErr a=0)(hb:bagErr b=0)(pa: ∀x∈a,0<x.count)(pb: ∀x∈b,0<x.count)(hl:a.length+b.length<=4096):
  (subS a b).1=0/\bagErr (subS a b).2=0/\ ∀q,cnt (subS a b).2 q=cnt a q-cnt b q:=by
 have e:subS a b=bagS (a++sg (-1) b):=by
  rw[subS,if_neg (by simp[bothE_zero.2 ⟨ha,hb⟩]),mergS_bag (mergeL_asc (bag_asc ha) (sg_asc (bag_asc hb))) (mergeL_cnt _ _)]
 have ta:=λq=>bag_top ha (M:=65536) (λx hx=>(ent_cnt (bag_ents ha x hx)).2.1) q
 have tb:=λq=>bag_top hb (M:=65536) (λx hx=>(ent_cnt (bag_ents hb x hx)).2.1) q
 have na:=λq=>cnt_nn (l:=a) (λx hx=>by have:=pa x hx;omega) q
 have nb:=λq=>cnt_nn (l:=b) (λx hx=>by have:=pb x hx;omega) q
 have hs:=sum_ok (xs:=a++sg (-1) b) (l:=a++b) (λq=>by
  have:=ta q;have:=tb q;have:=na q;have:=nb q
  rw[cnt_app,sg_cnt]
  omega) (by rw[List.length_append];exact hl) (λq hq=>by
  rw[cnt_app,sg_cnt]at hq
  refine cnt_has (l:=a++b) ?_
  have:=na q;have:=nb q
  rw[cnt_app]
  omega)
 rw[e]
 exact ⟨hs.1,bagS_ok (bag_app ha (sg_bag hb)),λq=>by rw[bagS_cnt hs.1 q,cnt_app,sg_cnt];omega⟩
theorem sub_back {a b:List Ent}(ha:bagErr a=0)(hb:bagErr b=0)(pa: ∀x∈a,0<x.count)(pb: ∀x∈b,0<x.count)(hl:a.length+b.length<=4096):addS (subS a b).2 (subS b a).2=(0,[]):=by
 obtain ⟨_,h1,h2⟩:=sub_pos ha hb pa pb hl
 obtain ⟨_,h3,h4⟩:=sub_pos hb ha pb pa (by omega)
 rw[addS_bag h1 h3,bagS_congr (ys:=[]) λq=>by rw[cnt_app,h2,h4];simp only[cnt];omega]
 exact bagS_bag (bagErr_iff.2 ⟨by simp,λx hx=>(by cases hx),List.Pairwise.nil⟩)
open Go.RowKit
theorem changeI_any (w:World)(gb:Nat)(A:Option Addr)(n c:Nat)(l:List Int)(i:Nat)(hN:Num w gb A n c l i)(A1:Option Addr)(n1 c1:Nat)(cols:List Col)(hc:Off w gb A1 n1 c1 cols)(hgood: ∀x∈cols,x.good)(hn1:n1<=12)(A2:Option Addr)(n2 c2:Nat)(old:List Ent)(ho:Off w gb A2 n2 c2 old)(hn2:n2<=1000)(hcnt: ∀x∈old,1<=x.count/\x.count<=65536)(hfit: ∀x∈old,rowErr cols x.row=0)(m:Int)(hm0:0<=m)(hm:m<=1000):
  Calls Tryz.prog 20 #[.slice A1 n1 c1,.slice A2 n2 c2,.pointer (some ⟨gb,0,none⟩),.int .i64 m] w
   λe w'=> ∃v xs zs q j,e=.returned v/\OE w.heap.size w' v zs/\(∀x∈xs,rowErr cols x.row=0)/\ChgOf old m.toNat xs/\Normed xs q zs/\Num w' gb A n c l j/\w.grownBy w' (some gb):=by
 have hlow:=hN.lt
 have hcl:=hide hc.inn.len
 have HC:=hide hc
 have HOLD:=hide ho
 have q0:IntKind.i64.wrap (m+1)=m+1:=IntWalk.i64_in _ (by omega)
 have HG0:Hid (ChgAt w w gb A n c l cols (.slice none 0 0) []):=hide ⟨OL.nil (Nat.le_refl _),(λx hx=>by cases hx),⟨_,hN⟩,World.grownBy.refl _ _⟩
 have hol:=ho.inn.le
 have HOL:=hide ho.inn.len
 clear hN hc ho
 go_enter Tryz.func20,Tryz.ntmps20
 go_wp2
 go_loopw [9,10] (λo q wr=> ∃(k:Nat) (xs:List Ent),k<=n2/\q=.int .i64 k/\xs.length<=k/\ChgA old k xs/\ChgAt w wr gb A n c l cols o xs) (λ_ q _=>n2-(RowKit.intOf q).toNat)
 case atStart=>exact ⟨0,[],Nat.zero_le _,rfl,Nat.le_refl _,ChgA.start old,HG0.out⟩
 case round=>
  obtain ⟨k,xs,hk,rfl,hxl,hca,hG⟩:=hrel
  have HG:=hide hG
  have HCA:=hide hca
  obtain ⟨j2,hnum⟩:=hG.num
  clear hG hca
  by_cases hlt:k<n2
  ·have k0:(0:Int)<=(k:Int):=by omega
   have k1:(k:Int)<(n2:Int):=by omega
   go_wp2_with fail
   refine (next_any wr gb A n c l j2 hnum 3 (by omega)).mono ?_
   rintro e w3 ⟨⟨x,j4,rfl,x0,x1,hn4⟩,hg4⟩
   have HN3:=hide hn4
   have HG3:=hide (HG.out.step hlow hg4 hn4)
   clear hnum hn4 hg4 x1
   have HSK:Hid (ChgA old (k+1) xs):=hide (by obtain ⟨b,off,p,_,_,HX,_⟩:=HOLD.out.entO hlt;exact HCA.out.skip HX.out (by have:=hcnt p (mem_of_drop HX.out);omega))
   obtain ⟨xb,hxb⟩: ∃xb,(x==0)=xb:=⟨_,rfl⟩
   cases xb
   ·go_wp2
    all_goals (try (exfalso;go_light;simp_all;done))
    go_roundw
    case rel=>exact ⟨k+1,xs,by omega,by go_num,by omega,HSK.out,HG3.out⟩
    case measure=>simp[RowKit.intOf];omega
   ·obtain ⟨b,off,p,hA2,⟨hBl,hBg⟩,HX,Ax,An,Ac,e0,e1,e2,e3⟩:=HOLD.out.entO hlt
    subst hA2
    have hpm:=mem_of_drop HX.out
    have hpc:=hcnt p hpm
    have HPR:=hide (hfit p hpm)
    have E0:=hide e0
    have E1:=hide e1
    have HE2:=hide e2
    have HBG:Hid (some b≠some gb):=hide λe=>hBg (by injection e)
    replace e0:=HG3.out.grown.cell (a:=⟨b,off+k*2,none⟩) e0 HBG.out
    replace e1:=HG3.out.grown.cell (a:=⟨b,off+k*2+1,none⟩) e1 HBG.out
    have hBr:=lt_of_cell e0
    have hx63:xs.length+1<=maxLen:=by simp only[maxLen];omega
    have hx64:(xs.length+1)*32<=140737488355328:=by omega
    clear e2
    go_wp2
    go_region_held3 (λV=>V.cell? ⟨b,off+k*2,none⟩=some (.slice Ax An Ac)/\V.cell? ⟨b,off+k*2+1,none⟩=some (.int .i64 p.count))
     (first|exact ⟨HG9.out.grown.cell (a:=⟨b,off+k*2,none⟩) E0.out HBG.out,HG9.out.grown.cell (a:=⟨b,off+k*2+1,none⟩) E1.out HBG.out⟩|exact ⟨HG5.out.grown.cell (a:=⟨b,off+k*2,none⟩) E0.out HBG.out,HG5.out.grown.cell (a:=⟨b,off+k*2+1,none⟩) E1.out HBG.out⟩|exact ⟨e0,e1⟩|go_keep)
     (first
      |(go_at_call 45;refine (next_any _ gb A n c l j4 (by exact HN3.out.below (Below.refl _ _).drew) p.count (by omega)).mono ?_;rintro e w5 ⟨⟨d,j5,rfl,d0,d1,hn5⟩,hg5⟩;have d1:=d1 (by omega);have dw:IntKind.i64.wrap (-1-d)= -1-d:=IntWalk.i64_in _ (by omega);have HG5:=hide (HG3.out.step hlow (undrew_grown hg5) hn5);have x0':=HG5.out.grown.cell (a:=⟨b,off+k*2,none⟩) E0.out HBG.out;have x1':=HG5.out.grown.cell (a:=⟨b,off+k*2+1,none⟩) E1.out HBG.out;have hBr5:=lt_of_cell x0';have h64:I64 (-1-d):=⟨(by omega),(by omega)⟩;have HTK:=hide (HCA.out.take HX.out hpc.2 d0 d1);clear hn5 hg5)
      |(refine step_push_OL _ rfl _ _ _ rfl elem_ents (by decide) w5 _ rfl HG5.out.ol (by simp[Act.eval,Act.put]) (by simp[Act.eval,Act.put]) ⟨p.row, -1-d⟩ ⟨_,_,_,rfl,offBS HE2.out HG5.out.grown,h64⟩ hx63 hx64 ?_;intro v9 w9 ho9 hb9 hg9 hat9;have HG9:=hide (HG5.out.add hlow (x:=⟨p.row, -1-d⟩) HPR.out ho9 hb9 hg9);clear ho9 hb9 hg9 hat9))
    go_wp2
    go_roundw
    case rel=>exact ⟨k+1,_,by omega,by go_num,by simp;omega,HTK.out,HG9.out⟩
    case measure=>simp[RowKit.intOf];omega
  ·go_wp2_with fail
   refine (next_any wr gb A n c l j2 hnum (m+1) (by omega)).mono ?_
   rintro e w3 ⟨⟨s,j4,rfl,s0,s1,hn4⟩,hg4⟩
   have s1:=s1 (by omega)
   have HG3:=hide (HG.out.step hlow hg4 hn4)
   obtain ⟨s,rfl⟩: ∃s':Nat,s=(s':Int):=⟨s.toNat,by omega⟩
   have s2:s<=1000:=by omega
   have s3:s<=m.toNat:=by omega
   have HKA:Hid (ChgA old n2 xs):=hide (by have h:=HCA.out;rwa [show k=n2 by omega]at h)
   clear hnum hn4 hg4 s0 s1
   go_upto_region 8 with (fail)
   go_wp2
   go_loopw [9,11] (λo q wr=> ∃(k:Nat) (ys:List Ent),q=.int .i64 k/\ys.length+k<=2000/\ChgB xs s k ys/\ChgAt w wr gb A n c l cols o ys) (λ_ q _=>(RowKit.intOf q).toNat)
   case atStart=>exact ⟨s,xs,rfl,by omega,ChgB.start xs s,HG3.out⟩
   case round=>
    obtain ⟨k,ys,rfl,hlen,hcb,hG⟩:=hrel
    have HG:=hide hG
    have HCB:=hide hcb
    clear hcb
    obtain ⟨j2,hnum⟩:=hG.num
    have hszr:=hG.grown.size
    clear hG
    by_cases hk0:0<k
    ·have k0:(0:Int)<(k:Int):=by omega
     have k2:IntKind.i64.wrap ((k:Int)-1)=(k:Int)-1:=IntWalk.i64_in _ (by omega)
     go_wp2_with fail
     refine (rowW_any wr gb A n c l j2 hnum A1 n1 c1 cols (HC.out.grown HG.out.grown) hgood (by omega)).mono ?_
     rintro e w2 ⟨B,d,vs,rfl,hR⟩
     obtain ⟨j3,hn3⟩:=hR.num
     have HR:=hide hR
     have HG2:=hide (HG.out.step hlow hR.grown hn3)
     clear hR hnum hn3
     have HSL:Hid (Sl w2 (BS w.heap.size (λk=>k≠gb) [74] w2) B n1 d vs):=hide (by
      have hl:=HR.out.len
      obtain ⟨A',c',hv,hs,_⟩:=sl_of_own (S:=λ_=>False) (T:=BS w.heap.size (λk=>k≠gb) [74] w2) HR.out.stk.own (cells_flat w2 _ HR.out.stk.ok) (λ_ h=>h.elim) rfl (λg hg ht=>.inr ⟨Nat.le_trans hszr hg,_,by simp,ht⟩)
      injection hv with h1 _ h3
      subst h1 h3
      rw[hl]at hs
      exact hs)
     have HENT:Hid (rowErr cols vs=0):=hide (tent_row (cols:=cols) (x:=⟨vs,1⟩) ⟨by show vs.length=_;rw[HR.out.len,hcl.out],λi hi=>HR.out.fits i (by rw[<-hcl.out];exact hi),by show (1:Int)<=1;decide,by show (1:Int)<=2;decide⟩)
     go_wp2_with (at_builtin;refine wpList_push_OL _ rfl _ _ _ rfl elem_ents (by decide) _ _ rfl HG2.out.ol rfl rfl ⟨vs,1⟩ ⟨_,_,_,rfl,HSL.out,⟨(by show (-9223372036854775808:Int)<=1;decide),(by show (1:Int)<=9223372036854775807;decide)⟩⟩ (by simp only[maxLen];omega) (by omega) ?_;intro v9 w9 ho9 hb9 hg9 hat9)
     have HG9:=hide (HG2.out.add hlow (x:=⟨vs,1⟩) HENT.out ho9 hb9 hg9)
     clear ho9 hb9 hg9 hat9
     go_wp2
     go_roundw
     case rel=>exact ⟨k-1,_,by go_num,by simp;omega,HCB.out.add hk0 _,HG9.out⟩
     case measure=>simp[RowKit.intOf];omega
    ·have hk1:k=0:=by omega
     subst hk1
     have HCO:=hide (ChgOf.mk HKA.out HOL.out HCB.out (m:=m.toNat) (by omega))
     obtain ⟨A7,c7,hv,hin⟩:=HG.out.ol.inn
     subst hv
     go_wp2_with fail
     refine (normalize_ref wr A7 _ c7 ys hin (by omega)).mono ?_
     rintro e w2 ⟨⟨v,q,zs,rfl,hf,hn⟩,hb2⟩
     have HF:=hide ((hf.ol hb2.size).rebase hszr)
     have HN:=hide hn
     have HB2:=hide hb2
     have HNU:=hide hnum
     clear hf hn hb2 hnum hin
     go_wp2
     go_ret
     exact ⟨v,ys,zs,q,j2,rfl,HF.out,HG.out.ents,HCO.out,HN.out,HNU.out.below HB2.out,HG.out.grown.trans (Below.grows HB2.out _)⟩
open Go.RowKit Go.Maps
theorem sg_snoc {xs:List Ent}{k:Nat}{x:Ent}(h:xs.drop k=x :: xs.drop (k+1)):sg (-1) (xs.take (k+1))=sg (-1) (xs.take k)++[⟨x.row, -x.count⟩]:=by
 rw[take_snoc h,sg,sg,List.map_append,List.map_cons,List.map_nil,Int.neg_one_mul]
theorem negated_ref (w:World)(A:Option Addr)(n c:Nat)(xs:List Ent)(hx:In w A n c xs)(hn:n<=4096)(hs: ∀x∈xs, -65536<=x.count/\x.count<=65536):
  Calls Tryz.prog 58 #[.slice A n c] w λe w'=>(∃v,e=.returned v/\OL 61 w.heap.size (λ_=>True) [] w' v (sg (-1) xs))/\Below w.heap.size w w':=by
 have h63:=hx.le
 have HL:=hide hx.len
 have HS:=hide hs
 clear hs
 go_enter Tryz.func58,Tryz.ntmps58
 have HX:=hide hx
 clear hx
 go_wp2
 go_loopg [3,4] n (λleft o i wr=> ∃(k:Nat) (ys:List Ent),k+left=n/\i=.int .i64 k/\ys=sg (-1) (xs.take k)/\ys.length<=k/\OL 61 w.heap.size (λ_=>True) [] wr o ys/\Below w.heap.size w wr)
 case atStart=>exact ⟨0,[],by omega,rfl,rfl,by simp,OL.nil (Nat.le_refl _),Below.refl _ _⟩
 case round=>
  obtain ⟨k,ys,hk,rfl,hys,hyl,hol,hb⟩:=hrel
  have HYS:=hide hys
  have HOL:=hide hol
  have HB:=hide hb
  clear hys hol
  by_cases hlt:k<n
  ·obtain ⟨b,off,x,rfl,hBb,HXX,Ax,An,Ac,f0,f1,e2,e3⟩:=HX.out.ent hlt
   have e0:=bat hb hBb f0
   have e1:=bat hb hBb f1
   have k0:(0:Int)<=(k:Int):=by omega
   have k1:(k:Int)<(n:Int):=by omega
   have hc:=HS.out x (mem_of_drop HXX.out)
   have wc:IntKind.i64.wrap (-x.count)= -x.count:=IntWalk.i64_in _ (by omega)
   have h64:I64 (-x.count):=⟨by omega,by omega⟩
   have HE2:=hide e2
   have F0:=hide f0
   have F1:=hide f1
   have hk63:ys.length+1<=maxLen:=by simp only[maxLen];omega
   have hk64:(ys.length+1)*32<=140737488355328:=by omega
   have HN1:Hid (ys++[⟨x.row, -x.count⟩]=sg (-1) (xs.take (k+1))):=hide (by rw[sg_snoc HXX.out,HYS.out])
   have hszb:=hb.size
   clear e2 f0 f1
   have hBr:=lt_of_cell e0
   clear hb
   go_wp2
   go_region_held3 (λV=>V.cell? ⟨b,off+k*2,none⟩=some (.slice Ax An Ac)/\V.cell? ⟨b,off+k*2+1,none⟩=some (.int .i64 x.count))
    (first|exact ⟨bat HB9.out hBb F0.out,bat HB9.out hBb F1.out⟩|exact ⟨e0,e1⟩|go_keep)
    (first|(refine step_push_OL _ rfl _ _ _ rfl elem_ents (by simp) _ _ rfl (HOL.out.below (Below.refl _ _).drew) (by simp[Act.eval,Act.put]) (by simp[Act.eval,Act.put]) ⟨x.row, -x.count⟩ ⟨_,_,_,rfl,(Sl.keep (Same.below HB.out.drew) HE2.out).mono λq hq=>.inl ⟨trivial,hq⟩,h64⟩ hk63 hk64 ?_;intro v9 w9 ho9 hb9 hg9 hat9;have HO9:=hide ho9;have HB9:=hide (HB.out.drew.trans hb9);clear ho9 hb9 hg9 hat9))
   go_wp2
   go_roundg (gk-1)
   case measure=>omega
   case rel=>exact ⟨k+1,_,by omega,by go_num,HN1.out,by simp;omega,HO9.out,HB9.out⟩
  ·have hkk:xs.take k=xs:=List.take_of_length_le (by have:=HL.out;omega)
   have HT:Hid (ys=sg (-1) xs):=hide (by rw[HYS.out,hkk])
   have hT:=HT.out
   subst hT
   go_wp2
   go_ret
   exact ⟨⟨_,rfl,HOL.out⟩,HB.out⟩
theorem mergS_neg {xs:List Ent}(h:bagErr xs=0):mergS (sg (-1) xs)=(0,sg (-1) xs):=by
 have hb:=sg_bag h
 have hz:=bag_noz hb
 have h2:resErr 0 (sg (-1) xs)=false:=(resErr_iff _ 0 hz (by omega)).2 ⟨λx hx=>by have:=ent_cnt (bag_ents hb x hx);omega,by have:=bag_le hb;omega⟩
 rw[mergS,h2,keepF_id hz]
 rfl
theorem negate_ref (w:World)(A:Option Addr)(n c:Nat)(xs:List Ent)(hx:In w A n c xs)(hbg:bagErr xs=0):
  Calls Tryz.prog 26 #[.slice A n c] w λe w'=>(∃v,e=.returned (.tuple #[v,.int .i64 0])/\OE w.heap.size w' v (sg (-1) xs))/\Below w.heap.size w w':=by
 have HBG:=hide hbg
 have hnn:n<=4096:=by have:=bag_le hbg;rw[<-hx.len];exact this
 have HC:Hid (∀x∈xs, -65536<=x.count/\x.count<=65536):=hide λx hx=>by have:=ent_cnt (bag_ents hbg x hx);omega
 have HR:Hid (∀x∈sg (-1) xs,x.row.length<=4096):=hide (sg_row (P:=λr=>r.length<=4096) λx hx=>by have:=bag_row hbg x hx;omega)
 have HLN:=hide (sg_len (-1) xs)
 have HLX:=hide hx.len
 clear hbg
 have HNG:=hide λW h=>negated_ref W A n c xs h hnn HC.out
 have HMS:=hide (mergS_neg HBG.out)
 obtain ⟨ys,hys⟩: ∃l,sg (-1) xs=l:=⟨_,rfl⟩
 rw[hys]at HR HLN HNG HMS
 rw[hys]
 clear hys
 go_enter Tryz.func26,Tryz.ntmps26
 have HX:=hide hx
 clear hx
 go_wp2_with fail
 refine (bag_ref _ A n c xs HX.out).mono ?_
 rintro e w1 ⟨rfl,hb1⟩
 have SG2:=hide hb1
 clear hb1
 rw[HBG.out]
 go_wp2_with fail
 refine (HNG.out _ (HX.out.below SG2.out)).mono ?_
 rintro e w3 ⟨⟨v,rfl,hol⟩,hb3⟩
 have SG4:=hide (below_trans SG2.out hb3)
 clear hb3
 obtain ⟨A1,c1,rfl,hi⟩:=hol.inn
 obtain ⟨m1,hm1⟩: ∃m,ys.length=m:=⟨_,rfl⟩
 rw[hm1]at hi⊢
 have HM:Hid (m1<=4096):=hide (by rw[<-hm1,HLN.out,HLX.out];exact hnn)
 clear hol hm1
 have hm:=HM.out
 have HI:=hide hi
 clear hi
 have hsz:=SG4.out.size
 go_wp2_with fail
 refine (result_ref _ A1 m1 c1 ys HI.out (by omega) HR.out).mono ?_
 rintro e w5 ⟨⟨v2,m2,zs,rfl,hf,hal⟩,hb5⟩
 have LST6:=hide hb5
 have SG6:=hide hb5
 clear hb5
 have hq:=(result_mergS hal).symm.trans HMS.out
 injection hq with hq1 hq2
 subst hq1 hq2
 have HO:=hide ((hf.ol LST6.out.size).rebase hsz)
 have HBW:=hide (below_trans SG4.out SG6.out)
 clear hf hal
 go_wp2
 go_ret2
 exact ⟨⟨_,rfl,HO.out⟩,HBW.out⟩
end Go.Proofs.YtggejcekmehocaaGreatDoor
