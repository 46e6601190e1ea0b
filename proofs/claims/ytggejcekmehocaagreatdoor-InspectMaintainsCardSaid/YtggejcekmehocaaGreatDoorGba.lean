/-
  Plain law: a table and a change of it: their sum is a table, and the opposite change leads back. No program is in sight. warehouseworld.Change: a bag of changes that turns a table into another one.
-/
import Derived.Test.YtggejcekmehocaaGreatDoorGay
import Derived.Test.YtggejcekmehocaaGreatDoorGam
import Derived.Test.YtggejcekmehocaaGreatDoorGaa
import Derived.Test.YtggejcekmehocaaGreatDoorGax
import Derived.Test.YtggejcekmehocaaGreatDoorGan
namespace Go.Proofs.YtggejcekmehocaaGreatDoor
set_option maxHeartbeats 8000000
set_option maxRecDepth 100000
set_option linter.unusedSimpArgs false
set_option linter.unusedVariables false
def uJ (old:List Ent)(k:Nat)(xs:List Ent):Prop:=
 (∀x∈xs,(-65536<=x.count/\x.count<0)/\ ∃p∈old,p.row=x.row)/\ ∀r,0<=cnt (old.take k) r+cnt xs r
theorem Fy {l:List Ent}{k:Nat}{x:Ent}(h:l.drop k=x :: l.drop (k+1))(r:List Val):cnt (l.take (k+1)) r=cnt (l.take k) r+(if ax x.row r=0 then x.count else 0):=by
 rw[aV h,gF];simp[cnt]
theorem uJ.start (old:List Ent):uJ old 0 []:=⟨(λx hx=>by cases hx),λr=>by simp[cnt]⟩
theorem uJ.skip {old xs:List Ent}{k:Nat}{p:Ent}(h:uJ old k xs)(hx:old.drop k=p :: old.drop (k+1))(hp:0<=p.count):uJ old (k+1) xs:=
 ⟨h.1,λr=>by have:=h.2 r;rw[Fy hx];split <;> omega⟩
theorem uJ.take {old xs:List Ent}{k:Nat}{p:Ent}(h:uJ old k xs)(hx:old.drop k=p :: old.drop (k+1))(hp:p.count<=65536){d:Int}(d0:0<=d)(d1:d<p.count):uJ old (k+1) (xs++[⟨p.row, -1-d⟩]):=by
 refine ⟨λy hy=>?_,λr=>?_⟩
 ·rcases List.mem_append.1 hy with hy|hy
  ·exact h.1 y hy
  ·simp at hy;subst hy;exact ⟨⟨by show -65536<= -1-d;omega,by show -1-d<0;omega⟩,p,mem_of_drop hx,rfl⟩
 ·have:=h.2 r;rw[Fy hx,gF];simp only[cnt]
  split <;> omega
def Cf (az:List Ent)(s k:Nat)(xs:List Ent):Prop:= ∃bs:List Ent,xs=az++bs/\bs.length+k<=s/\ ∀x∈bs,x.count=1
theorem Cf.start (az:List Ent)(s:Nat):Cf az s s az:=⟨[],by simp,by simp,λx hx=>by cases hx⟩
theorem Cf.add {az xs:List Ent}{s k:Nat}(h:Cf az s k xs)(hk:0<k)(row:List Val):Cf az s (k-1) (xs++[⟨row,1⟩]):=by
 obtain ⟨bs,rfl,h1,h2⟩:=h;refine ⟨bs++[⟨row,1⟩],by simp,by simp;omega,λx hx=>?_⟩;rcases List.mem_append.1 hx with hx|hx
 ·exact h2 x hx
 ·simp at hx;subst hx;rfl
def DF (old:List Ent)(m:Nat)(xs:List Ent):Prop:= ∃az,uJ old old.length az/\Cf az m 0 xs
theorem DF.mk {old az xs:List Ent}{n s m:Nat}(h:uJ old n az)(hn:old.length=n)(h2:Cf az s 0 xs)(hs:s<=m):DF old m xs:=by
 subst hn;obtain ⟨bs,h3,h4,h5⟩:=h2;exact ⟨az,h,bs,h3,by omega,h5⟩
theorem cnt_nn {l:List Ent}(h: ∀x∈l,0<=x.count)(r:List Val):0<=cnt l r:=by
 induction l with
 |nil=>simp[cnt]
 |cons x l ih=>
  have h1:=h x (by simp);have h2:=ih λy hy=>h y (by simp[hy]);rw[cnt]
  split <;> omega
theorem Rj {l:List Ent}(h: ∀x∈l,x.count<=0)(r:List Val):cnt l r<=0:=by
 induction l with
 |nil=>simp[cnt]
 |cons x l ih=>
  have h1:=h x (by simp);have h2:=ih λy hy=>h y (by simp[hy]);rw[cnt]
  split <;> omega
theorem Io {l:List Ent}(h: ∀x∈l,x.count=1)(r:List Val):0<=cnt l r/\cnt l r<=(l.length:Int):=by
 induction l with
 |nil=>simp[cnt]
 |cons x l ih=>
  have h1:=h x (by simp);have h2:=ih λy hy=>h y (by simp[hy]);rw[cnt,List.length_cons]
  split <;> omega
theorem uZ {l:List Ent}{r:List Val}(h:cnt l r≠0): ∃x∈l,x.row=r:=by
 by_cases g: ∃x∈l,x.row=r
 ·exact g
 ·exact absurd (iH λx hx e=>g ⟨x,hx,bV.1 e⟩) h
theorem za {cols:List Col}(hl:cols.length<=12){x:Ent}(h:aC cols x.row=0)(h1: -65536<=x.count)(h2:x.count<=65536):aQ x=0:=
 kS.2 ⟨⟨h1,h2⟩,by rw[yD h];exact hl,λv hv=>by
  obtain ⟨i,hi,rfl⟩:=List.mem_iff_getElem.1 hv;exact tT (zU h (List.getElem?_eq_getElem hi))⟩
theorem JZ {cols:List Col}{zs:List Ent}(hb:ay zs=0)(hp: ∀x∈zs,0<x.count)(hr: ∀x∈zs,aC cols x.row=0):dh cols zs=0:=by
 have ht:dS zs=true:=by
  rw[dS,hb];simp only[BEq.rfl,Bool.true_and,List.all_eq_true,decide_eq_true_eq];exact λx hx=>by have:=hp x hx;omega
 rw[dh,if_neg (by simp[hb]),ht,if_neg (by simp)];exact sO.2 λj x hx=>hr x (List.mem_iff_getElem?.2 ⟨j,hx⟩)
structure Tb (cols:List Col) (L M:Nat) (r:List Ent):Prop where
 err:dh cols r=0
 len:r.length<=L
 top: ∀x∈r,x.count<=(M:Int)
theorem Tb.of {cols:List Col}(hl:cols.length<=12){zs:List Ent}(h:uQ cols zs):Tb cols 1000 2000 zs:=
 ⟨(h.tab hl).2,(h.bag hl).2.2,λx hx=>((h.tab hl).1 x hx).2⟩
theorem Tb.bag {cols:List Col}{L M:Nat}{r:List Ent}(h:Tb cols L M r):ay r=0:=(tabErr_zero h.err).1
theorem Tb.pos {cols:List Col}{L M:Nat}{r:List Ent}(h:Tb cols L M r): ∀x∈r,0<x.count/\x.count<=65536:=(eU (tabErr_zero h.err).1 (tabErr_zero h.err).2.1).2
theorem Tb.fit {cols:List Col}{L M:Nat}{r:List Ent}(h:Tb cols L M r): ∀x∈r,aC cols x.row=0:=(tabErr_zero h.err).2.2
theorem bag_top {r:List Ent}(h:ay r=0){M:Nat}(ht: ∀x∈r,x.count<=(M:Int))(q:List Val):cnt r q<=M:=by
 by_cases g:cnt r q=0
 ·omega
 ·obtain ⟨x,hx,rfl⟩:=uZ g;rw[(bag_asc h).mem hx];exact ht x hx
structure Mv (cols:List Col) (r x:List Ent) (m:Nat):Prop where
 bag:ay x=0
 fit: ∀e∈x,aC cols e.row=0
 low: ∀q,0<=cnt r q+cnt x q
 high: ∀q,cnt x q<=(m:Int)
 new: ∃bs:List Ent,bs.length<=m/\ ∀q,cnt r q=0->cnt x q≠0-> ∃e∈bs,e.row=q
theorem Mv.of {cols:List Col}(hl:cols.length<=12){old xs zs:List Ent}{q:Int}{L M m:Nat}(ht:Tb cols L M old)(hf: ∀x∈xs,aC cols x.row=0)(hc:DF old m xs)(hn:wE xs q zs):Mv cols old zs m:=by
 obtain ⟨az,⟨ha1,ha2⟩,bs,rfl,hbl,hb1⟩:=hc;rw[List.take_of_length_le (Nat.le_refl _)]at ha2;have he: ∀x∈az++bs,aQ x=0:=λx hx=>by
  have h1:=hf x hx;rcases List.mem_append.1 hx with hx|hx
  ·have:=(ha1 x hx).1;exact za hl h1 (by omega) (by omega)
  ·have:=hb1 x hx;exact za hl h1 (by omega) (by omega)
 have hn':=zJ hn;rw[zI he]at hn';have a:=bagS_ok he;have b:=sG (P:=λr=>aC cols r=0) hf;have d:=bagS_cnt (xs:=az++bs);have e:=D6 (az++bs);simp only[hn']at a b d e;have hpos:=ht.pos;rcases e with e|⟨_,e⟩
 ·have c: ∀r,cnt zs r=cnt az r+cnt bs r:=λr=>by rw[d e r,gF]
  refine ⟨a,b,λr=>?_,λr=>?_,bs,by omega,λr h0 h1=>?_⟩
  ·have:=ha2 r;have:=(Io hb1 r).1;rw[c];omega
  ·have:=(Io hb1 r).2;have:=Rj (l:=az) (λx hx=>by have:=(ha1 x hx).1;omega) r;rw[c];omega
  ·refine uZ λh2=>h1 ?_;rw[c,h2];by_cases g:cnt az r=0
   ·omega
   ·obtain ⟨x,hx,rfl⟩:=uZ g;obtain ⟨_,p,hp,hpx⟩:=ha1 x hx;have h3:=(bag_asc ht.bag).mem hp;rw[hpx,h0]at h3;have:=hpos p hp;omega
 ·have e':zs=[]:=e;subst e';refine ⟨a,b,λr=>?_,λr=>by simp[cnt],[],by simp,λr _ h=>absurd rfl h⟩;have:=cnt_nn (l:=old) (λx hx=>by have:=hpos x hx;omega) r;simp only[cnt];omega
theorem Nb {xs:List Ent}(hc: ∀q, -65536<=cnt xs q/\cnt xs q<=65536){l:List Ent}(hl:l.length<=4096)(hr: ∀q,cnt xs q≠0-> ∃e∈l,e.row=q):(jm xs).1=0/\(jm xs).2.length<=l.length:=by
 have ha:=kW (lv xs);have hz:=gW (cB xs);have h1:(bN (cB xs)).length<=l.length:=yA ha hz λr h=>hr r (by rwa [je,jh]at h);have h2:bP 0 (cB xs)=false:=by
  rw[<-iQ];exact (ll _ 0 hz (by omega)).2 ⟨λx hx=>by
   have h3:=hc x.row;have h4:=ha.mem hx;rw[je,jh]at h4;omega,by omega⟩
 rw[jm,h2];exact ⟨rfl,h1⟩
theorem addS_bag {a b:List Ent}(ha:ay a=0)(hb:ay b=0):j6 a b=jm (a++b):=by
 rw[j6,if_neg (by simp[ha]),if_neg (by simp[hb])]
theorem Ik {a b:List Ent}(ha:ay a=0)(hb:ay b=0): ∀x∈a++b,aQ x=0:=λx hx=>by
 rcases List.mem_append.1 hx with hx|hx
 ·exact kw ha x hx
 ·exact kw hb x hx
theorem Mv.sum {cols:List Col}{r x:List Ent}{L M m:Nat}(hT:Tb cols L M r)(h:Mv cols r x m)(hL:L+m<=4096)(hM:M+m<=65536):
  (j6 r x).1=0/\Tb cols (L+m) (M+m) (j6 r x).2/\ ∀q,cnt (j6 r x).2 q=cnt r q+cnt x q:=by
 obtain ⟨bs,hb1,hb2⟩:=h.new;have hbt: ∀q,cnt r q+cnt x q<=(M:Int)+m:=λq=>by
  have h1:=bag_top hT.bag hT.top q;have h2:=h.high q;omega
 have hs:=Nb (xs:=r++x) (l:=r++bs) (λq=>by
  have h1:=h.low q;have h2:=hbt q;rw[gF];omega) (by rw[List.length_append];have:=hT.len;omega) (λq hq=>by
  rw[gF]at hq;by_cases g:cnt r q=0
  ·obtain ⟨e,h1,h2⟩:=hb2 q g (by omega);exact ⟨e,by simp[h1],h2⟩
  ·obtain ⟨e,h1,h2⟩:=uZ g;exact ⟨e,by simp[h1],h2⟩)
 have a:=bagS_ok (Ik hT.bag h.bag);have b:=sG (P:=λs=>aC cols s=0) (xs:=r++x) λe he=>by
  rcases List.mem_append.1 he with he|he
  ·exact hT.fit e he
  ·exact h.fit e he
 have c: ∀q,cnt (jm (r++x)).2 q=cnt r q+cnt x q:=λq=>by rw[bagS_cnt hs.1 q,gF]
 rw[addS_bag hT.bag h.bag];refine ⟨hs.1,⟨JZ a (λe he=>?_) b,?_,λe he=>?_⟩,c⟩
 ·have h1:=(bag_asc a).mem he;have h2:=h.low e.row;have h3:=uS a e he;rw[c]at h1;omega
 ·have:=hs.2;rw[List.length_append]at this;have:=hT.len;omega
 ·have h1:=(bag_asc a).mem he;have h2:=hbt e.row;rw[c]at h1;show e.count<=((M+m:Nat):Int);omega
theorem sg_cnt (l:List Ent)(q:List Val):cnt (sg (-1) l) q= -cnt l q:=by
 induction l with
 |nil=>simp[sg,cnt]
 |cons x l ih=>
  have h:sg (-1) (x :: l)=⟨x.row, -1*x.count⟩ :: sg (-1) l:=rfl;rw[h,cnt,cnt,ih];show (if ax x.row q=0 then -1*x.count else 0)+_=_
  split <;> omega
theorem M4 {l:List Ent}(h:gY l):gY (sg (-1) l):=by
 rw[sg,gY,List.pairwise_map];exact h
theorem M5 {l:List Ent}(h:ay l=0):ay (sg (-1) l)=0:=by
 obtain ⟨h1,h2,h3⟩:=dX.1 h;refine dX.2 ⟨by rw[Sa];exact h1,λx hx=>?_,M4 h3⟩;obtain ⟨y,hy,rfl⟩:=List.mem_map.1 hx;obtain ⟨q1,q2⟩:=h2 y hy;obtain ⟨p1,p2,p3⟩:=kS.1 q1;exact ⟨kS.2 ⟨by show -65536<= -1*y.count/\ -1*y.count<=65536;omega,p2,p3⟩,by show -1*y.count≠0;omega⟩
theorem Mv.back {cols:List Col}{r x:List Ent}{L M m:Nat}(hT:Tb cols L M r)(h:Mv cols r x m)(hL:L+m<=4096)(hM:M+m<=65536):j6 (j6 r x).2 (sg (-1) x)=(0,r):=by
 obtain ⟨h1,h2,h3⟩:=h.sum hT hL hM;rw[addS_bag h2.bag (M5 h.bag),bagS_congr (ys:=r) λq=>by rw[gF,h3,sg_cnt];omega,bagS_bag hT.bag]
theorem sub_pos {a b:List Ent}(ha:ay a=0)(hb:ay b=0)(pa: ∀x∈a,0<x.count)(pb: ∀x∈b,0<x.count)(hl:a.length+b.length<=4096):
  (sw a b).1=0/\ay (sw a b).2=0/\ ∀q,cnt (sw a b).2 q=cnt a q-cnt b q:=by
 have e:sw a b=jm (a++sg (-1) b):=by
  rw[sw,if_neg (by simp[nz.2 ⟨ha,hb⟩]),BL (uu (bag_asc ha) (M4 (bag_asc hb))) (uw _ _)]
 have ta:=λq=>bag_top ha (M:=65536) (λx hx=>(qD (kw ha x hx)).2.1) q;have tb:=λq=>bag_top hb (M:=65536) (λx hx=>(qD (kw hb x hx)).2.1) q;have na:=λq=>cnt_nn (l:=a) (λx hx=>by have:=pa x hx;omega) q;have nb:=λq=>cnt_nn (l:=b) (λx hx=>by have:=pb x hx;omega) q;have hs:=Nb (xs:=a++sg (-1) b) (l:=a++b) (λq=>by
  have:=ta q;have:=tb q;have:=na q;have:=nb q;rw[gF,sg_cnt];omega) (by rw[List.length_append];exact hl) (λq hq=>by
  rw[gF,sg_cnt]at hq;refine uZ (l:=a++b) ?_;have:=na q;have:=nb q;rw[gF];omega)
 rw[e];exact ⟨hs.1,bagS_ok (Ik ha (M5 hb)),λq=>by rw[bagS_cnt hs.1 q,gF,sg_cnt];omega⟩
theorem sub_back {a b:List Ent}(ha:ay a=0)(hb:ay b=0)(pa: ∀x∈a,0<x.count)(pb: ∀x∈b,0<x.count)(hl:a.length+b.length<=4096):j6 (sw a b).2 (sw b a).2=(0,[]):=by
 obtain ⟨_,h1,h2⟩:=sub_pos ha hb pa pb hl;obtain ⟨_,h3,h4⟩:=sub_pos hb ha pb pa (by omega);rw[addS_bag h1 h3,bagS_congr (ys:=[]) λq=>by rw[gF,h2,h4];simp only[cnt];omega];exact bagS_bag (dX.2 ⟨by simp,λx hx=>(by cases hx),List.Pairwise.nil⟩)
open Go.RowKit
theorem changeI_any (w:World)(gb:Nat)(A:Option Addr)(n c:Nat)(l:List Int)(i:Nat)(hN:Num w gb A n c l i)(A1:Option Addr)(n1 c1:Nat)(cols:List Col)(hc:Off w gb A1 n1 c1 cols)(hgood: ∀x∈cols,x.good)(hn1:n1<=12)(A2:Option Addr)(n2 c2:Nat)(old:List Ent)(ho:Off w gb A2 n2 c2 old)(hn2:n2<=2000)(hcnt: ∀x∈old,1<=x.count/\x.count<=65536)(hfit: ∀x∈old,aC cols x.row=0)(m:Int)(hm0:0<=m)(hm:m<=1000):
  Calls Tryz.prog 20 #[.slice A1 n1 c1,.slice A2 n2 c2,.pointer (some ⟨gb,0,none⟩),.int .i64 m] w
   λe w'=> ∃v xs zs q j,e=.returned v/\OE w.heap.size w' v zs/\(∀x∈xs,aC cols x.row=0)/\DF old m.toNat xs/\wE xs q zs/\Num w' gb A n c l j/\w.grownBy w' (some gb):=by
 have hlow:=hN.lt;have hcl:=hide hc.inn.len;have HC:=hide hc;have HOLD:=hide ho;have q0:IntKind.i64.wrap (m+1)=m+1:=IntWalk.i64_in _ (by omega);have Zi:Hid (ChgAt w w gb A n c l cols (.slice none 0 0) []):=hide ⟨OL.nil (Nat.le_refl _),(λx hx=>by cases hx),⟨_,hN⟩,World.grownBy.refl _ _⟩;have hol:=ho.inn.le;have oP:=hide ho.inn.len;clear hN hc ho;go_enter Tryz.func20,Tryz.ntmps20;go_wp2;go_loopw [9,10] (λo q wr=> ∃(k:Nat) (xs:List Ent),k<=n2/\q=.int .i64 k/\xs.length<=k/\uJ old k xs/\ChgAt w wr gb A n c l cols o xs) (λ_ q _=>n2-(RowKit.intOf q).toNat)
 case atStart=>exact ⟨0,[],Nat.zero_le _,rfl,Nat.le_refl _,uJ.start old,Zi.out⟩
 case round=>
  obtain ⟨k,xs,hk,rfl,hxl,YO,hG⟩:=hrel;have HG:=hide hG;have S9:=hide YO;obtain ⟨j2,kg⟩:=hG.num;clear hG YO;by_cases hlt:k<n2
  ·have k0:(0:Int)<=(k:Int):=by omega
   have k1:(k:Int)<(n2:Int):=by omega
   go_wp2_with fail;refine (fK wr gb A n c l j2 kg 3 (by omega)).mono ?_;rintro e w3 ⟨⟨x,j4,rfl,x0,x1,Pe⟩,hg4⟩;have Ve:=hide Pe;have Am:=hide (HG.out.step hlow hg4 Pe);clear kg Pe hg4 x1;have ZM:Hid (uJ old (k+1) xs):=hide (by obtain ⟨b,off,p,_,_,HX,_⟩:=HOLD.out.entO hlt;exact S9.out.skip HX.out (by have:=hcnt p (mem_of_drop HX.out);omega));obtain ⟨xb,hxb⟩: ∃xb,(x==0)=xb:=⟨_,rfl⟩;cases xb
   ·go_wp2;all_goals (try (exfalso;go_light;simp_all;done));go_roundw
    case rel=>exact ⟨k+1,xs,by omega,by go_num,by omega,ZM.out,Am.out⟩
    case measure=>simp[RowKit.intOf];omega
   ·obtain ⟨b,off,p,hA2,⟨hBl,hBg⟩,HX,Ax,An,Ac,e0,e1,e2,e3⟩:=HOLD.out.entO hlt;subst hA2;have hpm:=mem_of_drop HX.out;have hpc:=hcnt p hpm;have ZI:=hide (hfit p hpm);have E0:=hide e0;have E1:=hide e1;have HE2:=hide e2;have PK:Hid (some b≠some gb):=hide λe=>hBg (by injection e);replace e0:=Am.out.grown.cell (a:=⟨b,off+k*2,none⟩) e0 PK.out;replace e1:=Am.out.grown.cell (a:=⟨b,off+k*2+1,none⟩) e1 PK.out;have hBr:=lt_of_cell e0;have XO:xs.length+1<=maxLen:=by simp only[maxLen];omega
    have RU:(xs.length+1)*32<=140737488355328:=by omega
    clear e2;go_wp2;go_region_held3 (λV=>V.cell? ⟨b,off+k*2,none⟩=some (.slice Ax An Ac)/\V.cell? ⟨b,off+k*2+1,none⟩=some (.int .i64 p.count))
     (first|exact ⟨DK.out.grown.cell (a:=⟨b,off+k*2,none⟩) E0.out PK.out,DK.out.grown.cell (a:=⟨b,off+k*2+1,none⟩) E1.out PK.out⟩|exact ⟨Qz.out.grown.cell (a:=⟨b,off+k*2,none⟩) E0.out PK.out,Qz.out.grown.cell (a:=⟨b,off+k*2+1,none⟩) E1.out PK.out⟩|exact ⟨e0,e1⟩|go_keep)
     (first
      |(go_at_call 45;refine (fK _ gb A n c l j4 (by exact Ve.out.below (Below.refl _ _).drew) p.count (by omega)).mono ?_;rintro e w5 ⟨⟨d,j5,rfl,d0,d1,YV⟩,hg5⟩;have d1:=d1 (by omega);have dw:IntKind.i64.wrap (-1-d)= -1-d:=IntWalk.i64_in _ (by omega);have Qz:=hide (Am.out.step hlow (Dx hg5) YV);have x0':=Qz.out.grown.cell (a:=⟨b,off+k*2,none⟩) E0.out PK.out;have x1':=Qz.out.grown.cell (a:=⟨b,off+k*2+1,none⟩) E1.out PK.out;have hBr5:=lt_of_cell x0';have h64:fP (-1-d):=⟨(by omega),(by omega)⟩;have TD:=hide (S9.out.take HX.out hpc.2 d0 d1);clear YV hg5)
      |(refine vR _ rfl _ _ _ rfl fD (by decide) w5 _ rfl Qz.out.ol (by simp[Act.eval,Act.put]) (by simp[Act.eval,Act.put]) ⟨p.row, -1-d⟩ ⟨_,_,_,rfl,U2 HE2.out Qz.out.grown,h64⟩ XO RU ?_;intro v9 w9 kV dZ oU kU;have DK:=hide (Qz.out.add hlow (x:=⟨p.row, -1-d⟩) ZI.out kV dZ oU);clear kV dZ oU kU))
    go_wp2;go_roundw
    case rel=>exact ⟨k+1,_,by omega,by go_num,by simp;omega,TD.out,DK.out⟩
    case measure=>simp[RowKit.intOf];omega
  ·go_wp2_with fail;refine (fK wr gb A n c l j2 kg (m+1) (by omega)).mono ?_;rintro e w3 ⟨⟨s,j4,rfl,s0,s1,Pe⟩,hg4⟩;have s1:=s1 (by omega);have Am:=hide (HG.out.step hlow hg4 Pe);obtain ⟨s,rfl⟩: ∃s':Nat,s=(s':Int):=⟨s.toNat,by omega⟩;have s2:s<=1000:=by omega
   have s3:s<=m.toNat:=by omega
   have Zp:Hid (uJ old n2 xs):=hide (by have h:=S9.out;rwa [show k=n2 by omega]at h);clear kg Pe hg4 s0 s1;go_upto_region 8 with (fail);go_wp2;go_loopw [9,11] (λo q wr=> ∃(k:Nat) (ys:List Ent),q=.int .i64 k/\ys.length+k<=3000/\Cf xs s k ys/\ChgAt w wr gb A n c l cols o ys) (λ_ q _=>(RowKit.intOf q).toNat)
   case atStart=>exact ⟨s,xs,rfl,by omega,Cf.start xs s,Am.out⟩
   case round=>
    obtain ⟨k,ys,rfl,hlen,hcb,hG⟩:=hrel;have HG:=hide hG;have xw:=hide hcb;clear hcb;obtain ⟨j2,kg⟩:=hG.num;have Jv:=hG.grown.size;clear hG;by_cases hk0:0<k
    ·have k0:(0:Int)<(k:Int):=by omega
     have k2:IntKind.i64.wrap ((k:Int)-1)=(k:Int)-1:=IntWalk.i64_in _ (by omega);go_wp2_with fail;refine (Fq wr gb A n c l j2 kg A1 n1 c1 cols (HC.out.grown HG.out.grown) hgood (by omega)).mono ?_;rintro e w2 ⟨B,d,vs,rfl,hR⟩;obtain ⟨j3,AJ⟩:=hR.num;have HR:=hide hR;have HG2:=hide (HG.out.step hlow hR.grown AJ);clear hR kg AJ;have WY:Hid (Sl w2 (BS w.heap.size (λk=>k≠gb) [74] w2) B n1 d vs):=hide (by
      have hl:=HR.out.len;obtain ⟨A',c',hv,hs,_⟩:=fE (S:=λ_=>False) (T:=BS w.heap.size (λk=>k≠gb) [74] w2) HR.out.stk.own (nA w2 _ HR.out.stk.ok) (λ_ h=>h.elim) rfl (λg hg ht=>.inr ⟨Nat.le_trans Jv hg,_,by simp,ht⟩);injection hv with h1 _ h3;subst h1 h3;rw[hl]at hs;exact hs)
     have Qw:Hid (aC cols vs=0):=hide (Fz (cols:=cols) (x:=⟨vs,1⟩) ⟨by show vs.length=_;rw[HR.out.len,hcl.out],λi hi=>HR.out.fits i (by rw[<-hcl.out];exact hi),by show (1:Int)<=1;decide,by show (1:Int)<=2;decide⟩);go_wp2_with (at_builtin;refine aS _ rfl _ _ _ rfl fD (by decide) _ _ rfl HG2.out.ol rfl rfl ⟨vs,1⟩ ⟨_,_,_,rfl,WY.out,⟨(by show (-9223372036854775808:Int)<=1;decide),(by show (1:Int)<=9223372036854775807;decide)⟩⟩ (by simp only[maxLen];omega) (by omega) ?_;intro v9 w9 kV dZ oU kU);have DK:=hide (HG2.out.add hlow (x:=⟨vs,1⟩) Qw.out kV dZ oU);clear kV dZ oU kU;go_wp2;go_roundw
     case rel=>exact ⟨k-1,_,by go_num,by simp;omega,xw.out.add hk0 _,DK.out⟩
     case measure=>simp[RowKit.intOf];omega
    ·have hk1:k=0:=by omega
     subst hk1;have Te:=hide (DF.mk Zp.out oP.out xw.out (m:=m.toNat) (by omega));obtain ⟨A7,c7,hv,hin⟩:=HG.out.ol.inn;subst hv;go_wp2_with fail;refine (uh wr A7 _ c7 ys hin (by omega)).mono ?_;rintro e w2 ⟨⟨v,q,zs,rfl,hf,hn⟩,hb2⟩;have HF:=hide ((hf.ol hb2.size).rebase Jv);have HN:=hide hn;have HB2:=hide hb2;have WO:=hide kg;clear hf hn hb2 kg hin;go_wp2;go_ret;exact ⟨v,ys,zs,q,j2,rfl,HF.out,HG.out.ents,Te.out,HN.out,WO.out.below HB2.out,HG.out.grown.trans (Below.grows HB2.out _)⟩
end Go.Proofs.YtggejcekmehocaaGreatDoor
