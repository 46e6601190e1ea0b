/-
  warehouselaw30.QuarantineReasons. (Printed by gen_lwrs.py.)
-/
import Derived.Test.YtopjjlmfilgngaaGreatDoorM30M
import Derived.Test.YtopjjlmfilgngaaGreatDoorGbi
namespace Go.Proofs.YtopjjlmfilgngaaGreatDoor
set_option maxHeartbeats 8000000
set_option maxRecDepth 100000
open Go.RowKit Go.Maps
set_option linter.unusedSimpArgs false
set_option linter.unusedVariables false
theorem FH:Elem Tryz.prog 51 57 4 72:=mU (.agg #[.string ⟨#[]⟩,.slice none 0 0,.int .i64 0,.slice none 0 0]) Tryz.underlying51 (by kernel_rfl) rfl (by decide)
theorem Lv {α:Type}[Rep α]{e:TypeId}{B:Nat}{O:Nat->Prop}{T:List TypeId}{w:World}{arr:Array Value}{y:α}(b:B<=w.heap.size)(c:Rep.rd (w.alloc (.cells arr e)) (BS B O T (w.alloc (.cells arr e))) arr.toList y):OL e B O T (w.alloc (.cells arr e)) (.slice (some ⟨w.heap.size,0,none⟩) 1 1) [y]:=by
 have a:arr.toList.length=Rep.size α:=Rep.len c;refine⟨⟨arr.toList,⟨by rw[a,List.length_singleton,Nat.one_mul],.inr ⟨w.heap.size,1,arr,rfl,b,heap_alloc_new _ _,Nat.le_refl _,by simp[maxLen],by rw[Nat.one_mul,<-a];simp,?_⟩⟩,Cells.one c⟩,Nat.le_trans b fI.size⟩;rw[List.take_of_length_le];rw[a,List.length_singleton,Nat.one_mul];exact Nat.le_refl _
section
variable {w:World}{A:Option Addr}{n c k:Nat}
theorem In.rsn {xs:List Rsn}(h:In w A n c xs)(d:k<n): ∃b off x,A=some ⟨b,off,none⟩/\b<w.heap.size/\Hl (xs.drop k=x::xs.drop (k+1))/\
  ∃A' n' c' A2 n2 c2,w.cell? ⟨b,off+k*3,none⟩=some (.string x.name)/\w.cell? ⟨b,off+k*3+1,none⟩=some (.slice A' n' c')/\w.cell? ⟨b,off+k*3+2,none⟩=some (.slice A2 n2 c2)/\In w A' n' c' x.values/\In w A2 n2 c2 x.rows:=by
 obtain⟨b,off,x,e,hb,g,i,⟨A',n',c',A2,n2,c2,rfl,hs,f⟩,a⟩:=h.get d;exact⟨b,off,x,e,hb,g,A',n',c',A2,n2,c2,a 0 (by simp),a 1 (by simp),a 2 (by simp),hs,f⟩
theorem In.lst {xs:List (List Val)}(h:In w A n c xs)(d:k<n): ∃b off x,A=some ⟨b,off,none⟩/\b<w.heap.size/\Hl (xs.drop k=x::xs.drop (k+1))/\
  ∃A' n' c',w.cell? ⟨b,off+k,none⟩=some (.slice A' n' c')/\In w A' n' c' x:=by
 obtain⟨b,off,x,e,hb,f,g,⟨A',n',c',rfl,hs⟩,a⟩:=h.get d;exact⟨b,off,x,e,hb,f,A',n',c',by simpa[Rep.size] using a 0 (by simp),hs⟩
end
theorem zQ (xs:List Val):oV xs xs=true:=pQ.2 rfl
def Bz:Nat->List Nat
 | 2=>[0,1]
 | 3=>[2]
 | 4=>[3]
 | 7=>[5,6]
 | 8=>[7]
 | 9=>[8]
 | 10=>[4,9]
 | 11=>[10]
 | 12=>[11]
 | 13=>[11]
 | 14=>[11,12,13]
 | 15=>[11,14]
 | 16=>[11,15]
 | 17=>[11]
 | 18=>[11]
 | 19=>[11,17,18]
 | 20=>[11,19]
 | 21=>[11,20]
 | 22=>[11,16,21]
 | 23=>[11,22]
 | 24=>[11,23]
 | 25=>[24]
 | 26=>[25]
 | 27=>[25]
 | 28=>[25,26,27]
 | 29=>[25,28]
 | 30=>[25,29]
 | 31=>[25,30]
 | 32=>[25]
 | 33=>[25]
 | 34=>[25,32,33]
 | 35=>[25,34]
 | 36=>[25,35]
 | 37=>[25,36]
 | 38=>[25,31,37]
 | 39=>[25,38]
 | _=>[]
def Da:Nat->Nat
 |j=>j
def Od:Nat->List Nat
 | _=>[]
def Fg (b d f c e g m a s o t p h q i r:Nat)(nm:ByteArray)(l n j k:Option Addr):Nat->Value->Value->World->Prop
 | 0,v,u,V=>v=.slice (some ⟨b,d,none⟩) m f
 | 1,v,u,V=>v=.int .i64 (a:Int)
 | 2,v,u,V=>v=.pointer (some ⟨b,d+a*3,none⟩)
 | 3,v,u,V=>v=.pointer (some ⟨b,d+a*3,none⟩)
 | 4,v,u,V=>v=.string nm
 | 5,v,u,V=>v=.slice (some ⟨c,e,none⟩) m g
 | 6,v,u,V=>v=.int .i64 (a:Int)
 | 7,v,u,V=>v=.pointer (some ⟨c,e+a*3,none⟩)
 | 8,v,u,V=>v=.pointer (some ⟨c,e+a*3,none⟩)
 | 9,v,u,V=>v=.string nm
 | 10,v,u,V=>v=.bool false
 | 11,v,u,V=>v=.bool false
 | 12,v,u,V=>v=.slice (some ⟨b,d,none⟩) m f
 | 13,v,u,V=>v=.int .i64 (a:Int)
 | 14,v,u,V=>v=.pointer (some ⟨b,d+a*3,none⟩)
 | 15,v,u,V=>v=.pointer (some ⟨b,d+a*3+1,none⟩)
 | 16,v,u,V=>v=.slice l s o
 | 17,v,u,V=>v=.slice (some ⟨c,e,none⟩) m g
 | 18,v,u,V=>v=.int .i64 (a:Int)
 | 19,v,u,V=>v=.pointer (some ⟨c,e+a*3,none⟩)
 | 20,v,u,V=>v=.pointer (some ⟨c,e+a*3+1,none⟩)
 | 21,v,u,V=>v=.slice n t p
 | 22,v,u,V=>v=.bool true
 | 23,v,u,V=>v=.bool false
 | 24,v,u,V=>v=.bool false
 | 25,v,u,V=>v=.bool false
 | 26,v,u,V=>v=.slice (some ⟨b,d,none⟩) m f
 | 27,v,u,V=>v=.int .i64 (a:Int)
 | 28,v,u,V=>v=.pointer (some ⟨b,d+a*3,none⟩)
 | 29,v,u,V=>v=.pointer (some ⟨b,d+a*3+2,none⟩)
 | 30,v,u,V=>v=.slice j h q
 | 31,v,u,V=>v=.int .i64 (h:Int)
 | 32,v,u,V=>v=.slice (some ⟨c,e,none⟩) m g
 | 33,v,u,V=>v=.int .i64 (a:Int)
 | 34,v,u,V=>v=.pointer (some ⟨c,e+a*3,none⟩)
 | 35,v,u,V=>v=.pointer (some ⟨c,e+a*3+2,none⟩)
 | 36,v,u,V=>v=.slice k i r
 | 37,v,u,V=>v=.int .i64 (i:Int)
 | 38,v,u,V=>v=.bool false
 | 39,v,u,V=>v=.bool false
 | _,_,_,_=>True
theorem F5: ∀j,Da j=j\/Da j∈Bz j:=λj=>by
 exact .inl rfl
theorem Ig (f t i g w k m s z l A o x p y r:Nat)(nm:ByteArray)(d e b c:Option Addr): ∀j v u V a,(λV a=>Below V.heap.size V a) V a->Fg f t i g w k m s z l A o x p y r nm d e b c j v u V->Fg f t i g w k m s z l A o x p y r nm d e b c j v u a:=λj v u V a h q=>by
 match j,q with
 | 0,q=>exact q
 | 1,q=>exact q
 | 2,q=>exact q
 | 3,q=>exact q
 | 4,q=>exact q
 | 5,q=>exact q
 | 6,q=>exact q
 | 7,q=>exact q
 | 8,q=>exact q
 | 9,q=>exact q
 | 10,q=>exact q
 | 11,q=>exact q
 | 12,q=>exact q
 | 13,q=>exact q
 | 14,q=>exact q
 | 15,q=>exact q
 | 16,q=>exact q
 | 17,q=>exact q
 | 18,q=>exact q
 | 19,q=>exact q
 | 20,q=>exact q
 | 21,q=>exact q
 | 22,q=>exact q
 | 23,q=>exact q
 | 24,q=>exact q
 | 25,q=>exact q
 | 26,q=>exact q
 | 27,q=>exact q
 | 28,q=>exact q
 | 29,q=>exact q
 | 30,q=>exact q
 | 31,q=>exact q
 | 32,q=>exact q
 | 33,q=>exact q
 | 34,q=>exact q
 | 35,q=>exact q
 | 36,q=>exact q
 | 37,q=>exact q
 | 38,q=>exact q
 | 39,q=>exact q
 |(n+40),_=>exact trivial
def BA:Nat->List Nat
 | 2=>[0,1]
 | 3=>[2]
 | 4=>[3]
 | 6=>[4,5]
 | 7=>[6]
 | 10=>[8,9]
 | 11=>[10]
 | 12=>[11]
 | 14=>[12,13]
 | 15=>[14]
 | 16=>[7,15]
 | 17=>[16]
 | _=>[]
def Db:Nat->Nat
 |j=>j
def Oe:Nat->List Nat
 | _=>[]
def Fh (c e l d f n m a b q o r p bx h g i s w t x:Nat)(j k:Option Addr):Nat->Value->Value->World->Prop
 | 0,v,u,V=>v=.slice (some ⟨c,e,none⟩) m l
 | 1,v,u,V=>v=.int .i64 (a:Int)
 | 2,v,u,V=>v=.pointer (some ⟨c,e+a*3,none⟩)
 | 3,v,u,V=>v=.pointer (some ⟨c,e+a*3+2,none⟩)
 | 4,v,u,V=>v=.slice (some ⟨bx,h,none⟩) q o
 | 5,v,u,V=>v=.int .i64 (b:Int)
 | 6,v,u,V=>v=.pointer (some ⟨bx,h+b,none⟩)
 | 7,v,u,V=>v=.slice j s w
 | 8,v,u,V=>v=.slice (some ⟨d,f,none⟩) m n
 | 9,v,u,V=>v=.int .i64 (a:Int)
 | 10,v,u,V=>v=.pointer (some ⟨d,f+a*3,none⟩)
 | 11,v,u,V=>v=.pointer (some ⟨d,f+a*3+2,none⟩)
 | 12,v,u,V=>v=.slice (some ⟨g,i,none⟩) r p
 | 13,v,u,V=>v=.int .i64 (b:Int)
 | 14,v,u,V=>v=.pointer (some ⟨g,i+b,none⟩)
 | 15,v,u,V=>v=.slice k t x
 | 16,v,u,V=>v=.bool true
 | 17,v,u,V=>v=.bool false
 | _,_,_,_=>True
theorem F6: ∀j,Db j=j\/Db j∈BA j:=λj=>by
 exact .inl rfl
theorem Ih (e r g f s i m p o x k y l bx t d w z B A C:Nat)(b c:Option Addr): ∀j v u V a,(λV a=>Below V.heap.size V a) V a->Fh e r g f s i m p o x k y l bx t d w z B A C b c j v u V->Fh e r g f s i m p o x k y l bx t d w z B A C b c j v u a:=λj v u V a h q=>by
 match j,q with
 | 0,q=>exact q
 | 1,q=>exact q
 | 2,q=>exact q
 | 3,q=>exact q
 | 4,q=>exact q
 | 5,q=>exact q
 | 6,q=>exact q
 | 7,q=>exact q
 | 8,q=>exact q
 | 9,q=>exact q
 | 10,q=>exact q
 | 11,q=>exact q
 | 12,q=>exact q
 | 13,q=>exact q
 | 14,q=>exact q
 | 15,q=>exact q
 | 16,q=>exact q
 | 17,q=>exact q
 |(n+18),_=>exact trivial
theorem Ex (w:World)(A:Option Addr)(n c:Nat)(l:List Int)(hl:In w A n c l)(A2:Option Addr)(n2 c2:Nat)(l2:List Int)(bW:In w A2 n2 c2 l2)(q:Quar)(Aq:Option Addr)(I cq:Nat)(hq:In w Aq I cq q.row)(Ak:Option Addr)(H ck:Nat)(hk:In w Ak H ck q.checks)(dt:Str q.relation/\jU q.count)(hw:Words w):
  Calls Tryz.prog 7 #[.slice A n c,.slice A2 n2 c2,.agg #[.string q.relation,.slice Aq I cq,.int .i64 q.count,.slice Ak H ck]] w λe w'=>e=.returned (.bool true)/\Below w.heap.size w w':=by
 have fe:=hl.le;have ff:=bW.le;have fg:=hq.le;have fh:=hk.le;have cD:=Hm dt;clear dt;go_enter Tryz.func7,Tryz.ntmps7;have HL:=Hm hl;clear hl;have HM:=Hm bW;clear bW;have HQ:=Hm hq;clear hq;have a:=Hm hk;clear hk;have HW:=Hm hw;clear hw;go_upto_region 1 with (fail);obtain⟨W1,bR⟩: ∃W,W=w.alloc (.cells #[.string q.relation,.slice Aq I cq,.int .i64 q.count,.slice Ak H ck] 57):=⟨_,rfl⟩;obtain⟨da,e7,q0,q1,q2,q3⟩:=jV bR rfl;rw[<-bR];clear bR;have ac:=Hm da;clear da;have L1:=lt_of_cell q0;by_cases g1:200<n
 ·have em:(200:Int)<(n:Int):=by omega
  go_wp2_with fail;refine(oQ _ (HW.o.below ac.o)).mono ?_;rintro e w2 ⟨rfl,cZ⟩;have o3:=kJ q0 q1 q2 q3;have cN:=Hm cZ;clear cZ;have aF:=Hm (fH ac.o cN.o);obtain⟨L1,q0,q1,q2,q3⟩:=o3.o _ cN.o;go_wp2;all_goals(try(exfalso;go_light;simp_all;done));go_ret;exact⟨rfl,aF.o⟩
 have em:¬(200:Int)<(n:Int):=by omega
 by_cases g2:60<n2
 ·have en:(60:Int)<(n2:Int):=by omega
  go_wp2_with fail;refine(oQ _ (HW.o.below ac.o)).mono ?_;rintro e w5 ⟨rfl,c3⟩;have o6:=kJ q0 q1 q2 q3;have cO:=Hm c3;clear c3;have aF:=Hm (fH ac.o cO.o);obtain⟨L1,q0,q1,q2,q3⟩:=o6.o _ cO.o;go_wp2;all_goals(try(exfalso;go_light;simp_all;done));go_ret;exact⟨rfl,aF.o⟩
 have en:¬(60:Int)<(n2:Int):=by omega
 by_cases g3:16<I
 ·have eo:(16:Int)<(I:Int):=by omega
  go_wp2_with fail;refine(oQ _ (HW.o.below ac.o)).mono ?_;rintro e w8 ⟨rfl,c9⟩;have o9:=kJ q0 q1 q2 q3;have cL:=Hm c9;clear c9;have aF:=Hm (fH ac.o cL.o);obtain⟨L1,q0,q1,q2,q3⟩:=o9.o _ cL.o;go_wp2;all_goals(try(exfalso;go_light;simp_all;done));go_ret;exact⟨rfl,aF.o⟩
 have eo:¬(16:Int)<(I:Int):=by omega
 by_cases g4:8<H
 ·have ep:(8:Int)<(H:Int):=by omega
  go_wp2_with fail;refine(oQ _ (HW.o.below ac.o)).mono ?_;rintro e fs ⟨rfl,cV⟩;have eB:=kJ q0 q1 q2 q3;have cM:=Hm cV;clear cV;have aF:=Hm (fH ac.o cM.o);obtain⟨L1,q0,q1,q2,q3⟩:=eB.o _ cM.o;go_wp2;all_goals(try(exfalso;go_light;simp_all;done));go_ret;exact⟨rfl,aF.o⟩
 have ep:¬(8:Int)<(H:Int):=by omega
 go_wp2_with fail;refine(Gb _ A n c l (HL.o.below ac.o) (by omega) A2 n2 c2 l2 (HM.o.below ac.o) (by omega)).mono ?_;rintro e cn ⟨⟨O,R,n5,S,J,G,M,K,Aw,nw,cw,rows,aa,X,ws,rfl,D,h2,h3,h4,h5,h6,h7,h8,h9,cR,eq⟩,cW⟩;have dx:=kJ q0 q1 q2 q3;have aM:=Hm cW;clear cW;have J1:=Hm D;clear D;have J2:=Hm h2;clear h2;have J3:=Hm h3;clear h3;have J4:=Hm h4;clear h4;have J5:=Hm h5;clear h5;have bO:=Hm (h6.tab (by simp[lQ]));have cF:=Hm (h7.tab (by simp[lQ]));have af:=Hm h8;have d4:=Hm h9;have fq:G<=4:=by rw[<-J3.o.len];exact cR
 clear h6 h7 h8 h9 cR eq;obtain⟨L1,q0,q1,q2,q3⟩:=dx.o _ aM.o;go_upto_region 4 with (fail);obtain⟨WR,bT⟩: ∃W,W=cn.alloc (.cells #[.string ⟨#[114]⟩,.slice O 3 3,.slice none 0 0,.slice R n5 S] 29):=⟨_,rfl⟩;obtain⟨dc,e9,r0,r1,r2,r3⟩:=jV bT rfl;rw[<-bT];clear bT;have aB:=Hm dc;clear dc;have LR:=lt_of_cell r0;have ct:=Hm (MU (ks:=[]) (ko:=[]) (ws:=ws) af.o bO.o.2 cF.o.2);have aH:=Hm λW D h2 h3 h4 h5 hw=>DY W (uW rows []) O 3 3 D none 0 0 R n5 S h2 J G M X h3 K 1 1 [kT aa []] h4 Aw nw cw ws h5 none 0 0 [] In.nil_ hw (by omega) (by omega) (λc hc=>ru (af.o c hc)) (by simp[kT,lQ]) lF.2.2.2.2.2.2.2.2.2.1;simp only[show(uW rows []).name=nR from rfl,show(uW rows []).rows=rows from rfl,show(uW rows []).columns=lQ from rfl]at aH;rw[ct.o]at aH;dsimp only at aH;clear ct;obtain⟨P,hP⟩: ∃Q,((rows.filter λx=>Pt rows aa ws X x.row).map λx=>(⟨nR,x.row,x.count,Lr rows aa ws X x.row⟩:Quar))=Q:=⟨_,rfl⟩;have HP:=Hm hP;rw[hP]at aH;clear hP;have dU:=Hm (fH aM.o aB.o);obtain⟨L1,q0,q1,q2,q3⟩:=dx.o _ dU.o;go_wp2_with fail;have dV:=Hm (fH (fH ac.o aM.o) aB.o);refine(aH.o _ (J1.o.below aB.o) (J2.o.below aB.o) (J3.o.below aB.o) (J4.o.below aB.o) (J5.o.below aB.o) (HW.o.below dV.o)).mono ?_;rintro e eZ ⟨⟨A7,m7,c7,A8,Z,c8,rfl,ev,di⟩,cY⟩;have eC:=rE (kJ q0 q1 q2 q3) (kJ r0 r1 r2 r3);have bw:=Hm cY;clear cY;clear ev aH;have I8:=Hm di;clear di;have fr:Z<=4096:=by
  obtain⟨et,ez,_⟩:=gW bO.o.2;have D:=(jm et ez).1;have h2:=I8.o.len;rw[<-HP.o,List.length_map]at h2;have h3:=List.length_filter_le (λx:Ent=>Pt rows aa ws X x.row) rows;omega
 obtain⟨⟨L1,q0,q1,q2,q3⟩,LR,r0,r1,r2,r3⟩:=eC.o _ bw.o;go_upto_region 7 with (fail);obtain⟨W5,cS⟩: ∃W,W=eZ:=⟨_,rfl⟩;have br:=Hm (fH aB.o bw.o);have r:=Hm (J1.o.below br.o);have K2:=Hm (J2.o.below br.o);have K3:=Hm (J3.o.below br.o);have K4:=Hm (J4.o.below br.o);have bB:=Hm (fH (fH (fH ac.o aM.o) aB.o) bw.o);have KW:=Hm (HW.o.below bB.o);have aI:=Hm I8.o;have KQ:=Hm (HQ.o.below bB.o);have KK:=Hm (a.o.below bB.o);have bG:=Hm r0;have bH:=Hm r1;have bI:=Hm r2;have bJ:=Hm r3;have aG:=Hm LR;have bD:=Hm (fH (fH (fH ac.o aM.o) aB.o) bw.o);rw[<-cS]at r K2 K3 K4 KW aI KQ KK bG bH bI bJ aG bD q0 q1 q2 q3⊢;clear cS;have cC:Hl (OL 57 W5.heap.size (λ_=>True) [] (W5.alloc (.cells #[.string q.relation,.slice Aq I cq,.int .i64 q.count,.slice Ak H ck] 57)) (.slice (some ⟨W5.heap.size,0,none⟩) 1 1) [q]):=Hm (Lv (Nat.le_refl _) ⟨Aq,I,cq,Ak,H,ck,rfl,(Sl.keep (Same.below fI) KQ.o).mono λz hz=>.inl ⟨trivial,hz⟩,(Sl.keep (Same.below fI) KK.o).mono λz hz=>.inl ⟨trivial,hz⟩,cD.o⟩);obtain⟨el,dh,du⟩:=Sl.cells (Sl.keep (Same.below (fI (w:=W5) (o:=.cells #[.string q.relation,.slice Aq I cq,.int .i64 q.count,.slice Ak H ck] 57))) aI.o);have cr:=Hm (dh.mono λz hz=>(show BS W5.heap.size (λ_=>True) [] (W5.alloc (.cells #[.string q.relation,.slice Aq I cq,.int .i64 q.count,.slice Ak H ck] 57)) z from .inl ⟨trivial,hz⟩));have cE:=Hm du;have cz:Hl (A8=none->Z=0):=Hm (λh=>by have D:=aI.o.2.2.2.1 h;have h2:=aI.o.2.1;omega);have dl:([q]:List Quar).length+Z<=maxLen:=by simp only[maxLen,List.length_singleton];omega
 have dm:(([q]:List Quar).length+Z)*72<=140737488355328:=by simp only[List.length_singleton];omega
 clear dh du;go_wp2_with (at_builtin;refine jC _ rfl _ _ _ rfl FH (by simp) cC.o rfl A8 Z c8 el P rfl cz.o cE.o cr.o aI.o.len dl dm ?_;intro v6 w6 dq c4 eu er;obtain⟨A6,c6,e6,bA⟩:=dq.inn;obtain⟨m6,dn⟩: ∃m,([q]++P).length=m:=⟨_,rfl⟩;rw[dn]at bA e6;subst e6);all_goals(try(exfalso;go_light;simp_all;done));have cH:=Hm bA;have ad:=Hm (fI.trans c4);have d1:=Hm (fH bD.o ad.o);have fi:=bA.le;have cA:Hl (∀p∈P,p.checks.length<=4096/\(pg (tC (kr X nR) [kT aa []] lQ rows [] p.row) p.checks).1=0/\(pg (tC (kr X nR) [kT aa []] lQ rows [] p.row) p.checks).2.length=p.checks.length):=Hm (λp hp=>by
  rw[<-HP.o]at hp;obtain⟨y,hy,rfl⟩:=List.mem_map.1 hp;obtain⟨D,h2⟩:=K6 (ws:=ws) af.o d4.o bO.o.2 cF.o.2 (List.mem_filter.1 hy).1;refine⟨?_,D,h2⟩;show(Lr rows aa ws X y.row).length<=4096;rw[Lr,List.length_map];have h3:=List.length_filter_le (λc=>iU c lQ lQ rows aa [] y.row&&!kK ws c.name y.row) (kr X nR);have h4:(kr X nR).length<=X.length:=List.length_filter_le _ _;have h5:=K3.o.len;omega)
 have cB:Hl (q.checks.length<=4096):=Hm (by have D:=KK.o.len;omega);have cJ:Hl (∀k x,([q]++P).drop k=x::([q]++P).drop (k+1)->x.checks.length<=4096/\(0<k->(pg (tC (kr X nR) [kT aa []] lQ rows [] x.row) x.checks).1=0/\(pg (tC (kr X nR) [kT aa []] lQ rows [] x.row) x.checks).2.length=x.checks.length)):=Hm (λk x h=>by
  match k,h with
  | 0,h=>
   injection h with h _;subst h;exact⟨cB.o,λh=>absurd h (by omega)⟩
  |k+1,h=>
   have hm:x∈P:=gH (k:=k) (by simpa using h);obtain⟨D,h2,h3⟩:=cA.o x hm;exact⟨D,λ_=>⟨h2,h3⟩⟩)
 obtain⟨XS,cU⟩: ∃l,[q]++P=l:=⟨_,rfl⟩;rw[cU]at cH cJ;have N1:=Hm (r.o.below ad.o);have N2:=Hm (K2.o.below ad.o);have N3:=Hm (K3.o.below ad.o);have N4:=Hm (K4.o.below ad.o);have NW:=Hm (KW.o.below ad.o);have S0:=Hm (fO ad.o aG.o bG.o);have S1:=Hm (fO ad.o aG.o bH.o);have S2:=Hm (fO ad.o aG.o bI.o);have S3:=Hm (fO ad.o aG.o bJ.o);have aD:=Hm (Nat.lt_of_lt_of_le aG.o ad.o.size);clear dq c4 eu er bA dn cU ad bD r K2 K3 K4 KW aI KQ KK bG bH bI bJ aG cC cr cE cz dl dm cA cB cD HP;go_wp2;go_loopw [67] (λi wr=> ∃k:Nat,k<=m6/\i=.int .i64 k/\Below w6.heap.size w6 wr) (λi _=>m6-(RowKit.intOf i).toNat)
 case atStart=>exact⟨0,Nat.zero_le _,rfl,Below.refl _ _⟩
 case round=>
  obtain⟨k,fo,rfl,hb⟩:=hrel;have ae:=Hm hb;clear hb;by_cases ew:k<m6
  ·obtain⟨bx,ox,x,rfl,bz,eg,Ax,nx,cx,Ay,ny,cy,e0,e1,e2,e3,i1,i2,ex,ey⟩:=cH.o.quar ew;obtain⟨dv,dw⟩:=cJ.o k x eg.o;have cI:=Hm dw;have j0:(0:Int)<=(k:Int):=by omega
   have j1:(k:Int)<(m6:Int):=by omega
   have dp:ny<=4096:=by rw[<-i2.len];exact dv
   have cu:=Hm i1;have bE:=Hm i2;have y0:=fO ae.o bz e0;have y1:=fO ae.o bz e1;have y2:=fO ae.o bz e2;have y3:=fO ae.o bz e3;clear dw dv i1 i2 e0 e1 e2 e3 ex ey;go_upto_region 10 with (fail);clear y0 y1 y2 y3;obtain⟨fd,bS⟩: ∃W,W=wr.alloc (.cells #[.string x.relation,.slice Ax nx cx,.int .i64 x.count,.slice Ay ny cy] 57):=⟨_,rfl⟩;obtain⟨db,e8,x0,x1,x2,x3⟩:=jV bS rfl;rw[<-bS];clear bS;have aN:=Hm db;clear db;have cK:=lt_of_cell x0;have bs:=Hm (fH ae.o aN.o);have bK:=Hm λW (hb:Below w6.heap.size w6 W)=>EP W (uW rows []) O 3 3 (N1.o.below hb) none 0 0 R n5 S (N2.o.below hb) J G M X (N3.o.below hb) K 1 1 [kT aa []] (N4.o.below hb) none 0 0 [] In.nil_ (NW.o.below hb) x Ax nx cx (cu.o.below hb) Ay ny cy (bE.o.below hb) (by omega) (by omega) (λc hc=>⟨(ru (af.o c hc)).1,(ru (af.o c hc)).2,(sw (af.o c hc)).1⟩) (by simp[kT,lQ]) dp;have bL:=Hm λW (hb:Below w6.heap.size w6 W)=>EQ W (uW rows []) O 3 3 (N1.o.below hb) none 0 0 R n5 S (N2.o.below hb) J G M X (N3.o.below hb) K 1 1 [kT aa []] (N4.o.below hb) none 0 0 [] In.nil_ (NW.o.below hb) x Ax nx cx (cu.o.below hb) Ay ny cy (bE.o.below hb) (by omega) (by omega) (λc hc=>⟨(ru (af.o c hc)).1,(ru (af.o c hc)).2,(sw (af.o c hc)).1,(sw (af.o c hc)).2.1⟩) (by simp[kT,lQ]) dp;have bN:=LW (rows:=rows) (orows:=aa) (ko:=[]) (rc:=lQ) (zs:=[]) (row:=x.row) af.o x.checks;obtain⟨F,Y⟩: ∃f,pg (tC (kr X nR) [kT aa []] lQ rows [] x.row) x.checks=f:=⟨_,rfl⟩;rw[Y]at bN cI;simp only[show(uW rows []).name=nR from rfl,show(uW rows []).rows=rows from rfl,show(uW rows []).columns=lQ from rfl,bN,Y]at bK bL;clear bN Y;have ya:=fO bs.o aD.o S0.o;have yb:=fO bs.o aD.o S1.o;have yc:=fO bs.o aD.o S2.o;have yd:=fO bs.o aD.o S3.o;go_wp2_with fail;refine(bK.o _ (fH ae.o aN.o)).mono ?_;rintro e ft ⟨⟨va,rfl,dr⟩,c0⟩;have dy:=kJ x0 x1 x2 x3;have aO:=Hm c0;clear c0;clear ya yb yc yd bK;obtain⟨Aa,E,rfl,bU⟩:=sG dr;obtain⟨m,hm⟩: ∃m,F.2.length=m:=⟨_,rfl⟩;rw[hm]at bU⊢;clear dr;have IA:=Hm bU;clear bU;have aK:=Hm (fH (fH ae.o aN.o) aO.o);have ya:=fO aK.o aD.o S0.o;have yb:=fO aK.o aD.o S1.o;have yc:=fO aK.o aD.o S2.o;have yd:=fO aK.o aD.o S3.o;obtain⟨cK,x0,x1,x2,x3⟩:=dy.o _ aO.o;go_wp2_with fail;refine(bL.o _ (fH (fH ae.o aN.o) aO.o)).mono ?_;rintro e e4 ⟨⟨vb,rfl,ds⟩,c1⟩;have bQ:=Hm c1;clear c1;clear ya yb yc yd bL aK;obtain⟨Ab,T,rfl,bV⟩:=sG ds;rw[hm]at bV⊢;clear ds;have IB:=Hm bV;clear bV;have d3:=Hm hm;clear hm;obtain⟨WZ,cT⟩: ∃W,W=e4:=⟨_,rfl⟩;have bF:=Hm (IA.o.below bQ.o);have cv:=Hm IB.o;have cp:=Hm (fH (fH (fH ae.o aN.o) aO.o) bQ.o);have dW:=Hm (fH aO.o bQ.o);obtain⟨cK,x0,x1,x2,x3⟩:=dy.o _ dW.o;have cG:=Hm x3;rw[<-cT]at bF cv cp cG⊢;clear cT;have fj:=bF.o.le;go_upto_region 12 with (fail);go_cut [113] from 114 to 187 (λt wx=>t=.bool false/\wx=WZ)
   case first=>
    have z3:=cG.o;by_cases k0:k=0
    ·subst k0;go_wp2;all_goals(try(exfalso;go_light;simp_all;done));go_meet
     case rel=>exact⟨rfl,rfl⟩
    ·have kp:(0:Int)<(k:Int):=by omega
     obtain⟨f1,f2⟩:=cI.o (by omega);have fp:((m:Int) != (ny:Int))=false:=by rw[<-d3.o,f2,bE.o.len];simp
     have fl:(F.1 != 0)=false:=by rw[f1];rfl
     clear f1 f2;go_wp2;all_goals(try(exfalso;go_light;simp_all;done));go_meet
     case rel=>exact⟨rfl,rfl⟩
   obtain⟨rfl,eA⟩:=hcut;obtain rfl:=eA.symm;go_wp2;go_loopw [20] (λi wv=> ∃s:Nat,s<=m/\i=.int .i64 s/\Below WZ.heap.size WZ wv) (λi _=>m-(RowKit.intOf i).toNat)
   case atStart=>exact⟨0,Nat.zero_le _,rfl,Below.refl _ _⟩
   case round=>
    obtain⟨s,fm,rfl,hb⟩:=hrel;obtain⟨WK,rfl⟩: ∃W,W=wr:=⟨_,rfl⟩;have bu:=Hm hb;clear hb;by_cases dj:s<m
    ·obtain⟨u,v,y,rfl,dd,eh,VA,va,ea,RA,U,fa,a0,a1,a2,v1,v2⟩:=(bF.o.below bu.o).rsn dj;obtain⟨B,C,y2,rfl,de,ei,VB,vb,eb,bP,rb,fb,b0,b1,b2,v3,v4⟩:=(cv.o.below bu.o).rsn dj;obtain rfl:y2=y:=by have D:=ei.o;rw[eh.o]at D;injection D with D;exact D.symm
     have aL:=Hm dd;have bv:=Hm de;have dX:=Hm a0;have dY:=Hm a1;have bC:=Hm a2;have dZ:=Hm b0;have d0:=Hm b1;have co:=Hm b2;have d8:=Hm v1;have d9:=Hm v3;have d6:=Hm v2;have d7:=Hm v4;have bM:Hl (U=rb):=Hm (by rw[<-v2.len,<-v4.len]);have i0:(0:Int)<=(s:Int):=by omega
     have i1:(s:Int)<(m:Int):=by omega
     have fk:=v2.le;clear dd de a0 a1 a2 b0 b1 b2 v1 v2 v3 v4;go_upto_region 17 with (fail);go_cut [159] from 120 to 187 (λt wx=>t=.bool false/\Below WK.heap.size WK wx)
     case first=>
      refine iW (by kernel_rfl) Bz (by kernel_rfl) (λV V'=>Below V.heap.size V V') (λvs=>⟨#[.slice A n c,.slice A2 n2 c2,.agg #[.string q.relation,.slice Aq I cq,.int .i64 q.count,.slice Ak H ck],undef,undef,.pointer (some ⟨w.heap.size,0,none⟩),u6,.pointer (some ⟨cn.heap.size,0,none⟩),.slice J G M,.slice K 1 1,.slice Aw nw cw,.slice A7 m7 c7,.slice A8 Z c8,.int .i64 0,.int .i64 ↑k,.pointer (some ⟨wr.heap.size,0,none⟩),.slice (some ⟨u,v,none⟩) m E,.int .i64 F.fst,.slice (some ⟨B,C,none⟩) m T,.int .i64 F.fst,.int .i64 ↑s,u21,.slice A n c,.int .i64 ↑n,.bool false,.bool false,.slice A2 n2 c2,.int .i64 ↑n2,.bool false,.bool false,.bool false,.pointer (some ⟨w.heap.size,1,none⟩),.slice Aq I cq,.int .i64 ↑I,.bool false,.bool false,.bool false,.pointer (some ⟨w.heap.size,3,none⟩),.slice Ak H ck,.int .i64 ↑H,.bool false,.bool false,undef,.tuple #[.agg #[.string ⟨#[114]⟩,.slice O 3 3,.slice none 0 0,.slice R n5 S],.slice J G M,.slice K 1 1,.slice Aw nw cw],.slice A n c,.slice A2 n2 c2,.tuple #[.agg #[.string ⟨#[114]⟩,.slice O 3 3,.slice none 0 0,.slice R n5 S],.slice J G M,.slice K 1 1,.slice Aw nw cw],.agg #[.string ⟨#[114]⟩,.slice O 3 3,.slice none 0 0,.slice R n5 S],.slice J G M,.slice K 1 1,.slice Aw nw cw,.tuple #[.slice A7 m7 c7,.slice A8 Z c8,.int .i64 0],.agg #[.string ⟨#[114]⟩,.slice O 3 3,.slice none 0 0,.slice R n5 S],.slice J G M,.slice K 1 1,.slice Aw nw cw,.tuple #[.slice A7 m7 c7,.slice A8 Z c8,.int .i64 0],.slice A7 m7 c7,.slice A8 Z c8,.int .i64 0,.int .i64 0,.bool false,.agg #[.string q.relation,.slice Aq I cq,.int .i64 q.count,.slice Ak H ck],.slice (some ⟨W5.heap.size,0,none⟩) 1 1,.slice A8 Z c8,.slice (some ⟨bx,ox,none⟩) m6 c6,.int .i64 ↑m6,.int .i64 ↑k,.bool true,.int .i64 ↑k,.pointer (some ⟨bx,ox+k*4,none⟩),.agg #[.string x.relation,.slice Ax nx cx,.int .i64 x.count,.slice Ay ny cy],.tuple #[.slice (some ⟨u,v,none⟩) m E,.int .i64 F.fst],.agg #[.string ⟨#[114]⟩,.slice O 3 3,.slice none 0 0,.slice R n5 S],.slice J G M,.slice K 1 1,.agg #[.string x.relation,.slice Ax nx cx,.int .i64 x.count,.slice Ay ny cy],.tuple #[.slice (some ⟨u,v,none⟩) m E,.int .i64 F.fst],.slice (some ⟨u,v,none⟩) m E,.int .i64 F.fst,.tuple #[.slice (some ⟨B,C,none⟩) m T,.int .i64 F.fst],.agg #[.string ⟨#[114]⟩,.slice O 3 3,.slice none 0 0,.slice R n5 S],.slice J G M,.slice K 1 1,.agg #[.string x.relation,.slice Ax nx cx,.int .i64 x.count,.slice Ay ny cy],.tuple #[.slice (some ⟨B,C,none⟩) m T,.int .i64 F.fst],.slice (some ⟨B,C,none⟩) m T,.int .i64 F.fst,u88,u89,u90,u91,u92,u93,u94,u95,u96,u97,u98,u99,u100,u101,u102,u103,u104,u105,u106,u107,u108,u109,u110,u111,u112,.bool false,.int .i64 ↑s,.slice (some ⟨u,v,none⟩) m E,.int .i64 ↑m,.bool true,u118,u119,(vs.getD 0 (.bool false)),(vs.getD 1 (.bool false)),(vs.getD 2 (.bool false)),(vs.getD 3 (.bool false)),(vs.getD 4 (.bool false)),(vs.getD 5 (.bool false)),(vs.getD 6 (.bool false)),(vs.getD 7 (.bool false)),(vs.getD 8 (.bool false)),(vs.getD 9 (.bool false)),(vs.getD 10 (.bool false)),(vs.getD 11 (.bool false)),(vs.getD 12 (.bool false)),(vs.getD 13 (.bool false)),(vs.getD 14 (.bool false)),(vs.getD 15 (.bool false)),(vs.getD 16 (.bool false)),(vs.getD 17 (.bool false)),(vs.getD 18 (.bool false)),(vs.getD 19 (.bool false)),(vs.getD 20 (.bool false)),(vs.getD 21 (.bool false)),(vs.getD 22 (.bool false)),(vs.getD 23 (.bool false)),(vs.getD 24 (.bool false)),(vs.getD 25 (.bool false)),(vs.getD 26 (.bool false)),(vs.getD 27 (.bool false)),(vs.getD 28 (.bool false)),(vs.getD 29 (.bool false)),(vs.getD 30 (.bool false)),(vs.getD 31 (.bool false)),(vs.getD 32 (.bool false)),(vs.getD 33 (.bool false)),(vs.getD 34 (.bool false)),(vs.getD 35 (.bool false)),(vs.getD 36 (.bool false)),(vs.getD 37 (.bool false)),(vs.getD 38 (.bool false)),(vs.getD 39 (.bool false)),u160,u161,u162,u163,u164,u165,u166,u167,u168,u169,u170,u171,u172,u173,u174,u175,u176,u177,u178,u179,u180,u181,u182,u183,u184,u185,u186,u187,u188,undef],[]⟩) 40 (by decide) (λL V=>Below WK.heap.size WK V) Da Od (Fg u v E B C T m s va ea vb eb U fa rb fb y2.name VA VB RA bP) (λ_ _=>True) F5 (Ig u v E B C T m s va ea vb eb U fa rb fb y2.name VA VB RA bP) [_,_,_,_,_,_,_,_,_,_,_,_,_,_,_,_,_,_,_,_,_,_,_,_,_,_,_,_,_,_,_,_,_,_,_,_,_,_,_,_] rfl rfl (λ_=>trivial) ((Below.refl _ _).drew) ?_ ?_
      ·intro L i vs V hi aA hL hd hG Y aQ;obtain⟨v0,bX,rfl,ag⟩:=fJ aA;obtain⟨v1,bZ,rfl,ah⟩:=fJ ag;obtain⟨v2,ce,rfl,aq⟩:=fJ ah;obtain⟨v3,cf,rfl,ar⟩:=fJ aq;obtain⟨v4,cg,rfl,au⟩:=fJ ar;obtain⟨v5,ch,rfl,av⟩:=fJ au;obtain⟨v6,ci,rfl,aw⟩:=fJ av;obtain⟨v7,cj,rfl,ax⟩:=fJ aw;obtain⟨v8,cl,rfl,ay⟩:=fJ ax;obtain⟨v9,cm,rfl,az⟩:=fJ ay;obtain⟨bk,b3,rfl,ai⟩:=fJ az;obtain⟨N,b4,rfl,aj⟩:=fJ ai;obtain⟨bl,b5,rfl,ak⟩:=fJ aj;obtain⟨bm,b6,rfl,al⟩:=fJ ak;obtain⟨bn,b7,rfl,am⟩:=fJ al;obtain⟨bo,b8,rfl,an⟩:=fJ am;obtain⟨bp,b9,rfl,ao⟩:=fJ an;obtain⟨bq,cd,rfl,ap⟩:=fJ ao;obtain⟨dz,eD,rfl,aS⟩:=fJ ap;obtain⟨dA,eE,rfl,aT⟩:=fJ aS;obtain⟨dB,eF,rfl,aU⟩:=fJ aT;obtain⟨dC,eG,rfl,aV⟩:=fJ aU;obtain⟨dD,eH,rfl,aW⟩:=fJ aV;obtain⟨dE,eI,rfl,aX⟩:=fJ aW;obtain⟨dF,eJ,rfl,aY⟩:=fJ aX;obtain⟨ab,eK,rfl,aZ⟩:=fJ aY;obtain⟨dG,eL,rfl,a3⟩:=fJ aZ;obtain⟨dH,eM,rfl,a4⟩:=fJ a3;obtain⟨dI,eN,rfl,a5⟩:=fJ a4;obtain⟨dJ,eO,rfl,a6⟩:=fJ a5;obtain⟨dK,eP,rfl,a7⟩:=fJ a6;obtain⟨dL,eQ,rfl,a8⟩:=fJ a7;obtain⟨dM,eR,rfl,a9⟩:=fJ a8;obtain⟨dN,eS,rfl,bc⟩:=fJ a9;obtain⟨dO,eT,rfl,bd⟩:=fJ bc;obtain⟨dP,eU,rfl,be⟩:=fJ bd;obtain⟨dQ,eV,rfl,bf⟩:=fJ be;obtain⟨dR,eW,rfl,bg⟩:=fJ bf;obtain⟨dS,eX,rfl,bh⟩:=fJ bg;obtain⟨dT,eY,rfl,bi⟩:=fJ bh;obtain rfl:=jR bi;clear aA ag ah aq ar au av aw ax ay az ai aj ak al am an ao ap aS aT aU aV aW aX aY aZ a3 a4 a5 a6 a7 a8 a9 bc bd be bf bg bh bi;have hi:i<40:=hi;have g:=Hm hG;have b:=Hm Y;have d:=Hm hd;have d5:=Hm hL;have d2:=Hm aQ;clear hG Y hd hL aQ;obtain rfl|rfl|rfl|rfl|rfl|rfl|rfl|rfl|rfl|rfl|rfl|rfl|rfl|rfl|rfl|rfl|rfl|rfl|rfl|rfl|rfl|rfl|rfl|rfl|rfl|rfl|rfl|rfl|rfl|rfl|rfl|rfl|rfl|rfl|rfl|rfl|rfl|rfl|rfl|rfl:i=0\/i=1\/i=2\/i=3\/i=4\/i=5\/i=6\/i=7\/i=8\/i=9\/i=10\/i=11\/i=12\/i=13\/i=14\/i=15\/i=16\/i=17\/i=18\/i=19\/i=20\/i=21\/i=22\/i=23\/i=24\/i=25\/i=26\/i=27\/i=28\/i=29\/i=30\/i=31\/i=32\/i=33\/i=34\/i=35\/i=36\/i=37\/i=38\/i=39:=by omega
       ·refine fK rfl λr a=>?_;go_simp;exact a.o _ _ ⟨_,rfl,rfl,g.o,.inl (Below.refl _ _)⟩
       ·refine fK rfl λr a=>?_;go_simp;exact a.o _ _ ⟨_,rfl,rfl,g.o,.inl (Below.refl _ _)⟩
       ·obtain rfl:v0=.slice (some ⟨u,v,none⟩) m E:=fT b d 0 rfl rfl;obtain rfl:v1=.int .i64 (s:Int):=fT b d 1 rfl rfl;refine fK rfl λr a=>?_;go_simp;exact a.o _ _ ⟨_,rfl,rfl,g.o,.inl (Below.refl _ _)⟩
       ·obtain rfl:v2=.pointer (some ⟨u,v+s*3,none⟩):=fT b d 2 rfl rfl;refine fK rfl λr a=>?_;go_simp;exact a.o _ _ ⟨_,rfl,rfl,g.o,.inl (Below.refl _ _)⟩
       ·obtain rfl:v3=.pointer (some ⟨u,v+s*3,none⟩):=fT b d 3 rfl rfl;have y0:=fO g.o aL.o dX.o;refine fK rfl λr a=>?_;go_simp;exact a.o _ _ ⟨_,rfl,rfl,g.o,.inl (Below.refl _ _)⟩
       ·refine fK rfl λr a=>?_;go_simp;exact a.o _ _ ⟨_,rfl,rfl,g.o,.inl (Below.refl _ _)⟩
       ·refine fK rfl λr a=>?_;go_simp;exact a.o _ _ ⟨_,rfl,rfl,g.o,.inl (Below.refl _ _)⟩
       ·obtain rfl:v5=.slice (some ⟨B,C,none⟩) m T:=fT b d 5 rfl rfl;obtain rfl:v6=.int .i64 (s:Int):=fT b d 6 rfl rfl;refine fK rfl λr a=>?_;go_simp;exact a.o _ _ ⟨_,rfl,rfl,g.o,.inl (Below.refl _ _)⟩
       ·obtain rfl:v7=.pointer (some ⟨B,C+s*3,none⟩):=fT b d 7 rfl rfl;refine fK rfl λr a=>?_;go_simp;exact a.o _ _ ⟨_,rfl,rfl,g.o,.inl (Below.refl _ _)⟩
       ·obtain rfl:v8=.pointer (some ⟨B,C+s*3,none⟩):=fT b d 8 rfl rfl;have y0:=fO g.o bv.o dZ.o;refine fK rfl λr a=>?_;go_simp;exact a.o _ _ ⟨_,rfl,rfl,g.o,.inl (Below.refl _ _)⟩
       ·obtain rfl:v4=.string y2.name:=fT b d 4 rfl rfl;obtain rfl:v9=.string y2.name:=fT b d 9 rfl rfl;refine fK rfl λr a=>?_;go_simp;exact a.o _ _ ⟨_,rfl,rfl,g.o,.inl (Below.refl _ _)⟩
       ·obtain rfl:bk=.bool false:=fT b d 10 rfl rfl;refine fK rfl λr a=>?_;go_simp;exact a.o _ _ ⟨_,rfl,rfl,g.o,.inl (Below.refl _ _)⟩
       ·obtain rfl:N=.bool false:=fT b d 11 rfl rfl;refine fK rfl λr a=>?_;go_simp;exact a.o _ _ ⟨_,rfl,rfl,g.o,.inl (Below.refl _ _)⟩
       ·obtain rfl:N=.bool false:=fT b d 11 rfl rfl;refine fK rfl λr a=>?_;go_simp;exact a.o _ _ ⟨_,rfl,rfl,g.o,.inl (Below.refl _ _)⟩
       ·obtain rfl:N=.bool false:=fT b d 11 rfl rfl;obtain rfl:bl=.slice (some ⟨u,v,none⟩) m E:=fT b d 12 rfl rfl;obtain rfl:bm=.int .i64 (s:Int):=fT b d 13 rfl rfl;refine fK rfl λr a=>?_;go_simp;exact a.o _ _ ⟨_,rfl,rfl,g.o,.inl (Below.refl _ _)⟩
       ·obtain rfl:N=.bool false:=fT b d 11 rfl rfl;obtain rfl:bn=.pointer (some ⟨u,v+s*3,none⟩):=fT b d 14 rfl rfl;refine fK rfl λr a=>?_;go_simp;exact a.o _ _ ⟨_,rfl,rfl,g.o,.inl (Below.refl _ _)⟩
       ·obtain rfl:N=.bool false:=fT b d 11 rfl rfl;obtain rfl:bo=.pointer (some ⟨u,v+s*3+1,none⟩):=fT b d 15 rfl rfl;have y0:=fO g.o aL.o dY.o;refine fK rfl λr a=>?_;go_simp;exact a.o _ _ ⟨_,rfl,rfl,g.o,.inl (Below.refl _ _)⟩
       ·obtain rfl:N=.bool false:=fT b d 11 rfl rfl;refine fK rfl λr a=>?_;go_simp;exact a.o _ _ ⟨_,rfl,rfl,g.o,.inl (Below.refl _ _)⟩
       ·obtain rfl:N=.bool false:=fT b d 11 rfl rfl;refine fK rfl λr a=>?_;go_simp;exact a.o _ _ ⟨_,rfl,rfl,g.o,.inl (Below.refl _ _)⟩
       ·obtain rfl:N=.bool false:=fT b d 11 rfl rfl;obtain rfl:bq=.slice (some ⟨B,C,none⟩) m T:=fT b d 17 rfl rfl;obtain rfl:dz=.int .i64 (s:Int):=fT b d 18 rfl rfl;refine fK rfl λr a=>?_;go_simp;exact a.o _ _ ⟨_,rfl,rfl,g.o,.inl (Below.refl _ _)⟩
       ·obtain rfl:N=.bool false:=fT b d 11 rfl rfl;obtain rfl:dA=.pointer (some ⟨B,C+s*3,none⟩):=fT b d 19 rfl rfl;refine fK rfl λr a=>?_;go_simp;exact a.o _ _ ⟨_,rfl,rfl,g.o,.inl (Below.refl _ _)⟩
       ·obtain rfl:N=.bool false:=fT b d 11 rfl rfl;obtain rfl:dB=.pointer (some ⟨B,C+s*3+1,none⟩):=fT b d 20 rfl rfl;have y0:=fO g.o bv.o d0.o;refine fK rfl λr a=>?_;go_simp;exact a.o _ _ ⟨_,rfl,rfl,g.o,.inl (Below.refl _ _)⟩
       ·obtain rfl:N=.bool false:=fT b d 11 rfl rfl;obtain rfl:bp=.slice VA va ea:=fT b d 16 rfl rfl;obtain rfl:dC=.slice VB vb eb:=fT b d 21 rfl rfl;refine fK rfl λr a=>?_;go_simp;go_at_call 27;refine(uK _ _ _ _ _ _ _ _ _ (d8.o.below g.o) (d9.o.below g.o)).mono ?_;rintro e w1 ⟨rfl,aR⟩;rw[zQ];have aJ:=Hm aR;clear aR;go_wp2_with fail;exact a.o _ _ ⟨_,rfl,rfl,fH g.o aJ.o,.inl aJ.o⟩
       ·obtain rfl:N=.bool false:=fT b d 11 rfl rfl;obtain rfl:dD=.bool true:=fT b d 22 rfl rfl;refine fK rfl λr a=>?_;go_simp;exact a.o _ _ ⟨_,rfl,rfl,g.o,.inl (Below.refl _ _)⟩
       ·obtain rfl:N=.bool false:=fT b d 11 rfl rfl;obtain rfl:dE=.bool false:=fT b d 23 rfl rfl;refine fK rfl λr a=>?_;go_simp;exact a.o _ _ ⟨_,rfl,rfl,g.o,.inl (Below.refl _ _)⟩
       ·obtain rfl:dF=.bool false:=fT b d 24 rfl rfl;refine fK rfl λr a=>?_;go_simp;exact a.o _ _ ⟨_,rfl,rfl,g.o,.inl (Below.refl _ _)⟩
       ·obtain rfl:ab=.bool false:=fT b d 25 rfl rfl;refine fK rfl λr a=>?_;go_simp;exact a.o _ _ ⟨_,rfl,rfl,g.o,.inl (Below.refl _ _)⟩
       ·obtain rfl:ab=.bool false:=fT b d 25 rfl rfl;refine fK rfl λr a=>?_;go_simp;exact a.o _ _ ⟨_,rfl,rfl,g.o,.inl (Below.refl _ _)⟩
       ·obtain rfl:ab=.bool false:=fT b d 25 rfl rfl;obtain rfl:dG=.slice (some ⟨u,v,none⟩) m E:=fT b d 26 rfl rfl;obtain rfl:dH=.int .i64 (s:Int):=fT b d 27 rfl rfl;refine fK rfl λr a=>?_;go_simp;exact a.o _ _ ⟨_,rfl,rfl,g.o,.inl (Below.refl _ _)⟩
       ·obtain rfl:ab=.bool false:=fT b d 25 rfl rfl;obtain rfl:dI=.pointer (some ⟨u,v+s*3,none⟩):=fT b d 28 rfl rfl;refine fK rfl λr a=>?_;go_simp;exact a.o _ _ ⟨_,rfl,rfl,g.o,.inl (Below.refl _ _)⟩
       ·obtain rfl:ab=.bool false:=fT b d 25 rfl rfl;obtain rfl:dJ=.pointer (some ⟨u,v+s*3+2,none⟩):=fT b d 29 rfl rfl;have y0:=fO g.o aL.o bC.o;refine fK rfl λr a=>?_;go_simp;exact a.o _ _ ⟨_,rfl,rfl,g.o,.inl (Below.refl _ _)⟩
       ·obtain rfl:ab=.bool false:=fT b d 25 rfl rfl;obtain rfl:dK=.slice RA U fa:=fT b d 30 rfl rfl;refine fK rfl λr a=>?_;go_simp;exact a.o _ _ ⟨_,rfl,rfl,g.o,.inl (Below.refl _ _)⟩
       ·obtain rfl:ab=.bool false:=fT b d 25 rfl rfl;refine fK rfl λr a=>?_;go_simp;exact a.o _ _ ⟨_,rfl,rfl,g.o,.inl (Below.refl _ _)⟩
       ·obtain rfl:ab=.bool false:=fT b d 25 rfl rfl;refine fK rfl λr a=>?_;go_simp;exact a.o _ _ ⟨_,rfl,rfl,g.o,.inl (Below.refl _ _)⟩
       ·obtain rfl:ab=.bool false:=fT b d 25 rfl rfl;obtain rfl:dM=.slice (some ⟨B,C,none⟩) m T:=fT b d 32 rfl rfl;obtain rfl:dN=.int .i64 (s:Int):=fT b d 33 rfl rfl;refine fK rfl λr a=>?_;go_simp;exact a.o _ _ ⟨_,rfl,rfl,g.o,.inl (Below.refl _ _)⟩
       ·obtain rfl:ab=.bool false:=fT b d 25 rfl rfl;obtain rfl:dO=.pointer (some ⟨B,C+s*3,none⟩):=fT b d 34 rfl rfl;refine fK rfl λr a=>?_;go_simp;exact a.o _ _ ⟨_,rfl,rfl,g.o,.inl (Below.refl _ _)⟩
       ·obtain rfl:ab=.bool false:=fT b d 25 rfl rfl;obtain rfl:dP=.pointer (some ⟨B,C+s*3+2,none⟩):=fT b d 35 rfl rfl;have y0:=fO g.o bv.o co.o;refine fK rfl λr a=>?_;go_simp;exact a.o _ _ ⟨_,rfl,rfl,g.o,.inl (Below.refl _ _)⟩
       ·obtain rfl:ab=.bool false:=fT b d 25 rfl rfl;obtain rfl:dQ=.slice bP rb fb:=fT b d 36 rfl rfl;refine fK rfl λr a=>?_;go_simp;exact a.o _ _ ⟨_,rfl,rfl,g.o,.inl (Below.refl _ _)⟩
       ·obtain rfl:ab=.bool false:=fT b d 25 rfl rfl;obtain rfl:dL=.int .i64 (U:Int):=fT b d 31 rfl rfl;obtain rfl:dR=.int .i64 (rb:Int):=fT b d 37 rfl rfl;refine fK rfl λr a=>?_;go_simp;exact a.o _ _ ⟨_,rfl,show Value.bool ((U:Int) != (rb:Int))=Value.bool false from by rw[bM.o];simp,g.o,.inl (Below.refl _ _)⟩
       ·obtain rfl:ab=.bool false:=fT b d 25 rfl rfl;obtain rfl:dS=.bool false:=fT b d 38 rfl rfl;refine fK rfl λr a=>?_;go_simp;exact a.o _ _ ⟨_,rfl,rfl,g.o,.inl (Below.refl _ _)⟩
      ·intro L vs V hL aA hG Y;obtain⟨v0,bX,rfl,ag⟩:=fJ aA;obtain⟨v1,bZ,rfl,ah⟩:=fJ ag;obtain⟨v2,ce,rfl,aq⟩:=fJ ah;obtain⟨v3,cf,rfl,ar⟩:=fJ aq;obtain⟨v4,cg,rfl,au⟩:=fJ ar;obtain⟨v5,ch,rfl,av⟩:=fJ au;obtain⟨v6,ci,rfl,aw⟩:=fJ av;obtain⟨v7,cj,rfl,ax⟩:=fJ aw;obtain⟨v8,cl,rfl,ay⟩:=fJ ax;obtain⟨v9,cm,rfl,az⟩:=fJ ay;obtain⟨bk,b3,rfl,ai⟩:=fJ az;obtain⟨N,b4,rfl,aj⟩:=fJ ai;obtain⟨bl,b5,rfl,ak⟩:=fJ aj;obtain⟨bm,b6,rfl,al⟩:=fJ ak;obtain⟨bn,b7,rfl,am⟩:=fJ al;obtain⟨bo,b8,rfl,an⟩:=fJ am;obtain⟨bp,b9,rfl,ao⟩:=fJ an;obtain⟨bq,cd,rfl,ap⟩:=fJ ao;obtain⟨dz,eD,rfl,aS⟩:=fJ ap;obtain⟨dA,eE,rfl,aT⟩:=fJ aS;obtain⟨dB,eF,rfl,aU⟩:=fJ aT;obtain⟨dC,eG,rfl,aV⟩:=fJ aU;obtain⟨dD,eH,rfl,aW⟩:=fJ aV;obtain⟨dE,eI,rfl,aX⟩:=fJ aW;obtain⟨dF,eJ,rfl,aY⟩:=fJ aX;obtain⟨ab,eK,rfl,aZ⟩:=fJ aY;obtain⟨dG,eL,rfl,a3⟩:=fJ aZ;obtain⟨dH,eM,rfl,a4⟩:=fJ a3;obtain⟨dI,eN,rfl,a5⟩:=fJ a4;obtain⟨dJ,eO,rfl,a6⟩:=fJ a5;obtain⟨dK,eP,rfl,a7⟩:=fJ a6;obtain⟨dL,eQ,rfl,a8⟩:=fJ a7;obtain⟨dM,eR,rfl,a9⟩:=fJ a8;obtain⟨dN,eS,rfl,bc⟩:=fJ a9;obtain⟨dO,eT,rfl,bd⟩:=fJ bc;obtain⟨dP,eU,rfl,be⟩:=fJ bd;obtain⟨dQ,eV,rfl,bf⟩:=fJ be;obtain⟨dR,eW,rfl,bg⟩:=fJ bf;obtain⟨dS,eX,rfl,bh⟩:=fJ bg;obtain⟨dT,eY,rfl,bi⟩:=fJ bh;obtain rfl:=jR bi;clear aA ag ah aq ar au av aw ax ay az ai aj ak al am an ao ap aS aT aU aV aW aX aY aZ a3 a4 a5 a6 a7 a8 a9 bc bd be bf bg bh bi;have g:=Hm hG;have b:=Hm Y;have HL:=Hm hL;clear hG Y hL;obtain rfl:dT=.bool false:=b.o 39 (by show 39<40;omega) rfl;have bt:=Hm g.o;go_wp2_with fail;go_meet
       case rel=>exact⟨rfl,bt.o⟩
     obtain⟨rfl,cX⟩:=hcut;obtain⟨fc,rfl⟩: ∃W,W=wc:=⟨_,rfl⟩;have bt:=Hm cX;clear cX;go_wp2;go_loopw [21] (λi wv=> ∃j:Nat,j<=U/\i=.int .i64 j/\Below WK.heap.size WK wv) (λi _=>U-(RowKit.intOf i).toNat)
     case atStart=>exact⟨0,Nat.zero_le _,rfl,bt.o⟩
     case round=>
      obtain⟨j,hj,rfl,hb⟩:=hrel;obtain⟨WJ,rfl⟩: ∃W,W=wr:=⟨_,rfl⟩;have aC:=Hm hb;clear hb bt;have yq:=fO aC.o aL.o bC.o;by_cases dk:j<U
      ·obtain⟨aP,bj,xr,rfl,df,ed,XA,xa,ya,cP,v5⟩:=d6.o.lst dk;obtain⟨bY,oy,e5,rfl,dg,ef,XB,xb,yb,cQ,v6⟩:=d7.o.lst (k:=j) (by rw[<-bM.o];exact dk);obtain rfl:e5=xr:=by have D:=ef.o;rw[ed.o]at D;injection D with D;exact D.symm
       have ej:=Hm df;have ek:=Hm dg;have CX:=Hm cP;have CY:=Hm cQ;have ec:=Hm v5;have ee:=Hm v6;have l0:(0:Int)<=(j:Int):=by omega
       have l1:(j:Int)<(U:Int):=by omega
       have l2:(j:Int)<(rb:Int):=by rw[<-bM.o];omega
       clear df dg cP cQ v5 v6;go_upto_region 22 with (fail);clear yq;refine iW (by kernel_rfl) BA (by kernel_rfl) (λV V'=>Below V.heap.size V V') (λvs=>⟨#[.slice A n c,.slice A2 n2 c2,.agg #[.string q.relation,.slice Aq I cq,.int .i64 q.count,.slice Ak H ck],undef,undef,.pointer (some ⟨w.heap.size,0,none⟩),u6,.pointer (some ⟨cn.heap.size,0,none⟩),.slice J G M,.slice K 1 1,.slice Aw nw cw,.slice A7 m7 c7,.slice A8 Z c8,.int .i64 0,.int .i64 ↑k,.pointer (some ⟨wr.heap.size,0,none⟩),.slice (some ⟨u,v,none⟩) m E,.int .i64 F.fst,.slice (some ⟨B,C,none⟩) m T,.int .i64 F.fst,.int .i64 ↑s,.int .i64 ↑j,.slice A n c,.int .i64 ↑n,.bool false,.bool false,.slice A2 n2 c2,.int .i64 ↑n2,.bool false,.bool false,.bool false,.pointer (some ⟨w.heap.size,1,none⟩),.slice Aq I cq,.int .i64 ↑I,.bool false,.bool false,.bool false,.pointer (some ⟨w.heap.size,3,none⟩),.slice Ak H ck,.int .i64 ↑H,.bool false,.bool false,undef,.tuple #[.agg #[.string ⟨#[114]⟩,.slice O 3 3,.slice none 0 0,.slice R n5 S],.slice J G M,.slice K 1 1,.slice Aw nw cw],.slice A n c,.slice A2 n2 c2,.tuple #[.agg #[.string ⟨#[114]⟩,.slice O 3 3,.slice none 0 0,.slice R n5 S],.slice J G M,.slice K 1 1,.slice Aw nw cw],.agg #[.string ⟨#[114]⟩,.slice O 3 3,.slice none 0 0,.slice R n5 S],.slice J G M,.slice K 1 1,.slice Aw nw cw,.tuple #[.slice A7 m7 c7,.slice A8 Z c8,.int .i64 0],.agg #[.string ⟨#[114]⟩,.slice O 3 3,.slice none 0 0,.slice R n5 S],.slice J G M,.slice K 1 1,.slice Aw nw cw,.tuple #[.slice A7 m7 c7,.slice A8 Z c8,.int .i64 0],.slice A7 m7 c7,.slice A8 Z c8,.int .i64 0,.int .i64 0,.bool false,.agg #[.string q.relation,.slice Aq I cq,.int .i64 q.count,.slice Ak H ck],.slice (some ⟨W5.heap.size,0,none⟩) 1 1,.slice A8 Z c8,.slice (some ⟨bx,ox,none⟩) m6 c6,.int .i64 ↑m6,.int .i64 ↑k,.bool true,.int .i64 ↑k,.pointer (some ⟨bx,ox+k*4,none⟩),.agg #[.string x.relation,.slice Ax nx cx,.int .i64 x.count,.slice Ay ny cy],.tuple #[.slice (some ⟨u,v,none⟩) m E,.int .i64 F.fst],.agg #[.string ⟨#[114]⟩,.slice O 3 3,.slice none 0 0,.slice R n5 S],.slice J G M,.slice K 1 1,.agg #[.string x.relation,.slice Ax nx cx,.int .i64 x.count,.slice Ay ny cy],.tuple #[.slice (some ⟨u,v,none⟩) m E,.int .i64 F.fst],.slice (some ⟨u,v,none⟩) m E,.int .i64 F.fst,.tuple #[.slice (some ⟨B,C,none⟩) m T,.int .i64 F.fst],.agg #[.string ⟨#[114]⟩,.slice O 3 3,.slice none 0 0,.slice R n5 S],.slice J G M,.slice K 1 1,.agg #[.string x.relation,.slice Ax nx cx,.int .i64 x.count,.slice Ay ny cy],.tuple #[.slice (some ⟨B,C,none⟩) m T,.int .i64 F.fst],.slice (some ⟨B,C,none⟩) m T,.int .i64 F.fst,u88,u89,u90,u91,u92,u93,u94,u95,u96,u97,u98,u99,u100,u101,u102,u103,u104,u105,u106,u107,u108,u109,u110,u111,u112,.bool false,.int .i64 ↑s,.slice (some ⟨u,v,none⟩) m E,.int .i64 ↑m,.bool true,u118,u119,u120,u121,u122,u123,u124,u125,u126,u127,u128,u129,u130,u131,u132,u133,u134,u135,u136,u137,u138,u139,u140,u141,u142,u143,u144,u145,u146,u147,u148,u149,u150,u151,u152,u153,u154,u155,u156,u157,u158,.bool false,.int .i64 ↑j,.slice (some ⟨u,v,none⟩) m E,.int .i64 ↑s,.pointer (some ⟨u,v+s*3,none⟩),.pointer (some ⟨u,v+s*3+2,none⟩),.slice (some ⟨aP,bj,none⟩) U fa,.int .i64 ↑U,.bool true,u168,u169,(vs.getD 0 (.bool false)),(vs.getD 1 (.bool false)),(vs.getD 2 (.bool false)),(vs.getD 3 (.bool false)),(vs.getD 4 (.bool false)),(vs.getD 5 (.bool false)),(vs.getD 6 (.bool false)),(vs.getD 7 (.bool false)),(vs.getD 8 (.bool false)),(vs.getD 9 (.bool false)),(vs.getD 10 (.bool false)),(vs.getD 11 (.bool false)),(vs.getD 12 (.bool false)),(vs.getD 13 (.bool false)),(vs.getD 14 (.bool false)),(vs.getD 15 (.bool false)),(vs.getD 16 (.bool false)),(vs.getD 17 (.bool false)),u188,undef],[]⟩) 18 (by decide) (λL V=>Below WJ.heap.size WJ V) Db Oe (Fh u v E B C T m s j U fa rb fb aP bj bY oy xa ya xb yb XA XB) (λ_ _=>True) F6 (Ih u v E B C T m s j U fa rb fb aP bj bY oy xa ya xb yb XA XB) [_,_,_,_,_,_,_,_,_,_,_,_,_,_,_,_,_,_] rfl rfl (λ_=>trivial) ((Below.refl _ _).drew) ?_ ?_
       ·intro L i vs V hi aA hL hd hG Y aQ;obtain⟨v0,bX,rfl,ag⟩:=fJ aA;obtain⟨v1,bZ,rfl,ah⟩:=fJ ag;obtain⟨v2,ce,rfl,aq⟩:=fJ ah;obtain⟨v3,cf,rfl,ar⟩:=fJ aq;obtain⟨v4,cg,rfl,au⟩:=fJ ar;obtain⟨v5,ch,rfl,av⟩:=fJ au;obtain⟨v6,ci,rfl,aw⟩:=fJ av;obtain⟨v7,cj,rfl,ax⟩:=fJ aw;obtain⟨v8,cl,rfl,ay⟩:=fJ ax;obtain⟨v9,cm,rfl,az⟩:=fJ ay;obtain⟨bk,b3,rfl,ai⟩:=fJ az;obtain⟨N,b4,rfl,aj⟩:=fJ ai;obtain⟨bl,b5,rfl,ak⟩:=fJ aj;obtain⟨bm,b6,rfl,al⟩:=fJ ak;obtain⟨bn,b7,rfl,am⟩:=fJ al;obtain⟨bo,b8,rfl,an⟩:=fJ am;obtain⟨bp,b9,rfl,ao⟩:=fJ an;obtain⟨bq,cd,rfl,ap⟩:=fJ ao;obtain rfl:=jR ap;clear aA ag ah aq ar au av aw ax ay az ai aj ak al am an ao ap;have hi:i<18:=hi;have g:=Hm hG;have b:=Hm Y;have d:=Hm hd;have d5:=Hm hL;have d2:=Hm aQ;clear hG Y hd hL aQ;obtain rfl|rfl|rfl|rfl|rfl|rfl|rfl|rfl|rfl|rfl|rfl|rfl|rfl|rfl|rfl|rfl|rfl|rfl:i=0\/i=1\/i=2\/i=3\/i=4\/i=5\/i=6\/i=7\/i=8\/i=9\/i=10\/i=11\/i=12\/i=13\/i=14\/i=15\/i=16\/i=17:=by omega
        ·refine fK rfl λr a=>?_;go_simp;exact a.o _ _ ⟨_,rfl,rfl,g.o,.inl (Below.refl _ _)⟩
        ·refine fK rfl λr a=>?_;go_simp;exact a.o _ _ ⟨_,rfl,rfl,g.o,.inl (Below.refl _ _)⟩
        ·obtain rfl:v0=.slice (some ⟨u,v,none⟩) m E:=fT b d 0 rfl rfl;obtain rfl:v1=.int .i64 (s:Int):=fT b d 1 rfl rfl;refine fK rfl λr a=>?_;go_simp;exact a.o _ _ ⟨_,rfl,rfl,g.o,.inl (Below.refl _ _)⟩
        ·obtain rfl:v2=.pointer (some ⟨u,v+s*3,none⟩):=fT b d 2 rfl rfl;refine fK rfl λr a=>?_;go_simp;exact a.o _ _ ⟨_,rfl,rfl,g.o,.inl (Below.refl _ _)⟩
        ·obtain rfl:v3=.pointer (some ⟨u,v+s*3+2,none⟩):=fT b d 3 rfl rfl;have y0:=fO (fH aC.o g.o) aL.o bC.o;refine fK rfl λr a=>?_;go_simp;exact a.o _ _ ⟨_,rfl,rfl,g.o,.inl (Below.refl _ _)⟩
        ·refine fK rfl λr a=>?_;go_simp;exact a.o _ _ ⟨_,rfl,rfl,g.o,.inl (Below.refl _ _)⟩
        ·obtain rfl:v4=.slice (some ⟨aP,bj,none⟩) U fa:=fT b d 4 rfl rfl;obtain rfl:v5=.int .i64 (j:Int):=fT b d 5 rfl rfl;refine fK rfl λr a=>?_;go_simp;exact a.o _ _ ⟨_,rfl,rfl,g.o,.inl (Below.refl _ _)⟩
        ·obtain rfl:v6=.pointer (some ⟨aP,bj+j,none⟩):=fT b d 6 rfl rfl;have y0:=fO (fH aC.o g.o) ej.o CX.o;refine fK rfl λr a=>?_;go_simp;exact a.o _ _ ⟨_,rfl,rfl,g.o,.inl (Below.refl _ _)⟩
        ·refine fK rfl λr a=>?_;go_simp;exact a.o _ _ ⟨_,rfl,rfl,g.o,.inl (Below.refl _ _)⟩
        ·refine fK rfl λr a=>?_;go_simp;exact a.o _ _ ⟨_,rfl,rfl,g.o,.inl (Below.refl _ _)⟩
        ·obtain rfl:v8=.slice (some ⟨B,C,none⟩) m T:=fT b d 8 rfl rfl;obtain rfl:v9=.int .i64 (s:Int):=fT b d 9 rfl rfl;refine fK rfl λr a=>?_;go_simp;exact a.o _ _ ⟨_,rfl,rfl,g.o,.inl (Below.refl _ _)⟩
        ·obtain rfl:bk=.pointer (some ⟨B,C+s*3,none⟩):=fT b d 10 rfl rfl;refine fK rfl λr a=>?_;go_simp;exact a.o _ _ ⟨_,rfl,rfl,g.o,.inl (Below.refl _ _)⟩
        ·obtain rfl:N=.pointer (some ⟨B,C+s*3+2,none⟩):=fT b d 11 rfl rfl;have y0:=fO (fH aC.o g.o) bv.o co.o;refine fK rfl λr a=>?_;go_simp;exact a.o _ _ ⟨_,rfl,rfl,g.o,.inl (Below.refl _ _)⟩
        ·refine fK rfl λr a=>?_;go_simp;exact a.o _ _ ⟨_,rfl,rfl,g.o,.inl (Below.refl _ _)⟩
        ·obtain rfl:bl=.slice (some ⟨bY,oy,none⟩) rb fb:=fT b d 12 rfl rfl;obtain rfl:bm=.int .i64 (j:Int):=fT b d 13 rfl rfl;refine fK rfl λr a=>?_;go_simp;exact a.o _ _ ⟨_,rfl,rfl,g.o,.inl (Below.refl _ _)⟩
        ·obtain rfl:bn=.pointer (some ⟨bY,oy+j,none⟩):=fT b d 14 rfl rfl;have y0:=fO (fH aC.o g.o) ek.o CY.o;refine fK rfl λr a=>?_;go_simp;exact a.o _ _ ⟨_,rfl,rfl,g.o,.inl (Below.refl _ _)⟩
        ·obtain rfl:v7=.slice XA xa ya:=fT b d 7 rfl rfl;obtain rfl:bo=.slice XB xb yb:=fT b d 15 rfl rfl;refine fK rfl λr a=>?_;go_simp;go_at_call 27;refine(uK _ _ _ _ _ _ _ _ _ (ec.o.below (fH aC.o g.o)) (ee.o.below (fH aC.o g.o))).mono ?_;rintro e w1 ⟨rfl,aR⟩;rw[zQ];have aJ:=Hm aR;clear aR;go_wp2_with fail;exact a.o _ _ ⟨_,rfl,rfl,fH g.o aJ.o,.inl aJ.o⟩
        ·obtain rfl:bp=.bool true:=fT b d 16 rfl rfl;refine fK rfl λr a=>?_;go_simp;exact a.o _ _ ⟨_,rfl,rfl,g.o,.inl (Below.refl _ _)⟩
       ·intro L vs V hL aA hG Y;obtain⟨v0,bX,rfl,ag⟩:=fJ aA;obtain⟨v1,bZ,rfl,ah⟩:=fJ ag;obtain⟨v2,ce,rfl,aq⟩:=fJ ah;obtain⟨v3,cf,rfl,ar⟩:=fJ aq;obtain⟨v4,cg,rfl,au⟩:=fJ ar;obtain⟨v5,ch,rfl,av⟩:=fJ au;obtain⟨v6,ci,rfl,aw⟩:=fJ av;obtain⟨v7,cj,rfl,ax⟩:=fJ aw;obtain⟨v8,cl,rfl,ay⟩:=fJ ax;obtain⟨v9,cm,rfl,az⟩:=fJ ay;obtain⟨bk,b3,rfl,ai⟩:=fJ az;obtain⟨N,b4,rfl,aj⟩:=fJ ai;obtain⟨bl,b5,rfl,ak⟩:=fJ aj;obtain⟨bm,b6,rfl,al⟩:=fJ ak;obtain⟨bn,b7,rfl,am⟩:=fJ al;obtain⟨bo,b8,rfl,an⟩:=fJ am;obtain⟨bp,b9,rfl,ao⟩:=fJ an;obtain⟨bq,cd,rfl,ap⟩:=fJ ao;obtain rfl:=jR ap;clear aA ag ah aq ar au av aw ax ay az ai aj ak al am an ao ap;have g:=Hm hG;have b:=Hm Y;have HL:=Hm hL;clear hG Y hL;obtain rfl:bq=.bool false:=b.o 17 (by show 17<18;omega) rfl;have aE:=Hm (fH aC.o g.o);clear g b HL;go_wp2;all_goals(try(exfalso;go_light;simp_all;done));go_roundw
        case rel=>exact⟨j+1,by omega,by go_num,aE.o⟩
        case measure=>simp[RowKit.intOf];omega
      ·have jn:¬(j:Int)<(U:Int):=by omega
       have aE:=Hm (fH bu.o aC.o);go_wp2;all_goals(try(exfalso;go_light;simp_all;done));go_roundw
       case rel=>exact⟨s+1,by omega,by go_num,aE.o⟩
       case measure=>simp[RowKit.intOf];omega
    ·have jn:¬(s:Int)<(m:Int):=by omega
     have aE:=Hm (fH cp.o bu.o);go_wp2;all_goals(try(exfalso;go_light;simp_all;done));go_roundw
     case rel=>exact⟨k+1,by omega,by go_num,aE.o⟩
     case measure=>simp[RowKit.intOf];omega
  ·have jn:¬(k:Int)<(m6:Int):=by omega
   go_wp2_with fail;refine(oQ _ (NW.o.below ae.o)).mono ?_;rintro e w9 ⟨rfl,es⟩;have aE:=Hm (fH (fH d1.o ae.o) es);go_wp2;go_ret;exact⟨rfl,aE.o⟩
end Go.Proofs.YtopjjlmfilgngaaGreatDoor
