/-
  Plain: the checks that chapter 29's laws make. No program is in sight. Plain law: a table of the world is a table: its counts are positive and small, its rows fit. check.Explain for unique checks. (Printed by gen_exp0.py.) Plain law: what the closed example of chapter 28 gives. No program is in sight. inspect.index, Concerned.
-/
import Derived.Test.YtopjjlmfilgngaaGreatDoorGay
import Derived.Test.YtopjjlmfilgngaaGreatDoorBlk
namespace Go.Proofs.YtopjjlmfilgngaaGreatDoor
set_option maxHeartbeats 4000000
set_option maxRecDepth 100000
set_option linter.unusedSimpArgs false
set_option linter.unusedVariables false
def nV:ByteArray:=⟨#[118]⟩
def N8:ByteArray:=⟨#[105,100]⟩
def tu:ByteArray:=⟨#[110,97,109,101]⟩
def lQ:List Col:=[PI false,Po true,⟨nV,2,true⟩]
theorem DN: ∀x∈lQ,x.good:=by
 intro x a;simp only[lQ,List.mem_cons,List.not_mem_nil,or_false]at a;rcases a with rfl|rfl|rfl<;>refine⟨OH ?_ ?_ ?_,?_,?_⟩<;>decide
theorem OC {cols:List Col}{xs:List Ent}(h: ∀x∈xs,Fu cols x)(r:List Val):0<=cnt xs r/\cnt xs r<=2*(xs.length:Int):=by
 induction xs with
 |nil=>simp[cnt]
 |cons x l b=>
  have c:=(h x (by simp)).2.2;have d:=b λy a=>h y (by simp[a]);rw[cnt,List.length_cons]
  split<;>omega
theorem uX.tab {cols:List Col}(k:cols.length<=12){zs:List Ent}(h:uX cols zs):(∀x∈zs,0<x.count/\x.count<=2000)/\iL cols zs=0:=by
 obtain⟨hb,n,_⟩:=h.bag k;obtain⟨xs,q,g,p,m⟩:=h;have f:=zB m;rw[zA λx a=>zT k (g x a)]at f;have i: ∀x∈zs,0<x.count/\x.count<=2000:=by
  intro x a;have r:x.count≠0:=((lX.1 hb).2.1 x a).2;rcases DF xs with e|⟨_,e⟩
  ·have c:=DD e x.row;rw[f]at c;have d:=(nK hb).mem a;have b:=OC g x.row;have c':cnt zs x.row=cnt xs x.row:=c;omega
  ·rw[f]at e;have l:zs=[]:=e;subst l;cases a
 refine⟨i,?_⟩;have o:jJ zs=true:=by
  rw[jJ,hb];simp only[BEq.rfl,Bool.true_and,List.all_eq_true,decide_eq_true_eq];exact λx a=>by have:=i x a;omega
 rw[iL,if_neg (by simp[hb]),o,if_neg (by simp)];exact ww.2 λj x a=>n x (List.mem_iff_getElem?.2 ⟨j,a⟩)
open Go.RowKit Go.Maps
attribute [local go_sem ↓] Go.wp_at_zero Go.wp_at_succ
structure Rsn where
 name:ByteArray
 values:List Val
 rows:List (List Val)
def jT:Rsn:=⟨⟨#[]⟩,[],[]⟩
def jh (cols:List Col)(names:List ByteArray)(rows:List Ent)(row a:List Val):List (List Val):=(rows.filter λy=>!oV y.row row&&oV (gB cols names y.row) a).map Ent.row
def uU (c:Chk)(a d:List Col)(b e:List Ent)(zs:List Zone)(row:List Val):Int×Rsn:=
 if gP c a d b e zs≠0 then(gP c a d b e zs,jT) else if cntF (jg c a d b e zs).2 row=0 then(13,jT)
 else(0,⟨c.name,gB a c.cols row,jh a c.cols b row (gB a c.cols row)⟩)
instance:One (List Val):=⟨by rintro w S cs a ⟨A,n,c,rfl,_⟩ u hu;simp at hu;subst hu;rfl⟩
theorem uE:Elem Tryz.prog 76 23 1 24:=mU (.slice none 0 0) Tryz.underlying76 (by kernel_rfl) rfl (by decide)
theorem OL.setBlk {α:Type}[Rep α]{e:TypeId}{B:Nat}{O:Nat->Prop}{T:List TypeId}{w:World}{v:Value}{xs:List α}(h:OL e B O T w v xs){t g:Nat}(c:iF w t g)(b:B<=g\/ ∀k,¬O k)(i:t≠e)(f:t∉T)(o:Nat)(u:Value):OL e B O T (w.setCell ⟨g,o,none⟩ u) v xs:=
 h.kept (λk a=>Below.heap_setCell _ _ _ k (λq=>by
  have q:k=g:=q;subst q;rcases a with (⟨ho,a⟩|⟨_,t',ht',a⟩)|a
  ·rcases b with b|b
   ·omega
   ·exact b _ ho
  ·exact iF.ne c a (λd=>f (d▸ht')) rfl
  ·exact iF.ne c (h.ty a).2 i rfl)) (by simp[World.setCell])
theorem wu (cols:List Col)(names:List ByteArray)(l:List Ent)(y:Ent)(row a:List Val):jh cols names (l++[y]) row a=jh cols names l row a++(if (!oV y.row row&&oV (gB cols names y.row) a)=true then [y.row] else []):=by
 rw[jh,jh,List.filter_append,List.map_append]
 congr 1
 by_cases h:(!oV y.row row&&oV (gB cols names y.row) a)=true
 ·rw[if_pos h];simp[h]
 ·rw[if_neg h];simp[h]
structure RsnAt (w:World) (g:Nat) (nm:ByteArray) (A:Option Addr) (n c:Nat) (v:Value):Prop where
 c0:w.cell? ⟨g,0,none⟩=some (.string nm)
 c1:w.cell? ⟨g,1,none⟩=some (.slice A n c)
 c2:w.cell? ⟨g,2,none⟩=some v
 fz:w.frozen? ⟨g,2,none⟩=false
 ty:iF w 78 g
theorem RsnAt.lt {w:World}{g:Nat}{nm:ByteArray}{A:Option Addr}{n c:Nat}{v:Value}(h:RsnAt w g nm A n c v):g<w.heap.size:=lt_of_cell h.c0
theorem RsnAt.below {w w':World}{g:Nat}{nm:ByteArray}{A:Option Addr}{n c:Nat}{v:Value}(h:RsnAt w g nm A n c v)(hb:Below w.heap.size w w'):RsnAt w' g nm A n c v:=
 ⟨fO hb h.lt h.c0,fO hb h.lt h.c1,fO hb h.lt h.c2,((fU hb).2 g 2 h.lt).trans h.fz,h.ty.below hb⟩
theorem RsnAt.grown {w w':World}{g:Nat}{nm:ByteArray}{A:Option Addr}{n c:Nat}{v:Value}(h:RsnAt w g nm A n c v){row:Option Nat}(d:w.grownBy w' row)(e:some g≠row):RsnAt w' g nm A n c v:=by
 have hb:=d.block g h.lt e;refine⟨(World.cell?_of_block (a:=⟨g,0,none⟩) hb).trans h.c0,(World.cell?_of_block (a:=⟨g,1,none⟩) hb).trans h.c1,(World.cell?_of_block (a:=⟨g,2,none⟩) hb).trans h.c2,?_,?_⟩
 ·obtain⟨c,b⟩:=h.ty;exact frozen_of_row w' g 2 c _ (hb.trans b)
 ·obtain⟨c,b⟩:=h.ty;exact⟨c,hb.trans b⟩
theorem RsnAt.set2 {w:World}{g:Nat}{nm:ByteArray}{A:Option Addr}{n c:Nat}{v:Value}(h:RsnAt w g nm A n c v)(u:Value):RsnAt (w.setCell ⟨g,2,none⟩ u) g nm A n c u:=
 ⟨fM h.c0 (.inr (by omega)),fM h.c1 (.inr (by omega)),iC h.c2,by rw[World.frozen?_setCell];exact h.fz,h.ty.set _ _ _⟩
section
variable (w:World)(x:Chk)(A:Option Addr)(n c:Nat)(g:In w A n c x.cols)(A':Option Addr)(n' c':Nat)(h:In w A' n' c' x.ocols)(A'':Option Addr)(n'' c'':Nat)(k:In w A'' n'' c'' x.cond)(hw:Words w)(C:ByteArray)(s:Option Addr)(r c1:Nat)(cols:List Col)(f:In w s r c1 cols)(u:Option Addr)(B z:Nat)(A3:Option Addr)(n3 c3:Nat)(rows:List Ent)(p:In w A3 n3 c3 rows)(on:ByteArray)(A2:Option Addr)(n2 c2:Nat)(a:List Col)(i:In w A2 n2 c2 a)(y:Option Addr)(nl cl:Nat)(t:Option Addr)(n4 c4:Nat)(d:List Ent)(j:In w t n4 c4 d)(D:Option Addr)(n5 F:Nat)(zs:List Zone)(q:In w D n5 F zs)(L:n<=4096)(M:n'<=4096)(N:r<=4096)(O:n2<=4096)(G:Option Addr)(K H:Nat)(row:List Val)(I:In w G K H row)
include w x A n c g A' n' c' h A'' n'' c'' k hw C s r c1 cols f u B z A3 n3 c3 rows p on A2 n2 c2 a i y nl cl t n4 c4 d j D n5 F zs q L M N O G K H row I
theorem Ec (E:Int)(hE:gP x cols a rows d zs=E)(aj:¬E=0):
  Calls Tryz.prog 53 #[.agg (fZ x A n c A' n' c' A'' n'' c'').toArray,.agg #[.string C,.slice s r c1,.slice u B z,.slice A3 n3 c3],.agg #[.string on,.slice A2 n2 c2,.slice y nl cl,.slice t n4 c4],.slice D n5 F,.slice G K H] w
   λe w'=>(∃v7 v8,e=.returned (.tuple #[.agg #[.string (uU x cols a rows d zs row).2.name,v7,v8],.int .i64 (uU x cols a rows d zs row).1])/\OL 36 w.heap.size (λ_=>False) [] w' v7 (uU x cols a rows d zs row).2.values/\OL 23 w.heap.size (λ_=>False) [36] w' v8 (uU x cols a rows d zs row).2.rows)/\Below w.heap.size w w':=by
 have V:=Hm λW g h k hw f p i j q=>nS W x A n c g A' n' c' h A'' n'' c'' k hw C s r c1 cols f u B z A3 n3 c3 rows p on A2 n2 c2 a i y nl cl t n4 c4 d j D n5 F zs q L M N O;have U:=Hm (show uU x cols a rows d zs row=if gP x cols a rows d zs≠0 then(gP x cols a rows d zs,jT) else if cntF (jg x cols a rows d zs).2 row=0 then(13,jT) else(0,⟨x.name,gB cols x.cols row,jh cols x.cols rows row (gB cols x.cols row)⟩) from rfl);have ac:=Hm (show(jg x cols a rows d zs).1=gP x cols a rows d zs from by rw[jg];split<;>simp_all);obtain⟨J,Z⟩: ∃J,uU x cols a rows d zs row=J:=⟨_,rfl⟩;obtain⟨VL,aa⟩: ∃l,(jg x cols a rows d zs).2=l:=⟨_,rfl⟩;rw[Z,aa]at U;rw[aa]at V;rw[Z];clear Z aa;rw[hE]at U ac;clear hE;simp only[fZ]at V⊢;go_enter Tryz.func53,Tryz.ntmps53;have HN:=Hm g;clear g;have aq:=Hm h;clear h;have HQ:=Hm k;clear k;have HW:=Hm hw;clear hw;have HC:=Hm f;clear f;have HO:=Hm i;clear i;have HZ:=Hm q;clear q;have HR:=Hm p;clear p;have ar:=Hm j;clear j;have av:=Hm I;clear I;go_wp2_with fail;obtain⟨W3,ak,ae,am,o1⟩:=jN w x A n c A' n' c' A'' n'' c'' C s r c1 u B z A3 n3 c3 on A2 n2 c2 y nl cl t n4 c4;rw[<-ak];clear ak;have ad:=Hm am;clear am;obtain⟨W4,R⟩: ∃W,W=W3.alloc (.cells #[.string ⟨#[]⟩,.slice none 0 0,.slice none 0 0] 78):=⟨_,rfl⟩;obtain⟨an,aw,S,z1,z2⟩:=vB (b:=w.heap.size+1+1+1) R (by rw[ae.o]);have X:Hl (iy W4 (w.heap.size+1+1+1) 78 3):=Hm (by rw[<-ae.o,R];exact iy.made _ _ _ _ rfl);rw[<-R];clear R;have Y:=Hm an;clear an;have L4:=lt_of_cell S;obtain⟨⟨LR,g0,g1,g2,g3,g4,g5,g6,g7,g8,g9,af,ag,ah,ai⟩,⟨L2,r0,r1,r2,r3⟩,L3,s0,s1,s2,s3⟩:=o1.o _ Y.o;go_wp2_with fail;have P:=Hm (fH ad.o Y.o);refine(V.o _ (HN.o.below P.o) (aq.o.below P.o) (HQ.o.below P.o) (HW.o.below P.o) (HC.o.below P.o) (HR.o.below P.o) (HO.o.below P.o) (ar.o.below P.o) (HZ.o.below P.o)).mono ?_;rintro e w4 ⟨⟨bv,rfl,ap⟩,al⟩;have o6:=rE (lq g0 g1 g2 g3 g4 g5 g6 g7 g8 g9 af ag ah ai) (rE (kJ r0 r1 r2 r3) (rE (kJ s0 s1 s2 s3) (Ir S z1 z2)));have Q:=Hm al;clear al;rw[ac.o];obtain⟨Ab,cb,rfl,ab⟩:=sG ap;obtain⟨mb,ao⟩: ∃m,VL.length=m:=⟨_,rfl⟩;rw[ao]at ab⊢;clear ap ao;have au:=Hm ab;clear ab;have q0:(E != 0)=true:=by simpa using aj
 have HJ:Hl (J=(E,jT)):=Hm (by rw[U.o,if_pos aj]);have y0:=(X.o.below Q.o).frozen 0;have y1:=(X.o.below Q.o).frozen 1;have y2:=(X.o.below Q.o).frozen 2;have T:=Hm (fH (fH ad.o Y.o) Q.o);obtain⟨⟨LR,g0,g1,g2,g3,g4,g5,g6,g7,g8,g9,af,ag,ah,ai⟩,⟨L2,r0,r1,r2,r3⟩,⟨L3,s0,s1,s2,s3⟩,L4,S,z1,z2⟩:=o6.o _ Q.o;go_wp2;all_goals(try(exfalso;go_light;simp_all;done));obtain rfl:=HJ.o;refine bodyPost_ret (v:=.tuple #[.agg #[.string ⟨#[]⟩,.slice none 0 0,.slice none 0 0],.int .i64 E]) (gJ (cs:=[.string ⟨#[]⟩,.slice none 0 0,.slice none 0 0]) rfl _ _ _ _ _ rfl rfl (iJ S z1 z2) Tryz.underlying78 rfl (by kernel_rfl)) rfl ⟨⟨_,_,rfl,OL.nil (((T.o.setCell (by simp;omega) _).setCell (by simp;omega) _).setCell (by simp;omega) _).size,OL.nil (((T.o.setCell (by simp;omega) _).setCell (by simp;omega) _).setCell (by simp;omega) _).size⟩,(((T.o.setCell (by simp;omega) _).setCell (by simp;omega) _).setCell (by simp;omega) _)⟩
theorem CG (hE:gP x cols a rows d zs=0)(T:cntF (jg x cols a rows d zs).2 row=0):
  Calls Tryz.prog 53 #[.agg (fZ x A n c A' n' c' A'' n'' c'').toArray,.agg #[.string C,.slice s r c1,.slice u B z,.slice A3 n3 c3],.agg #[.string on,.slice A2 n2 c2,.slice y nl cl,.slice t n4 c4],.slice D n5 F,.slice G K H] w
   λe w'=>(∃v7 v8,e=.returned (.tuple #[.agg #[.string (uU x cols a rows d zs row).2.name,v7,v8],.int .i64 (uU x cols a rows d zs row).1])/\OL 36 w.heap.size (λ_=>False) [] w' v7 (uU x cols a rows d zs row).2.values/\OL 23 w.heap.size (λ_=>False) [36] w' v8 (uU x cols a rows d zs row).2.rows)/\Below w.heap.size w w':=by
 have aa:=Hm λW g h k hw f p i j q=>nS W x A n c g A' n' c' h A'' n'' c'' k hw C s r c1 cols f u B z A3 n3 c3 rows p on A2 n2 c2 a i y nl cl t n4 c4 d j D n5 F zs q L M N O;have Z:=Hm (show uU x cols a rows d zs row=if gP x cols a rows d zs≠0 then(gP x cols a rows d zs,jT) else if cntF (jg x cols a rows d zs).2 row=0 then(13,jT) else(0,⟨x.name,gB cols x.cols row,jh cols x.cols rows row (gB cols x.cols row)⟩) from rfl);have aj:=Hm (show(jg x cols a rows d zs).1=gP x cols a rows d zs from by rw[jg];split<;>simp_all);obtain⟨J,hJ⟩: ∃J,uU x cols a rows d zs row=J:=⟨_,rfl⟩;obtain⟨VL,ah⟩: ∃l,(jg x cols a rows d zs).2=l:=⟨_,rfl⟩;rw[hJ,ah]at Z;rw[ah]at aa T;rw[hJ];clear hJ ah;rw[hE]at Z aj;clear hE;simp only[fZ]at aa⊢;go_enter Tryz.func53,Tryz.ntmps53;have HN:=Hm g;clear g;have az:=Hm h;clear h;have HQ:=Hm k;clear k;have HW:=Hm hw;clear hw;have HC:=Hm f;clear f;have HO:=Hm i;clear i;have HZ:=Hm q;clear q;have HR:=Hm p;clear p;have aA:=Hm j;clear j;have aB:=Hm I;clear I;go_wp2_with fail;obtain⟨W3,am,al,ap,o8⟩:=jN w x A n c A' n' c' A'' n'' c'' C s r c1 u B z A3 n3 c3 on A2 n2 c2 y nl cl t n4 c4;rw[<-am];clear am;have ac:=Hm ap;clear ap;obtain⟨W4,U⟩: ∃W,W=W3.alloc (.cells #[.string ⟨#[]⟩,.slice none 0 0,.slice none 0 0] 78):=⟨_,rfl⟩;obtain⟨aq,aC,P,V,X⟩:=vB (b:=w.heap.size+1+1+1) U (by rw[al.o]);have ab:Hl (iy W4 (w.heap.size+1+1+1) 78 3):=Hm (by rw[<-al.o,U];exact iy.made _ _ _ _ rfl);rw[<-U];clear U;have R:=Hm aq;clear aq;have L4:=lt_of_cell P;obtain⟨⟨LR,g0,g1,g2,g3,g4,g5,g6,g7,g8,g9,ad,ae,af,ag⟩,⟨L2,r0,r1,r2,r3⟩,L3,s0,s1,s2,s3⟩:=o8.o _ R.o;go_wp2_with fail;have E:=Hm (fH ac.o R.o);refine(aa.o _ (HN.o.below E.o) (az.o.below E.o) (HQ.o.below E.o) (HW.o.below E.o) (HC.o.below E.o) (HR.o.below E.o) (HO.o.below E.o) (aA.o.below E.o) (HZ.o.below E.o)).mono ?_;rintro e aD ⟨⟨bv,rfl,au⟩,an⟩;have av:=rE (lq g0 g1 g2 g3 g4 g5 g6 g7 g8 g9 ad ae af ag) (rE (kJ r0 r1 r2 r3) (rE (kJ s0 s1 s2 s3) (Ir P V X)));have S:=Hm an;clear an;rw[aj.o];obtain⟨Ab,cb,rfl,ai⟩:=sG au;obtain⟨mb,ar⟩: ∃m,VL.length=m:=⟨_,rfl⟩;rw[ar]at ai⊢;clear au ar;have ay:=Hm ai;clear ai;have ax:=Hm T;have HJ:Hl (J=(13,jT)):=Hm (by rw[Z.o,if_neg (by simp),if_pos T]);clear T;obtain⟨⟨LR,g0,g1,g2,g3,g4,g5,g6,g7,g8,g9,ad,ae,af,ag⟩,⟨L2,r0,r1,r2,r3⟩,⟨L3,s0,s1,s2,s3⟩,L4,P,V,X⟩:=av.o _ S.o;go_wp2_with fail;have aw:=Hm (fH (fH ac.o R.o) S.o);refine(Bu _ Ab mb cb VL ay.o G K H row (aB.o.below aw.o)).mono ?_;rintro e aE ⟨rfl,ao⟩;have ak:=Hm ao;clear ao;rw[ax.o];have Q:=Hm (fH S.o ak.o);have y0:=(ab.o.below Q.o).frozen 0;have y1:=(ab.o.below Q.o).frozen 1;have y2:=(ab.o.below Q.o).frozen 2;have Y:=Hm (fH (fH (fH ac.o R.o) S.o) ak.o);obtain⟨⟨LR,g0,g1,g2,g3,g4,g5,g6,g7,g8,g9,ad,ae,af,ag⟩,⟨L2,r0,r1,r2,r3⟩,⟨L3,s0,s1,s2,s3⟩,L4,P,V,X⟩:=av.o _ Q.o;go_wp2;all_goals(try(exfalso;go_light;simp_all;done));obtain rfl:=HJ.o;refine bodyPost_ret (v:=.tuple #[.agg #[.string ⟨#[]⟩,.slice none 0 0,.slice none 0 0],.int .i64 13]) (gJ (cs:=[.string ⟨#[]⟩,.slice none 0 0,.slice none 0 0]) rfl _ _ _ _ _ rfl rfl (iJ P V X) Tryz.underlying78 rfl (by kernel_rfl)) rfl ⟨⟨_,_,rfl,OL.nil (((Y.o.setCell (by simp;omega) _).setCell (by simp;omega) _).setCell (by simp;omega) _).size,OL.nil (((Y.o.setCell (by simp;omega) _).setCell (by simp;omega) _).setCell (by simp;omega) _).size⟩,(((Y.o.setCell (by simp;omega) _).setCell (by simp;omega) _).setCell (by simp;omega) _)⟩
end
def kA:ByteArray:=⟨#[97]⟩
def kB:ByteArray:=⟨#[98]⟩
def iV (n:Int):Val:=⟨2,n,⟨#[]⟩⟩
def CR:List Col:=[⟨kA,2,false⟩,⟨kB,2,false⟩]
theorem mX.len {P:Program}{t K e:TypeId}{w:World}{b n:Nat}{z:Value}{f:ByteArray->Value}(h:mX P K w b n z f)(j:P.underlying t=some (.map K e))(ty:TypeId):
  ∃L:Nat,(L=0-> ∀s,f s=z)/\ ∀V:World,V.heap[b]?=w.heap[b]?->(Builtin.len_ #[t] ty #[.map (some b)]).run P V=.ok (.int .i64 L) V:=by
 obtain⟨D,c,m,g⟩:=h;refine⟨Maps.size D,λa s=>?_,λV i=>?_⟩
 ·obtain⟨es,clock,_,_,_,rfl⟩:=c;have d:=g s;rw[Maps.size_eq]at a;rw[List.eq_nil_of_length_eq_zero a]at d;exact(DataW.held.inj d).symm
 ·obtain⟨es,clock,k,l⟩:=c;exact World.ownsMap.len (w:=V) ⟨es,clock,i.trans k,l⟩ j ty
end Go.Proofs.YtopjjlmfilgngaaGreatDoor
