/-
  warehouseref28.Explain for checks of every kind. (Printed by gen_exr.py.)
-/
import Derived.Test.YtopjjlmfilgngaaGreatDoorExq
import Derived.Test.YtopjjlmfilgngaaGreatDoorGbg
import Derived.Test.YtopjjlmfilgngaaGreatDoorGbh
namespace Go.Proofs.YtopjjlmfilgngaaGreatDoor
set_option maxHeartbeats 4000000
set_option maxRecDepth 100000
open Go.RowKit Go.Maps
set_option linter.unusedSimpArgs false
set_option linter.unusedVariables false
def nJ (c:Chk)(a d:List Col)(b e:List Ent)(zs:List Zone)(row:List Val):Int×Rsn:=
 if gP c a d b e zs≠0 then(gP c a d b e zs,jT) else if cntF (jg c a d b e zs).2 row=0 then(13,jT)
 else(0,⟨c.name,gB a (kR c) row,if c.kind=0 then jh a c.cols b row (gB a c.cols row) else []⟩)
section
variable (w:World)(x:Chk)(A:Option Addr)(n c:Nat)(g:In w A n c x.cols)(A':Option Addr)(n' c':Nat)(h:In w A' n' c' x.ocols)(A'':Option Addr)(n'' c'':Nat)(k:In w A'' n'' c'' x.cond)(hw:Words w)(C:ByteArray)(s:Option Addr)(r c1:Nat)(cols:List Col)(f:In w s r c1 cols)(u:Option Addr)(B z:Nat)(A3:Option Addr)(n3 c3:Nat)(rows:List Ent)(p:In w A3 n3 c3 rows)(on:ByteArray)(A2:Option Addr)(n2 c2:Nat)(a:List Col)(i:In w A2 n2 c2 a)(y:Option Addr)(nl cl:Nat)(t:Option Addr)(n4 c4:Nat)(d:List Ent)(j:In w t n4 c4 d)(D:Option Addr)(n5 F:Nat)(zs:List Zone)(q:In w D n5 F zs)(L:n<=4096)(M:n'<=4096)(N:r<=4096)(O:n2<=4096)(G:Option Addr)(K H:Nat)(row:List Val)(I:In w G K H row)
include w x A n c g A' n' c' h A'' n'' c'' k hw C s r c1 cols f u B z A3 n3 c3 rows p on A2 n2 c2 a i y nl cl t n4 c4 d j D n5 F zs q L M N O G K H row I
theorem IJ (E:Int)(hE:gP x cols a rows d zs=E)(aj:¬E=0):
  Calls Tryz.prog 55 #[.agg (fZ x A n c A' n' c' A'' n'' c'').toArray,.agg #[.string C,.slice s r c1,.slice u B z,.slice A3 n3 c3],.agg #[.string on,.slice A2 n2 c2,.slice y nl cl,.slice t n4 c4],.slice D n5 F,.slice G K H] w
   λe w'=>(∃v7 v8,e=.returned (.tuple #[.agg #[.string (nJ x cols a rows d zs row).2.name,v7,v8],.int .i64 (nJ x cols a rows d zs row).1])/\OL 36 w.heap.size (λ_=>False) [] w' v7 (nJ x cols a rows d zs row).2.values/\OL 23 w.heap.size (λ_=>False) [36] w' v8 (nJ x cols a rows d zs row).2.rows)/\Below w.heap.size w w':=by
 have V:=Hm λW g h k (hw:Words W) f p i j q=>oH W x A n c g A' n' c' h A'' n'' c'' k C s r c1 cols f u B z A3 n3 c3 rows p on A2 n2 c2 a i y nl cl t n4 c4 d j D n5 F zs q L M N O;have U:=Hm (show nJ x cols a rows d zs row=if gP x cols a rows d zs≠0 then(gP x cols a rows d zs,jT) else if cntF (jg x cols a rows d zs).2 row=0 then(13,jT) else(0,⟨x.name,gB cols (kR x) row,if x.kind=0 then jh cols x.cols rows row (gB cols x.cols row) else []⟩) from rfl);have ac:=Hm (show(jg x cols a rows d zs).1=gP x cols a rows d zs from by rw[jg];split<;>simp_all);obtain⟨J,Z⟩: ∃J,nJ x cols a rows d zs row=J:=⟨_,rfl⟩;obtain⟨VL,aa⟩: ∃l,(jg x cols a rows d zs).2=l:=⟨_,rfl⟩;rw[Z,aa]at U;rw[aa]at V;rw[Z];clear Z aa;rw[hE]at U ac;clear hE;simp only[fZ]at V⊢;go_enter Tryz.func55,Tryz.ntmps55;have HN:=Hm g;clear g;have aq:=Hm h;clear h;have HQ:=Hm k;clear k;have HW:=Hm hw;clear hw;have HC:=Hm f;clear f;have HO:=Hm i;clear i;have HZ:=Hm q;clear q;have HR:=Hm p;clear p;have ar:=Hm j;clear j;have av:=Hm I;clear I;go_wp2_with fail;obtain⟨W3,ak,ae,am,o1⟩:=jN w x A n c A' n' c' A'' n'' c'' C s r c1 u B z A3 n3 c3 on A2 n2 c2 y nl cl t n4 c4;rw[<-ak];clear ak;have ad:=Hm am;clear am;obtain⟨W4,R⟩: ∃W,W=W3.alloc (.cells #[.string ⟨#[]⟩,.slice none 0 0,.slice none 0 0] 78):=⟨_,rfl⟩;obtain⟨an,aw,S,z1,z2⟩:=vB (b:=w.heap.size+1+1+1) R (by rw[ae.o]);have X:Hl (iy W4 (w.heap.size+1+1+1) 78 3):=Hm (by rw[<-ae.o,R];exact iy.made _ _ _ _ rfl);rw[<-R];clear R;have Y:=Hm an;clear an;have L4:=lt_of_cell S;obtain⟨⟨LR,g0,g1,g2,g3,g4,g5,g6,g7,g8,g9,af,ag,ah,ai⟩,⟨L2,r0,r1,r2,r3⟩,L3,s0,s1,s2,s3⟩:=o1.o _ Y.o;go_wp2_with fail;have P:=Hm (fH ad.o Y.o);refine(V.o _ (HN.o.below P.o) (aq.o.below P.o) (HQ.o.below P.o) (HW.o.below P.o) (HC.o.below P.o) (HR.o.below P.o) (HO.o.below P.o) (ar.o.below P.o) (HZ.o.below P.o)).mono ?_;rintro e w4 ⟨⟨bv,rfl,ap⟩,al⟩;have o6:=rE (lq g0 g1 g2 g3 g4 g5 g6 g7 g8 g9 af ag ah ai) (rE (kJ r0 r1 r2 r3) (rE (kJ s0 s1 s2 s3) (Ir S z1 z2)));have Q:=Hm al;clear al;rw[ac.o];obtain⟨Ab,cb,rfl,ab⟩:=sG ap;obtain⟨mb,ao⟩: ∃m,VL.length=m:=⟨_,rfl⟩;rw[ao]at ab⊢;clear ap ao;have au:=Hm ab;clear ab;have q0:(E != 0)=true:=by simpa using aj
 have HJ:Hl (J=(E,jT)):=Hm (by rw[U.o,if_pos aj]);have y0:=(X.o.below Q.o).frozen 0;have y1:=(X.o.below Q.o).frozen 1;have y2:=(X.o.below Q.o).frozen 2;have T:=Hm (fH (fH ad.o Y.o) Q.o);obtain⟨⟨LR,g0,g1,g2,g3,g4,g5,g6,g7,g8,g9,af,ag,ah,ai⟩,⟨L2,r0,r1,r2,r3⟩,⟨L3,s0,s1,s2,s3⟩,L4,S,z1,z2⟩:=o6.o _ Q.o;go_wp2;all_goals(try(exfalso;go_light;simp_all;done));obtain rfl:=HJ.o;refine bodyPost_ret (v:=.tuple #[.agg #[.string ⟨#[]⟩,.slice none 0 0,.slice none 0 0],.int .i64 E]) (gJ (cs:=[.string ⟨#[]⟩,.slice none 0 0,.slice none 0 0]) rfl _ _ _ _ _ rfl rfl (iJ S z1 z2) Tryz.underlying78 rfl (by kernel_rfl)) rfl ⟨⟨_,_,rfl,OL.nil (((T.o.setCell (by simp;omega) _).setCell (by simp;omega) _).setCell (by simp;omega) _).size,OL.nil (((T.o.setCell (by simp;omega) _).setCell (by simp;omega) _).setCell (by simp;omega) _).size⟩,(((T.o.setCell (by simp;omega) _).setCell (by simp;omega) _).setCell (by simp;omega) _)⟩
theorem FN (hE:gP x cols a rows d zs=0)(T:cntF (jg x cols a rows d zs).2 row=0):
  Calls Tryz.prog 55 #[.agg (fZ x A n c A' n' c' A'' n'' c'').toArray,.agg #[.string C,.slice s r c1,.slice u B z,.slice A3 n3 c3],.agg #[.string on,.slice A2 n2 c2,.slice y nl cl,.slice t n4 c4],.slice D n5 F,.slice G K H] w
   λe w'=>(∃v7 v8,e=.returned (.tuple #[.agg #[.string (nJ x cols a rows d zs row).2.name,v7,v8],.int .i64 (nJ x cols a rows d zs row).1])/\OL 36 w.heap.size (λ_=>False) [] w' v7 (nJ x cols a rows d zs row).2.values/\OL 23 w.heap.size (λ_=>False) [36] w' v8 (nJ x cols a rows d zs row).2.rows)/\Below w.heap.size w w':=by
 have aa:=Hm λW g h k (hw:Words W) f p i j q=>oH W x A n c g A' n' c' h A'' n'' c'' k C s r c1 cols f u B z A3 n3 c3 rows p on A2 n2 c2 a i y nl cl t n4 c4 d j D n5 F zs q L M N O;have Z:=Hm (show nJ x cols a rows d zs row=if gP x cols a rows d zs≠0 then(gP x cols a rows d zs,jT) else if cntF (jg x cols a rows d zs).2 row=0 then(13,jT) else(0,⟨x.name,gB cols (kR x) row,if x.kind=0 then jh cols x.cols rows row (gB cols x.cols row) else []⟩) from rfl);have aj:=Hm (show(jg x cols a rows d zs).1=gP x cols a rows d zs from by rw[jg];split<;>simp_all);obtain⟨J,hJ⟩: ∃J,nJ x cols a rows d zs row=J:=⟨_,rfl⟩;obtain⟨VL,ah⟩: ∃l,(jg x cols a rows d zs).2=l:=⟨_,rfl⟩;rw[hJ,ah]at Z;rw[ah]at aa T;rw[hJ];clear hJ ah;rw[hE]at Z aj;clear hE;simp only[fZ]at aa⊢;go_enter Tryz.func55,Tryz.ntmps55;have HN:=Hm g;clear g;have az:=Hm h;clear h;have HQ:=Hm k;clear k;have HW:=Hm hw;clear hw;have HC:=Hm f;clear f;have HO:=Hm i;clear i;have HZ:=Hm q;clear q;have HR:=Hm p;clear p;have aA:=Hm j;clear j;have aB:=Hm I;clear I;go_wp2_with fail;obtain⟨W3,am,al,ap,o8⟩:=jN w x A n c A' n' c' A'' n'' c'' C s r c1 u B z A3 n3 c3 on A2 n2 c2 y nl cl t n4 c4;rw[<-am];clear am;have ac:=Hm ap;clear ap;obtain⟨W4,U⟩: ∃W,W=W3.alloc (.cells #[.string ⟨#[]⟩,.slice none 0 0,.slice none 0 0] 78):=⟨_,rfl⟩;obtain⟨aq,aC,P,V,X⟩:=vB (b:=w.heap.size+1+1+1) U (by rw[al.o]);have ab:Hl (iy W4 (w.heap.size+1+1+1) 78 3):=Hm (by rw[<-al.o,U];exact iy.made _ _ _ _ rfl);rw[<-U];clear U;have R:=Hm aq;clear aq;have L4:=lt_of_cell P;obtain⟨⟨LR,g0,g1,g2,g3,g4,g5,g6,g7,g8,g9,ad,ae,af,ag⟩,⟨L2,r0,r1,r2,r3⟩,L3,s0,s1,s2,s3⟩:=o8.o _ R.o;go_wp2_with fail;have E:=Hm (fH ac.o R.o);refine(aa.o _ (HN.o.below E.o) (az.o.below E.o) (HQ.o.below E.o) (HW.o.below E.o) (HC.o.below E.o) (HR.o.below E.o) (HO.o.below E.o) (aA.o.below E.o) (HZ.o.below E.o)).mono ?_;rintro e aD ⟨⟨bv,rfl,au⟩,an⟩;have av:=rE (lq g0 g1 g2 g3 g4 g5 g6 g7 g8 g9 ad ae af ag) (rE (kJ r0 r1 r2 r3) (rE (kJ s0 s1 s2 s3) (Ir P V X)));have S:=Hm an;clear an;rw[aj.o];obtain⟨Ab,cb,rfl,ai⟩:=sG au;obtain⟨mb,ar⟩: ∃m,VL.length=m:=⟨_,rfl⟩;rw[ar]at ai⊢;clear au ar;have ay:=Hm ai;clear ai;have ax:=Hm T;have HJ:Hl (J=(13,jT)):=Hm (by rw[Z.o,if_neg (by simp),if_pos T]);clear T;obtain⟨⟨LR,g0,g1,g2,g3,g4,g5,g6,g7,g8,g9,ad,ae,af,ag⟩,⟨L2,r0,r1,r2,r3⟩,⟨L3,s0,s1,s2,s3⟩,L4,P,V,X⟩:=av.o _ S.o;go_wp2_with fail;have aw:=Hm (fH (fH ac.o R.o) S.o);refine(Bv _ Ab mb cb VL ay.o G K H row (aB.o.below aw.o)).mono ?_;rintro e aE ⟨rfl,ao⟩;have ak:=Hm ao;clear ao;rw[ax.o];have Q:=Hm (fH S.o ak.o);have y0:=(ab.o.below Q.o).frozen 0;have y1:=(ab.o.below Q.o).frozen 1;have y2:=(ab.o.below Q.o).frozen 2;have Y:=Hm (fH (fH (fH ac.o R.o) S.o) ak.o);obtain⟨⟨LR,g0,g1,g2,g3,g4,g5,g6,g7,g8,g9,ad,ae,af,ag⟩,⟨L2,r0,r1,r2,r3⟩,⟨L3,s0,s1,s2,s3⟩,L4,P,V,X⟩:=av.o _ Q.o;go_wp2;all_goals(try(exfalso;go_light;simp_all;done));obtain rfl:=HJ.o;refine bodyPost_ret (v:=.tuple #[.agg #[.string ⟨#[]⟩,.slice none 0 0,.slice none 0 0],.int .i64 13]) (gJ (cs:=[.string ⟨#[]⟩,.slice none 0 0,.slice none 0 0]) rfl _ _ _ _ _ rfl rfl (iJ P V X) Tryz.underlying78 rfl (by kernel_rfl)) rfl ⟨⟨_,_,rfl,OL.nil (((Y.o.setCell (by simp;omega) _).setCell (by simp;omega) _).setCell (by simp;omega) _).size,OL.nil (((Y.o.setCell (by simp;omega) _).setCell (by simp;omega) _).setCell (by simp;omega) _).size⟩,(((Y.o.setCell (by simp;omega) _).setCell (by simp;omega) _).setCell (by simp;omega) _)⟩
end
theorem NJ {w:World}{g:Nat}{nm a:ByteArray}{A A' A'':Option Addr}{n c n' c' n'' c'':Nat}{v:Value}(h:jo w g 78 [.string a,.slice A n c,.slice A' n' c'])(i:v=.slice A'' n'' c''){B:Option Addr}{m k:Nat}:RsnAt (((w.setCell ⟨g,0,none⟩ (.string nm)).setCell ⟨g,1,none⟩ (.slice B m k)).setCell ⟨g,2,none⟩ v) g nm B m k v:=by
 obtain⟨f,b,d,e⟩:=h.ats3;exact⟨fM (fM (iC b) (.inr (by omega))) (.inr (by omega)),fM (iC (fM d (.inr (by omega)))) (.inr (by omega)),iC (fM (fM e (.inr (by omega))) (.inr (by omega))),by rw[World.frozen?_setCell,World.frozen?_setCell,World.frozen?_setCell];exact h.fz 2,(((h.ty).set _ _ _).set _ _ _).set _ _ _⟩
theorem O5 {w:World}{g B:Nat}{a:ByteArray}{A A':Option Addr}{n c n' c':Nat}(h:jo w g 78 [.string a,.slice A n c,.slice A' n' c']){v:Value}{xs:List Val}(b:OL 36 B (λ_=>False) [] w v xs){d e f:Value}:OL 36 B (λ_=>False) [] (((w.setCell ⟨g,0,none⟩ d).setCell ⟨g,1,none⟩ e).setCell ⟨g,2,none⟩ f) v xs:=
 (((b.setBlk h.ty (.inr λ_ h=>h) (by decide) (by simp) _ _).setBlk (h.ty.set _ _ _) (.inr λ_ h=>h) (by decide) (by simp) _ _).setBlk ((h.ty.set _ _ _).set _ _ _) (.inr λ_ h=>h) (by decide) (by simp) _ _)
def mK:Nat->List Nat
 | 1=>[0]
 | 3=>[2]
 | 5=>[4]
 | 7=>[3,5,6]
 | 8=>[1,7]
 | 10=>[9,8,7]
 | _=>[]
def zo:Nat->Nat
 | 10=>9
 |j=>j
def vP:Nat->List Nat
 | 5=>[10]
 | 7=>[10]
 | 8=>[10]
 | 9=>[10]
 | _=>[]
def Dw (c0 f n c o c1 p m n2 c2 n3 c3:Nat)(x:Chk)(kd:Int)(A j k h i:Option Addr)(l:List ByteArray)(e:List Val):Nat->Value->Value->World->Prop
 | 0,v,u,V=>v=.pointer (some ⟨c0,0,none⟩)
 | 1,v,u,V=>v=.string x.name
 | 2,v,u,V=>v=.pointer (some ⟨c0+1,1,none⟩)
 | 3,v,u,V=>v=.slice h o c1
 | 4,v,u,V=>v=.agg #[.string x.name,.string x.table,.int .i64 kd,.slice A n c,.string x.other,.slice j n2 c2,.int .i64 x.low,.int .i64 x.high,.slice k n3 c3,.int .i64 x.ln,.int .i64 x.ld,.int .i64 x.mn,.int .i64 x.md,.int .i64 x.policy]
 | 5,v,u,V=> ∃b a d,v=.slice b a d/\In V b a d l/\a<=4096
 | 6,v,u,V=>v=.slice i p m
 | 7,v,u,V=> ∃b a d,v=.slice b a d/\OL 36 f (λ_=>False) [] V (.slice b a d) e/\e.length=a
 | 8,v,u,V=> ∃b a d,v=.agg #[.string x.name,.slice b a d,.slice none 0 0]/\OL 36 f (λ_=>False) [] V (.slice b a d) e/\e.length=a
 | 9,v,u,V=> ∃g,v=.pointer (some ⟨g,0,none⟩)/\f<=g/\jo V g 78 [.string ⟨#[]⟩,.slice none 0 0,.slice none 0 0]
 | 10,v,u,V=> ∃g b a d,u=.pointer (some ⟨g,0,none⟩)/\f<=g/\RsnAt V g x.name b a d (.slice none 0 0)/\OL 36 f (λ_=>False) [] V (.slice b a d) e/\e.length=a
 | _,_,_,_=>True
theorem Jc: ∀j,zo j=j\/zo j∈mK j:=λj=>by
 match j with
 | 10=>exact .inr (by simp[zo,mK])
 |j=>first|exact .inl rfl|(unfold zo;split<;>first|exact .inl rfl|exact .inr (by simp[mK]))
theorem JR (c0 z n c w c1 y t n2 c2 n3 c3:Nat)(x:Chk)(kd:Int)(A o p l m:Option Addr)(r:List ByteArray)(s:List Val): ∀j v u V k,(λV k=>Below V.heap.size V k) V k->Dw c0 z n c w c1 y t n2 c2 n3 c3 x kd A o p l m r s j v u V->Dw c0 z n c w c1 y t n2 c2 n3 c3 x kd A o p l m r s j v u k:=λj v u V k h q=>by
 match j,q with
 | 0,q=>exact q
 | 1,q=>exact q
 | 2,q=>exact q
 | 3,q=>exact q
 | 4,q=>exact q
 | 5,q=>exact(by obtain⟨d,i,f,e,a,b⟩:=q;exact⟨d,i,f,e,a.below h,b⟩)
 | 6,q=>exact q
 | 7,q=>exact(by obtain⟨d,i,f,e,a,b⟩:=q;exact⟨d,i,f,e,a.below h,b⟩)
 | 8,q=>exact(by obtain⟨d,i,f,e,a,b⟩:=q;exact⟨d,i,f,e,a.below h,b⟩)
 | 9,q=>exact(by obtain⟨g,e,a,b⟩:=q;exact⟨g,e,a,b.below h⟩)
 | 10,q=>exact(by obtain⟨g,d,i,f,e,a,b,B,C⟩:=q;exact⟨g,d,i,f,e,a,b.below h,B.below h,C⟩)
 |(n+11),_=>exact trivial
theorem Ie (c0 t n c r c1 s p n2 c2 n3 c3:Nat)(x:Chk)(kd:Int)(A i k g h:Option Addr)(l:List ByteArray)(m:List Val): ∀j v u V o,j≠5->j≠7->j≠8->j≠9->j≠10->Dw c0 t n c r c1 s p n2 c2 n3 c3 x kd A i k g h l m j v u V->Dw c0 t n c r c1 s p n2 c2 n3 c3 x kd A i k g h l m j v u o:=λj v u V o b d e f a q=>by
 match j,q,b,d,e,f,a with
 | 0,q,b,d,e,f,a=>exact q
 | 1,q,b,d,e,f,a=>exact q
 | 2,q,b,d,e,f,a=>exact q
 | 3,q,b,d,e,f,a=>exact q
 | 4,q,b,d,e,f,a=>exact q
 | 5,q,b,d,e,f,a=>exact absurd rfl b
 | 6,q,b,d,e,f,a=>exact q
 | 7,q,b,d,e,f,a=>exact absurd rfl d
 | 8,q,b,d,e,f,a=>exact absurd rfl e
 | 9,q,b,d,e,f,a=>exact absurd rfl f
 | 10,q,b,d,e,f,a=>exact absurd rfl a
 |(n+11),_,_,_,_,_,_=>exact trivial
theorem uK (w:World)(A A2:Option Addr)(n n2 c c2:Nat)(xs a:List Val)(d:In w A n c xs)(f:In w A2 n2 c2 a):
  Calls Tryz.prog 27 #[.slice A n c,.slice A2 n2 c2] w λe w'=>e=.returned (.bool (oV xs a))/\Below w.heap.size w w':=
 (uo w A A2 n n2 c c2 xs a d f).mono (by
  rintro e g ⟨⟨r,rfl,b⟩,hb⟩;refine⟨?_,hb⟩
  congr 2
  rw[Bool.eq_iff_iff,b,pQ])
def Bw:Nat->List Nat
 | 1=>[0]
 | 3=>[2]
 | 5=>[4]
 | 7=>[5,6]
 | 8=>[7]
 | 9=>[8]
 | 10=>[1,3,9]
 | 12=>[11]
 | 13=>[10,12]
 | 14=>[13]
 | 15=>[14]
 | 16=>[14,15]
 | 17=>[14]
 | 18=>[14,16,17]
 | 19=>[14,18]
 | 20=>[14,19]
 | 21=>[14]
 | 22=>[14,20,21]
 | 23=>[14,22]
 | 24=>[14,23]
 | _=>[]
def C8:Nat->Nat
 |j=>j
def Oc:Nat->List Nat
 | _=>[]
def Ff (c0 n c x c1 y s b off n3 c3 k t w r f e:Nat)(A l o m g:Option Addr)(q:List Val)(a h p:Bool):Nat->Value->Value->World->Prop
 | 0,v,u,V=>v=.pointer (some ⟨c0+1,1,none⟩)
 | 1,v,u,V=>v=.slice l x c1
 | 2,v,u,V=>v=.pointer (some ⟨c0,3,none⟩)
 | 3,v,u,V=>v=.slice A n c
 | 4,v,u,V=>v=.pointer (some ⟨c0+1,3,none⟩)
 | 5,v,u,V=>v=.slice (some ⟨b,off,none⟩) n3 c3
 | 6,v,u,V=>v=.int .i64 (k:Int)
 | 7,v,u,V=>v=.pointer (some ⟨b,off+k*2,none⟩)
 | 8,v,u,V=>v=.pointer (some ⟨b,off+k*2,none⟩)
 | 9,v,u,V=>v=.slice g f e
 | 10,v,u,V=> ∃d j i,v=.slice d j i/\In V d j i q
 | 11,v,u,V=>v=.pointer (some ⟨t,1,none⟩)
 | 12,v,u,V=>v=.slice m w r
 | 13,v,u,V=>v=.bool a
 | 14,v,u,V=>v=.bool a
 | 15,v,u,V=>a=true->v=.pointer (some ⟨c0+1,3,none⟩)
 | 16,v,u,V=>a=true->v=.slice (some ⟨b,off,none⟩) n3 c3
 | 17,v,u,V=>a=true->v=.int .i64 (k:Int)
 | 18,v,u,V=>a=true->v=.pointer (some ⟨b,off+k*2,none⟩)
 | 19,v,u,V=>a=true->v=.pointer (some ⟨b,off+k*2,none⟩)
 | 20,v,u,V=>a=true->v=.slice g f e
 | 21,v,u,V=>a=true->v=.slice o y s
 | 22,v,u,V=>a=true->v=.bool h
 | 23,v,u,V=>a=true->v=.bool (!h)
 | 24,v,u,V=>v=.bool p
 | _,_,_,_=>True
theorem F3: ∀j,C8 j=j\/C8 j∈Bw j:=λj=>by
 exact .inl rfl
theorem Ib (c0 n c z c1 B w b off n3 c3 k x y t i g:Nat)(A d l f m:Option Addr)(s:List Val)(o p r:Bool): ∀j v u V a,(λV a=>Below V.heap.size V a) V a->Ff c0 n c z c1 B w b off n3 c3 k x y t i g A d l f m s o p r j v u V->Ff c0 n c z c1 B w b off n3 c3 k x y t i g A d l f m s o p r j v u a:=λj v u V a h q=>by
 match j,q with
 | 0,q=>exact q
 | 1,q=>exact q
 | 2,q=>exact q
 | 3,q=>exact q
 | 4,q=>exact q
 | 5,q=>exact q
 | 6,q=>exact q
 | 7,q=>exact q
 | 8,q=>exact q
 | 9,q=>exact q
 | 10,q=>exact(by obtain⟨C,F,D,e,E⟩:=q;exact⟨C,F,D,e,E.below h⟩)
 | 11,q=>exact q
 | 12,q=>exact q
 | 13,q=>exact q
 | 14,q=>exact q
 | 15,q=>exact q
 | 16,q=>exact q
 | 17,q=>exact q
 | 18,q=>exact q
 | 19,q=>exact q
 | 20,q=>exact q
 | 21,q=>exact q
 | 22,q=>exact q
 | 23,q=>exact q
 | 24,q=>exact q
 |(n+25),_=>exact trivial
theorem FI:Elem Tryz.prog 23 36 3 32:=mU _ Tryz.underlying23 nQ rfl (by decide)
theorem wL {c:Prop}[Decidable c]{p q:Prop}(a:c)(h:p):if c then p else q:=by rw[if_pos a];exact h
theorem G9 {w:World}{S b:Nat->Prop}: ∀{xs:List Val} {a:List Value},Cells w S a xs->Cells w b a xs
 | [],a,h=>h
 |x::xs,a,⟨c0,c1,e,h0,h1⟩=>⟨c0,c1,e,h0,G9 h1⟩
theorem Ma {V:World}{g e:Nat}{a:Value}(h:V.heap[g]?=some (.cells #[a] e (0,0))):Src V 1 (some ⟨g,0,none⟩) 1 [a]:=
 ⟨rfl,λ_=>⟨g,0,rfl,λj u b=>by
  rw[Nat.zero_add,cell_of_row V g j _ e (0,0) h];simpa using b⟩⟩
def kQ:Nat->List Nat
 | 1=>[0]
 | 3=>[2]
 | 5=>[3,4]
 | 6=>[5]
 | 7=>[6]
 | 8=>[7]
 | 9=>[8]
 | 10=>[1,9,8]
 | 11=>[0]
 | 12=>[11,10,1]
 | _=>[]
def C9:Nat->Nat
 |j=>j
def rR:Nat->List Nat
 | 8=>[10]
 | 9=>[10]
 | 10=>[12]
 | _=>[]
def yF (c0 f b off n3 c3 k i r p s q d n:Nat)(nm:ByteArray)(l m o:Option Addr)(h:List Val)(j:List (List Val))(t:List Val):Nat->Value->Value->World->Prop
 | 0,v,u,V=>v=.pointer (some ⟨i,2,none⟩)
 | 1,v,u,V=>v=.slice m s q
 | 2,v,u,V=>v=.pointer (some ⟨c0+1,3,none⟩)
 | 3,v,u,V=>v=.slice (some ⟨b,off,none⟩) n3 c3
 | 4,v,u,V=>v=.int .i64 (k:Int)
 | 5,v,u,V=>v=.pointer (some ⟨b,off+k*2,none⟩)
 | 6,v,u,V=>v=.pointer (some ⟨b,off+k*2,none⟩)
 | 7,v,u,V=>v=.slice o d n
 | 8,v,u,V=> ∃a c,v=.slice a d c/\OL 36 f (λ_=>False) [] V (.slice a d c) h
 | 9,v,u,V=> ∃g a c,v=.slice (some ⟨g,0,none⟩) 1 1/\V.heap[g]?=some (.cells #[.slice a d c] 23 (0,0))/\OL 36 f (λ_=>False) [] V (.slice a d c) h
 | 10,v,u,V=> ∃a e c,v=.slice a e c/\OL (α:=List Val) 23 f (λ_=>False) [36] V (.slice a e c) (j++[h])
 | 11,v,u,V=>v=.pointer (some ⟨i,2,none⟩)
 | 12,v,u,V=> ∃a e c,RsnAt V i nm l r p (.slice a e c)/\OL (α:=List Val) 23 f (λ_=>False) [36] V (.slice a e c) (j++[h])
 | _,_,_,_=>True
theorem F4: ∀j,C9 j=j\/C9 j∈kQ j:=λj=>by
 exact .inl rfl
theorem Ic (c0 B b off n3 c3 k y z w A x r p:Nat)(nm:ByteArray)(m o s:Option Addr)(C:List Val)(D:List (List Val))(t:List Val): ∀j v u V f,(λV f=>Below V.heap.size V f) V f->yF c0 B b off n3 c3 k y z w A x r p nm m o s C D t j v u V->yF c0 B b off n3 c3 k y z w A x r p nm m o s C D t j v u f:=λj v u V f h q=>by
 match j,q with
 | 0,q=>exact q
 | 1,q=>exact q
 | 2,q=>exact q
 | 3,q=>exact q
 | 4,q=>exact q
 | 5,q=>exact q
 | 6,q=>exact q
 | 7,q=>exact q
 | 8,q=>exact(by obtain⟨c,d,e,a⟩:=q;exact⟨c,d,e,a.below h⟩)
 | 9,q=>exact(by obtain⟨g,c,d,e,a,i⟩:=q;exact⟨g,c,d,e,(h.block g (Array.getElem?_eq_some_iff.1 a).1).trans a,i.below h⟩)
 | 10,q=>exact(by obtain⟨c,l,d,e,a⟩:=q;exact⟨c,l,d,e,a.below h⟩)
 | 11,q=>exact q
 | 12,q=>exact(by obtain⟨c,l,d,a,i⟩:=q;exact⟨c,l,d,a.below h,i.below h⟩)
 |(n+13),_=>exact trivial
theorem yG (c0 x b off n3 c3 k s t p w r i h:Nat)(nm:ByteArray)(f g l:Option Addr)(y:List Val)(z:List (List Val))(m:List Val): ∀j v u V o,j≠8->j≠9->j≠10->j≠12->yF c0 x b off n3 c3 k s t p w r i h nm f g l y z m j v u V->yF c0 x b off n3 c3 k s t p w r i h nm f g l y z m j v u o:=λj v u V o d e a c q=>by
 match j,q,d,e,a,c with
 | 0,q,d,e,a,c=>exact q
 | 1,q,d,e,a,c=>exact q
 | 2,q,d,e,a,c=>exact q
 | 3,q,d,e,a,c=>exact q
 | 4,q,d,e,a,c=>exact q
 | 5,q,d,e,a,c=>exact q
 | 6,q,d,e,a,c=>exact q
 | 7,q,d,e,a,c=>exact q
 | 8,q,d,e,a,c=>exact absurd rfl d
 | 9,q,d,e,a,c=>exact absurd rfl e
 | 10,q,d,e,a,c=>exact absurd rfl a
 | 11,q,d,e,a,c=>exact q
 | 12,q,d,e,a,c=>exact absurd rfl c
 |(n+13),_,_,_,_,_=>exact trivial
theorem IK (w:World)(x:Chk)(A:Option Addr)(n c:Nat)(hn:In w A n c x.cols)(A':Option Addr)(n' c':Nat)(bG:In w A' n' c' x.ocols)(A'':Option Addr)(n'' c'':Nat)(hq:In w A'' n'' c'' x.cond)(hw:Words w)(rn:ByteArray)(A1:Option Addr)(n1 c1:Nat)(cols:List Col)(hc:In w A1 n1 c1 cols)(Ak:Option Addr)(nk ck:Nat)(A3:Option Addr)(n3 c3:Nat)(rows:List Ent)(hr:In w A3 n3 c3 rows)(on:ByteArray)(A2:Option Addr)(n2 c2:Nat)(aq:List Col)(ho:In w A2 n2 c2 aq)(Al:Option Addr)(nl cl:Nat)(A4:Option Addr)(n4 c4:Nat)(ar:List Ent)(bI:In w A4 n4 c4 ar)(A5:Option Addr)(n5 c5:Nat)(zs:List Zone)(hz:In w A5 n5 c5 zs)(cj:n<=4096)(al:n'<=4096)(eh:n1<=4096)(ei:n2<=4096)(Ar:Option Addr)(nr cr:Nat)(row:List Val)(dB:In w Ar nr cr row)(hE:gP x cols aq rows ar zs=0)(hC:¬cntF (jg x cols aq rows ar zs).2 row=0)(ej:n''<=4096)(h5:¬x.kind=5):
  Calls Tryz.prog 55 #[.agg (fZ x A n c A' n' c' A'' n'' c'').toArray,.agg #[.string rn,.slice A1 n1 c1,.slice Ak nk ck,.slice A3 n3 c3],.agg #[.string on,.slice A2 n2 c2,.slice Al nl cl,.slice A4 n4 c4],.slice A5 n5 c5,.slice Ar nr cr] w
   λe w'=>(∃v7 v8,e=.returned (.tuple #[.agg #[.string (nJ x cols aq rows ar zs row).2.name,v7,v8],.int .i64 (nJ x cols aq rows ar zs row).1])/\OL 36 w.heap.size (λ_=>False) [] w' v7 (nJ x cols aq rows ar zs row).2.values/\OL 23 w.heap.size (λ_=>False) [36] w' v8 (nJ x cols aq rows ar zs row).2.rows)/\Below w.heap.size w w':=by
 have b3:=Hm λW hn bG hq hc hr ho bI hz=>oH W x A n c hn A' n' c' bG A'' n'' c'' hq rn A1 n1 c1 cols hc Ak nk ck A3 n3 c3 rows hr on A2 n2 c2 aq ho Al nl cl A4 n4 c4 ar bI A5 n5 c5 zs hz cj al eh ei;have d8:=Hm (show(jg x cols aq rows ar zs).1=0 from by rw[jg];split<;>simp_all);obtain⟨_,dk,_⟩:=jX hE;obtain⟨dt,dE,dC⟩:=gW dk;have d4:=Hm (jm dt dE);have d5:=Hm dC;have HJ:Hl (nJ x cols aq rows ar zs row=(0,⟨x.name,gB cols (kR x) row,if x.kind=0 then jh cols x.cols rows row (gB cols x.cols row) else []⟩)):=Hm (by rw[nJ,if_neg (by rw[hE];simp),if_neg hC]);have bW:Hl (x.kind=0->kR x=x.cols):=Hm (λh=>by rw[kR,if_neg (by rw[h];decide)]);obtain⟨J,hJ⟩: ∃J,nJ x cols aq rows ar zs row=J:=⟨_,rfl⟩;obtain⟨VL,dl⟩: ∃l,(jg x cols aq rows ar zs).2=l:=⟨_,rfl⟩;obtain⟨NM,cc⟩: ∃l,kR x=l:=⟨_,rfl⟩;obtain⟨I,cd⟩: ∃p,gB cols NM row=p:=⟨_,rfl⟩;have bU:=Hm λW h1 f=>Jf W x A n c h1 A' n' c' A'' n'' c'' f cj ej h5;rw[hJ,cc,cd]at HJ;rw[cc]at bW bU;rw[dl]at b3 hC;rw[hJ];have db:=Hm cd;clear hJ dl hE dk dt dE dC cc cd h5;obtain⟨kd,bF⟩: ∃q,x.kind=q:=⟨_,rfl⟩;simp only[fZ,bF]at b3 bU⊢;rw[bF]at HJ bW;have eA:=Hm bF;clear bF;go_enter Tryz.func55,Tryz.ntmps55;have HN:=Hm hn;clear hn;have dY:=Hm bG;clear bG;have HQ:=Hm hq;clear hq;have HC:=Hm hc;clear hc;have HO:=Hm ho;clear ho;have HZ:=Hm hz;clear hz;have HR:=Hm hr;clear hr;have d1:=Hm bI;clear bI;have dd:=Hm dB;clear dB;go_wp2_with fail;obtain⟨W1,cf⟩: ∃W,W=w.alloc (.cells #[.string x.name,.string x.table,.int .i64 kd,.slice A n c,.string x.other,.slice A' n' c',.int .i64 x.low,.int .i64 x.high,.slice A'' n'' c'',.int .i64 x.ln,.int .i64 x.ld,.int .i64 x.mn,.int .i64 x.md,.int .i64 x.policy] 48):=⟨_,rfl⟩;obtain⟨dp,bC,g0,g1,g2,g3,g4,g5,g6,g7,g8,g9,aR,aS,aT,aU⟩:=iE cf rfl;rw[<-cf];clear cf;have bB:=Hm dp;clear dp;have LR:=lt_of_cell g0;obtain⟨W2,cg⟩: ∃W,W=W1.alloc (.cells #[.string rn,.slice A1 n1 c1,.slice Ak nk ck,.slice A3 n3 c3] 29):=⟨_,rfl⟩;obtain⟨dq,b9,r0,r1,r2,r3⟩:=jV (b:=w.heap.size+1) cg (by rw[bC.o]);rw[<-cg];clear cg;have ek:=lq g0 g1 g2 g3 g4 g5 g6 g7 g8 g9 aR aS aT aU;have a3:=Hm dq;clear dq;have L2:=lt_of_cell r0;obtain⟨W3,ch⟩: ∃W,W=W2.alloc (.cells #[.string on,.slice A2 n2 c2,.slice Al nl cl,.slice A4 n4 c4] 29):=⟨_,rfl⟩;obtain⟨dr,di,s0,s1,s2,s3⟩:=jV (b:=w.heap.size+1+1) ch (by rw[b9.o,bC.o]);rw[<-ch];clear ch;have el:=kJ r0 r1 r2 r3;have aQ:=Hm dr;clear dr;have L3:=lt_of_cell s0;obtain⟨W4,bD⟩: ∃W,W=W3.alloc (.cells #[.string ⟨#[]⟩,.slice none 0 0,.slice none 0 0] 78):=⟨_,rfl⟩;obtain⟨ds,eB,z0,z1,z2⟩:=vB (b:=w.heap.size+1+1+1) bD (by rw[di.o,b9.o,bC.o]);have ec:Hl (iy W4 (w.heap.size+1+1+1) 78 3):=Hm (by rw[<-bC.o,<-b9.o,<-di.o,bD];exact iy.made _ _ _ _ rfl);rw[<-bD];clear bD;have em:=kJ s0 s1 s2 s3;have aK:=Hm ds;clear ds;have L4:=lt_of_cell z0;have dL:=Hm (fH (fH a3.o aQ.o) aK.o);obtain⟨LR,g0,g1,g2,g3,g4,g5,g6,g7,g8,g9,aR,aS,aT,aU⟩:=ek.o _ dL.o;have dM:=Hm (fH aQ.o aK.o);obtain⟨L2,r0,r1,r2,r3⟩:=el.o _ dM.o;obtain⟨L3,s0,s1,s2,s3⟩:=em.o _ aK.o;go_wp2_with fail;have aB:=Hm (fH (fH (fH bB.o a3.o) aQ.o) aK.o);refine(b3.o _ (HN.o.below aB.o) (dY.o.below aB.o) (HQ.o.below aB.o) (HC.o.below aB.o) (HR.o.below aB.o) (HO.o.below aB.o) (d1.o.below aB.o) (HZ.o.below aB.o)).mono ?_;rintro e eH ⟨⟨bv,rfl,a6⟩,dm⟩;have dH:=rE (lq g0 g1 g2 g3 g4 g5 g6 g7 g8 g9 aR aS aT aU) (rE (kJ r0 r1 r2 r3) (rE (kJ s0 s1 s2 s3) (Ir z0 z1 z2)));have a4:=Hm dm;clear dm;rw[d8.o];obtain⟨Ab,cb,rfl,cq⟩:=sG a6;obtain⟨mb,dx⟩: ∃m,VL.length=m:=⟨_,rfl⟩;rw[dx]at cq⊢;clear a6 dx;have dW:=Hm cq;clear cq;obtain⟨CT,ca⟩: ∃q,cntF VL row=q:=⟨_,rfl⟩;rw[ca]at hC;have dS:=Hm hC;have dU:=Hm ca;clear hC;obtain⟨⟨LR,g0,g1,g2,g3,g4,g5,g6,g7,g8,g9,aR,aS,aT,aU⟩,⟨L2,r0,r1,r2,r3⟩,⟨L3,s0,s1,s2,s3⟩,L4,z0,z1,z2⟩:=dH.o _ a4.o;go_wp2_with fail;have dN:=Hm (fH (fH (fH (fH bB.o a3.o) aQ.o) aK.o) a4.o);refine(Bv _ Ab mb cb VL dW.o Ar nr cr row (dd.o.below dN.o)).mono ?_;rintro e ez ⟨rfl,dn⟩;have b8:=Hm dn;clear dn;rw[dU.o];clear ca;have q1:(CT==0)=false:=by simpa using dS.o
 obtain⟨E,rfl⟩: ∃W,W=ez:=⟨_,rfl⟩;have aP:=Hm (fH (fH (fH (fH (fH bB.o a3.o) aQ.o) aK.o) a4.o) b8.o);have cF:=Hm (fH a4.o b8.o);obtain⟨⟨LR,g0,g1,g2,g3,g4,g5,g6,g7,g8,g9,aR,aS,aT,aU⟩,⟨L2,r0,r1,r2,r3⟩,⟨L3,s0,s1,s2,s3⟩,L4,z0,z1,z2⟩:=dH.o _ cF.o;have bO:=Hm g0;have cJ:=Hm g1;have bP:=Hm g2;have bQ:=Hm g3;have cP:=Hm g4;have cQ:=Hm g5;have cR:=Hm g6;have cS:=Hm g7;have cT:=Hm g8;have cU:=Hm g9;have cK:=Hm aR;have cL:=Hm aS;have cM:=Hm aT;have cO:=Hm aU;have bZ:=Hm r1;have a1:=Hm r3;have S:=Hm LR;have aI:=Hm L2;have az:=Hm L4;have Z0:=Hm z0;have Z1:=Hm z1;have Z2:=Hm z2;have bS:=Hm (ec.o.below cF.o);have aW:=Hm (fH (fH (fH (fH (fH bB.o a3.o) aQ.o) aK.o) a4.o) b8.o);have cX:=Hm (HN.o.below aW.o);have bN:=Hm (HC.o.below aW.o);have d3:=Hm (HQ.o.below aW.o);have b1:=Hm (HR.o.below aW.o);have de:=Hm (dd.o.below aW.o);have dX:=Hm λW (hb:Below E.heap.size E W)=>bU.o W (cX.o.below hb) (d3.o.below hb);have cZ:=Hm λW (hb:Below E.heap.size E W) AN nN cN (hi:In W AN nN cN NM) (hl:nN<=4096)=>kH W A1 n1 c1 cols (bN.o.below hb) AN nN cN NM hi Ar nr cr row (de.o.below hb) (by omega) hl;rw[db.o]at cZ;obtain⟨c0,co⟩: ∃c,c=w.heap.size:=⟨_,rfl⟩;have bM:=Hm co;go_upto_region 6 with (fail);rw[<-co]at S aI az bZ a1 Z0 Z1 Z2 bS bO cJ bP bQ cP cQ cR cS cT cU cK cL cM cO;clear co;simp only[<-bM.o];go_cut [14] from 16 to 91 (λp wx=> ∃(X:Nat) (Q:Option Addr) (P U:Nat),p=.pointer (some ⟨X,0,none⟩)/\E.heap.size<=X/\RsnAt wx X x.name Q P U (.slice none 0 0)/\OL 36 E.heap.size (λ_=>False) [] wx (.slice Q P U) I/\I.length=P/\Below E.heap.size E wx)
 case first=>
  refine iW (by kernel_rfl) mK (by kernel_rfl) (λV V'=>Below V.heap.size V V') (λvs=>⟨#[.agg #[.string x.name,.string x.table,.int .i64 kd,.slice A n c,.string x.other,.slice A' n' c',.int .i64 x.low,.int .i64 x.high,.slice A'' n'' c'',.int .i64 x.ln,.int .i64 x.ld,.int .i64 x.mn,.int .i64 x.md,.int .i64 x.policy],.agg #[.string rn,.slice A1 n1 c1,.slice Ak nk ck,.slice A3 n3 c3],.agg #[.string on,.slice A2 n2 c2,.slice Al nl cl,.slice A4 n4 c4],.slice A5 n5 c5,.slice Ar nr cr,.pointer (some ⟨c0,0,none⟩),.pointer (some ⟨c0+1,0,none⟩),.pointer (some ⟨c0+1+1,0,none⟩),undef,undef,.pointer (some ⟨c0+1+1+1,0,none⟩),.int .i64 0,.slice Ab mb cb,.int .i64 0,(vs.getD 9 (.bool false)),undef,.tuple #[.slice Ab mb cb,.int .i64 0],.agg #[.string x.name,.string x.table,.int .i64 kd,.slice A n c,.string x.other,.slice A' n' c',.int .i64 x.low,.int .i64 x.high,.slice A'' n'' c'',.int .i64 x.ln,.int .i64 x.ld,.int .i64 x.mn,.int .i64 x.md,.int .i64 x.policy],.agg #[.string rn,.slice A1 n1 c1,.slice Ak nk ck,.slice A3 n3 c3],.agg #[.string on,.slice A2 n2 c2,.slice Al nl cl,.slice A4 n4 c4],.slice A5 n5 c5,.tuple #[.slice Ab mb cb,.int .i64 0],.slice Ab mb cb,.int .i64 0,.int .i64 0,.bool false,undef,undef,.slice Ab mb cb,.slice Ar nr cr,.int .i64 CT,.bool false,undef,(vs.getD 0 (.bool false)),(vs.getD 1 (.bool false)),(vs.getD 2 (.bool false)),(vs.getD 3 (.bool false)),(vs.getD 4 (.bool false)),(vs.getD 5 (.bool false)),(vs.getD 6 (.bool false)),(vs.getD 7 (.bool false)),(vs.getD 8 (.bool false)),undef,undef,undef,undef,undef,undef,undef,undef,undef,undef,undef,undef,undef,undef,undef,undef,undef,undef,undef,undef,undef,undef,undef,undef,undef,undef,undef,undef,undef,undef,undef,undef,undef,undef,undef,undef,undef,undef,undef,undef,undef,undef,undef,undef,undef,undef,undef,undef,undef,undef],[]⟩) 11 (by decide) (λL V=>Below E.heap.size E V/\(L 10=true->L 7=true/\L 8=true)) zo vP (Dw c0 E.heap.size n c n1 c1 nr cr n' c' n'' c'' x kd A A' A'' A1 Ar NM I) (λ_ _=>True) Jc (JR c0 E.heap.size n c n1 c1 nr cr n' c' n'' c'' x kd A A' A'' A1 Ar NM I) [_,_,_,_,_,_,_,_,_,_,.bool false] rfl rfl (λ_=>trivial) (⟨(Below.refl _ _).drew,λh=>by cases h⟩) ?_ ?_
  ·intro L i vs V hi ak K hd Z Y aD;obtain⟨v0,bj,rfl,aa⟩:=fJ ak;obtain⟨v1,bk,rfl,ab⟩:=fJ aa;obtain⟨v2,bm,rfl,ad⟩:=fJ ab;obtain⟨v3,bn,rfl,ae⟩:=fJ ad;obtain⟨v4,bo,rfl,af⟩:=fJ ae;obtain⟨v5,bp,rfl,ag⟩:=fJ af;obtain⟨v6,bq,rfl,ah⟩:=fJ ag;obtain⟨v7,br,rfl,ai⟩:=fJ ah;obtain⟨v8,bs,rfl,aj⟩:=fJ ai;obtain⟨v9,bt,rfl,H⟩:=fJ aj;obtain⟨aM,bl,rfl,ac⟩:=fJ H;obtain rfl:=jR ac;clear ak aa ab ad ae af ag ah ai aj H ac;have hi:i<11:=hi;have a:=Hm Z;have s:=Hm Y;have r:=Hm hd;have ap:=Hm K;have cV:=Hm aD;clear Z Y hd K aD;obtain rfl|rfl|rfl|rfl|rfl|rfl|rfl|rfl|rfl|rfl|rfl:i=0\/i=1\/i=2\/i=3\/i=4\/i=5\/i=6\/i=7\/i=8\/i=9\/i=10:=by omega
   ·refine fK rfl λz d=>?_;go_simp;exact d.o _ _ ⟨_,rfl,rfl,⟨a.o.1,λh=>by have f:=a.o.2 (by simpa using h);simp[f]⟩,.inl (Below.refl _ _)⟩
   ·obtain rfl:=fT s r 0 rfl rfl;have y0:=fO a.o.1 S.o bO.o;refine fK rfl λz d=>?_;go_simp;exact d.o _ _ ⟨_,rfl,rfl,⟨a.o.1,λh=>by have f:=a.o.2 (by simpa using h);simp[f]⟩,.inl (Below.refl _ _)⟩
   ·refine fK rfl λz d=>?_;go_simp;exact d.o _ _ ⟨_,rfl,rfl,⟨a.o.1,λh=>by have f:=a.o.2 (by simpa using h);simp[f]⟩,.inl (Below.refl _ _)⟩
   ·obtain rfl:=fT s r 2 rfl rfl;have y0:=fO a.o.1 aI.o bZ.o;refine fK rfl λz d=>?_;go_simp;exact d.o _ _ ⟨_,rfl,rfl,⟨a.o.1,λh=>by have f:=a.o.2 (by simpa using h);simp[f]⟩,.inl (Below.refl _ _)⟩
   ·have z0:=fO a.o.1 S.o bO.o;have z1:=fO a.o.1 S.o cJ.o;have z2:=fO a.o.1 S.o bP.o;have z3:=fO a.o.1 S.o bQ.o;have z4:=fO a.o.1 S.o cP.o;have z5:=fO a.o.1 S.o cQ.o;have z6:=fO a.o.1 S.o cR.o;have z7:=fO a.o.1 S.o cS.o;have z8:=fO a.o.1 S.o cT.o;have z9:=fO a.o.1 S.o cU.o;have eI:=fO a.o.1 S.o cK.o;have eJ:=fO a.o.1 S.o cL.o;have eK:=fO a.o.1 S.o cM.o;have eL:=fO a.o.1 S.o cO.o;refine fK rfl λz d=>?_;go_simp;exact d.o _ _ ⟨_,rfl,rfl,⟨a.o.1,λh=>by have f:=a.o.2 (by simpa using h);simp[f]⟩,.inl (Below.refl _ _)⟩
   ·obtain rfl:=fT s r 4 rfl rfl;refine fK rfl λz d=>?_;go_simp;go_at_call 80;refine(dX.o _ a.o.1).mono ?_;rintro e w1 ⟨⟨C,F,D,rfl,hi,hl⟩,al⟩;have HI:=Hm hi;have bT:=Hm hl;have an:=Hm al;clear hi hl al;go_wp2_with fail;exact d.o _ _ ⟨_,rfl,⟨_,_,_,rfl,HI.o,bT.o⟩,⟨fH a.o.1 an.o,λh=>by have f:=a.o.2 (by simpa using h);simp[f]⟩,.inl an.o⟩
   ·refine fK rfl λz d=>?_;go_simp;exact d.o _ _ ⟨_,rfl,rfl,⟨a.o.1,λh=>by have f:=a.o.2 (by simpa using h);simp[f]⟩,.inl (Below.refl _ _)⟩
   ·have dy:L 10=false:=Bool.eq_false_iff.2 λhl=>by have f:=(a.o.2 hl).1;rw[ap.o]at f;cases f
    obtain rfl:=fT s r 3 rfl rfl;obtain⟨C,F,D,rfl,hi,hl⟩: ∃C F D,v5=.slice C F D/\In V C F D NM/\F<=4096:=(s.o 5 (r.o 5 (by simp[mK]))).2 (λu h=>by simp only[vP,List.mem_cons,List.not_mem_nil,or_false]at h;subst h;assumption);obtain rfl:=fT s r 6 rfl rfl;have HI:=Hm hi;have bT:=Hm hl;clear hi hl;refine fK rfl λz d=>?_;go_simp;go_at_call 68;refine(cZ.o _ a.o.1 C F D HI.o bT.o).mono ?_;rintro e w1 ⟨⟨A8,m8,c8,rfl,av,au,_⟩,al⟩;have a0:=Hm (av.rebase a.o.1.size);have aZ:=Hm au;have an:=Hm al;clear av au al;go_wp2_with fail;exact d.o _ _ ⟨_,rfl,⟨_,_,_,rfl,a0.o,aZ.o⟩,⟨fH a.o.1 an.o,λh=>by have f:=a.o.2 (by simpa using h);simp[f]⟩,.inl an.o⟩
   ·have dy:L 10=false:=Bool.eq_false_iff.2 λhl=>by have f:=(a.o.2 hl).2;rw[ap.o]at f;cases f
    obtain rfl:=fT s r 1 rfl rfl;obtain⟨C,F,D,rfl,av,au⟩: ∃C F D,v7=.slice C F D/\OL 36 E.heap.size (λ_=>False) [] V (.slice C F D) I/\I.length=F:=(s.o 7 (r.o 7 (by simp[mK]))).2 (λu h=>by simp only[vP,List.mem_cons,List.not_mem_nil,or_false]at h;subst h;assumption);have a0:=Hm av;have aZ:=Hm au;clear av au;refine fK rfl λz d=>?_;go_simp;exact d.o _ _ ⟨_,rfl,⟨_,_,_,rfl,a0.o,aZ.o⟩,⟨a.o.1,λh=>by have f:=a.o.2 (by simpa using h);simp[f]⟩,.inl (Below.refl _ _)⟩
   ·refine fK rfl λz d=>?_;go_simp;exact d.o _ _ ⟨_,rfl,⟨_,rfl,a.o.1.size,jo.made _ _ _⟩,⟨fH a.o.1 fI,λh=>by have f:=a.o.2 (by simpa using h);simp[f]⟩,.inl fI⟩
   ·obtain⟨g,rfl,hg,hb⟩: ∃g,v9=.pointer (some ⟨g,0,none⟩)/\E.heap.size<=g/\jo V g 78 [.string ⟨#[]⟩,.slice none 0 0,.slice none 0 0]:=(s.o 9 (r.o 9 (by simp[mK]))).2 (λu h=>by simp only[vP,List.mem_cons,List.not_mem_nil,or_false]at h;subst h;exact ap.o);obtain⟨C,F,D,rfl,av,au⟩: ∃C F D,v8=.agg #[.string x.name,.slice C F D,.slice none 0 0]/\OL 36 E.heap.size (λ_=>False) [] V (.slice C F D) I/\I.length=F:=(s.o 8 (r.o 8 (by simp[mK]))).2 (λu h=>by simp only[vP,List.mem_cons,List.not_mem_nil,or_false]at h;subst h;exact ap.o);have a0:=Hm av;have aZ:=Hm au;have cG:=Hm hb;obtain⟨dv,k0,k1,k2⟩:=hb.ats3;have f0:=hb.fz 0;have f1:=hb.fz 1;have f2:=hb.fz 2;have bw:=Hm hg;clear hb hg av au;refine fK rfl λz d=>?_;go_simp;exact d.o _ _ ⟨.bool false,rfl,⟨g,C,F,D,rfl,bw.o,NJ cG.o rfl,O5 cG.o a0.o,aZ.o⟩,⟨kN (kN (kN a.o.1 bw.o _ _) bw.o _ _) bw.o _ _,λ_=>⟨by have f:=r.o 7 (by simp[mK]);simp[f],by have f:=r.o 8 (by simp[mK]);simp[f]⟩⟩,.inr (λj hj K hu q=>Ie _ _ _ _ _ _ _ _ _ _ _ _ _ _ _ _ _ _ _ _ _ j _ _ _ _ (λe=>by subst e;exact(hu 10 (by simp[vP])).1 rfl) (λe=>by subst e;exact(hu 10 (by simp[vP])).1 rfl) (λe=>by subst e;exact(hu 10 (by simp[vP])).1 rfl) (λe=>by subst e;exact(hu 10 (by simp[vP])).1 rfl) hj q)⟩
  ·intro L vs V K ak Z Y;obtain⟨v0,bj,rfl,aa⟩:=fJ ak;obtain⟨v1,bk,rfl,ab⟩:=fJ aa;obtain⟨v2,bm,rfl,ad⟩:=fJ ab;obtain⟨v3,bn,rfl,ae⟩:=fJ ad;obtain⟨v4,bo,rfl,af⟩:=fJ ae;obtain⟨v5,bp,rfl,ag⟩:=fJ af;obtain⟨v6,bq,rfl,ah⟩:=fJ ag;obtain⟨v7,br,rfl,ai⟩:=fJ ah;obtain⟨v8,bs,rfl,aj⟩:=fJ ai;obtain⟨v9,bt,rfl,H⟩:=fJ aj;obtain⟨aM,bl,rfl,ac⟩:=fJ H;obtain rfl:=jR ac;clear ak aa ab ad ae af ag ah ai aj H ac;have a:=Hm Z;have s:=Hm Y;have HL:=Hm K;clear Z Y K;obtain⟨X,Q,P,U,rfl,aE,aG,aF,a5⟩: ∃g C F D,v9=.pointer (some ⟨g,0,none⟩)/\E.heap.size<=g/\RsnAt V g x.name C F D (.slice none 0 0)/\OL 36 E.heap.size (λ_=>False) [] V (.slice C F D) I/\I.length=F:=s.o 10 (by show 10<11;omega) rfl;have aY:=Hm aE;have bA:=Hm aG;have bx:=Hm aF;have bV:=Hm a5;have aX:=Hm a.o.1;clear aE aG aF a5;go_wp2_with fail;go_meet
   case rel=>exact⟨X,Q,P,U,rfl,aY.o,bA.o,bx.o,bV.o,aX.o⟩
 obtain⟨X,Q,P,U,rfl,aE,aG,aF,a5,hb⟩:=hcut;obtain⟨V6,rfl⟩: ∃W,W=wc:=⟨_,rfl⟩;have aY:=Hm aE;have bA:=Hm aG;have bx:=Hm aF;have bV:=Hm a5;have aX:=Hm hb;clear aE aG aF a5 hb;have cW:=Hm b1.o.len;have eC:=b1.o.le;have eE:n3<=4096:=by rw[<-cW.o];exact d4.o.1
 have aO:Hl (OL (α:=List Val) 23 E.heap.size (λ_=>False) [36] V6 (.slice none 0 0) []):=Hm (OL.nil aX.o.size);go_wp2;go_loopw [15] (λi wr=> ∃(k:Nat) (A8:Option Addr) (m8 c8:Nat) (M:List (List Val)),k<=n3/\i=.int .i64 k/\(¬kd=0->M=[])/\(kd=0->M=jh cols x.cols (rows.take k) row I)/\M.length<=k/\RsnAt wr X x.name Q P U (.slice A8 m8 c8)/\OL (α:=List Val) 23 E.heap.size (λ_=>False) [36] wr (.slice A8 m8 c8) M/\OL 36 E.heap.size (λ_=>False) [] wr (.slice Q P U) I/\Below E.heap.size E wr) (λi _=>n3-(RowKit.intOf i).toNat)
 case atStart=>exact⟨0,none,0,0,[],Nat.zero_le _,rfl,λ_=>rfl,λ_=>by simp[jh],by simp,bA.o,aO.o,bx.o,aX.o⟩
 case round=>
  obtain⟨k,A8,m8,c8,M,hk,rfl,dG,dF,eF,aG,a6,aF,hb⟩:=hrel;have eb:=Hm dG;have dh:=Hm dF;have aA:=Hm aG;have bX:=Hm a6;have bz:=Hm aF;have G:=Hm hb;clear dG dF aG a6 aF hb bA aO bx aX;have yk:=fO G.o S.o bP.o;have yr:=fO G.o aI.o a1.o;by_cases h0:kd=0
  ·subst h0;by_cases dv:k<n3
   ·obtain⟨b,off,y,rfl,dj,HX,Ax,R,Ac,f0,f1,e2,e3⟩:=b1.o.ent dv;have b5:=Hm dj;have b4:=Hm f0;have a2:=Hm e2;have k0:(0:Int)<=(k:Int):=by omega
    have k1:(k:Int)<(n3:Int):=by omega
    have b2:=Hm (wu cols x.cols (rows.take k) y row I);rw[<-ic HX.o,<-dh.o rfl]at b2;have eD:R<=1048576:=by have h1:=oD (d5.o y (gH HX.o));have f:=e2.len;have h3:=bN.o.len;omega
    obtain⟨PY,ce⟩: ∃q,gB cols x.cols y.row=q:=⟨_,rfl⟩;obtain⟨ao,cm⟩: ∃q,oV PY I=q:=⟨_,rfl⟩;obtain⟨aN,cn⟩: ∃q,oV y.row row=q:=⟨_,rfl⟩;obtain⟨aH,cp⟩: ∃q,(ao&&!aN)=q:=⟨_,rfl⟩;have da:=Hm λW (hb:Below wr.heap.size wr W)=>kH W A1 n1 c1 cols (bN.o.below (fH G.o hb)) A n c x.cols (cX.o.below (fH G.o hb)) Ax R Ac y.row (a2.o.below (fH G.o hb)) (by omega) cj;have dg:Hl (jh cols x.cols (rows.take (k+1)) row I=M++(if aH=true then [y.row] else [])):=Hm (by rw[b2.o,ce,cm,cn,Bool.and_comm,cp]);rw[ce]at da;have dQ:=Hm cm;have dR:=Hm cn;have cI:=Hm cp;have d2:=Hm (jB bz.o bV.o);have b6:=Hm e2.len;have dZ:Hl (Ax=none->R=0):=Hm (λh=>by have h1:=a2.o.2.2.2.1 h;have f:=a2.o.2.1;omega);have dO:Hl (([]:List Val).length+R<=maxLen):=Hm (by simp only[maxLen,List.length_nil];omega);have dP:Hl ((([]:List Val).length+R)*32<=140737488355328):=Hm (by simp only[List.length_nil];omega);have d9:Hl (M.length+1<=maxLen):=Hm (by simp only[maxLen];omega);have ea:Hl ((M.length+1)*24<=140737488355328):=Hm (by omega);clear ce cm cn cp b2 e2 e3 f0 f1 dj;go_upto_region 10 with (fail);refine iW (by kernel_rfl) Bw (by kernel_rfl) (λV V'=>Below V.heap.size V V') (λvs=>⟨#[.agg #[.string x.name,.string x.table,.int .i64 0,.slice A n c,.string x.other,.slice A' n' c',.int .i64 x.low,.int .i64 x.high,.slice A'' n'' c'',.int .i64 x.ln,.int .i64 x.ld,.int .i64 x.mn,.int .i64 x.md,.int .i64 x.policy],.agg #[.string rn,.slice A1 n1 c1,.slice Ak nk ck,.slice (some ⟨b,off,none⟩) n3 c3],.agg #[.string on,.slice A2 n2 c2,.slice Al nl cl,.slice A4 n4 c4],.slice A5 n5 c5,.slice Ar nr cr,.pointer (some ⟨c0,0,none⟩),.pointer (some ⟨c0+1,0,none⟩),.pointer (some ⟨c0+1+1,0,none⟩),undef,undef,.pointer (some ⟨c0+1+1+1,0,none⟩),.int .i64 0,.slice Ab mb cb,.int .i64 0,.pointer (some ⟨X,0,none⟩),.int .i64 ↑k,u16,u17,u18,u19,u20,u21,u22,u23,u24,u25,u26,u27,u28,u29,u30,u31,u32,u33,u34,u35,u36,u37,u38,u39,u40,u41,.int .i64 ↑k,.pointer (some ⟨c0+1,3,none⟩),.slice (some ⟨b,off,none⟩) n3 c3,.int .i64 ↑n3,.bool true,.bool true,.pointer (some ⟨c0,2,none⟩),.int .i64 0,.bool true,.bool true,u52,u53,(vs.getD 0 (.bool false)),(vs.getD 1 (.bool false)),(vs.getD 2 (.bool false)),(vs.getD 3 (.bool false)),(vs.getD 4 (.bool false)),(vs.getD 5 (.bool false)),(vs.getD 6 (.bool false)),(vs.getD 7 (.bool false)),(vs.getD 8 (.bool false)),(vs.getD 9 (.bool false)),(vs.getD 10 (.bool false)),(vs.getD 11 (.bool false)),(vs.getD 12 (.bool false)),(vs.getD 13 (.bool false)),(vs.getD 14 (.bool false)),(vs.getD 15 (.bool false)),(vs.getD 16 (.bool false)),(vs.getD 17 (.bool false)),(vs.getD 18 (.bool false)),(vs.getD 19 (.bool false)),(vs.getD 20 (.bool false)),(vs.getD 21 (.bool false)),(vs.getD 22 (.bool false)),(vs.getD 23 (.bool false)),(vs.getD 24 (.bool false)),u79,u80,u81,u82,u83,u84,u85,u86,u87,u88,u89,u90,u91],[]⟩) 25 (by decide) (λL V=>Below wr.heap.size wr V) C8 Oc (Ff c0 n c n1 c1 nr cr b off n3 c3 k X P U R Ac A A1 Ar Q Ax PY ao aN aH) (λ_ _=>True) F3 (Ib c0 n c n1 c1 nr cr b off n3 c3 k X P U R Ac A A1 Ar Q Ax PY ao aN aH) [_,_,_,_,_,_,_,_,_,_,_,_,_,_,_,_,_,_,_,_,_,_,_,_,_] rfl rfl (λ_=>trivial) ((Below.refl _ _).drew) ?_ ?_
    ·intro L i vs V hi ak K hd Z Y aD;obtain⟨v0,bj,rfl,aa⟩:=fJ ak;obtain⟨v1,bk,rfl,ab⟩:=fJ aa;obtain⟨v2,bm,rfl,ad⟩:=fJ ab;obtain⟨v3,bn,rfl,ae⟩:=fJ ad;obtain⟨v4,bo,rfl,af⟩:=fJ ae;obtain⟨v5,bp,rfl,ag⟩:=fJ af;obtain⟨v6,bq,rfl,ah⟩:=fJ ag;obtain⟨v7,br,rfl,ai⟩:=fJ ah;obtain⟨v8,bs,rfl,aj⟩:=fJ ai;obtain⟨v9,bt,rfl,H⟩:=fJ aj;obtain⟨aM,bl,rfl,ac⟩:=fJ H;obtain⟨bJ,cD,rfl,aw⟩:=fJ ac;obtain⟨bK,cE,rfl,ax⟩:=fJ aw;obtain⟨dI,en,rfl,a7⟩:=fJ ax;obtain⟨dJ,eo,rfl,a8⟩:=fJ a7;obtain⟨cu,ep,rfl,a9⟩:=fJ a8;obtain⟨cv,eq,rfl,ba⟩:=fJ a9;obtain⟨cw,er,rfl,bb⟩:=fJ ba;obtain⟨cx,es,rfl,bc⟩:=fJ bb;obtain⟨cy,et,rfl,bd⟩:=fJ bc;obtain⟨cz,eu,rfl,be⟩:=fJ bd;obtain⟨cA,ev,rfl,bf⟩:=fJ be;obtain⟨cB,ew,rfl,bg⟩:=fJ bf;obtain⟨cC,ex,rfl,bh⟩:=fJ bg;obtain⟨dK,ey,rfl,bi⟩:=fJ bh;obtain rfl:=jR bi;clear ak aa ab ad ae af ag ah ai aj H ac aw ax a7 a8 a9 ba bb bc bd be bf bg bh bi;have hi:i<25:=hi;have a:=Hm Z;have s:=Hm Y;have r:=Hm hd;have ap:=Hm K;have cV:=Hm aD;clear Z Y hd K aD;obtain rfl|rfl|rfl|rfl|rfl|rfl|rfl|rfl|rfl|rfl|rfl|rfl|rfl|rfl|rfl|rfl|rfl|rfl|rfl|rfl|rfl|rfl|rfl|rfl|rfl:i=0\/i=1\/i=2\/i=3\/i=4\/i=5\/i=6\/i=7\/i=8\/i=9\/i=10\/i=11\/i=12\/i=13\/i=14\/i=15\/i=16\/i=17\/i=18\/i=19\/i=20\/i=21\/i=22\/i=23\/i=24:=by omega
     ·refine fK rfl λz d=>?_;go_simp;exact d.o _ _ ⟨_,rfl,rfl,a.o,.inl (Below.refl _ _)⟩
     ·obtain rfl:=fT s r 0 rfl rfl;have y0:=fO (fH G.o a.o) aI.o bZ.o;refine fK rfl λz d=>?_;go_simp;exact d.o _ _ ⟨_,rfl,rfl,a.o,.inl (Below.refl _ _)⟩
     ·refine fK rfl λz d=>?_;go_simp;exact d.o _ _ ⟨_,rfl,rfl,a.o,.inl (Below.refl _ _)⟩
     ·obtain rfl:=fT s r 2 rfl rfl;have y0:=fO (fH G.o a.o) S.o bQ.o;refine fK rfl λz d=>?_;go_simp;exact d.o _ _ ⟨_,rfl,rfl,a.o,.inl (Below.refl _ _)⟩
     ·refine fK rfl λz d=>?_;go_simp;exact d.o _ _ ⟨_,rfl,rfl,a.o,.inl (Below.refl _ _)⟩
     ·obtain rfl:=fT s r 4 rfl rfl;have y0:=fO (fH G.o a.o) aI.o a1.o;refine fK rfl λz d=>?_;go_simp;exact d.o _ _ ⟨_,rfl,rfl,a.o,.inl (Below.refl _ _)⟩
     ·refine fK rfl λz d=>?_;go_simp;exact d.o _ _ ⟨_,rfl,rfl,a.o,.inl (Below.refl _ _)⟩
     ·obtain rfl:=fT s r 5 rfl rfl;obtain rfl:=fT s r 6 rfl rfl;refine fK rfl λz d=>?_;go_simp;exact d.o _ _ ⟨_,rfl,rfl,a.o,.inl (Below.refl _ _)⟩
     ·obtain rfl:=fT s r 7 rfl rfl;refine fK rfl λz d=>?_;go_simp;exact d.o _ _ ⟨_,rfl,rfl,a.o,.inl (Below.refl _ _)⟩
     ·obtain rfl:=fT s r 8 rfl rfl;have y0:=fO (fH G.o a.o) b5.o b4.o;refine fK rfl λz d=>?_;go_simp;exact d.o _ _ ⟨_,rfl,rfl,a.o,.inl (Below.refl _ _)⟩
     ·obtain rfl:=fT s r 1 rfl rfl;obtain rfl:=fT s r 3 rfl rfl;obtain rfl:=fT s r 9 rfl rfl;refine fK rfl λz d=>?_;go_simp;go_at_call 68;refine(da.o _ a.o).mono ?_;rintro e w1 ⟨⟨A8,m8,c8,rfl,av,au,_⟩,al⟩;have HI:=Hm (jB av au);have an:=Hm al;clear av au al;go_wp2_with fail;exact d.o _ _ ⟨_,rfl,⟨_,_,_,rfl,HI.o⟩,fH a.o an.o,.inl an.o⟩
     ·refine fK rfl λz d=>?_;go_simp;exact d.o _ _ ⟨_,rfl,rfl,a.o,.inl (Below.refl _ _)⟩
     ·obtain rfl:=fT s r 11 rfl rfl;have y0:=fO a.o aA.o.lt aA.o.c1;refine fK rfl λz d=>?_;go_simp;exact d.o _ _ ⟨_,rfl,rfl,a.o,.inl (Below.refl _ _)⟩
     ·obtain⟨C,F,D,rfl,hi⟩:=fT s r 10 rfl rfl;obtain rfl:=fT s r 12 rfl rfl;have HI:=Hm hi;clear hi;refine fK rfl λz d=>?_;go_simp;go_at_call 27;refine(uK _ _ _ _ _ _ _ _ _ HI.o (d2.o.below a.o)).mono ?_;rintro e w1 ⟨rfl,al⟩;rw[dQ.o];have an:=Hm al;clear al;go_wp2_with fail;exact d.o _ _ ⟨_,rfl,rfl,fH a.o an.o,.inl an.o⟩
     ·obtain rfl:=fT s r 13 rfl rfl;refine fK rfl λz d=>?_;go_simp;exact d.o _ _ ⟨_,rfl,rfl,a.o,.inl (Below.refl _ _)⟩
     ·cases ao
      ·obtain rfl:=fT s r 14 rfl rfl;refine fK rfl λz d=>?_;go_simp;exact d.o _ _ ⟨_,rfl,(λh=>by cases h),a.o,.inl (Below.refl _ _)⟩
      ·obtain rfl:=fT s r 14 rfl rfl;refine fK rfl λz d=>?_;go_simp;exact d.o _ _ ⟨_,rfl,(λ_=>rfl),a.o,.inl (Below.refl _ _)⟩
     ·cases ao
      ·obtain rfl:=fT s r 14 rfl rfl;refine fK rfl λz d=>?_;go_simp;exact d.o _ _ ⟨_,rfl,(λh=>by cases h),a.o,.inl (Below.refl _ _)⟩
      ·obtain rfl:=fT s r 14 rfl rfl;obtain rfl:cu=.pointer (some ⟨c0+1,3,none⟩):=fT s r 15 rfl rfl rfl;have y0:=fO (fH G.o a.o) aI.o a1.o;refine fK rfl λz d=>?_;go_simp;exact d.o _ _ ⟨_,rfl,(λ_=>rfl),a.o,.inl (Below.refl _ _)⟩
     ·cases ao
      ·obtain rfl:=fT s r 14 rfl rfl;refine fK rfl λz d=>?_;go_simp;exact d.o _ _ ⟨_,rfl,(λh=>by cases h),a.o,.inl (Below.refl _ _)⟩
      ·obtain rfl:=fT s r 14 rfl rfl;refine fK rfl λz d=>?_;go_simp;exact d.o _ _ ⟨_,rfl,(λ_=>rfl),a.o,.inl (Below.refl _ _)⟩
     ·cases ao
      ·obtain rfl:=fT s r 14 rfl rfl;refine fK rfl λz d=>?_;go_simp;exact d.o _ _ ⟨_,rfl,(λh=>by cases h),a.o,.inl (Below.refl _ _)⟩
      ·obtain rfl:=fT s r 14 rfl rfl;obtain rfl:cv=.slice (some ⟨b,off,none⟩) n3 c3:=fT s r 16 rfl rfl rfl;obtain rfl:cw=.int .i64 (k:Int):=fT s r 17 rfl rfl rfl;refine fK rfl λz d=>?_;go_simp;exact d.o _ _ ⟨_,rfl,(λ_=>rfl),a.o,.inl (Below.refl _ _)⟩
     ·cases ao
      ·obtain rfl:=fT s r 14 rfl rfl;refine fK rfl λz d=>?_;go_simp;exact d.o _ _ ⟨_,rfl,(λh=>by cases h),a.o,.inl (Below.refl _ _)⟩
      ·obtain rfl:=fT s r 14 rfl rfl;obtain rfl:cx=.pointer (some ⟨b,off+k*2,none⟩):=fT s r 18 rfl rfl rfl;refine fK rfl λz d=>?_;go_simp;exact d.o _ _ ⟨_,rfl,(λ_=>rfl),a.o,.inl (Below.refl _ _)⟩
     ·cases ao
      ·obtain rfl:=fT s r 14 rfl rfl;refine fK rfl λz d=>?_;go_simp;exact d.o _ _ ⟨_,rfl,(λh=>by cases h),a.o,.inl (Below.refl _ _)⟩
      ·obtain rfl:=fT s r 14 rfl rfl;obtain rfl:cy=.pointer (some ⟨b,off+k*2,none⟩):=fT s r 19 rfl rfl rfl;have y0:=fO (fH G.o a.o) b5.o b4.o;refine fK rfl λz d=>?_;go_simp;exact d.o _ _ ⟨_,rfl,(λ_=>rfl),a.o,.inl (Below.refl _ _)⟩
     ·cases ao
      ·obtain rfl:=fT s r 14 rfl rfl;refine fK rfl λz d=>?_;go_simp;exact d.o _ _ ⟨_,rfl,(λh=>by cases h),a.o,.inl (Below.refl _ _)⟩
      ·obtain rfl:=fT s r 14 rfl rfl;refine fK rfl λz d=>?_;go_simp;exact d.o _ _ ⟨_,rfl,(λ_=>rfl),a.o,.inl (Below.refl _ _)⟩
     ·cases ao
      ·obtain rfl:=fT s r 14 rfl rfl;refine fK rfl λz d=>?_;go_simp;exact d.o _ _ ⟨_,rfl,(λh=>by cases h),a.o,.inl (Below.refl _ _)⟩
      ·obtain rfl:=fT s r 14 rfl rfl;obtain rfl:cz=.slice Ax R Ac:=fT s r 20 rfl rfl rfl;obtain rfl:cA=.slice Ar nr cr:=fT s r 21 rfl rfl rfl;refine fK rfl λz d=>?_;go_simp;go_at_call 27;refine(uK _ _ _ _ _ _ _ _ _ (a2.o.below (fH G.o a.o)) (de.o.below (fH G.o a.o))).mono ?_;rintro e w1 ⟨rfl,al⟩;rw[dR.o];have an:=Hm al;clear al;go_wp2_with fail;exact d.o _ _ ⟨_,rfl,(λ_=>rfl),fH a.o an.o,.inl an.o⟩
     ·cases ao
      ·obtain rfl:=fT s r 14 rfl rfl;refine fK rfl λz d=>?_;go_simp;exact d.o _ _ ⟨_,rfl,(λh=>by cases h),a.o,.inl (Below.refl _ _)⟩
      ·obtain rfl:=fT s r 14 rfl rfl;obtain rfl:cB=.bool aN:=fT s r 22 rfl rfl rfl;refine fK rfl λz d=>?_;go_simp;exact d.o _ _ ⟨_,rfl,(λ_=>rfl),a.o,.inl (Below.refl _ _)⟩
     ·cases ao
      ·obtain rfl:=fT s r 14 rfl rfl;refine fK rfl λz d=>?_;go_simp;exact d.o _ _ ⟨_,rfl,show Value.bool false=Value.bool aH from by rw[<-cI.o];rfl,a.o,.inl (Below.refl _ _)⟩
      ·obtain rfl:=fT s r 14 rfl rfl;obtain rfl:cC=.bool (!aN):=fT s r 23 rfl rfl rfl;refine fK rfl λz d=>?_;go_simp;exact d.o _ _ ⟨_,rfl,show Value.bool (!aN)=Value.bool aH from by rw[<-cI.o];rfl,a.o,.inl (Below.refl _ _)⟩
    ·intro L vs V K ak Z Y;obtain⟨v0,bj,rfl,aa⟩:=fJ ak;obtain⟨v1,bk,rfl,ab⟩:=fJ aa;obtain⟨v2,bm,rfl,ad⟩:=fJ ab;obtain⟨v3,bn,rfl,ae⟩:=fJ ad;obtain⟨v4,bo,rfl,af⟩:=fJ ae;obtain⟨v5,bp,rfl,ag⟩:=fJ af;obtain⟨v6,bq,rfl,ah⟩:=fJ ag;obtain⟨v7,br,rfl,ai⟩:=fJ ah;obtain⟨v8,bs,rfl,aj⟩:=fJ ai;obtain⟨v9,bt,rfl,H⟩:=fJ aj;obtain⟨aM,bl,rfl,ac⟩:=fJ H;obtain⟨bJ,cD,rfl,aw⟩:=fJ ac;obtain⟨bK,cE,rfl,ax⟩:=fJ aw;obtain⟨dI,en,rfl,a7⟩:=fJ ax;obtain⟨dJ,eo,rfl,a8⟩:=fJ a7;obtain⟨cu,ep,rfl,a9⟩:=fJ a8;obtain⟨cv,eq,rfl,ba⟩:=fJ a9;obtain⟨cw,er,rfl,bb⟩:=fJ ba;obtain⟨cx,es,rfl,bc⟩:=fJ bb;obtain⟨cy,et,rfl,bd⟩:=fJ bc;obtain⟨cz,eu,rfl,be⟩:=fJ bd;obtain⟨cA,ev,rfl,bf⟩:=fJ be;obtain⟨cB,ew,rfl,bg⟩:=fJ bf;obtain⟨cC,ex,rfl,bh⟩:=fJ bg;obtain⟨dK,ey,rfl,bi⟩:=fJ bh;obtain rfl:=jR bi;clear ak aa ab ad ae af ag ah ai aj H ac aw ax a7 a8 a9 ba bb bc bd be bf bg bh bi;have a:=Hm Z;have s:=Hm Y;have HL:=Hm K;clear Z Y K;obtain rfl:dK=.bool aH:=s.o 24 (by show 24<25;omega) rfl;have bu:=Hm a.o;obtain⟨VX,rfl⟩: ∃W,W=V:=⟨_,rfl⟩;clear a s HL;have cH:=Hm (fH G.o bu.o);have df:=Hm (aA.o.below bu.o);have cY:=Hm (bX.o.below bu.o);have dc:=Hm (bz.o.below bu.o);cases aH
     ·have HN:Hl (jh cols x.cols (rows.take (k+1)) row I=M):=Hm (by rw[dg.o];simp);go_wp2;all_goals(try(exfalso;go_light;simp_all;done));go_roundw
      case rel=>exact⟨k+1,A8,m8,c8,M,by omega,by go_num,(λh=>by simp at h),λ_=>HN.o.symm,by omega,df.o,cY.o,dc.o,cH.o⟩
      case measure=>simp[RowKit.intOf];omega
     have HN:Hl (jh cols x.cols (rows.take (k+1)) row I=M++[y.row]):=Hm (by rw[dg.o,if_pos rfl]);go_upto_region 11 with (fail);refine iW (by kernel_rfl) kQ (by kernel_rfl) (λV V'=>Below V.heap.size V V') (λvs=>⟨#[.agg #[.string x.name,.string x.table,.int .i64 0,.slice A n c,.string x.other,.slice A' n' c',.int .i64 x.low,.int .i64 x.high,.slice A'' n'' c'',.int .i64 x.ln,.int .i64 x.ld,.int .i64 x.mn,.int .i64 x.md,.int .i64 x.policy],.agg #[.string rn,.slice A1 n1 c1,.slice Ak nk ck,.slice (some ⟨b,off,none⟩) n3 c3],.agg #[.string on,.slice A2 n2 c2,.slice Al nl cl,.slice A4 n4 c4],.slice A5 n5 c5,.slice Ar nr cr,.pointer (some ⟨c0,0,none⟩),.pointer (some ⟨c0+1,0,none⟩),.pointer (some ⟨c0+1+1,0,none⟩),undef,undef,.pointer (some ⟨c0+1+1+1,0,none⟩),.int .i64 0,.slice Ab mb cb,.int .i64 0,.pointer (some ⟨X,0,none⟩),.int .i64 ↑k,u16,u17,u18,u19,u20,u21,u22,u23,u24,u25,u26,u27,u28,u29,u30,u31,u32,u33,u34,u35,u36,u37,u38,u39,u40,u41,.int .i64 ↑k,.pointer (some ⟨c0+1,3,none⟩),.slice (some ⟨b,off,none⟩) n3 c3,.int .i64 ↑n3,.bool true,.bool true,.pointer (some ⟨c0,2,none⟩),.int .i64 0,.bool true,.bool true,u52,u53,v0,v1,v2,v3,v4,v5,v6,v7,v8,v9,aM,bJ,bK,dI,dJ,cu,cv,cw,cx,cy,cz,cA,cB,cC,.bool true,(vs.getD 0 (.bool false)),(vs.getD 1 (.bool false)),(vs.getD 2 (.bool false)),(vs.getD 3 (.bool false)),(vs.getD 4 (.bool false)),(vs.getD 5 (.bool false)),(vs.getD 6 (.bool false)),(vs.getD 7 (.bool false)),(vs.getD 8 (.bool false)),(vs.getD 9 (.bool false)),(vs.getD 10 (.bool false)),(vs.getD 11 (.bool false)),u91],[]⟩) 13 (by decide) (λL V=>Below E.heap.size E V/\OL 36 E.heap.size (λ_=>False) [] V (.slice Q P U) I/\(L 10=false->OL (α:=List Val) 23 E.heap.size (λ_=>False) [36] V (.slice A8 m8 c8) M)/\(L 12=false->RsnAt V X x.name Q P U (.slice A8 m8 c8))/\(L 12=true->L 10=true/\L 1=true)/\(L 10=true->L 9=true)) C9 rR (yF c0 E.heap.size b off n3 c3 k X P U m8 c8 R Ac x.name Q A8 Ax y.row M I) (λ_ _=>True) F4 (Ic c0 E.heap.size b off n3 c3 k X P U m8 c8 R Ac x.name Q A8 Ax y.row M I) [_,_,_,_,_,_,_,_,_,_,_,_,.bool false] rfl rfl (λ_=>trivial) (⟨cH.o.drew,dc.o.below (Below.refl _ _).drew,λ_=>cY.o.below (Below.refl _ _).drew,λ_=>df.o.below (Below.refl _ _).drew,(λh=>by cases h),(λh=>by cases h)⟩) ?_ ?_
     ·intro L i vs V hi ak K hd Z Y aD;obtain⟨v0,bj,rfl,aa⟩:=fJ ak;obtain⟨v1,bk,rfl,ab⟩:=fJ aa;obtain⟨v2,bm,rfl,ad⟩:=fJ ab;obtain⟨v3,bn,rfl,ae⟩:=fJ ad;obtain⟨v4,bo,rfl,af⟩:=fJ ae;obtain⟨v5,bp,rfl,ag⟩:=fJ af;obtain⟨v6,bq,rfl,ah⟩:=fJ ag;obtain⟨v7,br,rfl,ai⟩:=fJ ah;obtain⟨v8,bs,rfl,aj⟩:=fJ ai;obtain⟨v9,bt,rfl,H⟩:=fJ aj;obtain⟨aM,bl,rfl,ac⟩:=fJ H;obtain⟨bJ,cD,rfl,aw⟩:=fJ ac;obtain⟨bK,cE,rfl,ax⟩:=fJ aw;obtain rfl:=jR ax;clear ak aa ab ad ae af ag ah ai aj H ac aw ax;have hi:i<13:=hi;have a:=Hm Z;have s:=Hm Y;have r:=Hm hd;have ap:=Hm K;have cV:=Hm aD;clear Z Y hd K aD;obtain rfl|rfl|rfl|rfl|rfl|rfl|rfl|rfl|rfl|rfl|rfl|rfl|rfl:i=0\/i=1\/i=2\/i=3\/i=4\/i=5\/i=6\/i=7\/i=8\/i=9\/i=10\/i=11\/i=12:=by omega
      ·refine fK rfl λz d=>?_;go_simp;exact d.o _ _ ⟨_,rfl,rfl,⟨a.o.1,a.o.2.1,λh=>a.o.2.2.1 (by simpa using h),λh=>a.o.2.2.2.1 (by simpa using h),λh=>by have f:=a.o.2.2.2.2.1 (by simpa using h);simp[f],λh=>by have f:=a.o.2.2.2.2.2 (by simpa using h);simp[f]⟩,.inl (Below.refl _ _)⟩
      ·obtain rfl:=fT s r 0 rfl rfl;have bH:L 12=false:=Bool.eq_false_iff.2 λhl=>by have f:=(a.o.2.2.2.2.1 hl).2;rw[ap.o]at f;cases f
       have y0:=(a.o.2.2.2.1 bH).c2;refine fK rfl λz d=>?_;go_simp;exact d.o _ _ ⟨_,rfl,rfl,⟨a.o.1,a.o.2.1,λh=>a.o.2.2.1 (by simpa using h),λh=>a.o.2.2.2.1 (by simpa using h),λh=>by have f:=a.o.2.2.2.2.1 (by simpa using h);simp[f],λh=>by have f:=a.o.2.2.2.2.2 (by simpa using h);simp[f]⟩,.inl (Below.refl _ _)⟩
      ·refine fK rfl λz d=>?_;go_simp;exact d.o _ _ ⟨_,rfl,rfl,⟨a.o.1,a.o.2.1,λh=>a.o.2.2.1 (by simpa using h),λh=>a.o.2.2.2.1 (by simpa using h),λh=>by have f:=a.o.2.2.2.2.1 (by simpa using h);simp[f],λh=>by have f:=a.o.2.2.2.2.2 (by simpa using h);simp[f]⟩,.inl (Below.refl _ _)⟩
      ·obtain rfl:=fT s r 2 rfl rfl;have y0:=fO a.o.1 aI.o a1.o;refine fK rfl λz d=>?_;go_simp;exact d.o _ _ ⟨_,rfl,rfl,⟨a.o.1,a.o.2.1,λh=>a.o.2.2.1 (by simpa using h),λh=>a.o.2.2.2.1 (by simpa using h),λh=>by have f:=a.o.2.2.2.2.1 (by simpa using h);simp[f],λh=>by have f:=a.o.2.2.2.2.2 (by simpa using h);simp[f]⟩,.inl (Below.refl _ _)⟩
      ·refine fK rfl λz d=>?_;go_simp;exact d.o _ _ ⟨_,rfl,rfl,⟨a.o.1,a.o.2.1,λh=>a.o.2.2.1 (by simpa using h),λh=>a.o.2.2.2.1 (by simpa using h),λh=>by have f:=a.o.2.2.2.2.1 (by simpa using h);simp[f],λh=>by have f:=a.o.2.2.2.2.2 (by simpa using h);simp[f]⟩,.inl (Below.refl _ _)⟩
      ·obtain rfl:=fT s r 3 rfl rfl;obtain rfl:=fT s r 4 rfl rfl;refine fK rfl λz d=>?_;go_simp;exact d.o _ _ ⟨_,rfl,rfl,⟨a.o.1,a.o.2.1,λh=>a.o.2.2.1 (by simpa using h),λh=>a.o.2.2.2.1 (by simpa using h),λh=>by have f:=a.o.2.2.2.2.1 (by simpa using h);simp[f],λh=>by have f:=a.o.2.2.2.2.2 (by simpa using h);simp[f]⟩,.inl (Below.refl _ _)⟩
      ·obtain rfl:=fT s r 5 rfl rfl;refine fK rfl λz d=>?_;go_simp;exact d.o _ _ ⟨_,rfl,rfl,⟨a.o.1,a.o.2.1,λh=>a.o.2.2.1 (by simpa using h),λh=>a.o.2.2.2.1 (by simpa using h),λh=>by have f:=a.o.2.2.2.2.1 (by simpa using h);simp[f],λh=>by have f:=a.o.2.2.2.2.2 (by simpa using h);simp[f]⟩,.inl (Below.refl _ _)⟩
      ·obtain rfl:=fT s r 6 rfl rfl;have y0:=fO a.o.1 b5.o b4.o;refine fK rfl λz d=>?_;go_simp;exact d.o _ _ ⟨_,rfl,rfl,⟨a.o.1,a.o.2.1,λh=>a.o.2.2.1 (by simpa using h),λh=>a.o.2.2.2.1 (by simpa using h),λh=>by have f:=a.o.2.2.2.2.1 (by simpa using h);simp[f],λh=>by have f:=a.o.2.2.2.2.2 (by simpa using h);simp[f]⟩,.inl (Below.refl _ _)⟩
      ·obtain rfl:=fT s r 7 rfl rfl;obtain⟨eg,du,dD⟩:=Sl.cells (Sl.keep (Same.below a.o.1) a2.o);have dT:=Hm du;have d7:=Hm dD;clear du dD;refine fK rfl λz d=>?_;refine wL (by rfl) ?_;refine nT V _ _ _ rfl FI (by simp) (OL.nil (B:=E.heap.size) (O:=λ_=>False) (T:=[]) a.o.1.size) rfl Ax R Ac eg y.row (by simp[Act.eval,Act.put]) dZ.o d7.o (G9 dT.o) b6.o dO.o dP.o ?_;intro v9 w9 am bE aV ci;obtain⟨C,D,H⟩:=am.form;rw[List.nil_append,b6.o]at H;subst H;have aJ:=Hm (show OL 36 E.heap.size (λ_=>False) [] w9 (.slice C R D) y.row from by simpa using am);have ay:Hl (Below V.heap.size V w9):=Hm ((Below.refl _ V).grown aV (Nat.le_refl _) λk e=>by cases e);clear am bE aV ci;exact d.o _ _ ⟨_,rfl,⟨_,_,rfl,aJ.o⟩,⟨fH a.o.1 ay.o,a.o.2.1.below ay.o,λh=>(a.o.2.2.1 (by simpa using h)).below ay.o,λh=>(a.o.2.2.2.1 (by simpa using h)).below ay.o,λh=>by have f:=a.o.2.2.2.2.1 (by simpa using h);simp[f],λh=>by have f:=a.o.2.2.2.2.2 (by simpa using h);simp[f]⟩,.inl ay.o⟩
      ·have dy:L 10=false:=Bool.eq_false_iff.2 λhl=>by have f:=a.o.2.2.2.2.2 hl;rw[ap.o]at f;cases f
       obtain⟨C,D,rfl,am⟩: ∃C D,v8=.slice C R D/\OL 36 E.heap.size (λ_=>False) [] V (.slice C R D) y.row:=(s.o 8 (r.o 8 (by simp[kQ]))).2 (λu h=>by simp only[rR,List.mem_cons,List.not_mem_nil,or_false]at h;subst h;assumption);have aJ:=Hm am;clear am;refine fK rfl λz d=>?_;go_simp;exact d.o _ _ ⟨_,rfl,⟨_,_,_,rfl,heap_alloc_new _ _,aJ.o.below fI⟩,⟨fH a.o.1 fI,a.o.2.1.below fI,λh=>(a.o.2.2.1 (by simpa using h)).below fI,λh=>(a.o.2.2.2.1 (by simpa using h)).below fI,λh=>by have f:=a.o.2.2.2.2.1 (by simpa using h);simp[f],λh=>by have f:=a.o.2.2.2.2.2 (by simpa using h);simp[f]⟩,.inl fI⟩
      ·have bH:L 12=false:=Bool.eq_false_iff.2 λhl=>by have f:=(a.o.2.2.2.2.1 hl).1;rw[ap.o]at f;cases f
       obtain rfl:=fT s r 1 rfl rfl;obtain⟨g,C,D,rfl,aE,am⟩: ∃g C D,v9=.slice (some ⟨g,0,none⟩) 1 1/\V.heap[g]?=some (.cells #[.slice C R D] 23 (0,0))/\OL 36 E.heap.size (λ_=>False) [] V (.slice C R D) y.row:=(s.o 9 (r.o 9 (by simp[kQ]))).2 (λu h=>by simp only[rR,List.mem_cons,List.not_mem_nil,or_false]at h;subst h;exact ap.o);have aJ:=Hm am;have dV:=Hm aE;have b7:=Hm (a.o.2.2.1 ap.o);have aC:=Hm (a.o.2.2.2.1 bH);clear am aE;refine fK rfl λz d=>?_;obtain⟨A0,eG,e0,ct⟩:=aJ.o.sl;injection e0 with q1 q2 q3;subst q1 q3;rw[b6.o]at ct;have d6:=Hm ct;clear ct;refine wL (by rfl) ?_;refine nT V _ _ _ rfl uE (by decide) b7.o (by simp[Act.eval,Act.put]) (some ⟨g,0,none⟩) 1 1 [.slice C R D] [y.row] (by simp[Act.eval,Act.put]) (by intro h;cases h) (Ma dV.o) (Cells.one ⟨C,R,D,rfl,d6.o⟩) rfl d9.o ea.o ?_;intro v9 w9 am bE aV ci;obtain⟨A6,c6,H⟩:=am.form;obtain⟨m6,dw⟩: ∃m,(M++[y.row]).length=m:=⟨_,rfl⟩;rw[dw]at H;subst H;have aO:=Hm am;have ay:=Hm (a.o.1.trans bE);have b0:=Hm (aC.o.grown aV (λe=>iF.ne aC.o.ty (b7.o.ty e.symm).2 (by decide) rfl));have bY:=Hm (a.o.2.1.grown aV λk e=>⟨λe2=>iF.ne (b7.o.ty e).2 (a.o.2.1.ty e2).2 (by decide) rfl,λhb=>by rcases hb with ⟨h,_⟩|⟨_,t,ht,_⟩;exact h;cases ht⟩);clear am bE aV ci dw;exact d.o _ _ ⟨_,rfl,⟨_,_,_,rfl,aO.o⟩,⟨ay.o,bY.o,λh=>by simp at h,λh=>b0.o,λh=>by have f:=a.o.2.2.2.2.1 (by simpa using h);simp[f],λ_=>by have f:=r.o 9 (by simp[kQ]);simp[f]⟩,.inr (λj hj K hu q=>yG _ _ _ _ _ _ _ _ _ _ _ _ _ _ _ _ _ _ _ _ _ j _ _ _ _ (λe=>by subst e;exact(hu 10 (by simp[rR])).1 rfl) (λe=>by subst e;exact(hu 10 (by simp[rR])).1 rfl) hj (λe=>by subst e;rw[bH]at K;cases K) q)⟩
      ·refine fK rfl λz d=>?_;go_simp;exact d.o _ _ ⟨_,rfl,rfl,⟨a.o.1,a.o.2.1,λh=>a.o.2.2.1 (by simpa using h),λh=>a.o.2.2.2.1 (by simpa using h),λh=>by have f:=a.o.2.2.2.2.1 (by simpa using h);simp[f],λh=>by have f:=a.o.2.2.2.2.2 (by simpa using h);simp[f]⟩,.inl (Below.refl _ _)⟩
      ·obtain rfl:=fT s r 11 rfl rfl;obtain⟨C,F,D,rfl,dz⟩: ∃C F D,aM=.slice C F D/\OL (α:=List Val) 23 E.heap.size (λ_=>False) [36] V (.slice C F D) (M++[y.row]):=(s.o 10 (r.o 10 (by simp[kQ]))).2 (λu h=>by simp only[rR,List.mem_cons,List.not_mem_nil,or_false]at h;subst h;exact ap.o);have aO:=Hm dz;have aC:=Hm (a.o.2.2.2.1 ap.o);have y2:=aC.o.c2;have y3:=aC.o.fz;clear dz;refine fK rfl λz d=>?_;go_simp;exact d.o _ _ ⟨.bool false,rfl,⟨_,_,_,aC.o.set2 _,aO.o.setBlk aC.o.ty (.inr λ_ h=>h) (by decide) (by decide) _ _⟩,⟨kN a.o.1 aY.o _ _,a.o.2.1.setBlk aC.o.ty (.inr λ_ h=>h) (by decide) (by simp) _ _,λh=>by have f:=r.o 10 (by simp[kQ]);simp[f]at h,λh=>by simp at h,λ_=>⟨by have f:=r.o 10 (by simp[kQ]);simp[f],by have f:=r.o 1 (by simp[kQ]);simp[f]⟩,λh=>by have f:=a.o.2.2.2.2.2 (by simpa using h);simp[f]⟩,.inr (λj hj K hu q=>yG _ _ _ _ _ _ _ _ _ _ _ _ _ _ _ _ _ _ _ _ _ j _ _ _ _ (λe=>by subst e;have h1:=(hu 10 (by simp[rR])).2;rw[r.o 10 (by simp[kQ])]at h1;cases h1) (λe=>by subst e;have h1:=(hu 10 (by simp[rR])).2;rw[r.o 10 (by simp[kQ])]at h1;cases h1) (λe=>by subst e;exact(hu 12 (by simp[rR])).1 rfl) hj q)⟩
     ·intro L vs V K ak Z Y;obtain⟨v0,bj,rfl,aa⟩:=fJ ak;obtain⟨v1,bk,rfl,ab⟩:=fJ aa;obtain⟨v2,bm,rfl,ad⟩:=fJ ab;obtain⟨v3,bn,rfl,ae⟩:=fJ ad;obtain⟨v4,bo,rfl,af⟩:=fJ ae;obtain⟨v5,bp,rfl,ag⟩:=fJ af;obtain⟨v6,bq,rfl,ah⟩:=fJ ag;obtain⟨v7,br,rfl,ai⟩:=fJ ah;obtain⟨v8,bs,rfl,aj⟩:=fJ ai;obtain⟨v9,bt,rfl,H⟩:=fJ aj;obtain⟨aM,bl,rfl,ac⟩:=fJ H;obtain⟨bJ,cD,rfl,aw⟩:=fJ ac;obtain⟨bK,cE,rfl,ax⟩:=fJ aw;obtain rfl:=jR ax;clear ak aa ab ad ae af ag ah ai aj H ac aw ax;have a:=Hm Z;have s:=Hm Y;have HL:=Hm K;clear Z Y K;obtain⟨C,F,D,dA,am⟩: ∃C F D,RsnAt V X x.name Q P U (.slice C F D)/\OL (α:=List Val) 23 E.heap.size (λ_=>False) [36] V (.slice C F D) (M++[y.row]):=s.o 12 (by show 12<13;omega) rfl;have b0:=Hm dA;have aJ:=Hm am;have bY:=Hm a.o.2.1;have ay:=Hm a.o.1;clear dA am a s HL;go_wp2;all_goals(try(exfalso;go_light;simp_all;done));go_roundw
      case rel=>exact⟨k+1,C,F,D,M++[y.row],by omega,by go_num,(λh=>by simp at h),λ_=>HN.o.symm,by simp;omega,b0.o,aJ.o,bY.o,ay.o⟩
      case measure=>simp[RowKit.intOf];omega
   ·have bR:Hl (J=(0,⟨x.name,I,M⟩)):=Hm (by rw[HJ.o,if_pos rfl,dh.o rfl,List.take_of_length_le (by rw[cW.o];omega),<-bW.o rfl,db.o]);have jn:¬(k:Int)<(n3:Int):=by omega
    have bL:=Hm (fH aP.o G.o);have N:=Hm (bS.o.below G.o);have z0:=fO G.o az.o Z0.o;have z1:=fO G.o az.o Z1.o;have z2:=fO G.o az.o Z2.o;have y0:=N.o.frozen 0;have y1:=N.o.frozen 1;have y2:=N.o.frozen 2;have ed:=aA.o.c0;have ee:=aA.o.c1;have ef:=aA.o.c2;have d0:¬c0+1+1+1=X:=by have h1:=az.o;have f:=aY.o;omega
    have aL:w.heap.size<=c0+1+1+1:=by have h1:=bM.o;omega
    go_wp2;all_goals(try(exfalso;go_light;simp_all;done));all_goals(obtain rfl:=bR.o;exact bodyPost_ret (v:=.tuple #[.agg #[.string x.name,.slice Q P U,.slice A8 m8 c8],.int .i64 0]) (gJ (cs:=[.string x.name,.slice Q P U,.slice A8 m8 c8]) rfl _ _ _ _ _ rfl rfl (iJ z0 z1 z2) Tryz.underlying78 rfl (by kernel_rfl)) rfl ⟨⟨_,_,rfl,((((bz.o.setBlk N.o.ty (.inr λ_ h=>h) (by decide) (by decide) _ _).setBlk (N.o.ty.set _ _ _) (.inr λ_ h=>h) (by decide) (by decide) _ _).setBlk ((N.o.ty.set _ _ _).set _ _ _) (.inr λ_ h=>h) (by decide) (by decide) _ _)).rebase aP.o.size,((((bX.o.setBlk N.o.ty (.inr λ_ h=>h) (by decide) (by decide) _ _).setBlk (N.o.ty.set _ _ _) (.inr λ_ h=>h) (by decide) (by decide) _ _).setBlk ((N.o.ty.set _ _ _).set _ _ _) (.inr λ_ h=>h) (by decide) (by decide) _ _)).rebase aP.o.size⟩,(((bL.o.setCell aL _).setCell aL _).setCell aL _)⟩)
  ·have kq:(kd==0)=false:=by simpa using h0
   have bR:Hl (J=(0,⟨x.name,I,M⟩)):=Hm (by rw[HJ.o,if_neg h0,eb.o h0]);clear h0;have bL:=Hm (fH aP.o G.o);have N:=Hm (bS.o.below G.o);have z0:=fO G.o az.o Z0.o;have z1:=fO G.o az.o Z1.o;have z2:=fO G.o az.o Z2.o;have y0:=N.o.frozen 0;have y1:=N.o.frozen 1;have y2:=N.o.frozen 2;have ed:=aA.o.c0;have ee:=aA.o.c1;have ef:=aA.o.c2;have d0:¬c0+1+1+1=X:=by have h1:=az.o;have f:=aY.o;omega
   have aL:w.heap.size<=c0+1+1+1:=by have h1:=bM.o;omega
   go_wp2;all_goals(try(exfalso;go_light;simp_all;done));all_goals(obtain rfl:=bR.o;exact bodyPost_ret (v:=.tuple #[.agg #[.string x.name,.slice Q P U,.slice A8 m8 c8],.int .i64 0]) (gJ (cs:=[.string x.name,.slice Q P U,.slice A8 m8 c8]) rfl _ _ _ _ _ rfl rfl (iJ z0 z1 z2) Tryz.underlying78 rfl (by kernel_rfl)) rfl ⟨⟨_,_,rfl,((((bz.o.setBlk N.o.ty (.inr λ_ h=>h) (by decide) (by decide) _ _).setBlk (N.o.ty.set _ _ _) (.inr λ_ h=>h) (by decide) (by decide) _ _).setBlk ((N.o.ty.set _ _ _).set _ _ _) (.inr λ_ h=>h) (by decide) (by decide) _ _)).rebase aP.o.size,((((bX.o.setBlk N.o.ty (.inr λ_ h=>h) (by decide) (by decide) _ _).setBlk (N.o.ty.set _ _ _) (.inr λ_ h=>h) (by decide) (by decide) _ _).setBlk ((N.o.ty.set _ _ _).set _ _ _) (.inr λ_ h=>h) (by decide) (by decide) _ _)).rebase aP.o.size⟩,(((bL.o.setCell aL _).setCell aL _).setCell aL _)⟩)
end Go.Proofs.YtopjjlmfilgngaaGreatDoor
