/-
  warehouselaw30: row, columns; its closed example. Chapter 30: what lies above the numbers' blocks stays; its tables. warehouselaw30.made: what its loops keep. No walk stands here.
-/
import Derived.Test.YtopjjlmfilgngaaGreatDoorGbb
import Derived.Test.YtopjjlmfilgngaaGreatDoorGbd
namespace Go.Proofs.YtopjjlmfilgngaaGreatDoor
set_option maxHeartbeats 4000000
set_option maxRecDepth 100000
open Go.RowKit Go.Maps
set_option linter.unusedSimpArgs false
set_option linter.unusedVariables false
theorem Hw {n:Int}(a:0<=n)(b:n<=1000):Val.ok (iV n):=⟨⟨by show(-9223372036854775808:Int)<=2;decide,by show(2:Int)<=9223372036854775807;decide⟩,⟨by show(-9223372036854775808:Int)<=n;omega,by show n<=(9223372036854775807:Int);omega⟩,by show(⟨#[]⟩:ByteArray).size<=9223372036854775807;decide⟩
theorem oC (w:World)(a b:Int)(d:0<=a)(f:a<=1000)(hb:0<=b)(g:b<=1000):Calls Tryz.prog 28 #[.int .i64 a,.int .i64 b] w
  λe w'=>(∃A c,e=.returned (.slice A 2 c)/\OL 36 w.heap.size (λ_=>False) [] w' (.slice A 2 c) [iV a,iV b])/\Below w.heap.size w w':=by
 have h:=Hw d f;have i:=Hw hb g;go_enter Tryz.func28,Tryz.ntmps28;go_wp2;go_ret;exact⟨⟨_,_,rfl,OL.built (Nat.le_refl _) (by decide) rfl rfl ⟨[_,_,_],[_,_,_],rfl,⟨rfl,h⟩,Cells.one ⟨rfl,i⟩⟩⟩,fI⟩
theorem oK (w:World):Calls Tryz.prog 18 #[] w
  λe w'=>(e=.returned (.slice (some ⟨w.heap.size,0,none⟩) 3 3)/\In w' (some ⟨w.heap.size,0,none⟩) 3 3 lQ)/\Below w.heap.size w w':=by
 go_enter Tryz.func18,Tryz.ntmps18;go_wp2;go_ret;exact⟨⟨rfl,l6 (heap_alloc_new w _) (Fy lQ _ _ λx a=>(DN x a).1) rfl (by decide)⟩,fI⟩
theorem OO {V:World}{g:Nat}{a A2 A3:Option Addr}{b c d:Nat}(hb:jo V g 50 [.slice a 2 b,.int .i64 1,.slice A2 2 c,.int .i64 1,.slice A3 2 d,.int .i64 3])(e:In V a 2 b [iV 1,iV 1])(f:In V A2 2 c [iV 1,iV 2])(h:In V A3 2 d [iV 2,iV 9]):In V (some ⟨g,0,none⟩) 3 3 CU:=
 l6 hb ⟨[_,_],[_,_,_,_],rfl,⟨_,_,_,rfl,e,⟨by decide,by decide⟩⟩,[_,_],[_,_],rfl,⟨_,_,_,rfl,f,⟨by decide,by decide⟩⟩,Cells.one ⟨_,_,_,rfl,h,⟨by decide,by decide⟩⟩⟩ rfl (by decide)
theorem Pd {V:World}{g:Nat}{a A2:Option Addr}{b c:Nat}(hb:jo V g 33 [.string ⟨#[117]⟩,.slice a 2 b,.string ⟨#[117]⟩,.slice A2 2 c])(d:In V a 2 b [iV 1,iV 2])(e:In V A2 2 c [iV 2,iV 9]):In V (some ⟨g,0,none⟩) 2 2 La:=
 l6 hb ⟨[_,_],[_,_],rfl,⟨_,_,_,rfl,d,by show(⟨#[117]⟩:ByteArray).size<=9223372036854775807;decide⟩,Cells.one ⟨_,_,_,rfl,e,by show(⟨#[117]⟩:ByteArray).size<=9223372036854775807;decide⟩⟩ rfl (by decide)
theorem MF {V:World}{g:Nat}(hb:jo V g 82 [.string ⟨#[97]⟩,.int .i64 2,.bool false,.string ⟨#[98]⟩,.int .i64 2,.bool false]):In V (some ⟨g,0,none⟩) 2 2 CR:=by
 have a: ∀V:World,Rep.rd V (λk=>k<V.heap.size) [.string ⟨#[97]⟩,.int .i64 2,.bool false] (⟨⟨#[97]⟩,2,false⟩:Col):=λV=>
  ⟨rfl,⟨by show(⟨#[97]⟩:ByteArray).size<=9223372036854775807;decide,by show(-9223372036854775808:Int)<=2;decide,by show(2:Int)<=9223372036854775807;decide⟩⟩
 have b: ∀V:World,Rep.rd V (λk=>k<V.heap.size) [.string ⟨#[98]⟩,.int .i64 2,.bool false] (⟨⟨#[98]⟩,2,false⟩:Col):=λV=>
  ⟨rfl,⟨by show(⟨#[98]⟩:ByteArray).size<=9223372036854775807;decide,by show(-9223372036854775808:Int)<=2;decide,by show(2:Int)<=9223372036854775807;decide⟩⟩
 exact l6 hb ⟨[_,_,_],[_,_,_],rfl,a _,Cells.one (b _)⟩ rfl (by decide)
theorem Lj {V:World}{g:Nat}{s:ByteArray}(hs:s.size<=8)(hb:jo V g 9 [.string s]):In V (some ⟨g,0,none⟩) 1 1 [s]:=
 l6 hb (Cells.one ⟨rfl,by show s.size<=9223372036854775807;omega⟩) rfl (by decide)
theorem lF:jU 0/\jU 1/\jU 2/\jU 3/\jU 4/\jU 5/\Str ⟨#[]⟩/\Str ⟨#[117]⟩/\Str ⟨#[103]⟩/\Str nR/\Str nO:=by
 refine⟨⟨?_,?_⟩,⟨?_,?_⟩,⟨?_,?_⟩,⟨?_,?_⟩,⟨?_,?_⟩,⟨?_,?_⟩,?_,?_,?_,?_,?_⟩<;>first|decide|(unfold Str;decide)
theorem MG {V:World}{g b gb:Nat}(hb:jo V g 48 [.string ⟨#[117]⟩,.string ⟨#[114]⟩,.int .i64 0,.slice (some ⟨b,0,none⟩) 1 1,.string ⟨#[]⟩,.slice none 0 0,.int .i64 0,.int .i64 0,.slice none 0 0,.int .i64 0,.int .i64 0,.int .i64 0,.int .i64 0,.int .i64 0,.string ⟨#[103]⟩,.string ⟨#[114]⟩,.int .i64 2,.slice (some ⟨gb,0,none⟩) 1 1,.string ⟨#[]⟩,.slice none 0 0,.int .i64 0,.int .i64 5,.slice none 0 0,.int .i64 0,.int .i64 0,.int .i64 0,.int .i64 0,.int .i64 0])(e:In V (some ⟨b,0,none⟩) 1 1 [(⟨#[97]⟩:ByteArray)])(f:In V (some ⟨gb,0,none⟩) 1 1 [(⟨#[98]⟩:ByteArray)]):In V (some ⟨g,0,none⟩) 2 2 [I9,Ja]:=by
 obtain⟨a,l,h,m,n,i,c,j,k,d,_⟩:=lF;exact l6 hb ⟨[_,_,_,_,_,_,_,_,_,_,_,_,_,_],[_,_,_,_,_,_,_,_,_,_,_,_,_,_],rfl,⟨_,_,_,_,_,_,_,_,_,rfl,e,In.nil_,In.nil_,j,d,a,c,a,a,a,a,a,a,a⟩,Cells.one ⟨_,_,_,_,_,_,_,_,_,rfl,f,In.nil_,In.nil_,k,d,h,c,a,i,a,a,a,a,a⟩⟩ rfl (by decide)
theorem oQ (w:World)(hw:Words w):
  Calls Tryz.prog 9 #[] w λe w'=>e=.returned (.bool true)/\Below w.heap.size w w':=by
 have ai:=Hm λW N (hc:In W N 2 2 CR) A3 (hr:In W A3 3 3 CU) Ac (hl:In W Ac 2 2 [I9,Ja]) Aw (a7:In W Aw 2 2 La) (hw:Words W)=>DY W OZ N 2 2 hc none 0 0 A3 3 3 hr Ac 2 2 [I9,Ja] hl none 0 0 [] In.nil_ Aw 2 2 La a7 none 0 0 [] In.nil_ hw (by omega) (by omega) (by simp[I9,Ja]) (by simp) lF.2.2.2.2.2.2.2.2.2.1;obtain⟨d1,d2,d3,d4,d5,d6,d7,d8,d9,ad,ae⟩:=Ny;rw[show Am OZ [I9,Ja] [] La []=xx from rfl]at ai;obtain⟨⟨DE,DT,DQ⟩,hD⟩: ∃q,xx=q:=⟨_,rfl⟩;rw[hD]at ai d1 d2 d3 d4 d5 d6 d7 d8 d9 ad ae;obtain rfl:DE=0:=d1;obtain⟨y,hy⟩: ∃y,DT=[y]:=by
  match DT,d2 with
  | [y],_=>exact⟨y,rfl⟩
 obtain⟨p,q,a3⟩: ∃p q,DQ=[p,q]:=by
  match DQ,d5 with
  | [p,q],_=>exact⟨p,q,rfl⟩
 subst hy a3;simp only[List.getD_cons_zero,List.getD_cons_succ]at d3 d4 d6 d7 d8 d9 ad ae;have D3:=Hm d3;have D4:=Hm d4;have D6:=Hm d6;have D7:=Hm d7;have D8:=Hm d8;have D9:=Hm d9;have aT:=Hm ad;have aU:=Hm ae;clear hD d2 d3 d4 d5 d6 d7 d8 d9 ad ae;have HW:=Hm hw;clear hw;go_enter Tryz.func9,Tryz.ntmps9;go_wp2_with fail;obtain⟨aj,T⟩: ∃W,W=w.alloc (.cells #[.string ⟨#[97]⟩,.int .i64 2,.bool false,.string ⟨#[98]⟩,.int .i64 2,.bool false] 82):=⟨_,rfl⟩;obtain⟨r,H⟩: ∃q,q=w.heap.size:=⟨_,rfl⟩;have a:Hl (jo aj r 82 [.string ⟨#[97]⟩,.int .i64 2,.bool false,.string ⟨#[98]⟩,.int .i64 2,.bool false]):=Hm (by rw[T,H];exact jo.made _ _ _);have bH:Hl (aj.heap.size=r+1):=Hm (by rw[T,H];exact World.size_alloc _ _);have aX:Hl (Below w.heap.size w aj):=Hm (by rw[T];exact fI);have bj:Hl (w.heap.size<=r):=Hm (by rw[H];exact Nat.le_refl _);rw[<-T,<-H];have bd:=Hm H;clear T H;have aq:=Hm aX.o;have a4:=aq.o.size;refine(oC _ 1 1 (by omega) (by omega) (by omega) (by omega)).mono ?_;rintro e w2 ⟨⟨N,c1,rfl,h1⟩,al⟩;have a:=Hm (a.o.below al);have ax:=Hm (fH aq.o al);clear al;replace h1:=h1.rebase a4;have b:=Hm h1;clear h1;have a5:=ax.o.size;go_wp2_with fail;refine(oC _ 1 2 (by omega) (by omega) (by omega) (by omega)).mono ?_;rintro e w3 ⟨⟨A2,c2,rfl,h2⟩,af⟩;have a:=Hm (a.o.below af);have b:=Hm (b.o.below af);have ay:=Hm (fH ax.o af);clear af;replace h2:=h2.rebase a5;have c:=Hm h2;clear h2;have a6:=ay.o.size;go_wp2_with fail;refine(oC _ 2 9 (by omega) (by omega) (by omega) (by omega)).mono ?_;rintro e w4 ⟨⟨A3,c3,rfl,h3⟩,ab⟩;have a:=Hm (a.o.below ab);have b:=Hm (b.o.below ab);have c:=Hm (c.o.below ab);have az:=Hm (fH ay.o ab);clear ab;replace h3:=h3.rebase a6;have i:=Hm h3;clear h3;go_upto_region 3 with (fail);obtain⟨A,U⟩: ∃W,W=w4.alloc (.cells #[.slice N 2 c1,.int .i64 1,.slice A2 2 c2,.int .i64 1,.slice A3 2 c3,.int .i64 3] 50):=⟨_,rfl⟩;obtain⟨l,I⟩: ∃q,q=w4.heap.size:=⟨_,rfl⟩;have f:Hl (jo A l 50 [.slice N 2 c1,.int .i64 1,.slice A2 2 c2,.int .i64 1,.slice A3 2 c3,.int .i64 3]):=Hm (by rw[U,I];exact jo.made _ _ _);have aZ:Hl (A.heap.size=l+1):=Hm (by rw[U,I];exact World.size_alloc _ _);have Q:Hl (Below w4.heap.size w4 A):=Hm (by rw[U];exact fI);have bk:Hl (w.heap.size<=l):=Hm (by rw[I];exact az.o.size);have bp:Hl (¬r=l):=Hm (by have h:=a.o.lt;omega);rw[<-U,<-I];have be:=Hm I;clear U I;have a:=Hm (a.o.below Q.o);have b:=Hm (b.o.below Q.o);have c:=Hm (c.o.below Q.o);have i:=Hm (i.o.below Q.o);have ar:=Hm (fH az.o Q.o);obtain⟨B,X⟩: ∃W,W=A.alloc (.cells #[.string ⟨#[114]⟩,.slice (some ⟨r,0,none⟩) 2 2,.slice none 0 0,.slice (some ⟨l,0,none⟩) 3 3] 29):=⟨_,rfl⟩;obtain⟨g,J⟩: ∃q,q=A.heap.size:=⟨_,rfl⟩;have n:Hl (jo B g 29 [.string ⟨#[114]⟩,.slice (some ⟨r,0,none⟩) 2 2,.slice none 0 0,.slice (some ⟨l,0,none⟩) 3 3]):=Hm (by rw[X,J];exact jo.made _ _ _);have a0:Hl (B.heap.size=g+1):=Hm (by rw[X,J];exact World.size_alloc _ _);have E:Hl (Below A.heap.size A B):=Hm (by rw[X];exact fI);have bl:Hl (w.heap.size<=g):=Hm (by rw[J];exact ar.o.size);have bq:Hl (¬r=g):=Hm (by have h:=a.o.lt;omega);have bw:Hl (¬l=g):=Hm (by have h:=f.o.lt;omega);have aF:g=l+1:=by rw[J];exact aZ.o
 rw[<-X,<-aF];clear aF;have bf:=Hm J;clear X J;have a:=Hm (a.o.below E.o);have f:=Hm (f.o.below E.o);have b:=Hm (b.o.below E.o);have c:=Hm (c.o.below E.o);have i:=Hm (i.o.below E.o);have au:=Hm (fH ar.o E.o);obtain⟨C,Y⟩: ∃W,W=B.alloc (.cells #[.string ⟨#[97]⟩] 9):=⟨_,rfl⟩;obtain⟨g4,K⟩: ∃q,q=B.heap.size:=⟨_,rfl⟩;have v:Hl (jo C g4 9 [.string ⟨#[97]⟩]):=Hm (by rw[Y,K];exact jo.made _ _ _);have a1:Hl (C.heap.size=g4+1):=Hm (by rw[Y,K];exact World.size_alloc _ _);have z:Hl (Below B.heap.size B C):=Hm (by rw[Y];exact fI);have bm:Hl (w.heap.size<=g4):=Hm (by rw[K];exact au.o.size);have br:Hl (¬r=g4):=Hm (by have h:=a.o.lt;omega);have bx:Hl (¬l=g4):=Hm (by have h:=f.o.lt;omega);have bB:Hl (¬g=g4):=Hm (by have h:=n.o.lt;omega);have aG:g4=g+1:=by rw[K];exact a0.o
 rw[<-Y,<-aG];clear aG;have bg:=Hm K;clear Y K;have a:=Hm (a.o.below z.o);have f:=Hm (f.o.below z.o);have n:=Hm (n.o.below z.o);have b:=Hm (b.o.below z.o);have c:=Hm (c.o.below z.o);have i:=Hm (i.o.below z.o);have av:=Hm (fH au.o z.o);obtain⟨D,Z⟩: ∃W,W=C.alloc (.cells #[.string ⟨#[98]⟩] 9):=⟨_,rfl⟩;obtain⟨m,L⟩: ∃q,q=C.heap.size:=⟨_,rfl⟩;have P:Hl (jo D m 9 [.string ⟨#[98]⟩]):=Hm (by rw[Z,L];exact jo.made _ _ _);have a2:Hl (D.heap.size=m+1):=Hm (by rw[Z,L];exact World.size_alloc _ _);have x:Hl (Below C.heap.size C D):=Hm (by rw[Z];exact fI);have bn:Hl (w.heap.size<=m):=Hm (by rw[L];exact av.o.size);have bt:Hl (¬r=m):=Hm (by have h:=a.o.lt;omega);have bz:Hl (¬l=m):=Hm (by have h:=f.o.lt;omega);have bC:Hl (¬g=m):=Hm (by have h:=n.o.lt;omega);have bE:Hl (¬g4=m):=Hm (by have h:=v.o.lt;omega);have aH:m=g4+1:=by rw[L];exact a1.o
 rw[<-Z,<-aH];clear aH;have bh:=Hm L;clear Z L;have a:=Hm (a.o.below x.o);have f:=Hm (f.o.below x.o);have n:=Hm (n.o.below x.o);have v:=Hm (v.o.below x.o);have b:=Hm (b.o.below x.o);have c:=Hm (c.o.below x.o);have i:=Hm (i.o.below x.o);have aw:=Hm (fH av.o x.o);obtain⟨ac,aa⟩: ∃W,W=D.alloc (.cells #[.string ⟨#[117]⟩,.string ⟨#[114]⟩,.int .i64 0,.slice (some ⟨g4,0,none⟩) 1 1,.string ⟨#[]⟩,.slice none 0 0,.int .i64 0,.int .i64 0,.slice none 0 0,.int .i64 0,.int .i64 0,.int .i64 0,.int .i64 0,.int .i64 0,.string ⟨#[103]⟩,.string ⟨#[114]⟩,.int .i64 2,.slice (some ⟨m,0,none⟩) 1 1,.string ⟨#[]⟩,.slice none 0 0,.int .i64 0,.int .i64 5,.slice none 0 0,.int .i64 0,.int .i64 0,.int .i64 0,.int .i64 0,.int .i64 0] 48):=⟨_,rfl⟩;obtain⟨u,M⟩: ∃q,q=D.heap.size:=⟨_,rfl⟩;have KC:Hl (jo ac u 48 [.string ⟨#[117]⟩,.string ⟨#[114]⟩,.int .i64 0,.slice (some ⟨g4,0,none⟩) 1 1,.string ⟨#[]⟩,.slice none 0 0,.int .i64 0,.int .i64 0,.slice none 0 0,.int .i64 0,.int .i64 0,.int .i64 0,.int .i64 0,.int .i64 0,.string ⟨#[103]⟩,.string ⟨#[114]⟩,.int .i64 2,.slice (some ⟨m,0,none⟩) 1 1,.string ⟨#[]⟩,.slice none 0 0,.int .i64 0,.int .i64 5,.slice none 0 0,.int .i64 0,.int .i64 0,.int .i64 0,.int .i64 0,.int .i64 0]):=Hm (by rw[aa,M];exact jo.made _ _ _);have bI:Hl (ac.heap.size=u+1):=Hm (by rw[aa,M];exact World.size_alloc _ _);have t:Hl (Below D.heap.size D ac):=Hm (by rw[aa];exact fI);have bo:Hl (w.heap.size<=u):=Hm (by rw[M];exact aw.o.size);have bv:Hl (¬r=u):=Hm (by have h:=a.o.lt;omega);have bA:Hl (¬l=u):=Hm (by have h:=f.o.lt;omega);have bD:Hl (¬g=u):=Hm (by have h:=n.o.lt;omega);have bF:Hl (¬g4=u):=Hm (by have h:=v.o.lt;omega);have bG:Hl (¬m=u):=Hm (by have h:=P.o.lt;omega);have aI:u=m+1:=by rw[M];exact a2.o
 rw[<-aa,<-aI];clear aI;have bi:=Hm M;clear aa M;have a:=Hm (a.o.below t.o);have f:=Hm (f.o.below t.o);have n:=Hm (n.o.below t.o);have v:=Hm (v.o.below t.o);have P:=Hm (P.o.below t.o);have b:=Hm (b.o.below t.o);have c:=Hm (c.o.below t.o);have i:=Hm (i.o.below t.o);have aY:=Hm (fH aw.o t.o);obtain⟨aA,r0,r1,r2,r3⟩:=n.o.ats4;obtain⟨Wk,aB⟩: ∃W,W=ac:=⟨_,rfl⟩;have ag:=aY.o;rw[<-aB]at r0 r1 r2 r3 a f n v P KC b c i ag aA⊢;clear aB;have aV:=Hm ag;have aW:=Hm (HW.o.below ag);have R0:=Hm r0;have R1:=Hm r1;have R2:=Hm r2;have R3:=Hm r3;have j:=Hm aA;have I1:=Hm (jB b.o rfl);have I2:=Hm (jB c.o rfl);have I3:=Hm (jB i.o rfl);clear ag;have aR:True:=trivial;go_region_held3 (λV=>V.cell? ⟨g,0,none⟩=some (.string ⟨#[114]⟩)/\V.cell? ⟨g,1,none⟩=some (.slice (some ⟨r,0,none⟩) 2 2)/\V.cell? ⟨g,2,none⟩=some (.slice none 0 0)/\V.cell? ⟨g,3,none⟩=some (.slice (some ⟨l,0,none⟩) 3 3))
  (first|exact⟨fO O.o j.o R0.o,fO O.o j.o R1.o,fO O.o j.o R2.o,fO O.o j.o R3.o⟩|exact⟨fO d.o j.o R0.o,fO d.o j.o R1.o,fO d.o j.o R2.o,fO d.o j.o R3.o⟩|exact⟨fO (fH d.o fI) j.o R0.o,fO (fH d.o fI) j.o R1.o,fO (fH d.o fI) j.o R2.o,fO (fH d.o fI) j.o R3.o⟩|exact⟨r0,r1,r2,r3⟩)
  (first|(clear aR;go_at_call 28;refine(oC _ 1 2 (by omega) (by omega) (by omega) (by omega)).mono ?_;rintro e wA ⟨⟨AA,cA,rfl,R⟩,F⟩;have IA:=Hm (jB R rfl);have d:=Hm (fP F);clear R F;have a8:True:=trivial)|(clear aR;go_at_call 28;refine(oC _ 2 9 (by omega) (by omega) (by omega) (by omega)).mono ?_;rintro e wB ⟨⟨AB,cB,rfl,S⟩,G⟩;have IB:=Hm (jB S rfl);have d:=Hm (fP G);clear S G;have a9:True:=trivial)|(clear a8;go_at_call 28;refine(oC _ 2 9 (by omega) (by omega) (by omega) (by omega)).mono ?_;rintro e wB ⟨⟨AB,cB,rfl,S⟩,G⟩;have IB:=Hm (jB S rfl);have IA:=Hm (IA.o.below G);have d:=Hm (fH d.o G);clear S G;have aS:True:=trivial)|(clear a9;go_at_call 28;refine(oC _ 1 2 (by omega) (by omega) (by omega) (by omega)).mono ?_;rintro e wA ⟨⟨AA,cA,rfl,R⟩,F⟩;have IA:=Hm (jB R rfl);have IB:=Hm (IB.o.below F);have d:=Hm (fH d.o F);clear R F;have aS:True:=trivial)|(clear aS;go_at_call 14;have s:=fH d.o (fI (o:=.cells #[.string ⟨#[117]⟩,.slice AA 2 cA,.string ⟨#[117]⟩,.slice AB 2 cB] 33));refine(ai.o _ _ (MF (a.o.below s)) _ (OO (f.o.below s) (I1.o.below s) (I2.o.below s) (I3.o.below s)) _ (MG (KC.o.below s) (Lj (by decide) (v.o.below s)) (Lj (by decide) (P.o.below s))) _ (Pd (jo.made _ _ _) (IA.o.below fI) (IB.o.below fI)) (aW.o.below s)).mono ?_;rintro e w9 ⟨⟨A7,m7,c7,A8,m8,c8,rfl,am,ah⟩,aC⟩;have O:=Hm (fH s aC);obtain rfl:m7=1:=am.len.symm;obtain rfl:m8=2:=ah.len.symm;clear s aC;obtain⟨b7,o7,y7,rfl, -,aQ,Ay,ny,cy,t0, -,ap, -⟩:=am.ent (k:=0) (by omega);obtain rfl:y=y7:=(List.cons.inj aQ).1;obtain rfl:ny=2:=ap.len.symm.trans D3.o;obtain⟨bK,oy,vy,rfl, -,aP, -,t1, -, -⟩:=ap.val (k:=1) (by omega);have aM:vy.num=2:=(by simpa[List.getD_eq_getElem?_getD,(iR aP).1] using D4.o);rw[aM]at t1;obtain⟨b8,o8,p8,rfl, -,aD,Ap,np,cp,Aq,nq,cq,p0,p1,p2,p3, -,an, -, -⟩:=ah.quar (k:=0) (by omega);obtain rfl:p=p8:=(List.cons.inj aD).1;obtain⟨bJ,bO,q8,ak, -,aE,bb,bN,bL,bc,ba,bM,q0,q1,q2,q3, -,ao, -, -⟩:=ah.quar (k:=1) (by omega);injection ak with ak;injection ak with e8a e8b;subst e8a e8b;obtain rfl:q=q8:=(List.cons.inj aE).1;obtain rfl:nq=1:=an.len.symm.trans D7.o;obtain rfl:ba=1:=ao.len.symm.trans aT.o;obtain⟨bs,os,s8,rfl, -,aK,s0, -⟩:=an.str (k:=0) (by omega);obtain⟨bu,ou,u8,rfl, -,aN,u0, -⟩:=ao.str (k:=0) (by omega);have aL:s8=⟨#[117]⟩:=ba_eq (by rw[show s8.toList=[117] from by simpa[List.getD_eq_getElem?_getD,(iR aK).1] using D8.o];decide+kernel);have aO:u8=⟨#[103]⟩:=ba_eq (by rw[show u8.toList=[103] from by simpa[List.getD_eq_getElem?_getD,(iR aN).1] using aU.o];decide+kernel);have aJ:p.relation=⟨#[114]⟩:=ba_eq (D6.o.trans (by decide+kernel));rw[aL]at s0;rw[aO]at u0;rw[aJ]at p0;rw[D9.o]at q2;clear aK aN aL aO aJ aQ aP aM aD aE an ao ap am ah;(try simp only[Nat.zero_mul,Nat.add_zero,Nat.one_mul,Nat.zero_add]at t0 t1 p0 p1 p2 p3 q0 q1 q2 q3 s0 u0)))
 all_goals(go_wp2;go_ret;exact⟨rfl,fH aV.o O.o⟩)
theorem Cj (w:World)(gb:Nat)(A:Option Addr)(n c:Nat)(l:List Int)(i:Nat)(g:Num w gb A n c l i)(a:Option Addr)(b c1:Nat)(d:Off w gb a b c1 lQ)(m:Int)(r:0<=m)(s:m<=1000):
  Calls Tryz.prog 19 #[.slice a b c1,.pointer (some ⟨gb,0,none⟩),.int .i64 m] w
   λe w'=>(∃A' c' zs j,e=.returned (.slice A' zs.length c')/\Hi w.heap.size w' A' zs.length c' zs/\uX lQ zs/\Num w' gb A n c l j)/\w.grownBy w' (some gb):=by
 have p:=d.inn.len;refine(GH w gb A n c l i g a b c1 lQ d DN (by rw[<-p];decide) m r s).mono ?_;rintro e w' ⟨v,xs,zs,q,j,rfl,h,x,y,u,t,k⟩;obtain⟨f,c4,rfl,o⟩:=h.hi;exact⟨⟨f,c4,zs,j,rfl,o,⟨xs,q,x,y,u⟩,t⟩,k⟩
theorem Hi.low {α:Type}[Rep α]{B a n c:Nat}{w:World}{A:Option Addr}{xs:List α}(h:Hi a w A n c xs)(d:B<=a):Hi B w A n c xs:=Sl.mono (λk b=>⟨Nat.le_trans d b.1,b.2⟩) h
theorem Hu {V:World}{B d n c:Nat}{xs:List Col}(h:In V (some ⟨d,0,none⟩) n c xs)(hd:B<=d):Hi B V (some ⟨d,0,none⟩) n c xs:=
 Pv h (λ_ _ _ _ h=>h) λb off e=>by injection e with e;injection e with e1 e2;omega
def gZ (B:Nat)(V a:World):Prop:=V.heap.size<=a.heap.size/\ ∀k,B<=k->k<V.heap.size->a.heap[k]?=V.heap[k]?
theorem gZ.below {B:Nat}{V a:World}(hb:Below V.heap.size V a):gZ B V a:=⟨hb.size,λk _ b=>hb.block k b⟩
theorem gZ.grown {B g:Nat}{V a:World}(b:V.grownBy a (some g))(h:g<B):gZ B V a:=⟨b.size,λk d c=>b.block k c λe=>by injection e with e;omega⟩
theorem gZ.trans {B:Nat}{a b c:World}(h:gZ B a b)(d:gZ B b c):gZ B a c:=⟨Nat.le_trans h.1 d.1,λk e f=>(d.2 k e (Nat.lt_of_lt_of_le f h.1)).trans (h.2 k e f)⟩
theorem gZ.set {B g:Nat}{a b:World}(h:gZ B a b)(e:a.heap.size<=g)(o:Nat)(v:Value):gZ B a (b.setCell ⟨g,o,none⟩ v):=
 ⟨by simpa using h.1,λk c d=>(Below.heap_setCell _ _ _ k (λq=>by have q:k=g:=q;omega)).trans (h.2 k c d)⟩
theorem Hi.up30 {α:Type}[Rep α]{B n c:Nat}{V b:World}{A:Option Addr}{xs:List α}(h:Hi B V A n c xs)(d:gZ B V b):Hi B b A n c xs:=
 (Sl.keep (λk (a:B<=k/\k<V.heap.size)=>d.2 k a.1 a.2) h).mono λk (a:B<=k/\k<V.heap.size)=>⟨a.1,Nat.lt_of_lt_of_le a.2 d.1⟩
theorem jo.up30 {B d:Nat}{V a:World}{t:TypeId}{l:List Value}(h:jo V d t l)(hd:B<=d)(b:gZ B V a):jo a d t l:=(b.2 d hd h.lt).trans h
theorem zD {V w:World}{g:Nat}{A:Option Addr}{n c:Nat}{l:List Int}(hb:jo V g 64 [.slice A n c,.int .i64 0])(a:In w A n c l)(hw:Below w.heap.size w V)(d:w.heap.size<=g)(b:n<=1048576):Num V g A n c l 0:=
 ⟨hb.at 0 rfl,hb.at 1 rfl,⟨_,hb,rfl⟩,(a.keep (Same.below hw)).mono λk (e:k<w.heap.size)=>by omega,Nat.zero_le _,b⟩
def om:Nat->ByteArray
 | 0=>⟨#[97]⟩
 | 1=>⟨#[98]⟩
 | 2=>⟨#[99]⟩
 | 3=>⟨#[100]⟩
 | _=>⟨#[101]⟩
theorem Lm {i j:Nat}(hi:i<5)(c:j<5)(h:om i=om j):i=j:=by
 have a:i=0\/i=1\/i=2\/i=3\/i=4:=by omega
 have b:j=0\/j=1\/j=2\/j=3\/j=4:=by omega
 rcases a with rfl|rfl|rfl|rfl|rfl<;>rcases b with rfl|rfl|rfl|rfl|rfl<;>first|rfl|(exfalso;revert h;decide)
theorem Lp (k:Nat):Str (om k):=by
 unfold om Str
 split<;>decide
def Dz (w Wo:World)(B g4 gg gh:Nat):Prop:=w.heap.size<=g4/\g4<gg/\gg<gh/\gh<B/\B<=Wo.heap.size
structure S30 (w Wo:World) (B g4 gg gh:Nat) (A:Option Addr) (n c:Nat) (l:List Int) (A2:Option Addr) (n2 c2:Nat) (l2:List Int) (V:World):Prop where
 ng: ∃j,Num V gg A n c l j
 nh: ∃j,Num V gh A2 n2 c2 l2 j
 k4:jo V g4 29 [.string ⟨#[]⟩,.slice none 0 0,.slice none 0 0,.slice none 0 0]
 up:gZ B Wo V
 bel:Below w.heap.size w V
section
variable {w Wo V a:World}{B g4 gg gh:Nat}{A:Option Addr}{n c:Nat}{l:List Int}{A2:Option Addr}{n2 c2:Nat}{l2:List Int}
theorem S30.below (h:S30 w Wo B g4 gg gh A n c l A2 n2 c2 l2 V)(hb:Below V.heap.size V a):S30 w Wo B g4 gg gh A n c l A2 n2 c2 l2 a:=by
 obtain⟨j,b⟩:=h.ng;obtain⟨e,d⟩:=h.nh;exact⟨⟨j,b.below hb⟩,⟨e,d.below hb⟩,h.k4.below hb,h.up.trans (gZ.below hb),fH h.bel hb⟩
theorem S30.nexth (h:S30 w Wo B g4 gg gh A n c l A2 n2 c2 l2 V)(g:Dz w Wo B g4 gg gh){j:Nat}(f:Num a gh A2 n2 c2 l2 j)(b:V.grownBy a (some gh)):S30 w Wo B g4 gg gh A n c l A2 n2 c2 l2 a:=by
 obtain⟨o,p,q,m,r⟩:=g;obtain⟨i,d⟩:=h.ng;exact⟨⟨i,d.grown b λk e=>by injection e with e;omega⟩,⟨j,f⟩,h.k4.grown b (λe=>by injection e with e;omega),h.up.trans (gZ.grown b m),kM h.bel b h.bel.size (by omega)⟩
theorem S30.nextg (h:S30 w Wo B g4 gg gh A n c l A2 n2 c2 l2 V)(i:Dz w Wo B g4 gg gh)(g:In w A2 n2 c2 l2){j:Nat}(f:Num a gg A n c l j)(b:V.grownBy a (some gg)):S30 w Wo B g4 gg gh A n c l A2 n2 c2 l2 a:=by
 obtain⟨m,o,p,q,r⟩:=i;obtain⟨k,d⟩:=h.nh;exact⟨⟨j,f⟩,⟨k,d.other g h.bel (by omega) (by omega) (by omega) b⟩,h.k4.grown b (λe=>by injection e with e;omega),h.up.trans (gZ.grown b (by omega)),kM h.bel b h.bel.size (by omega)⟩
theorem S30.own (h:S30 w Wo B g4 gg gh A n c l A2 n2 c2 l2 V)(m:Dz w Wo B g4 gg gh){r:Option Nat}(b:V.grownBy a r)(d: ∀k,r=some k->Wo.heap.size<=k):S30 w Wo B g4 gg gh A n c l A2 n2 c2 l2 a:=by
 obtain⟨q,s,t,u,v⟩:=m;obtain⟨o,g⟩:=h.ng;obtain⟨p,i⟩:=h.nh;refine⟨⟨o,g.grown b λk e=>by have:=d k e;omega⟩,⟨p,i.grown b λk e=>by have:=d k e;omega⟩,h.k4.grown b (λe=>by have:=d g4 e.symm;omega),⟨Nat.le_trans h.up.1 b.size,λk j f=>?_⟩,h.bel.grown b h.bel.size λk e=>by have:=d k e;omega⟩;exact(b.block k (Nat.lt_of_lt_of_le f h.up.1) λe=>by have:=d k e.symm;omega).trans (h.up.2 k j f)
theorem S30.set (h:S30 w Wo B g4 gg gh A n c l A2 n2 c2 l2 V)(b:Dz w Wo B g4 gg gh){g:Nat}(d:Wo.heap.size<=g)(o:Nat)(v:Value):S30 w Wo B g4 gg gh A n c l A2 n2 c2 l2 (V.setCell ⟨g,o,none⟩ v):=
 h.own b iO λk e=>by injection e with e;omega
end
def JP (a:Nat)(V:World)(A':Option Addr)(n' c':Nat)(A'':Option Addr)(n'' c'':Nat)(A3:Option Addr)(n3 c3:Nat)(b:Chk):Prop:=
 Sl V (BS a (λ_=>False) [9,89] V) A' n' c' b.cols/\Sl V (BS a (λ_=>False) [9,89] V) A'' n'' c'' b.ocols/\Sl V (BS a (λ_=>False) [9,89] V) A3 n3 c3 b.cond
def rQ (b k:Nat)(V:World)(g:Nat):Prop:= ∃(a:Chk) (A':Option Addr) (n' c':Nat) (A'':Option Addr) (n'' c'':Nat) (A3:Option Addr) (n3 c3:Nat),kL a/\a.name=om k/\Str a.table/\jo V g 48 (fZ a A' n' c' A'' n'' c'' A3 n3 c3)/\JP b V A' n' c' A'' n'' c'' A3 n3 c3 a
theorem vK {α:Type}[Rep α]{w w':World}{B n c:Nat}{O:Nat->Prop}{T:List TypeId}{A:Option Addr}{xs:List α}(hs:Sl w (BS B O T w) A n c xs)(a: ∀k,BS B O T w k->w'.heap[k]?=w.heap[k]?):Sl w' (BS B O T w') A n c xs:=
 (Sl.keep (λk h=>a k h) hs).mono λk h=>h.kept (a k h)
theorem JP.kept {a:Nat}{V c:World}{A':Option Addr}{n' c':Nat}{A'':Option Addr}{n'' c'':Nat}{A3:Option Addr}{n3 c3:Nat}{d:Chk}(h:JP a V A' n' c' A'' n'' c'' A3 n3 c3 d)(b: ∀k,BS a (λ_=>False) [9,89] V k->c.heap[k]?=V.heap[k]?):JP a c A' n' c' A'' n'' c'' A3 n3 c3 d:=
 ⟨vK h.1 b,vK h.2.1 b,vK h.2.2 b⟩
theorem Kc {d:Nat}{V:World}{k:Nat}(h:BS d (λ_=>False) [9,89] V k){t:TypeId}{g:Nat}(a:iF V t g)(b:t≠9/\t≠89):k≠g:=λe=>by
 subst e;rcases h with ⟨h,_⟩|⟨_,f,c,h⟩
 ·exact h
 ·simp only[List.mem_cons,List.not_mem_nil,or_false]at c;rcases c with rfl|rfl
  ·exact iF.ne a h b.1 rfl
  ·exact iF.ne a h b.2 rfl
theorem JP.below {a:Nat}{V b:World}{A':Option Addr}{n' c':Nat}{A'':Option Addr}{n'' c'':Nat}{A3:Option Addr}{n3 c3:Nat}{c:Chk}(h:JP a V A' n' c' A'' n'' c'' A3 n3 c3 c)(d:a<=V.heap.size)(hb:Below V.heap.size V b):JP a b A' n' c' A'' n'' c'' A3 n3 c3 c:=
 h.kept λk e=>hb.block k (e.lt d)
theorem JP.off {a:Nat}{V b:World}{A':Option Addr}{n' c':Nat}{A'':Option Addr}{n'' c'':Nat}{A3:Option Addr}{n3 c3:Nat}{c:Chk}(h:JP a V A' n' c' A'' n'' c'' A3 n3 c3 c)(f:a<=V.heap.size){g:Nat}{t:TypeId}(i:iF V t g)(j:t≠9/\t≠89)(hb:V.grownBy b (some g)):JP a b A' n' c' A'' n'' c'' A3 n3 c3 c:=
 h.kept λk d=>hb.block k (d.lt f) λe=>Kc d i j (by injection e)
theorem rQ.below {a k g:Nat}{V b:World}(h:rQ a k V g)(l:a<=V.heap.size)(hb:Below V.heap.size V b):rQ a k b g:=by
 obtain⟨c,A',n',c',A'',n'',c'',A3,n3,c3,d,e,f,i,j⟩:=h;exact⟨c,A',n',c',A'',n'',c'',A3,n3,c3,d,e,f,i.below hb,j.below l hb⟩
theorem rQ.nexth {a k g gh:Nat}{V b:World}(h:rQ a k V g)(n:a<=V.heap.size){t:TypeId}(q:iF V t gh)(p:t≠9/\t≠89)(o:gh≠g)(c:V.grownBy b (some gh)):rQ a k b g:=by
 obtain⟨d,A',n',c',A'',n'',c'',A3,n3,c3,f,i,j,l,m⟩:=h;exact⟨d,A',n',c',A'',n'',c'',A3,n3,c3,f,i,j,l.grown c (λe=>by injection e with e;exact o e.symm),m.off n q p c⟩
theorem Em {c:Chk}(h:kL c)(t:ByteArray):kL {c with table:=t}:=by
 obtain⟨d,b,a⟩:=h;refine⟨d,b,?_⟩;simp only[qy,List.mem_cons,List.not_mem_nil,or_false]at a⊢;rcases a with h|h|h|h|h|h|h|h|h<;>rw[h]<;>simp[nI]
theorem rQ.table {a k g:Nat}{V:World}(h:rQ a k V g)(i:a<=V.heap.size)(t:ByteArray)(j:Str t):rQ a k (V.setCell ⟨g,1,none⟩ (.string t)) g:=by
 obtain⟨c,A',n',c',A'',n'',c'',A3,n3,c3,d,e,l,b,f⟩:=h;refine⟨{c with table:=t},A',n',c',A'',n'',c'',A3,n3,c3,Em d t,e,j,b.set 1 _,?_⟩;exact f.off i b.ty ⟨by decide,by decide⟩ iO
theorem zR {V:World}{f d n:Nat}{xs:List ByteArray}(hb:jo V d 9 (xs.map Value.string))(hd:f<=d)(p:xs.length=n)(o:n<=maxLen)(hs: ∀s∈xs,Str s):Sl V (BS f (λ_=>False) [9,89] V) (some ⟨d,0,none⟩) n n xs:=by
 have k: ∀(xs:List ByteArray) (S:Nat->Prop),(∀s∈xs,Str s)->Cells V S (xs.map Value.string) xs:=by
  intro xs
  induction xs with
  |nil=>intro S _;rfl
  |cons x l t=>intro S h;exact⟨[.string x],l.map Value.string,rfl,⟨rfl,h x (by simp)⟩,t S λy r=>h y (by simp[r])⟩
 have a:In V (some ⟨d,0,none⟩) n n xs:=l6 hb (by simpa using k xs _ hs) p o;refine⟨a.1,a.2.1,a.2.2.1,a.2.2.2.1,λq=>?_⟩;obtain⟨b,off,e,u,hi⟩:=a.2.2.2.2 q;have c:=e;injection c with c;injection c with e3 e4;subst e3;refine⟨d,off,e,.inr ⟨hd,_,by simp,hb.ty⟩,λi m=>?_⟩;obtain⟨g,a,j⟩:=hi i m;exact⟨g,a,j⟩
theorem Ah (xs:List Node)(w:World)(S:Nat->Prop)(h: ∀x∈xs,x.ok):Cells w S (xs.flatMap Node.cells) xs:=by
 induction xs with
 |nil=>rfl
 |cons x l b=>exact⟨x.cells,l.flatMap Node.cells,rfl,⟨rfl,h x (by simp)⟩,b λy a=>h y (by simp[a])⟩
theorem O0: ∀x∈Ev,x.ok:=by
 intro x a;simp only[Ev,List.mem_cons,List.not_mem_nil,or_false]at a;rcases a with rfl|rfl|rfl<;>refine⟨⟨by decide,by decide⟩,⟨⟨by decide,by decide⟩,⟨by decide,by decide⟩,?_⟩,?_,⟨by decide,by decide⟩,by simp[Fq]⟩<;>(unfold Str;decide)
theorem O6 {V:World}{f d:Nat}(hb:jo V d 89 (Ev.flatMap Node.cells))(hd:f<=d):Sl V (BS f (λ_=>False) [9,89] V) (some ⟨d,0,none⟩) 3 3 Ev:=by
 have a:In V (some ⟨d,0,none⟩) 3 3 Ev:=l6 hb (by simpa using Ah Ev V _ O0) rfl (by decide);refine⟨a.1,a.2.1,a.2.2.1,a.2.2.2.1,λk=>?_⟩;obtain⟨b,off,e,l,hi⟩:=a.2.2.2.2 k;have c:=e;injection c with c;injection c with e3 e4;subst e3;refine⟨d,off,e,.inr ⟨hd,_,by simp,hb.ty⟩,λi j=>?_⟩;obtain⟨g,a,h⟩:=hi i j;exact⟨g,a,h⟩
theorem OL.up30 {α:Type}[Rep α]{e:TypeId}{B:Nat}{T:List TypeId}{V c:World}{v:Value}{xs:List α}(h:OL e B (λ_=>False) T V v xs)(b:gZ B V c):OL e B (λ_=>False) T c v xs:=
 h.kept (λk a=>by
  rcases a with (⟨a,_⟩|⟨a,t,_,ht⟩)|a
  ·exact a.elim
  ·exact b.2 k a ht.lt
  ·exact b.2 k (h.ty a).1 (h.ty a).2.lt) b.1
theorem KX {c:Chk}(h:kL c):jU c.kind/\Str c.other/\jU c.low/\jU c.high/\jU c.ln/\jU c.ld/\jU c.mn/\jU c.md/\jU c.policy:=by
 obtain⟨d,b,a⟩:=h;obtain⟨e,f,g,i,j,k,m,n,o,p,q⟩:=lF;have l:jU d:=by rcases b with rfl|rfl<;>assumption
 simp only[qy,List.mem_cons,List.not_mem_nil,or_false]at a;rcases a with h|h|h|h|h|h|h|h|h<;>rw[h]<;>simp only[nI]<;>refine⟨?_,?_,?_,?_,?_,?_,?_,?_,?_⟩<;>assumption
theorem Kj {g:Nat}{V:World}{A':Option Addr}{n' c':Nat}{A'':Option Addr}{n'' c'':Nat}{A3:Option Addr}{n3 c3 k:Nat}{c:Chk}(h:JP g V A' n' c' A'' n'' c'' A3 n3 c3 c)(n:kL c)(o:c.name=om k)(p:Str c.table):
  Rep.rd V (BS g (λ_=>False) [9,89] V) (fZ c A' n' c' A'' n'' c'' A3 n3 c3) c:=by
 obtain⟨a,b,d,e,f,i,j,l,m⟩:=KX n;exact⟨_,_,_,_,_,_,_,_,_,rfl,h.1,h.2.1,h.2.2,by rw[o];exact Lp k,p,a,b,d,e,f,i,j,l,m⟩
theorem FE:Elem Tryz.prog 39 48 14 184:=mU (.agg #[.string ⟨#[]⟩,.string ⟨#[]⟩,.int .i64 0,.slice none 0 0,.string ⟨#[]⟩,.slice none 0 0,.int .i64 0,.int .i64 0,.slice none 0 0,.int .i64 0,.int .i64 0,.int .i64 0,.int .i64 0,.int .i64 0]) Tryz.underlying39 (by kernel_rfl) rfl (by decide)
theorem FJ:Elem Tryz.prog 22 33 2 40:=mU (.agg #[.string ⟨#[]⟩,.slice none 0 0]) Tryz.underlying22 (by kernel_rfl) rfl (by decide)
theorem qd {α:Type}[Rep α]{V:World}{S:Nat->Prop}:Sl (α:=α) V S none 0 0 []:=⟨rfl,Nat.le_refl _,by omega,λ_=>rfl,λh=>by omega⟩
end Go.Proofs.YtopjjlmfilgngaaGreatDoor
