/-
  warehouseref30.otherOf, Reasons. (Printed by gen_rsr.py.) The reasons of the laws' checks, in plain lists: both sides answer alike, and a row that is held has a reason for each of its names.
-/
import Derived.Test.YtopjjlmfilgngaaGreatDoorRsA
import Derived.Test.YtopjjlmfilgngaaGreatDoorExR
namespace Go.Proofs.YtopjjlmfilgngaaGreatDoor
set_option maxHeartbeats 8000000
set_option maxRecDepth 100000
open Go.RowKit Go.Maps
set_option linter.unusedSimpArgs false
set_option linter.unusedVariables false
def DX:Nat->List Nat
 | 2=>[1]
 | 3=>[2]
 | 4=>[0]
 | 5=>[3]
 | _=>[]
def F9:Nat->Nat
 |j=>j
def Pi:Nat->List Nat
 | _=>[]
def JW (c0 b:Nat)(a:ByteArray)(Z:Bool):Nat->Value->Value->World->Prop
 | 0,v,u,V=>v=.agg #[.string ⟨#[]⟩,.slice none 0 0,.slice none 0 0,.slice none 0 0]
 | 1,v,u,V=>v=.pointer (some ⟨c0,4,none⟩)
 | 2,v,u,V=>v=.string a
 | 3,v,u,V=>v=.bool Z
 | 4,v,u,V=>True
 | 5,v,u,V=>v=.bool Z
 | _,_,_,_=>True
theorem Je: ∀j,F9 j=j\/F9 j∈DX j:=λj=>by
 exact .inl rfl
theorem JX (c0 b:Nat)(c:ByteArray)(Z:Bool): ∀j v u V a,(λ_ _=>True) V a->JW c0 b c Z j v u V->JW c0 b c Z j v u a:=λj v u V a h q=>by
 match j,q with
 | 0,q=>exact q
 | 1,q=>exact q
 | 2,q=>exact q
 | 3,q=>exact q
 | 4,q=>exact q
 | 5,q=>exact q
 |(n+6),_=>exact trivial
theorem Kb {w:World}{g t:Nat}{a b c d:Value}(h:iy w g t 4)(f:w.cell? ⟨g,0,none⟩=some a)(j:w.cell? ⟨g,1,none⟩=some b)(l:w.cell? ⟨g,2,none⟩=some c)(m:w.cell? ⟨g,3,none⟩=some d):jo w g t [a,b,c,d]:=by
 obtain⟨e,n,hs⟩:=h;rw[cell_of_row w g _ e t (0,0) n]at f j l m;have:e=[a,b,c,d].toArray:=by
  apply Array.ext_getElem?;intro i
  match i with
  | 0=>simpa using f
  | 1=>simpa using j
  | 2=>simpa using l
  | 3=>simpa using m
  |k+4=>rw[Array.getElem?_eq_none (by omega),Array.getElem?_eq_none (by simp)]
 rw[jo,n,this]
theorem EM (w:World)(x:Chk)(A:Option Addr)(n c:Nat)(A':Option Addr)(n' c':Nat)(A'':Option Addr)(n'' c'':Nat)(Q:Option Addr)(n9 X:Nat)(g:List Rel)(hx:In w Q n9 X g):
  Calls Tryz.prog 54 #[.agg (fZ x A n c A' n' c' A'' n'' c'').toArray,.slice Q n9 X] w
   λe w'=>(∃on A2 n2 c2 Al nl cl A4 n4 c4,e=.returned (.tuple #[.agg #[.string on,.slice A2 n2 c2,.slice Al nl cl,.slice A4 n4 c4],.bool ((gI x g).1==0)])/\In w' A2 n2 c2 (gI x g).2.columns/\In w' A4 n4 c4 (gI x g).2.rows)/\Below w.heap.size w w':=by
 obtain⟨d,hz⟩: ∃z,x.other.toList.isEmpty=z:=⟨_,rfl⟩;have af:=Hm hz;have j:=Hm (show gI x g=if d=true then(0,ug) else ul (g.find? (zN x.other)) from by rw[gI,jI,hz]);obtain⟨R,hR⟩: ∃R,gI x g=R:=⟨_,rfl⟩;rw[hR]at j⊢;clear hR hz;obtain⟨P,hP⟩: ∃P,zN x.other=P:=⟨_,rfl⟩;have HP:=Hm hP;rw[hP]at j;clear hP;have aS:=hx.le;simp only[fZ];have am:=Hm hx;have al:Hl (d=false->R=ul ((g.drop 0).find? P)):=Hm (λh=>by rw[j.o,h];rfl);go_enter Tryz.func54,Tryz.ntmps54;clear hx;go_upto_region 1 with (fail);obtain⟨W1,ag⟩: ∃W,W=w.alloc (.cells #[.string x.name,.string x.table,.int .i64 x.kind,.slice A n c,.string x.other,.slice A' n' c',.int .i64 x.low,.int .i64 x.high,.slice A'' n'' c'',.int .i64 x.ln,.int .i64 x.ld,.int .i64 x.mn,.int .i64 x.md,.int .i64 x.policy] 48):=⟨_,rfl⟩;obtain⟨ar,ap,B,g1,g2,g3,g4,g5,g6,g7,g8,g9,aa,ab,ac,ad⟩:=iE ag rfl;rw[<-ag];clear ag;have aF:=Hm ar;clear ar;have LR:=lt_of_cell B;obtain⟨W2,ae⟩: ∃W,W=W1.alloc (.cells #[.string ⟨#[]⟩,.slice none 0 0,.slice none 0 0,.slice none 0 0] 29):=⟨_,rfl⟩;obtain⟨au,aR,O,z1,z2,z3⟩:=jV (b:=w.heap.size+1) ae (by rw[ap.o]);have u:Hl (iy W2 (w.heap.size+1) 29 4):=Hm (by rw[<-ap.o,ae];exact iy.made _ _ _ _ rfl);rw[<-ae];clear ae;have o2:=lq B g1 g2 g3 g4 g5 g6 g7 g8 g9 aa ab ac ad;have ao:=Hm au;clear au;have L2:=lt_of_cell O;obtain⟨LR,B,g1,g2,g3,g4,g5,g6,g7,g8,g9,aa,ab,ac,ad⟩:=o2.o _ ao.o;go_wp2;all_goals(try(exfalso;go_light;simp_all;done));go_loopw [6] (λi wr=> ∃k:Nat,k<=n9/\i=.int .i64 k/\(d=false->R=ul ((g.drop k).find? P))/\Below W2.heap.size W2 wr) (λi _=>n9-(intOf i).toNat)
 case atStart=>exact⟨0,Nat.zero_le _,rfl,al.o,Below.refl _ _⟩
 case round=>
  obtain⟨k,hk,rfl,av,hb⟩:=hrel;have HE:=Hm av;clear av al;have o4:=rE (lq B g1 g2 g3 g4 g5 g6 g7 g8 g9 aa ab ac ad) (kJ O z1 z2 z3);have l:=Hm hb;clear hb;have ai:=Hm l.o;have q:=Hm (fH (fH aF.o ao.o) l.o);obtain⟨⟨LR,B,g1,g2,g3,g4,g5,g6,g7,g8,g9,aa,ab,ac,ad⟩,L2,O,z1,z2,z3⟩:=o4.o _ l.o;have ah:=g4;by_cases aG:k<n9
  ·obtain⟨b,off,y,rfl,C,an,S,m1,Y,T,m2,Z,U,m3,d3,f0,f1,f2,f3,i1,i3⟩:=am.o.rel aG;have aB:=Hm i1;have aC:=Hm i3;have aP:=Hm C;clear i1 i3;have e0:=fO q.o C f0;have e1:=fO q.o C f1;have e2:=fO q.o C f2;have e3:=fO q.o C f3;clear f0 f1 f2 f3;have k0:(0:Int)<=(k:Int):=by omega
   have k1:(k:Int)<(n9:Int):=by omega
   have ak:Hl (P y=(y.name.toList==x.other.toList)):=Hm (by rw[<-HP.o];rfl);go_upto_region 4 with (fail);obtain⟨N_,hN⟩: ∃b,(y.name.toList==x.other.toList)=b:=⟨_,rfl⟩;have aj:=Hm hN;cases N_
   ·have HN:Hl (d=false->R=ul ((g.drop (k+1)).find? P)):=Hm (λh=>by rw[HE.o h,su an.o,if_neg (by rw[ak.o,aj.o];simp)]);clear ah;go_quiet (fail);go_wp2;all_goals(try(exfalso;go_light;simp_all;done));go_roundw
    case rel=>exact⟨k+1,by omega,by go_num,HN.o,iH ai.o⟩
    case measure=>simp[intOf];omega
   ·cases d
    ·obtain rfl:R=(0,y):=by rw[HE.o rfl,su an.o,if_pos (by rw[ak.o,aj.o])];rfl
     have aH:x.other.toList.isEmpty=false:=af.o;clear ah;go_quiet (fail);have y0:=(u.o.below l.o).frozen 0;have y1:=(u.o.below l.o).frozen 1;have y2:=(u.o.below l.o).frozen 2;have y3:=(u.o.below l.o).frozen 3;go_wp2;all_goals(try(exfalso;go_light;simp_all;done));refine bodyPost_ret (v:=.tuple #[.agg #[.string y.name,.slice S m1 Y,.slice T m2 Z,.slice U m3 d3],.bool true]) (gJ (cs:=[.string y.name,.slice S m1 Y,.slice T m2 Z,.slice U m3 d3]) rfl _ _ _ _ _ rfl rfl (sO O z1 z2 z3) Tryz.underlying29 rfl (by kernel_rfl)) rfl ?_;have s:=Hm (((((iH (n:=nq) q.o).setCell (p:=⟨w.heap.size+1,0,none⟩) (by simp) (.string y.name)).setCell (p:=⟨w.heap.size+1,1,none⟩) (by simp) (.slice S m1 Y)).setCell (p:=⟨w.heap.size+1,2,none⟩) (by simp) (.slice T m2 Z)).setCell (p:=⟨w.heap.size+1,3,none⟩) (by simp) (.slice U m3 d3));exact⟨⟨_,S,m1,Y,T,m2,Z,U,m3,d3,rfl,aB.o.below s.o,aC.o.below s.o⟩,s.o⟩
    ·have aH:x.other.toList.isEmpty=true:=af.o;have HN:Hl (true=false->R=ul ((g.drop (k+1)).find? P)):=Hm (λh=>by cases h);clear ah;go_quiet (fail);go_wp2;all_goals(try(exfalso;go_light;simp_all;done));go_roundw
     case rel=>exact⟨k+1,by omega,by go_num,HN.o,iH ai.o⟩
     case measure=>simp[intOf];omega
  ·have jn:¬(k:Int)<(n9:Int):=by omega
   have aD:Hl (R=if d=true then(0,ug) else(5,ug)):=Hm (by
    cases d
    ·rw[HE.o rfl,List.drop_eq_nil_of_le (by rw[am.o.len];omega)];rfl
    ·rw[j.o];rfl)
   have aE:Hl ((R.1==0)=d/\R.2=ug):=Hm (by rw[aD.o];cases d<;>exact⟨rfl,rfl⟩);have ay:=Hm (Kb (u.o.below l.o) O z1 z2 z3);have aA:=Hm g4;go_upto_region 6 with (fail);refine iW (by kernel_rfl) DX (by kernel_rfl) (λ_ _=>True) (λvs=>⟨#[.agg #[.string x.name,.string x.table,.int .i64 x.kind,.slice A n c,.string x.other,.slice A' n' c',.int .i64 x.low,.int .i64 x.high,.slice A'' n'' c'',.int .i64 x.ln,.int .i64 x.ld,.int .i64 x.mn,.int .i64 x.md,.int .i64 x.policy],.slice Q n9 X,.pointer (some ⟨w.heap.size,0,none⟩),undef,.pointer (some ⟨w.heap.size+1,0,none⟩),(vs.getD 5 (.bool false)),.int .i64 ↑k,.int .i64 ↑k,.slice Q n9 X,.int .i64 ↑n9,.bool false,u11,u12,u13,u14,u15,u16,u17,u18,u19,u20,u21,u22,u23,u24,u25,u26,u27,u28,u29,(vs.getD 0 (.bool false)),(vs.getD 1 (.bool false)),(vs.getD 2 (.bool false)),(vs.getD 3 (.bool false))],[]⟩) 6 (by decide) (λL V=>V.cell? ⟨w.heap.size,4,none⟩=some (.string x.other)/\Below w.heap.size w V/\jo V (w.heap.size+1) 29 [.string ⟨#[]⟩,.slice none 0 0,.slice none 0 0,.slice none 0 0]) F9 Pi (JW w.heap.size (w.heap.size+1) x.other d) (λ_ _=>True) Je (JX w.heap.size (w.heap.size+1) x.other d) [_,_,_,_,.bool false,_] rfl rfl (λ_=>trivial) (⟨aA.o,q.o.drew,ay.o⟩) ?_ ?_
   ·intro L i vs V hi N F hd E D aq;obtain⟨v0,aI,rfl,G⟩:=fJ N;obtain⟨v1,aJ,rfl,H⟩:=fJ G;obtain⟨v2,aK,rfl,I⟩:=fJ H;obtain⟨v3,aL,rfl,J⟩:=fJ I;obtain⟨v4,aM,rfl,K⟩:=fJ J;obtain⟨v5,aN,rfl,M⟩:=fJ K;obtain rfl:=jR M;clear N G H I J K M;have hi:i<6:=hi;have a:=Hm E;have m:=Hm D;have j:=Hm hd;have aQ:=Hm F;have aO:=Hm aq;clear E D hd F aq;obtain rfl|rfl|rfl|rfl|rfl|rfl:i=0\/i=1\/i=2\/i=3\/i=4\/i=5:=by omega
    ·refine fK rfl λt f=>?_;go_simp;exact f.o _ _ ⟨_,rfl,rfl,a.o,.inl trivial⟩
    ·refine fK rfl λt f=>?_;go_simp;exact f.o _ _ ⟨_,rfl,rfl,a.o,.inl trivial⟩
    ·obtain rfl:=fT m j 1 rfl rfl;have y0:=a.o.1;refine fK rfl λt f=>?_;go_simp;exact f.o _ _ ⟨_,rfl,rfl,a.o,.inl trivial⟩
    ·obtain rfl:=fT m j 2 rfl rfl;refine fK rfl λt f=>?_;go_simp;exact f.o _ _ ⟨_,rfl,show Value.bool _=Value.bool d from by rw[<-af.o],a.o,.inl trivial⟩
    ·obtain rfl:=fT m j 0 rfl rfl;have r:=Hm a.o.2.2;obtain⟨aT,k0,k1,k2,k3⟩:=a.o.2.2.ats4;have f0:=r.o.fz 0;have f1:=r.o.fz 1;have f2:=r.o.fz 2;have f3:=r.o.fz 3;refine fK rfl λt f=>?_;go_simp;exact f.o _ _ ⟨.bool false,rfl,trivial,⟨fM (fM (fM (fM a.o.1 (.inl (by simp))) (.inl (by simp))) (.inl (by simp))) (.inl (by simp)),kN (kN (kN (kN a.o.2.1 (by simp) _ _) (by simp) _ _) (by simp) _ _) (by simp) _ _,r.o.set4 rfl⟩,.inl trivial⟩
    ·obtain rfl:=fT m j 3 rfl rfl;refine fK rfl λt f=>?_;go_simp;exact f.o _ _ ⟨_,rfl,rfl,a.o,.inl trivial⟩
   ·intro L vs V F N E D;obtain⟨v0,aI,rfl,G⟩:=fJ N;obtain⟨v1,aJ,rfl,H⟩:=fJ G;obtain⟨v2,aK,rfl,I⟩:=fJ H;obtain⟨v3,aL,rfl,J⟩:=fJ I;obtain⟨v4,aM,rfl,K⟩:=fJ J;obtain⟨v5,aN,rfl,M⟩:=fJ K;obtain rfl:=jR M;clear N G H I J K M;have a:=Hm E;have m:=Hm D;have HL:=Hm F;clear E D F;obtain rfl:v5=.bool d:=m.o 5 (by show 5<6;omega) rfl;have s:=Hm a.o.2.1;have az:=Hm a.o.2.2;clear a m HL;go_wp2;all_goals(try(exfalso;go_light;simp_all;done));obtain⟨aU,aV⟩:=R;obtain⟨aw,ax⟩:=aE.o;dsimp only at aw ax;subst ax;rw[aw];exact bodyPost_ret (v:=.tuple #[.agg #[.string ⟨#[]⟩,.slice none 0 0,.slice none 0 0,.slice none 0 0],.bool d]) (gJ (cs:=[.string ⟨#[]⟩,.slice none 0 0,.slice none 0 0,.slice none 0 0]) rfl _ _ _ _ _ rfl rfl az.o.all Tryz.underlying29 rfl (by kernel_rfl)) rfl ⟨⟨_,none,0,0,none,0,0,none,0,0,rfl,In.nil_,In.nil_⟩,s.o⟩
theorem II (w:World)(x:Chk)(A:Option Addr)(n c:Nat)(B:In w A n c x.cols)(A':Option Addr)(n' c':Nat)(C:In w A' n' c' x.ocols)(A'':Option Addr)(n'' c'':Nat)(F:In w A'' n'' c'' x.cond)(hw:Words w)(r:ByteArray)(f:Option Addr)(d c1:Nat)(cols:List Col)(z:In w f d c1 cols)(m:Option Addr)(q p:Nat)(A3:Option Addr)(n3 c3:Nat)(rows:List Ent)(G:In w A3 n3 c3 rows)(on:ByteArray)(A2:Option Addr)(n2 c2:Nat)(a:List Col)(D:In w A2 n2 c2 a)(o:Option Addr)(nl cl:Nat)(g:Option Addr)(n4 c4:Nat)(b:List Ent)(E:In w g n4 c4 b)(h:Option Addr)(n5 j:Nat)(zs:List Zone)(I:In w h n5 j zs)(t:n<=4096)(u:n'<=4096)(v:d<=4096)(y:n2<=4096)(i:Option Addr)(l k:Nat)(row:List Val)(H:In w i l k row)(N:n''<=4096)(M:¬x.kind=5):
  Calls Tryz.prog 55 #[.agg (fZ x A n c A' n' c' A'' n'' c'').toArray,.agg #[.string r,.slice f d c1,.slice m q p,.slice A3 n3 c3],.agg #[.string on,.slice A2 n2 c2,.slice o nl cl,.slice g n4 c4],.slice h n5 j,.slice i l k] w
   λe w'=>(∃K L,e=.returned (.tuple #[.agg #[.string (nJ x cols a rows b zs row).2.name,K,L],.int .i64 (nJ x cols a rows b zs row).1])/\OL 36 w.heap.size (λ_=>False) [] w' K (nJ x cols a rows b zs row).2.values/\OL 23 w.heap.size (λ_=>False) [36] w' L (nJ x cols a rows b zs row).2.rows)/\Below w.heap.size w w':=by
 by_cases s:gP x cols a rows b zs=0
 ·by_cases J:cntF (jg x cols a rows b zs).2 row=0
  ·exact FN w x A n c B A' n' c' C A'' n'' c'' F hw r f d c1 cols z m q p A3 n3 c3 rows G on A2 n2 c2 a D o nl cl g n4 c4 b E h n5 j zs I t u v y i l k row H s J
  ·exact IK w x A n c B A' n' c' C A'' n'' c'' F hw r f d c1 cols z m q p A3 n3 c3 rows G on A2 n2 c2 a D o nl cl g n4 c4 b E h n5 j zs I t u v y i l k row H s J N M
 ·exact IJ w x A n c B A' n' c' C A'' n'' c'' F hw r f d c1 cols z m q p A3 n3 c3 rows G on A2 n2 c2 a D o nl cl g n4 c4 b E h n5 j zs I t u v y i l k row H _ rfl s
def Ms (a nm:ByteArray)(c:Chk):Bool:=ownB a c&&Gh nm c
def AR (b:List Chk)(e:ByteArray)(a:List Rel)(d:List Col)(f:List Ent)(zs:List Zone)(row:List Val)(nm:ByteArray):Int×Rsn:=
 match b.find? (Ms e nm) with
 |none=>(5,jT)
 |some c=>if (gI c a).1≠0 then(5,jT) else nJ c d (gI c a).2.columns f (gI c a).2.rows zs row
theorem Ca {cs:List Chk}{rn:ByteArray}{others:List Rel}{rc:List Col}{rr:List Ent}{zs:List Zone}{row:List Val}{nm:ByteArray}(h:cs.find? (Ms rn nm)=none):AR cs rn others rc rr zs row nm=(5,jT):=by rw[AR,h]
theorem Cb {cs:List Chk}{rn:ByteArray}{others:List Rel}{rc:List Col}{rr:List Ent}{zs:List Zone}{row:List Val}{nm:ByteArray}{c:Chk}(h:cs.find? (Ms rn nm)=some c):AR cs rn others rc rr zs row nm=if (gI c others).1≠0 then(5,jT) else nJ c rc (gI c others).2.columns rr (gI c others).2.rows zs row:=by rw[AR,h]
theorem IQ {α:Type}{p:α->Bool}{l:List α}{k:Nat}{x:α}(hd:l.drop k=x::l.drop (k+1))(h:(l.take k).find? p=none):(p x=true->l.find? p=some x)/\(p x=false->(l.take (k+1)).find? p=none):=by
 refine⟨λa=>?_,λa=>?_⟩
 ·rw[<-List.take_append_drop k l,List.find?_append,h,hd,List.find?_cons_of_pos a];rfl
 ·rw[ic hd,List.find?_append,h,List.find?_cons_of_neg (by simp[a])];rfl
def BB:Nat->List Nat
 | 1=>[0]
 | 3=>[2]
 | 4=>[1,3]
 | 5=>[4]
 | 6=>[5]
 | 7=>[5,6]
 | 8=>[5,7]
 | 9=>[5,8]
 | 10=>[9]
 | 11=>[10]
 | 12=>[10,11]
 | 13=>[10]
 | 14=>[10,13]
 | 15=>[10]
 | 16=>[10,14,15]
 | 17=>[10,16]
 | 18=>[10,12,17]
 | 19=>[10,18]
 | _=>[]
def Dc:Nat->Nat
 |j=>j
def Oh:Nat->List Nat
 | _=>[]
def Fp (c c0 d on h g k:Nat)(l j m nm:ByteArray)(i:Int)(b e a f R:Bool):Nat->Value->Value->World->Prop
 | 0,v,u,V=>v=.pointer (some ⟨c,1,none⟩)
 | 1,v,u,V=>v=.string l
 | 2,v,u,V=>v=.pointer (some ⟨c0,0,none⟩)
 | 3,v,u,V=>v=.string j
 | 4,v,u,V=>v=.bool b
 | 5,v,u,V=>v=.bool b
 | 6,v,u,V=>b=false->v=.pointer (some ⟨c,13,none⟩)
 | 7,v,u,V=>b=false->v=.int .i64 i
 | 8,v,u,V=>b=false->v=.bool e
 | 9,v,u,V=>v=.bool a
 | 10,v,u,V=>v=.bool a
 | 11,v,u,V=>a=false->v=.pointer (some ⟨c,0,none⟩)
 | 12,v,u,V=>a=false->v=.string m
 | 13,v,u,V=>a=false->v=.pointer (some ⟨c0+1,3,none⟩)
 | 14,v,u,V=>a=false->v=.slice (some ⟨d,on,none⟩) h g
 | 15,v,u,V=>a=false->v=.int .i64 (k:Int)
 | 16,v,u,V=>a=false->v=.pointer (some ⟨d,on+k,none⟩)
 | 17,v,u,V=>a=false->v=.string nm
 | 18,v,u,V=>a=false->v=.bool f
 | 19,v,u,V=>v=.bool R
 | _,_,_,_=>True
theorem F8: ∀j,Dc j=j\/Dc j∈BB j:=λj=>by
 exact .inl rfl
theorem Ik (i c0 f on l g k:Nat)(p o r nm:ByteArray)(m:Int)(b c d e R:Bool): ∀j v u V a,(λV a=>Below V.heap.size V a) V a->Fp i c0 f on l g k p o r nm m b c d e R j v u V->Fp i c0 f on l g k p o r nm m b c d e R j v u a:=λj v u V a h q=>by
 match j,q with
 | 0,q=>exact q
 | 1,q=>exact q
 | 2,q=>exact q
 | 3,q=>exact q
 | 4,q=>exact q
 | 5,q=>exact q
 | 6,q=>exact q
 | 7,q=>exact q
 | 8,q=>exact q
 | 9,q=>exact q
 | 10,q=>exact q
 | 11,q=>exact q
 | 12,q=>exact q
 | 13,q=>exact q
 | 14,q=>exact q
 | 15,q=>exact q
 | 16,q=>exact q
 | 17,q=>exact q
 | 18,q=>exact q
 | 19,q=>exact q
 |(n+20),_=>exact trivial
theorem EQ (w:World)(r:Rel)(A1:Option Addr)(n1 c1:Nat)(hc:In w A1 n1 c1 r.columns)(Ak:Option Addr)(nk ck:Nat)(A3:Option Addr)(n3 c3:Nat)(hr:In w A3 n3 c3 r.rows)(Ac:Option Addr)(M cc:Nat)(l:List Chk)(hl:In w Ac M cc l)(Ao:Option Addr)(no co:Nat)(F:List Rel)(ho:In w Ao no co F)(Az:Option Addr)(nz cz:Nat)(zs:List Zone)(hz:In w Az nz cz zs)(hw:Words w)(q:Quar)(Aq:Option Addr)(nq cq:Nat)(hq:In w Aq nq cq q.row)(An:Option Addr)(H T:Nat)(hn:In w An H T q.checks)(dG:n1<=4096)(er:M<=4096)(cv: ∀c∈l,c.cols.length<=4096/\c.ocols.length<=4096/\c.cond.length<=4096/\¬c.kind=5)(cw: ∀o∈F,o.columns.length<=4096)(es:H<=4096):
  Calls Tryz.prog 26 #[.agg #[.string r.name,.slice A1 n1 c1,.slice Ak nk ck,.slice A3 n3 c3],.slice Ac M cc,.slice Ao no co,.slice Az nz cz,.agg #[.string q.relation,.slice Aq nq cq,.int .i64 q.count,.slice An H T]] w
   λe w'=>(∃v,e=.returned (.tuple #[v,.int .i64 (pg (AR l r.name F r.columns r.rows zs q.row) q.checks).1])/\OL 78 w.heap.size (λ_=>False) [36,23] w' v (pg (AR l r.name F r.columns r.rows zs q.row) q.checks).2)/\Below w.heap.size w w':=by
 have dp:=Hm cv;have dr:Hl (∀c,(gI c F).2.columns.length<=4096):=Hm (λc=>by
  rw[gI]
  split
  ·exact Nat.zero_le _
  ·cases h:F.find? (zN c.other) with
   |none=>exact Nat.zero_le _
   |some o=>exact cw o (List.mem_of_find?_eq_some h))
 have bL:=Hm (λnm=>Ca (cs:=l) (rn:=r.name) (others:=F) (rc:=r.columns) (rr:=r.rows) (zs:=zs) (row:=q.row) (nm:=nm));have bM:=Hm (λnm c=>Cb (cs:=l) (rn:=r.name) (others:=F) (rc:=r.columns) (rr:=r.rows) (zs:=zs) (row:=q.row) (nm:=nm) (c:=c));obtain⟨C,be⟩: ∃f,AR l r.name F r.columns r.rows zs q.row=f:=⟨_,rfl⟩;simp only[be]at bL bM;rw[be];clear be cv cw;have di:=Hm hn.len;have dh:=Hm hl.len;have ep:=hn.le;have eq:=hl.le;go_enter Tryz.func26,Tryz.ntmps26;have HC:=Hm hc;clear hc;have HR:=Hm hr;clear hr;have HL:=Hm hl;clear hl;have HO:=Hm ho;clear ho;have HZ:=Hm hz;clear hz;have HW:=Hm hw;clear hw;have HQ:=Hm hq;clear hq;have HN:=Hm hn;clear hn;go_upto_region 1 with (fail);obtain⟨W1,bg⟩: ∃W,W=w.alloc (.cells #[.string r.name,.slice A1 n1 c1,.slice Ak nk ck,.slice A3 n3 c3] 29):=⟨_,rfl⟩;obtain⟨cy,dD,r0,r1,r2,r3⟩:=jV bg rfl;rw[<-bg];clear bg;have cg:=Hm cy;clear cy;have L1:=lt_of_cell r0;obtain⟨W2,bj⟩: ∃W,W=W1.alloc (.cells #[.string q.relation,.slice Aq nq cq,.int .i64 q.count,.slice An H T] 57):=⟨_,rfl⟩;obtain⟨cB,en,q0,q1,q2,q3⟩:=jV (b:=w.heap.size+1) bj (by rw[dD.o]);rw[<-bj];clear bj;have o7:=kJ r0 r1 r2 r3;have bd:=Hm cB;clear cB;have L2:=lt_of_cell q0;obtain⟨P,rfl⟩: ∃W,W=W2:=⟨_,rfl⟩;have R:=Hm (fH cg.o bd.o);obtain⟨L1,r0,r1,r2,r3⟩:=o7.o _ bd.o;have a0:=Hm r0;have bP:=Hm r1;have bQ:=Hm r2;have bR:=Hm r3;have dt:=Hm q0;have bO:=Hm q1;have du:=Hm q2;have aZ:=Hm q3;have ae:=Hm L1;have aM:=Hm L2;have Q:=Hm (fH cg.o bd.o);have dc:=Hm (HC.o.below Q.o);have dx:=Hm (HR.o.below Q.o);have ds:=Hm (HO.o.below Q.o);have dA:=Hm (HZ.o.below Q.o);have dy:=Hm (HW.o.below Q.o);have dv:=Hm (HQ.o.below Q.o);have dk:=Hm (HN.o.below Q.o);have dj:=Hm (HL.o.below Q.o);obtain⟨c0,bs⟩: ∃c,c=w.heap.size:=⟨_,rfl⟩;have ei:=Hm bs;rw[<-bs]at a0 bP bQ bR dt bO du aZ ae aM⊢;clear bs;have bG:Hl (OL (α:=Rsn) 78 P.heap.size (λ_=>False) [36,23] P (.slice none 0 0) []):=Hm (OL.nil (Nat.le_refl _));go_wp2;go_loopw [12,13] (λs i wr=> ∃(k:Nat) (A8:Option Addr) (m8 c8:Nat),k<=H/\i=.int .i64 k/\s=.slice A8 m8 c8/\(∀nm∈q.checks.take k,(C nm).1=0)/\OL (α:=Rsn) 78 P.heap.size (λ_=>False) [36,23] wr (.slice A8 m8 c8) ((q.checks.take k).map λnm=>(C nm).2)/\Below P.heap.size P wr) (λ_ i _=>H-(RowKit.intOf i).toNat)
 case atStart=>exact⟨0,none,0,0,Nat.zero_le _,rfl,rfl,by simp,by simpa using bG.o,Below.refl _ _⟩
 case round=>
  obtain⟨k,A8,m8,c8,hk,rfl,rfl,cP,al,hb⟩:=hrel;have ak:=Hm cP;have aN:=Hm al;have aT:=Hm hb;clear cP al hb bG;obtain⟨wo,rfl⟩: ∃W,W=wr:=⟨_,rfl⟩;have y3:=fO aT.o aM.o aZ.o;by_cases dK:k<H
  ·obtain⟨bn,ai,nm,rfl,cj,HX,f0,dM⟩:=dk.o.str dK;have df:=Hm f0;have da:=Hm cj;have j0:(0:Int)<=(k:Int):=by omega
   have j1:(k:Int)<(H:Int):=by omega
   have dz:Hl ((C nm).1=0-> ∀x∈q.checks.take (k+1),(C x).1=0):=Hm (λh0=>by
    rw[ic HX.o];intro x hx;rcases List.mem_append.1 hx with h|h
    ·exact ak.o x h
    ·rw[List.mem_singleton.1 h];exact h0)
   have bE:Hl ((q.checks.take (k+1)).map (λx=>(C x).2)=(q.checks.take k).map (λx=>(C x).2)++[(C nm).2]):=Hm (by rw[ic HX.o,List.map_append];rfl);have aY:Hl (((q.checks.take k).map (λx=>(C x).2)).length<=4096):=Hm (by rw[List.length_map,List.length_take];omega);obtain⟨RS,cr⟩: ∃l,(q.checks.take k).map (λx=>(C x).2)=l:=⟨_,rfl⟩;rw[cr]at bE aY aN;clear cr f0 cj dM;go_wp2;go_loopw [12,14,15] (λs f j wv=> ∃(p:Nat) (A9:Option Addr) (m9 c9:Nat) (fd:Bool) (O:List Rsn),p<=M/\j=.int .i64 p/\f=.bool fd/\s=.slice A9 m9 c9/\(fd=false->(l.take p).find? (Ms r.name nm)=none/\O=RS)/\(fd=true->(C nm).1=0/\O=RS++[(C nm).2])/\OL (α:=Rsn) 78 P.heap.size (λ_=>False) [36,23] wv (.slice A9 m9 c9) O/\Below P.heap.size P wv) (λ_ _ j _=>M-(RowKit.intOf j).toNat)
   case atStart=>exact⟨0,A8,m8,c8,false,RS,Nat.zero_le _,rfl,rfl,rfl,λ_=>⟨by simp,rfl⟩,λh=>by simp at h,aN.o,aT.o⟩
   case round=>
    obtain⟨p,A9,m9,c9,fd,O,hp,rfl,rfl,rfl,cE,cF,al,hb⟩:=hrel;have aW:=Hm cE;have bA:=Hm cF;have bJ:=Hm al;have D:=Hm hb;clear cE cF al hb y3;cases fd;rotate_left
    ·have aS:=Hm D.o;go_wp2;all_goals(try(exfalso;go_light;simp_all;done));all_goals(go_roundw);all_goals(first|exact⟨k+1,A9,m9,c9,by omega,by go_num,rfl,dz.o (bA.o rfl).1,by rw[bE.o,<-(bA.o rfl).2];exact bJ.o,aS.o⟩|(simp[RowKit.intOf];omega))
    ·by_cases dL:p<M
     ·obtain⟨bw,ow,X,rfl,cC,b6,B1,p1,s1,B2,p2,s2,B3,p3,s3,cD,cQ,cR,cS,dN⟩:=dj.o.chk dL;have i0:(0:Int)<=(p:Int):=by omega
      have i1:(p:Int)<(M:Int):=by omega
      have CS:=Hm cD;have I:=Hm cC;have b7:=Hm cQ;have b8:=Hm cR;have b9:=Hm cS;have aP:=Hm (dp.o X (gH b6.o));have aV:=Hm (IQ (p:=Ms r.name nm) b6.o (aW.o rfl).1);obtain rfl:O=RS:=(aW.o rfl).2;obtain⟨Z,z1,z2,z3,z4,z5,z6,z7,z8,z9,aa,ab,ac,ad⟩:=CS.o;have Z:=fO D.o I.o Z;have z1:=fO D.o I.o z1;have z2:=fO D.o I.o z2;have z3:=fO D.o I.o z3;have z4:=fO D.o I.o z4;have z5:=fO D.o I.o z5;have z6:=fO D.o I.o z6;have z7:=fO D.o I.o z7;have z8:=fO D.o I.o z8;have z9:=fO D.o I.o z9;have aa:=fO D.o I.o aa;have ab:=fO D.o I.o ab;have ac:=fO D.o I.o ac;have ad:=fO D.o I.o ad;clear cD cC cQ cR cS dN;go_upto_region 10 with (fail);clear Z z1 z2 z3 z4 z5 z6 z7 z8 z9 aa ab ac ad;obtain⟨ch,bh⟩: ∃W,W=wr.alloc (.cells #[.string X.name,.string X.table,.int .i64 X.kind,.slice B1 p1 s1,.string X.other,.slice B2 p2 s2,.int .i64 X.low,.int .i64 X.high,.slice B3 p3 s3,.int .i64 X.ln,.int .i64 X.ld,.int .i64 X.mn,.int .i64 X.md,.int .i64 X.policy] 48):=⟨_,rfl⟩;obtain⟨cA,el,x0,x1,x2,x3,x4,x5,x6,x7,x8,x9,ee,ef,eg,eh⟩:=iE bh rfl;rw[<-bh];clear bh;have ce:=Hm cA;clear cA;have dB:=lt_of_cell x0;have aI:=Hm (fH D.o ce.o);have db:=Hm ce.o;have A:=Hm dB;have a9:=Hm x0;have ba:=Hm x1;have bY:=Hm x2;have bZ:=Hm x3;have b0:=Hm x4;have b1:=Hm x5;have b2:=Hm x6;have b3:=Hm x7;have b4:=Hm x8;have b5:=Hm x9;have bV:=Hm ee;have bW:=Hm ef;have bX:=Hm eg;have bb:=Hm eh;obtain⟨S,bl⟩: ∃b,(!X.table.toList==r.name.toList)=b:=⟨_,rfl⟩;obtain⟨af,bm⟩: ∃b,(X.policy != 0)=b:=⟨_,rfl⟩;obtain⟨K,bo⟩: ∃b,(S || af)=b:=⟨_,rfl⟩;obtain⟨ag,bp⟩: ∃b,(!X.name.toList==nm.toList)=b:=⟨_,rfl⟩;obtain⟨Y,bx⟩: ∃b,(K || ag)=b:=⟨_,rfl⟩;have bF:Hl (Ms r.name nm X=!Y):=Hm (by
       rw[Ms,ownB,Gh,<-bx,<-bo,<-bl,<-bm,<-bp];exact(show ∀x y z:Bool,((x&&y)&&z)=!(((!x) || (!y)) || (!z)) by decide) _ _ _)
      have bS:=Hm bl;have bT:=Hm bm;have a7:=Hm bo;have bU:=Hm bp;have a8:=Hm bx;clear bl bm bo bp bx;refine iW (by kernel_rfl) BB (by kernel_rfl) (λV V'=>Below V.heap.size V V') (λvs=>⟨#[.agg #[.string r.name,.slice A1 n1 c1,.slice Ak nk ck,.slice A3 n3 c3],.slice (some ⟨bw,ow,none⟩) M cc,.slice Ao no co,.slice Az nz cz,.agg #[.string q.relation,.slice Aq nq cq,.int .i64 q.count,.slice (some ⟨bn,ai,none⟩) H T],.pointer (some ⟨c0,0,none⟩),undef,undef,undef,.pointer (some ⟨c0+1,0,none⟩),u10,u11,.slice A9 m9 c9,.int .i64 ↑k,.bool false,.int .i64 ↑p,.pointer (some ⟨wr.heap.size,0,none⟩),u17,u18,u19,u20,.int .i64 ↑k,.pointer (some ⟨c0+1,3,none⟩),.slice (some ⟨bn,ai,none⟩) H T,.int .i64 ↑H,.bool true,u26,u27,.int .i64 ↑p,.slice (some ⟨bw,ow,none⟩) M cc,.int .i64 ↑M,.bool true,.bool true,.bool false,.bool true,.bool true,u36,u37,.slice (some ⟨bw,ow,none⟩) M cc,.int .i64 ↑p,.pointer (some ⟨bw,ow+p*14,none⟩),.agg #[.string X.name,.string X.table,.int .i64 X.kind,.slice B1 p1 s1,.string X.other,.slice B2 p2 s2,.int .i64 X.low,.int .i64 X.high,.slice B3 p3 s3,.int .i64 X.ln,.int .i64 X.ld,.int .i64 X.mn,.int .i64 X.md,.int .i64 X.policy],(vs.getD 0 (.bool false)),(vs.getD 1 (.bool false)),(vs.getD 2 (.bool false)),(vs.getD 3 (.bool false)),(vs.getD 4 (.bool false)),(vs.getD 5 (.bool false)),(vs.getD 6 (.bool false)),(vs.getD 7 (.bool false)),(vs.getD 8 (.bool false)),(vs.getD 9 (.bool false)),(vs.getD 10 (.bool false)),(vs.getD 11 (.bool false)),(vs.getD 12 (.bool false)),(vs.getD 13 (.bool false)),(vs.getD 14 (.bool false)),(vs.getD 15 (.bool false)),(vs.getD 16 (.bool false)),(vs.getD 17 (.bool false)),(vs.getD 18 (.bool false)),(vs.getD 19 (.bool false)),u62,u63,u64,u65,u66,u67,u68,u69,u70,u71,u72,u73,u74,u75,u76,u77,u78,u79,u80,u81,u82,u83,u84,u85,u86,u87,u88,undef],[]⟩) 20 (by decide) (λL V=>Below ch.heap.size ch V) Dc Oh (Fp wr.heap.size c0 bn ai H T k X.table r.name X.name nm X.policy S af K ag Y) (λ_ _=>True) F8 (Ik wr.heap.size c0 bn ai H T k X.table r.name X.name nm X.policy S af K ag Y) [_,_,_,_,_,_,_,_,_,_,_,_,_,_,_,_,_,_,_,_] rfl rfl (λ_=>trivial) ((Below.refl _ _).drew) ?_ ?_
      ·intro L i vs V hi aH hL hd hG hF cp;obtain⟨v0,dS,rfl,am⟩:=fJ aH;obtain⟨v1,dT,rfl,an⟩:=fJ am;obtain⟨v2,d4,rfl,aA⟩:=fJ an;obtain⟨v3,d5,rfl,aB⟩:=fJ aA;obtain⟨v4,d6,rfl,aC⟩:=fJ aB;obtain⟨v5,d7,rfl,aD⟩:=fJ aC;obtain⟨v6,d8,rfl,aE⟩:=fJ aD;obtain⟨v7,d9,rfl,aF⟩:=fJ aE;obtain⟨v8,ea,rfl,aG⟩:=fJ aF;obtain⟨v9,eb,rfl,U⟩:=fJ aG;obtain⟨dR,dU,rfl,ao⟩:=fJ U;obtain⟨cT,dV,rfl,ap⟩:=fJ ao;obtain⟨cU,dW,rfl,aq⟩:=fJ ap;obtain⟨cV,dX,rfl,ar⟩:=fJ aq;obtain⟨cW,dY,rfl,au⟩:=fJ ar;obtain⟨cX,dZ,rfl,av⟩:=fJ au;obtain⟨cY,d0,rfl,aw⟩:=fJ av;obtain⟨cZ,d1,rfl,ax⟩:=fJ aw;obtain⟨c5,d2,rfl,ay⟩:=fJ ax;obtain⟨c6,d3,rfl,az⟩:=fJ ay;obtain rfl:=jR az;clear aH am an aA aB aC aD aE aF aG U ao ap aq ar au av aw ax ay az;have hi:i<20:=hi;have g:=Hm hG;have d:=Hm hF;have n:=Hm hd;have ek:=Hm hL;have ej:=Hm cp;clear hG hF hd hL cp;obtain rfl|rfl|rfl|rfl|rfl|rfl|rfl|rfl|rfl|rfl|rfl|rfl|rfl|rfl|rfl|rfl|rfl|rfl|rfl|rfl:i=0\/i=1\/i=2\/i=3\/i=4\/i=5\/i=6\/i=7\/i=8\/i=9\/i=10\/i=11\/i=12\/i=13\/i=14\/i=15\/i=16\/i=17\/i=18\/i=19:=by omega
       ·refine fK rfl λu a=>?_;go_simp;exact a.o _ _ ⟨_,rfl,rfl,g.o,.inl (Below.refl _ _)⟩
       ·obtain rfl:=fT d n 0 rfl rfl;have y0:=fO g.o A.o ba.o;refine fK rfl λu a=>?_;go_simp;exact a.o _ _ ⟨_,rfl,rfl,g.o,.inl (Below.refl _ _)⟩
       ·refine fK rfl λu a=>?_;go_simp;exact a.o _ _ ⟨_,rfl,rfl,g.o,.inl (Below.refl _ _)⟩
       ·obtain rfl:=fT d n 2 rfl rfl;have y0:=fO (fH aI.o g.o) ae.o a0.o;refine fK rfl λu a=>?_;go_simp;exact a.o _ _ ⟨_,rfl,rfl,g.o,.inl (Below.refl _ _)⟩
       ·obtain rfl:=fT d n 1 rfl rfl;obtain rfl:=fT d n 3 rfl rfl;refine fK rfl λu a=>?_;go_simp;exact a.o _ _ ⟨_,rfl,show Value.bool (!X.table.toList==r.name.toList)=Value.bool S from by rw[bS.o],g.o,.inl (Below.refl _ _)⟩
       ·obtain rfl:=fT d n 4 rfl rfl;refine fK rfl λu a=>?_;go_simp;exact a.o _ _ ⟨_,rfl,rfl,g.o,.inl (Below.refl _ _)⟩
       ·cases S
        ·obtain rfl:=fT d n 5 rfl rfl;refine fK rfl λu a=>?_;go_simp;exact a.o _ _ ⟨_,rfl,(λ_=>rfl),g.o,.inl (Below.refl _ _)⟩
        ·obtain rfl:=fT d n 5 rfl rfl;refine fK rfl λu a=>?_;go_simp;exact a.o _ _ ⟨_,rfl,(λh=>by cases h),g.o,.inl (Below.refl _ _)⟩
       ·cases S
        ·obtain rfl:=fT d n 5 rfl rfl;obtain rfl:v6=.pointer (some ⟨wr.heap.size,13,none⟩):=fT d n 6 rfl rfl rfl;have y0:=fO g.o A.o bb.o;refine fK rfl λu a=>?_;go_simp;exact a.o _ _ ⟨_,rfl,(λ_=>rfl),g.o,.inl (Below.refl _ _)⟩
        ·obtain rfl:=fT d n 5 rfl rfl;refine fK rfl λu a=>?_;go_simp;exact a.o _ _ ⟨_,rfl,(λh=>by cases h),g.o,.inl (Below.refl _ _)⟩
       ·cases S
        ·obtain rfl:=fT d n 5 rfl rfl;obtain rfl:v7=.int .i64 X.policy:=fT d n 7 rfl rfl rfl;refine fK rfl λu a=>?_;go_simp;exact a.o _ _ ⟨_,rfl,(λ_=>show Value.bool (X.policy != 0)=Value.bool af from by rw[bT.o]),g.o,.inl (Below.refl _ _)⟩
        ·obtain rfl:=fT d n 5 rfl rfl;refine fK rfl λu a=>?_;go_simp;exact a.o _ _ ⟨_,rfl,(λh=>by cases h),g.o,.inl (Below.refl _ _)⟩
       ·cases S
        ·obtain rfl:=fT d n 5 rfl rfl;obtain rfl:v8=.bool af:=fT d n 8 rfl rfl rfl;refine fK rfl λu a=>?_;go_simp;exact a.o _ _ ⟨_,rfl,show Value.bool af=Value.bool K from by rw[<-a7.o];rfl,g.o,.inl (Below.refl _ _)⟩
        ·obtain rfl:=fT d n 5 rfl rfl;refine fK rfl λu a=>?_;go_simp;exact a.o _ _ ⟨_,rfl,show Value.bool true=Value.bool K from by rw[<-a7.o];rfl,g.o,.inl (Below.refl _ _)⟩
       ·obtain rfl:=fT d n 9 rfl rfl;refine fK rfl λu a=>?_;go_simp;exact a.o _ _ ⟨_,rfl,rfl,g.o,.inl (Below.refl _ _)⟩
       ·cases K
        ·obtain rfl:=fT d n 10 rfl rfl;refine fK rfl λu a=>?_;go_simp;exact a.o _ _ ⟨_,rfl,(λ_=>rfl),g.o,.inl (Below.refl _ _)⟩
        ·obtain rfl:=fT d n 10 rfl rfl;refine fK rfl λu a=>?_;go_simp;exact a.o _ _ ⟨_,rfl,(λh=>by cases h),g.o,.inl (Below.refl _ _)⟩
       ·cases K
        ·obtain rfl:=fT d n 10 rfl rfl;obtain rfl:cT=.pointer (some ⟨wr.heap.size,0,none⟩):=fT d n 11 rfl rfl rfl;have y0:=fO g.o A.o a9.o;refine fK rfl λu a=>?_;go_simp;exact a.o _ _ ⟨_,rfl,(λ_=>rfl),g.o,.inl (Below.refl _ _)⟩
        ·obtain rfl:=fT d n 10 rfl rfl;refine fK rfl λu a=>?_;go_simp;exact a.o _ _ ⟨_,rfl,(λh=>by cases h),g.o,.inl (Below.refl _ _)⟩
       ·cases K
        ·obtain rfl:=fT d n 10 rfl rfl;refine fK rfl λu a=>?_;go_simp;exact a.o _ _ ⟨_,rfl,(λ_=>rfl),g.o,.inl (Below.refl _ _)⟩
        ·obtain rfl:=fT d n 10 rfl rfl;refine fK rfl λu a=>?_;go_simp;exact a.o _ _ ⟨_,rfl,(λh=>by cases h),g.o,.inl (Below.refl _ _)⟩
       ·cases K
        ·obtain rfl:=fT d n 10 rfl rfl;obtain rfl:cV=.pointer (some ⟨c0+1,3,none⟩):=fT d n 13 rfl rfl rfl;have y0:=fO (fH aI.o g.o) aM.o aZ.o;refine fK rfl λu a=>?_;go_simp;exact a.o _ _ ⟨_,rfl,(λ_=>rfl),g.o,.inl (Below.refl _ _)⟩
        ·obtain rfl:=fT d n 10 rfl rfl;refine fK rfl λu a=>?_;go_simp;exact a.o _ _ ⟨_,rfl,(λh=>by cases h),g.o,.inl (Below.refl _ _)⟩
       ·cases K
        ·obtain rfl:=fT d n 10 rfl rfl;refine fK rfl λu a=>?_;go_simp;exact a.o _ _ ⟨_,rfl,(λ_=>rfl),g.o,.inl (Below.refl _ _)⟩
        ·obtain rfl:=fT d n 10 rfl rfl;refine fK rfl λu a=>?_;go_simp;exact a.o _ _ ⟨_,rfl,(λh=>by cases h),g.o,.inl (Below.refl _ _)⟩
       ·cases K
        ·obtain rfl:=fT d n 10 rfl rfl;obtain rfl:cW=.slice (some ⟨bn,ai,none⟩) H T:=fT d n 14 rfl rfl rfl;obtain rfl:cX=.int .i64 (k:Int):=fT d n 15 rfl rfl rfl;refine fK rfl λu a=>?_;go_simp;exact a.o _ _ ⟨_,rfl,(λ_=>rfl),g.o,.inl (Below.refl _ _)⟩
        ·obtain rfl:=fT d n 10 rfl rfl;refine fK rfl λu a=>?_;go_simp;exact a.o _ _ ⟨_,rfl,(λh=>by cases h),g.o,.inl (Below.refl _ _)⟩
       ·cases K
        ·obtain rfl:=fT d n 10 rfl rfl;obtain rfl:cY=.pointer (some ⟨bn,ai+k,none⟩):=fT d n 16 rfl rfl rfl;have y0:=fO (fH aI.o g.o) da.o df.o;refine fK rfl λu a=>?_;go_simp;exact a.o _ _ ⟨_,rfl,(λ_=>rfl),g.o,.inl (Below.refl _ _)⟩
        ·obtain rfl:=fT d n 10 rfl rfl;refine fK rfl λu a=>?_;go_simp;exact a.o _ _ ⟨_,rfl,(λh=>by cases h),g.o,.inl (Below.refl _ _)⟩
       ·cases K
        ·obtain rfl:=fT d n 10 rfl rfl;obtain rfl:cU=.string X.name:=fT d n 12 rfl rfl rfl;obtain rfl:cZ=.string nm:=fT d n 17 rfl rfl rfl;refine fK rfl λu a=>?_;go_simp;exact a.o _ _ ⟨_,rfl,(λ_=>show Value.bool (!X.name.toList==nm.toList)=Value.bool ag from by rw[bU.o]),g.o,.inl (Below.refl _ _)⟩
        ·obtain rfl:=fT d n 10 rfl rfl;refine fK rfl λu a=>?_;go_simp;exact a.o _ _ ⟨_,rfl,(λh=>by cases h),g.o,.inl (Below.refl _ _)⟩
       ·cases K
        ·obtain rfl:=fT d n 10 rfl rfl;obtain rfl:c5=.bool ag:=fT d n 18 rfl rfl rfl;refine fK rfl λu a=>?_;go_simp;exact a.o _ _ ⟨_,rfl,show Value.bool ag=Value.bool Y from by rw[<-a8.o];rfl,g.o,.inl (Below.refl _ _)⟩
        ·obtain rfl:=fT d n 10 rfl rfl;refine fK rfl λu a=>?_;go_simp;exact a.o _ _ ⟨_,rfl,show Value.bool true=Value.bool Y from by rw[<-a8.o];rfl,g.o,.inl (Below.refl _ _)⟩
      ·intro L vs V hL aH hG hF;obtain⟨v0,dS,rfl,am⟩:=fJ aH;obtain⟨v1,dT,rfl,an⟩:=fJ am;obtain⟨v2,d4,rfl,aA⟩:=fJ an;obtain⟨v3,d5,rfl,aB⟩:=fJ aA;obtain⟨v4,d6,rfl,aC⟩:=fJ aB;obtain⟨v5,d7,rfl,aD⟩:=fJ aC;obtain⟨v6,d8,rfl,aE⟩:=fJ aD;obtain⟨v7,d9,rfl,aF⟩:=fJ aE;obtain⟨v8,ea,rfl,aG⟩:=fJ aF;obtain⟨v9,eb,rfl,U⟩:=fJ aG;obtain⟨dR,dU,rfl,ao⟩:=fJ U;obtain⟨cT,dV,rfl,ap⟩:=fJ ao;obtain⟨cU,dW,rfl,aq⟩:=fJ ap;obtain⟨cV,dX,rfl,ar⟩:=fJ aq;obtain⟨cW,dY,rfl,au⟩:=fJ ar;obtain⟨cX,dZ,rfl,av⟩:=fJ au;obtain⟨cY,d0,rfl,aw⟩:=fJ av;obtain⟨cZ,d1,rfl,ax⟩:=fJ aw;obtain⟨c5,d2,rfl,ay⟩:=fJ ax;obtain⟨c6,d3,rfl,az⟩:=fJ ay;obtain rfl:=jR az;clear aH am an aA aB aC aD aE aF aG U ao ap aq ar au av aw ax ay az;have g:=Hm hG;have d:=Hm hF;have HL:=Hm hL;clear hG hF hL;obtain rfl:c6=.bool Y:=d.o 19 (by show 19<20;omega) rfl;obtain⟨VX,rfl⟩: ∃W,W=V:=⟨_,rfl⟩;have aJ:=Hm (fH aI.o g.o);have B:=Hm g.o;have bK:=Hm (bJ.o.below (fH db.o g.o));clear g d HL;cases Y;rotate_left
       ·have HN:Hl ((l.take (p+1)).find? (Ms r.name nm)=none):=Hm (aV.o.2 (by rw[bF.o];rfl));go_wp2;all_goals(try(exfalso;go_light;simp_all;done));go_roundw
        case rel=>exact⟨p+1,A9,m9,c9,false,O,by omega,by go_num,rfl,rfl,λ_=>⟨HN.o,rfl⟩,λh=>by simp at h,bK.o,aJ.o⟩
        case measure=>simp[RowKit.intOf];omega
       have aL:Hl (C nm=if (gI X F).1≠0 then(5,jT) else nJ X r.columns (gI X F).2.columns r.rows (gI X F).2.rows zs q.row):=Hm (bM.o nm X (aV.o.1 (by rw[bF.o];rfl)));clear aV bS bT a7 bU a8;have Z:=fO B.o A.o a9.o;have z1:=fO B.o A.o ba.o;have z2:=fO B.o A.o bY.o;have z3:=fO B.o A.o bZ.o;have z4:=fO B.o A.o b0.o;have z5:=fO B.o A.o b1.o;have z6:=fO B.o A.o b2.o;have z7:=fO B.o A.o b3.o;have z8:=fO B.o A.o b4.o;have z9:=fO B.o A.o b5.o;have aa:=fO B.o A.o bV.o;have ab:=fO B.o A.o bW.o;have ac:=fO B.o A.o bX.o;have ad:=fO B.o A.o bb.o;have aO:=Hm λW h=>EM W X B1 p1 s1 B2 p2 s2 B3 p3 s3 Ao no co F h;simp only[fZ]at aO;obtain⟨K_,hK⟩: ∃b,((gI X F).1==0)=b:=⟨_,rfl⟩;obtain⟨OT,bf⟩: ∃e,(gI X F).2=e:=⟨_,rfl⟩;have bN:=Hm (dr.o X);have aX:=Hm hK;rw[hK,bf]at aO;rw[bf]at aL bN;clear hK bf;go_wp2_with fail;refine(aO.o _ (ds.o.below aJ.o)).mono ?_;rintro e ec ⟨⟨on,A2,n2,c2,Al,nl,cl,A4,n4,c4,rfl,h2,h4⟩,ct⟩;have dC:=Hm ct;clear ct;have bB:=Hm h2;have bD:=Hm h4;clear h2 h4 Z z1 z2 z3 z4 z5 z6 z7 z8 z9 aa ab ac ad aO;go_upto_region 13 with (fail);obtain⟨dE,bi⟩: ∃W,W=ec.alloc (.cells #[.string on,.slice A2 n2 c2,.slice Al nl cl,.slice A4 n4 c4] 29):=⟨_,rfl⟩;obtain⟨bq,em,o0,o1,o2,o3⟩:=jV bi rfl;rw[<-bi];clear bi;have ca:=Hm bq;have aQ:=Hm (fH dC.o bq);clear bq;have bc:=lt_of_cell o0;have bC:=Hm (bB.o.below ca.o);have dg:=Hm (bD.o.below ca.o);have E:=Hm (fH aJ.o aQ.o);have J:=Hm aQ.o;clear bB bD;cases K_
       ·have N:Hl (pg C q.checks=(5,[])):=Hm (by
         have h1:C nm=(5,jT):=by rw[aL.o,if_pos (by have h:=aX.o;simpa using h)]
         rw[rH ak.o HX.o (by rw[h1];simp),h1])
        go_wp2;all_goals(try(exfalso;go_light;simp_all;done));go_ret2;exact⟨⟨_,by rw[N.o];rfl,by rw[N.o];exact OL.nil (Nat.le_trans R.o.size E.o.size)⟩,fH R.o E.o⟩
       have aj:Hl (C nm=nJ X r.columns OT.columns r.rows OT.rows zs q.row):=Hm (by rw[aL.o,if_neg (by have h:=aX.o;simpa using h)]);clear aL aX;have cK:p1<=4096:=by rw[<-b7.o.len];exact aP.o.1
       have cL:p2<=4096:=by rw[<-b8.o.len];exact aP.o.2.1
       have cM:p3<=4096:=by rw[<-b9.o.len];exact aP.o.2.2.1
       have cJ:n2<=4096:=by rw[<-bC.o.len];exact bN.o
       have aK:=Hm (II dE X B1 p1 s1 (b7.o.below E.o) B2 p2 s2 (b8.o.below E.o) B3 p3 s3 (b9.o.below E.o) (dy.o.below E.o) r.name A1 n1 c1 r.columns (dc.o.below E.o) Ak nk ck A3 n3 c3 r.rows (dx.o.below E.o) on A2 n2 c2 OT.columns bC.o Al nl cl A4 n4 c4 OT.rows dg.o Az nz cz zs (dA.o.below E.o) cK cL dG cJ Aq nq cq q.row (dv.o.below E.o) cM aP.o.2.2.2);obtain⟨G,cm⟩: ∃e,nJ X r.columns OT.columns r.rows OT.rows zs q.row=e:=⟨_,rfl⟩;rw[cm]at aj aK;simp only[fZ]at aK;clear cm cK cL cM cJ;have Z:=fO (fH B.o J.o) A.o a9.o;have z1:=fO (fH B.o J.o) A.o ba.o;have z2:=fO (fH B.o J.o) A.o bY.o;have z3:=fO (fH B.o J.o) A.o bZ.o;have z4:=fO (fH B.o J.o) A.o b0.o;have z5:=fO (fH B.o J.o) A.o b1.o;have z6:=fO (fH B.o J.o) A.o b2.o;have z7:=fO (fH B.o J.o) A.o b3.o;have z8:=fO (fH B.o J.o) A.o b4.o;have z9:=fO (fH B.o J.o) A.o b5.o;have aa:=fO (fH B.o J.o) A.o bV.o;have ab:=fO (fH B.o J.o) A.o bW.o;have ac:=fO (fH B.o J.o) A.o bX.o;have ad:=fO (fH B.o J.o) A.o bb.o;have ya:=fO E.o ae.o a0.o;have yb:=fO E.o ae.o bP.o;have yc:=fO E.o ae.o bQ.o;have yd:=fO E.o ae.o bR.o;have ye:=fO E.o aM.o bO.o;go_wp2_with fail;refine(aK.o).mono ?_;rintro e ed ⟨⟨v7,v8,rfl,bt,bu⟩,cu⟩;have bz:=kJ o0 o1 o2 o3;have cf:=Hm cu;clear cu;obtain⟨A7,c7,e7⟩:=bt.form;obtain⟨Ab,ci,e8⟩:=bu.form;obtain⟨m7,cG⟩: ∃m,G.2.values.length=m:=⟨_,rfl⟩;obtain⟨dO,cH⟩: ∃m,G.2.rows.length=m:=⟨_,rfl⟩;rw[cG]at e7;rw[cH]at e8;subst e7 e8;have bH:=Hm (bt.rebase E.o.size);have bI:=Hm (bu.rebase E.o.size);clear bt bu cG cH Z z1 z2 z3 z4 z5 z6 z7 z8 z9 aa ab ac ad ya yb yc yd ye aK;obtain⟨bc,o0,o1,o2,o3⟩:=bz.o _ cf.o;go_upto_region 16 with (fail);obtain⟨W7,bk⟩: ∃W,W=ed.alloc (.cells #[.string G.2.name,.slice A7 m7 c7,.slice Ab dO ci] 78):=⟨_,rfl⟩;obtain⟨br,eo,t0,t1,t2⟩:=vB bk rfl;rw[<-bk];clear bk;have cb:=Hm br;have aR:=Hm (fH cf.o br);clear br;have L7:=lt_of_cell t0;have dl:=Hm (bH.o.below cb.o);have dm:=Hm (bI.o.below cb.o);have aU:=Hm (fH (fH aJ.o aQ.o) aR.o);have dq:=Hm (bK.o.below (fH aQ.o aR.o));clear bH bI;by_cases ah:G.1=0;rotate_left
       ·have e1:(G.1 != 0)=true:=by simpa using ah
        have N:Hl (pg C q.checks=(G.1,[])):=Hm (by rw[rH ak.o HX.o (by rw[aj.o];exact ah),aj.o]);clear ah;obtain⟨bc,o0,o1,o2,o3⟩:=bz.o _ aR.o;go_wp2;all_goals(try(exfalso;go_light;simp_all;done));go_ret2;exact⟨⟨_,by rw[N.o];rfl,by rw[N.o];exact OL.nil (Nat.le_trans R.o.size aU.o.size)⟩,fH R.o aU.o⟩
       have e1:(G.1 != 0)=false:=by simpa using ah
       have dd:Hl ((C nm).1=0):=Hm (by rw[aj.o];exact ah);have de:Hl ((C nm).2=G.2):=Hm (by rw[aj.o]);clear ah;have dI:O.length+1<=maxLen:=by have:=aY.o;simp only[maxLen];omega
       have dJ:(O.length+1)*64<=140737488355328:=by have:=aY.o;omega
       obtain⟨q7,et,dP,cN⟩:=dl.o.sl;obtain⟨q8,eu,dQ,cO⟩:=dm.o.sl;injection dP with a1 a2 a3;injection dQ with a4 a5 a6;subst a1 a2 a3 a4 a5 a6;have dw:Hl (Rep.rd W7 (BS P.heap.size (λ_=>False) [36,23] W7) [.string G.2.name,.slice A7 G.2.values.length c7,.slice Ab G.2.rows.length ci] G.2):=Hm ⟨_,_,_,_,_,_,rfl,cN.mono λz hz=>hz.more λt ht=>by simp at ht;simp[ht],cO.mono λz hz=>hz.more λt ht=>by simp at ht;rcases ht with rfl|rfl<;>simp⟩;clear cN cO;obtain⟨bc,o0,o1,o2,o3⟩:=bz.o _ aR.o;go_wp2_with (at_builtin;refine gY _ rfl _ _ _ rfl BD (by decide) W7 _ rfl dq.o rfl rfl G.2 dw.o dI dJ ?_;intro v9 w9 bv cx dH dF);all_goals(try(exfalso;go_light;simp_all;done));obtain⟨Ad,cd,U⟩:=bv.form;obtain⟨md,cI⟩: ∃m,(O++[G.2]).length=m:=⟨_,rfl⟩;rw[cI]at U;subst U;have dn:=Hm bv;have aS:=Hm (aU.o.trans cx);clear bv cx dH dF cI;go_wp2;all_goals(try(exfalso;go_light;simp_all;done));go_roundw
       case rel=>exact⟨p+1,Ad,md,cd,true,O++[G.2],by omega,by go_num,rfl,rfl,λh=>by simp at h,λ_=>⟨dd.o,by rw[de.o]⟩,dn.o,aS.o⟩
       case measure=>simp[RowKit.intOf];omega
     ·have N:Hl (pg C q.checks=(5,[])):=Hm (by
       have h1:C nm=(5,jT):=bL.o nm (by have h:=(aW.o rfl).1;rwa [List.take_of_length_le (by rw[dh.o];omega)]at h);rw[rH ak.o HX.o (by rw[h1];simp),h1])
      have jn:¬(p:Int)<(M:Int):=by omega
      go_wp2;all_goals(try(exfalso;go_light;simp_all;done));go_ret2;exact⟨⟨_,by rw[N.o];rfl,by rw[N.o];exact OL.nil (Nat.le_trans R.o.size D.o.size)⟩,fH R.o D.o⟩
  ·have HT:Hl (q.checks.take k=q.checks):=Hm (List.take_of_length_le (by rw[di.o];omega));have N:Hl (pg C q.checks=(0,q.checks.map λnm=>(C nm).2)):=Hm (Dm (by have h:=ak.o;rw[HT.o]at h;exact h));rw[HT.o]at aN;have jn:¬(k:Int)<(H:Int):=by omega
   go_wp2;all_goals(try(exfalso;go_light;simp_all;done));go_ret2;exact⟨⟨_,by rw[N.o];rfl,by rw[N.o];exact aN.o.rebase R.o.size⟩,fH R.o aT.o⟩
theorem L9 {a b:List UInt8}(h:decide (a<=b)=false):([a,b]:List (List UInt8)).mergeSort (λx y=>decide (x<=y))=[b,a]:=by simp[List.mergeSort,h]
theorem Kn:nU Ev=qX Ev:=by
 have e:(qm Ev).map uT=[uT nV,uT N8]:=by decide+kernel
 rw[qX,zG,e,L9 (by decide+kernel)];decide+kernel
theorem sw {c:Chk}(h:kL c):c.cond.length<=4096/\¬c.kind=5/\kR c=lS c:=by
 obtain⟨f,e,a⟩:=h;simp only[qy,List.mem_cons,List.not_mem_nil,or_false]at a;have b:Ev.length<=4096:=by decide
 have d:=Kn;rcases a with h|h|h|h|h|h|h|h|h<;>rw[h]<;>simp[nI,lS,kR,b,d]
theorem KF {c:Chk}(h:kL c)(a f:List Col)(d g:List Ent)(zs:List Zone)(row:List Val):nJ c a f d g zs row=ql c a f d g zs row:=by
 have e:(if c.kind=0 then jh a c.cols d row (gB a c.cols row) else [])=(if c.kind=0 then jh a (lS c) d row (gB a (lS c) row) else []):=by
  by_cases b:c.kind=0
  ·rw[if_pos b,if_pos b,lS,if_neg (by rw[b];decide)]
  ·rw[if_neg b,if_neg b]
 rw[nJ,ql,(sw h).2.2,e]
theorem tO {α:Type}{p q:α->Bool}: ∀(l:List α),(l.filter p).find? q=l.find? λx=>p x&&q x
 | []=>rfl
 |x::l=>by
  by_cases h:p x=true
  ·rw[List.filter_cons_of_pos h];by_cases a:q x=true
   ·rw[List.find?_cons_of_pos a,List.find?_cons_of_pos (by simp[h,a])]
   ·rw[List.find?_cons_of_neg a,List.find?_cons_of_neg (by simp[a]),tO l]
  ·rw[List.filter_cons_of_neg h,List.find?_cons_of_neg (by simp[h]),tO l]
section
variable {rows orows:List Ent}{ko:List (List ByteArray)}{a:List Chk}{ws:List Wvr}{rc:List Col}{zs:List Zone}{row:List Val}
theorem Lx (f: ∀c∈a,kL c)(nm:ByteArray):AR a nR [kT orows ko] rc rows zs row nm=tC (kr a nR) [kT orows ko] rc rows zs row nm:=by
 have e:(kr a nR).find? (Gh nm)=a.find? (Ms nR nm):=tO a;cases h:a.find? (Ms nR nm) with
 |none=>rw[Ca h,Cc (e.trans h)]
 |some c=>
  have d:=f c (List.mem_of_find?_eq_some h);have b:=(qE d (o:=kT orows ko) rfl).1;rw[Cb h,xB (e.trans h),if_neg (by simp[b]),if_neg (by simp[b]),KF d]
theorem LW (b: ∀c∈a,kL c)(names:List ByteArray):pg (AR a nR [kT orows ko] rc rows zs row) names=pg (tC (kr a nR) [kT orows ko] rc rows zs row) names:=by
 rw[show AR a nR [kT orows ko] rc rows zs row=tC (kr a nR) [kT orows ko] rc rows zs row from funext λnm=>Lx b nm]
end
theorem Eh: ∀{l:List Chk} {c:Chk},(l.map Chk.name).Nodup->c∈l->l.find? (Gh c.name)=some c
 |x::l,c,hn,a=>by
  rw[List.map_cons,List.nodup_cons]at hn;rcases List.mem_cons.1 a with rfl|a
  ·rw[List.find?_cons_of_pos (by simp[Gh])]
  ·rw[List.find?_cons_of_neg (λe=>by
    have b:x.name=c.name:=ba_eq (by simpa[Gh] using e);exact hn.1 (b▸List.mem_map.2 ⟨c,a,rfl⟩)),Eh hn.2 a]
theorem K5 {rows a:List Ent}{b:List Chk}{ws:List Wvr}(r: ∀c∈b,kL c)(t:(b.map Chk.name).Nodup)(h:iL lQ rows=0)(w:iL lQ a=0){y:Ent}(i:y∈rows){nm:ByteArray}(s:nm∈Lr rows a ws b y.row):
  (tC (kr b nR) [kT a []] lQ rows [] y.row nm).1=0:=by
 obtain⟨c,m,rfl⟩:=List.mem_map.1 s;obtain⟨f,B⟩:=List.mem_filter.1 m;have p:=(List.mem_filter.1 f).1;have g:=r c p;have v:((kr b nR).map Chk.name).Nodup:=t.sublist (List.filter_sublist.map _);obtain⟨j,k⟩:=qE g (o:=kT a []) rfl;rw[xB (Eh v f),if_neg (by simp[j])];obtain⟨d,l⟩:=vD g h w (gI c [kT a []]).2.columns (gI c [kT a []]).2.rows λu=>by rw[k u];exact⟨rfl,rfl⟩
 obtain⟨hb,A,_⟩:=gW h;have z:=(jm hb A).2 y i;have C:iU c lQ lQ rows a [] y.row=true:=by
  have:=B;simp only[Bool.and_eq_true]at this;exact this.1
 have n:cntF (jg c lQ (gI c [kT a []]).2.columns rows (gI c [kT a []]).2.rows []).2 y.row=y.count:=by
  rw[jg,if_neg (by simp[d])];have e:(rows.filter λx=>iU c lQ (gI c [kT a []]).2.columns rows (gI c [kT a []]).2.rows [] x.row)=rows.filter λx=>iU c lQ lQ rows a [] x.row:=List.filter_congr λx _=>l x.row;show cntF (rows.filter λx=>iU c lQ (gI c [kT a []]).2.columns rows (gI c [kT a []]).2.rows [] x.row) y.row=_;rw[e,Kk hb (λq=>iU c lQ lQ rows a [] q) i,if_pos C]
 rw[ql,if_neg (by simp[d]),if_neg (by rw[n];have:=z.1;omega)]
theorem K6 {rows b:List Ent}{a:List Chk}{ws:List Wvr}(d: ∀c∈a,kL c)(f:(a.map Chk.name).Nodup)(h:iL lQ rows=0)(g:iL lQ b=0){y:Ent}(i:y∈rows):
  (pg (tC (kr a nR) [kT b []] lQ rows [] y.row) (Lr rows b ws a y.row)).1=0/\(pg (tC (kr a nR) [kT b []] lQ rows [] y.row) (Lr rows b ws a y.row)).2.length=(Lr rows b ws a y.row).length:=by
 rw[Dm λnm e=>K5 d f h g i e];exact⟨rfl,by rw[List.length_map]⟩
end Go.Proofs.YtopjjlmfilgngaaGreatDoor
