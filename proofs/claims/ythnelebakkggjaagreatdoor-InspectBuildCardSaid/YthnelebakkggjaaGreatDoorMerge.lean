/-
  warehouseref6.merge.
-/
import Derived.Test.YthnelebakkggjaaGreatDoorGad
import Derived.Test.YthnelebakkggjaaGreatDoorGae
namespace Go.Proofs.YthnelebakkggjaaGreatDoor
set_option maxHeartbeats 2000000
set_option maxRecDepth 100000
open Go.RowKit
set_option linter.unusedSimpArgs false
set_option linter.unusedVariables false
theorem q8:(Tryz.prog.info? 55).map (λi=>(i.zero,i.size,i.bytes))=some (some (.agg #[.slice none 0 0,.int .i64 0]),2,32):=by kernel_rfl
structure OwnEnts (w w':World) (S:Nat->Prop) (v:Value) (zs:List Ent):Prop where
 own: ∃cs,w'.ownsRow w.heap.size 55 2 v zs.length cs/\Cells w' S cs zs
theorem pJ {A:Option Addr}{n c:Nat}{m:Int}: ∀u∈[Value.slice A n c,Value.int .i64 m],u.oneCell'=true:=by
 intro u a;simp at a;rcases a with rfl|rfl<;>rfl
theorem qF {w:World}{b o:Nat}{c d:Value}(e:w.cell? ⟨b,o,none⟩=some c)(f:w.cell? ⟨b,o+1,none⟩=some d):Src w 2 (some ⟨b,o,none⟩) 1 [c,d]:=
 ⟨rfl,λ_=>⟨b,o,rfl,λj u a=>by
  match j,a with
  | 0,a=>simp at a;subst a;exact e
  | 1,a=>simp at a;subst a;exact f⟩⟩
theorem qh {w:World}{base:Nat}{e:TypeId}{size:Nat}{v:Value}{n:Nat}{xs:List Value}(h:w.ownsRow base e size v n xs):w.drew.ownsRow base e size v n xs:=h
theorem vR {w w':World}{base:Nat}{e:TypeId}{size:Nat}{v:Value}{n:Nat}{xs:List Value}(h:w.ownsRow base e size v n xs)(f: ∀g,v.ownBlock=some g->w'.heap[g]?=w.heap[g]?):w'.ownsRow base e size v n xs:=by
 refine⟨h.1,?_⟩;rcases h.2 with b|⟨g,cap,a,rfl,c,d,r⟩
 ·exact .inl b
 ·exact .inr ⟨g,cap,a,rfl,c,by rw[f g rfl];exact d,r⟩
theorem OwnEnts.any {w w':World}{S:Nat->Prop}{v:Value}{zs:List Ent}(h:OwnEnts w w' S v zs){n:Nat}:OwnEnts w (w'.drewN n) S v zs:=by
 obtain⟨a,b,c⟩:=h.own;exact⟨a,b,Cells.keep (show Same S w' (w'.drewN n) from λ_ _=>rfl) c⟩
theorem Sl.tail {α:Type}[Rep α]{w:World}{S:Nat->Prop}{A:Option Addr}{n c k:Nat}{xs:List α}(h:Sl w S A n c xs)(j:k<=n):
  Sl w S (if c=k then A else A.map (·.add (k*Rep.size α))) (n-k) (c-k) (xs.drop k):=by
 refine⟨by rw[List.length_drop,h.1],by have:=h.2.1;omega,by have:=h.2.2.1;omega,λd=>?_,λl=>?_⟩
 ·by_cases f:c=k
  ·omega
  ·rw[if_neg f]at d;have:=h.2.2.2.1 (by cases A with|none=>rfl|some a=>cases d);omega
 ·obtain⟨b,off,e,hb,hi⟩:=h.2.2.2.2 Ho;have:=h.2.1;rw[if_neg Ho,e];refine⟨b,off+k*Rep.size α,by rw[Option.map_some,jv],hb,λi g=>?_⟩;rw[List.length_drop]at g;have:=hi (k+i) Ho;rw[List.getElem_drop,show off+k*Rep.size α+i*Rep.size α=off+(k+i)*Rep.size α from by rw[Nat.add_mul];omega];exact this
theorem OwnEnts.add {w wr a:World}{S:Nat->Prop}{f:Value}{zs:List Ent}{d:List Value}{x:Ent}{A:Option Addr}{n c:Nat}(e: ∀k,S k->k<w.heap.size)(l:Cells wr S d zs)(o:Sl w S A n c x.row)(j:jP x.count)(hb:Below w.heap.size w wr)(hw:Below w.heap.size wr a)(m:a.ownsRow w.heap.size 55 2 f (zs.length+1) (d++[.slice A n c,.int .i64 x.count])):OwnEnts w a S f (zs++[x]):=by
 have g:Same S wr a:=(Same.b hw).sub e;have h:Same S w a:=(Same.b (hb.trans hw)).sub e;have i:Rep.rd a S [.slice A n c,.int .i64 x.count] x:=⟨A,n,c,rfl,o.keep h,j⟩;exact⟨_,by rw[List.length_append];exact m,Cells.app (Cells.one i) (l.keep g)⟩
theorem uE.tail {C:Int}{a l:List Ent}{x:Ent}(h:uE C a)(e:a.drop 0=x::l):uE C l/\(-C<=x.count/\x.count<=C):=by
 rw[List.drop_zero]at e;subst e;exact⟨λy b=>h y (List.mem_cons_of_mem _ b),h x (List.mem_cons_self ..)⟩
theorem GZ (w:World)(A A':Option Addr)(n n' c c':Nat)(xs ys:List Ent)(hx:In w A n c xs)(hy:In w A' n' c' ys)(hn:n+n'<=1048576)(C D:Int)(aP:0<=C)(aQ:C<=1152921504606846976)(aR:0<=D)(aS:D<=1152921504606846976)(u:uE C xs)(aB:uE D ys):
  Calls Tryz.prog 49 #[.slice A n c,.slice A' n' c'] w
   λe w'=>(∃v,e=.returned v/\OwnEnts w w' (λk=>k<w.heap.size) v (fK xs ys))/\Below w.heap.size w w':=by
 obtain⟨i0,hi,ai,aj,ak⟩:=info_parts q8;have aN:=Hm hx;have aO:=Hm hy;go_enter Tryz.func49,Tryz.ntmps49;go_wp2;go_loopw [0,1,5] (λa b o wr=> ∃(B B':Option Addr) (m j d N:Nat) (f vs zs:List Ent),a=.slice B m d/\b=.slice B' j N/\In w B m d f/\In w B' j N vs/\m+j+zs.length<=n+n'/\uE C f/\uE D vs/\
   fK xs ys=zs++fK f vs/\OwnEnts w wr (λk=>k<w.heap.size) o zs/\Below w.heap.size w wr)
  (λa b _ _=>vW a+vW b)
 case atStart=>exact⟨A,A',n,n',c,c',xs,ys,[],rfl,rfl,hx,hy,by simp,u,aB,rfl,⟨[],World.ownsRow_nil _ _ _ _,rfl⟩,IJ⟩
 case round=>
  obtain⟨B,B',m,j,d,N,f,vs,zs,rfl,rfl,Y,O,aT,an,ao,ax,z,hb⟩:=hrel;have HE:=Hm ax;have HO:=Hm z;clear ax z;by_cases hm:0<m
  ·by_cases av:0<j
   ·obtain⟨E,off,x,rfl,G,HX,S,R,Q,i,q,e2,e3⟩:=Y.ent hm;simp only[Nat.zero_mul,Nat.add_zero]at i q;replace i:=eG hb G i;replace q:=eG hb G q;have am:=Nat.lt_of_lt_of_le G hb.size;have aF:(0:Int)<(m:Int):=by omega
    have aH:(1:Int)<=(m:Int):=by omega
    have aJ:(m:Int)<=(d:Int):=by have:=Y.cap;omega
    have aL:((m:Int)==0)=false:=by simp;omega
    obtain⟨J,of,y,rfl,K,HY,Yx,Yn,Yc,r,f1,f2,f3⟩:=O.ent av;simp only[Nat.zero_mul,Nat.add_zero]at r f1;replace r:=eG hb K r;replace f1:=eG hb K f1;have al:=Nat.lt_of_lt_of_le K hb.size;have aG:(0:Int)<(j:Int):=by omega
    have aI:(1:Int)<=(j:Int):=by omega
    have aK:(j:Int)<=(N:Int):=by have:=O.cap;omega
    have aM:((j:Int)==0)=false:=by simp;omega
    have ac:=Hm (show f=x::f.drop 1 by simpa using HX.o);have ad:=Hm (show vs=y::vs.drop 1 by simpa using HY.o);have ap:=Hm (Sl.tail Y (k:=1) Ho);have ae:=Hm (uE.tail an HX.o);have aq:=Hm (Sl.tail O (k:=1) Ho);have af:=Hm (uE.tail ao HY.o);have HM:=Hm (oK x y (f.drop 1) (vs.drop 1));have ay:=In.b e2 hb;have az:=In.b f2 hb;go_wp2_with fail;go_region_held3 (λw'=>w'.cell? ⟨E,off,none⟩=some (.slice S R Q)/\w'.cell? ⟨J,of,none⟩=some (.slice Yx Yn Yc)) (first|exact⟨i,r⟩|(have hq:=eF au;exact⟨eG hq am i,eG hq al r⟩)) (first|(go_at_call 83;refine(sI _ S Yx R Yn Q Yc x.row y.row (by exact ay) (by exact az)).mono ?_;rintro e P ⟨rfl,au⟩));have aa:=eF au;have ab:=eu hb aa;replace i:=eG aa am i;replace q:=eG aa am q;replace r:=eG aa al r;replace f1:=eG aa al f1;obtain⟨Z,z,aw⟩:=HO.o.own;have L:=aw.keep ((Same.b aa).sub (λk hk=>Nat.lt_of_lt_of_le hk hb.size));have I:Hl (P.ownsRow w.heap.size 55 2 u5 zs.length Z):=Hm (vR z (λg hg=>aa.block g (z.lt g hg).2));have H:=Hm (λg (h:u5.ownBlock=some g)=>(z.lt g h).1);have M:=ab.size;clear z aw au aa ay az;obtain hc|hc|hc:eZ x.row y.row<0\/0<eZ x.row y.row\/eZ x.row y.row=0:=by omega
    ·have T:Hl (fK f vs=x::fK (f.drop 1) vs):=Hm ((congr (congrArg fK ac.o) ad.o).trans (HM.o.trans (by rw[if_pos hc,<-ad.o])));go_wp2_with fail;go_region_held3 (λw'=>w'.cell? ⟨E,off,none⟩=some (.slice S R Q)/\w'.cell? ⟨E,off+1,none⟩=some (.int .i64 x.count)) (first|exact⟨i,q⟩|(have u:=(((Below.refl w.heap.size P).alloc M _).drew).grown s (by simp;omega) H.o;exact⟨(u.cell (p:=⟨E,off,none⟩) G).trans i,(u.cell (p:=⟨E,off+1,none⟩) G).trans q⟩)|go_keep) (first|(refine iL _ rfl (.tmp 54) (.tmp 58) 30 rfl w.heap.size 55 i0 _ 2 32 Tryz.underlying30 hi ai aj ak rfl (by decide) u5 zs.length Z (by simp[Act.eval,Act.put]) (by first|exact qh (I.o.alloc _)|exact I.o.alloc _) (some ⟨P.heap.size,0,none⟩) 1 1 [.slice S R Q,.int .i64 x.count] (by simp[Act.eval,Act.put]) (by intro h;cases h) (by exact qF (by simp[go_sem]) (by simp[go_sem])) pJ (by simp only[maxLen];omega) Ho (by simp;omega) ?_;intro v1 w1 F s V));have t:=(((Below.refl w.heap.size P).alloc M _).drew).grown s (by simp;omega) H.o;have X:=Hm (OwnEnts.add (x:=x) (λ_ h=>h) L e2 e3 ab t F);have W:=ab.trans t;clear F s V t L i q r f1;go_wp2;all_goals(try(exfalso;go_light;simp_all;done));go_roundw
     case rel=>
      have U:=T.o;refine⟨_,_,m-1,j,d-1,N,f.drop 1,vs,zs++[x],by simp[Rep.size,jv],rfl,ap.o,O,?_,by simpa using ae.o.1,ao,?_,X.o,W⟩
      ·simp;omega
      ·rw[HE.o,U];simp
     case measure=>simp[vW];omega
    ·have T:Hl (fK f vs=y::fK f (vs.drop 1)):=Hm ((congr (congrArg fK ac.o) ad.o).trans (HM.o.trans (by rw[if_neg Ho,if_pos hc,<-ac.o])));go_wp2_with fail;go_region_held3 (λw'=>w'.cell? ⟨J,of,none⟩=some (.slice Yx Yn Yc)/\w'.cell? ⟨J,of+1,none⟩=some (.int .i64 y.count)) (first|exact⟨r,f1⟩|(have u:=(((Below.refl w.heap.size P).alloc M _).drew).grown s (by simp;omega) H.o;exact⟨(u.cell (p:=⟨J,of,none⟩) K).trans r,(u.cell (p:=⟨J,of+1,none⟩) K).trans f1⟩)|go_keep) (first|(refine iL _ rfl (.tmp 65) (.tmp 69) 30 rfl w.heap.size 55 i0 _ 2 32 Tryz.underlying30 hi ai aj ak rfl (by decide) u5 zs.length Z (by simp[Act.eval,Act.put]) (by first|exact qh (I.o.alloc _)|exact I.o.alloc _) (some ⟨P.heap.size,0,none⟩) 1 1 [.slice Yx Yn Yc,.int .i64 y.count] (by simp[Act.eval,Act.put]) (by intro h;cases h) (by exact qF (by simp[go_sem]) (by simp[go_sem])) pJ (by simp only[maxLen];omega) Ho (by simp;omega) ?_;intro v1 w1 F s V));have t:=(((Below.refl w.heap.size P).alloc M _).drew).grown s (by simp;omega) H.o;have X:=Hm (OwnEnts.add (x:=y) (λ_ h=>h) L f2 f3 ab t F);have W:=ab.trans t;clear F s V t L i q r f1;go_wp2;all_goals(try(exfalso;go_light;simp_all;done));go_roundw
     case rel=>
      have U:=T.o;refine⟨_,_,m,j-1,d,N-1,f,vs.drop 1,zs++[y],rfl,by simp[Rep.size,jv],Y,aq.o,?_,an,by simpa using af.o.1,?_,X.o,W⟩
      ·simp;omega
      ·rw[HE.o,U];simp
     case measure=>simp[vW];omega
    ·rw[hc];have T:Hl (fK f vs=⟨x.row,x.count+y.count⟩::fK (f.drop 1) (vs.drop 1)):=Hm ((congr (congrArg fK ac.o) ad.o).trans (HM.o.trans (by rw[if_neg Ho,if_neg Ho])));have aD:=ae.o.2;have aE:=af.o.2;have aC:IntKind.i64.wrap (x.count+y.count)=x.count+y.count:=IntWalk.i64_in _ Ho;have aA:jP (x.count+y.count):=⟨Ho,Ho⟩;go_wp2_with fail;go_region_held3 (λw'=>w'.cell? ⟨E,off,none⟩=some (.slice S R Q)/\w'.cell? ⟨E,off+1,none⟩=some (.int .i64 x.count)/\w'.cell? ⟨J,of+1,none⟩=some (.int .i64 y.count)) (first|exact⟨i,q,f1⟩|(have u:=(((Below.refl w.heap.size P).alloc M _).drew).grown s (by simp;omega) H.o;exact⟨(u.cell (p:=⟨E,off,none⟩) G).trans i,(u.cell (p:=⟨E,off+1,none⟩) G).trans q,(u.cell (p:=⟨J,of+1,none⟩) K).trans f1⟩)|go_keep) (first|(refine iL _ rfl (.tmp 30) (.tmp 45) 30 rfl w.heap.size 55 i0 _ 2 32 Tryz.underlying30 hi ai aj ak rfl (by decide) u5 zs.length Z (by simp[Act.eval,Act.put]) (by first|exact qh (I.o.alloc _)|exact I.o.alloc _) (some ⟨P.heap.size,0,none⟩) 1 1 [.slice S R Q,.int .i64 (x.count+y.count)] (by simp[Act.eval,Act.put]) (by intro h;cases h) (by exact qF (by simp[go_sem]) (by simp[go_sem])) pJ (by simp only[maxLen];omega) Ho (by simp;omega) ?_;intro v1 w1 F s V));have t:=(((Below.refl w.heap.size P).alloc M _).drew).grown s (by simp;omega) H.o;have X:=Hm (OwnEnts.add (x:=⟨x.row,x.count+y.count⟩) (λ_ h=>h) L e2 aA ab t F);have W:=ab.trans t;clear F s V t L i q r f1 aC aD aE;go_wp2;go_quiet (fail);go_wp2;all_goals(try(exfalso;go_light;simp_all;done));go_roundw
     case rel=>
      have U:=T.o;refine⟨_,_,m-1,j-1,d-1,N-1,f.drop 1,vs.drop 1,zs++[⟨x.row,x.count+y.count⟩],by simp[Rep.size,jv],by simp[Rep.size,jv],ap.o,aq.o,?_,by simpa using ae.o.1,by simpa using af.o.1,?_,OwnEnts.any X.o,below_drewN W _⟩
      ·simp;omega
      ·rw[HE.o,U];simp
     case measure=>simp[vW];omega
   ·have ag:j=0:=by omega
    subst ag;have ah:vs=[]:=List.eq_nil_of_length_eq_zero O.len;obtain⟨E,off,x,rfl,G,HX,S,R,Q,i,q,e2,e3⟩:=Y.ent hm;simp only[Nat.zero_mul,Nat.add_zero]at i q;replace i:=eG hb G i;replace q:=eG hb G q;have am:=Nat.lt_of_lt_of_le G hb.size;have aF:(0:Int)<(m:Int):=by omega
    have aH:(1:Int)<=(m:Int):=by omega
    have aJ:(m:Int)<=(d:Int):=by have:=Y.cap;omega
    have aL:((m:Int)==0)=false:=by simp;omega
    have ac:=Hm (show f=x::f.drop 1 by simpa using HX.o);have ap:=Hm (Sl.tail Y (k:=1) Ho);have ae:=Hm (uE.tail an HX.o);have T:Hl (fK f vs=x::fK (f.drop 1) vs):=Hm (by rw[ah];exact(congrArg (λl=>fK l []) ac.o).trans (oL _ _));clear ah;have M:=hb.size;obtain⟨Z,z,L⟩:=HO.o.own;have I:=Hm z;have H:=Hm (λg (h:u5.ownBlock=some g)=>(z.lt g h).1);clear z;go_wp2_with fail;go_region_held3 (λw'=>w'.cell? ⟨E,off,none⟩=some (.slice S R Q)/\w'.cell? ⟨E,off+1,none⟩=some (.int .i64 x.count)) (first|exact⟨i,q⟩|(have u:=(((Below.refl w.heap.size wr).alloc M _).drew).grown s (by simp;omega) H.o;exact⟨(u.cell (p:=⟨E,off,none⟩) G).trans i,(u.cell (p:=⟨E,off+1,none⟩) G).trans q⟩)|go_keep) (first|(refine iL _ rfl (.tmp 54) (.tmp 58) 30 rfl w.heap.size 55 i0 _ 2 32 Tryz.underlying30 hi ai aj ak rfl (by decide) u5 zs.length Z (by simp[Act.eval,Act.put]) (by first|exact qh (I.o.alloc _)|exact I.o.alloc _) (some ⟨wr.heap.size,0,none⟩) 1 1 [.slice S R Q,.int .i64 x.count] (by simp[Act.eval,Act.put]) (by intro h;cases h) (by exact qF (by simp[go_sem]) (by simp[go_sem])) pJ (by simp only[maxLen];omega) Ho (by simp;omega) ?_;intro v1 w1 F s V));have t:=(((Below.refl w.heap.size wr).alloc M _).drew).grown s (by simp;omega) H.o;have X:=Hm (OwnEnts.add (x:=x) (λ_ h=>h) L e2 e3 hb t F);have W:=hb.trans t;clear F s V t L i q;go_wp2;all_goals(try(exfalso;go_light;simp_all;done));go_roundw
    case rel=>
     have U:=T.o;refine⟨_,_,m-1,0,d-1,N,f.drop 1,vs,zs++[x],by simp[Rep.size,jv],rfl,ap.o,O,?_,by simpa using ae.o.1,ao,?_,X.o,W⟩
     ·simp;omega
     ·rw[HE.o,U];simp
    case measure=>simp[vW];omega
  ·have ag:m=0:=by omega
   subst ag;have ar:f=[]:=List.eq_nil_of_length_eq_zero Y.len;by_cases av:0<j
   ·obtain⟨J,of,y,rfl,K,HY,Yx,Yn,Yc,r,f1,f2,f3⟩:=O.ent av;simp only[Nat.zero_mul,Nat.add_zero]at r f1;replace r:=eG hb K r;replace f1:=eG hb K f1;have al:=Nat.lt_of_lt_of_le K hb.size;have aG:(0:Int)<(j:Int):=by omega
    have aI:(1:Int)<=(j:Int):=by omega
    have aK:(j:Int)<=(N:Int):=by have:=O.cap;omega
    have aM:((j:Int)==0)=false:=by simp;omega
    have ad:=Hm (show vs=y::vs.drop 1 by simpa using HY.o);have aq:=Hm (Sl.tail O (k:=1) Ho);have af:=Hm (uE.tail ao HY.o);have T:Hl (fK f vs=y::fK f (vs.drop 1)):=Hm (by rw[ar];exact(congrArg (λl=>fK [] l) ad.o).trans (nD _ _));clear ar;have M:=hb.size;obtain⟨Z,z,L⟩:=HO.o.own;have I:=Hm z;have H:=Hm (λg (h:u5.ownBlock=some g)=>(z.lt g h).1);clear z;go_wp2_with fail;go_region_held3 (λw'=>w'.cell? ⟨J,of,none⟩=some (.slice Yx Yn Yc)/\w'.cell? ⟨J,of+1,none⟩=some (.int .i64 y.count)) (first|exact⟨r,f1⟩|(have u:=(((Below.refl w.heap.size wr).alloc M _).drew).grown s (by simp;omega) H.o;exact⟨(u.cell (p:=⟨J,of,none⟩) K).trans r,(u.cell (p:=⟨J,of+1,none⟩) K).trans f1⟩)|go_keep) (first|(refine iL _ rfl (.tmp 65) (.tmp 69) 30 rfl w.heap.size 55 i0 _ 2 32 Tryz.underlying30 hi ai aj ak rfl (by decide) u5 zs.length Z (by simp[Act.eval,Act.put]) (by first|exact qh (I.o.alloc _)|exact I.o.alloc _) (some ⟨wr.heap.size,0,none⟩) 1 1 [.slice Yx Yn Yc,.int .i64 y.count] (by simp[Act.eval,Act.put]) (by intro h;cases h) (by exact qF (by simp[go_sem]) (by simp[go_sem])) pJ (by simp only[maxLen];omega) Ho (by simp;omega) ?_;intro v1 w1 F s V));have t:=(((Below.refl w.heap.size wr).alloc M _).drew).grown s (by simp;omega) H.o;have X:=Hm (OwnEnts.add (x:=y) (λ_ h=>h) L f2 f3 hb t F);have W:=hb.trans t;clear F s V t L r f1;go_wp2;all_goals(try(exfalso;go_light;simp_all;done));go_roundw
    case rel=>
     have U:=T.o;refine⟨_,_,0,j-1,d,N-1,f,vs.drop 1,zs++[y],rfl,by simp[Rep.size,jv],Y,aq.o,?_,an,by simpa using af.o.1,?_,X.o,W⟩
     ·simp;omega
     ·rw[HE.o,U];simp
    case measure=>simp[vW];omega
   ·have ag:j=0:=by omega
    subst ag;have ah:vs=[]:=List.eq_nil_of_length_eq_zero O.len;have HZ:Hl (fK xs ys=zs):=Hm (by rw[HE.o,ar,ah,uQ,List.append_nil]);clear ar ah;go_wp2;go_ret;exact⟨⟨_,rfl,by rw[HZ.o];exact HO.o⟩,hb⟩
end Go.Proofs.YthnelebakkggjaaGreatDoor
