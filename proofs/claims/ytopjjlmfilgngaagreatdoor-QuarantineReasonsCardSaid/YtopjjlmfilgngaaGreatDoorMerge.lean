/-
  warehouseref6.merge.
-/
import Derived.Test.YtopjjlmfilgngaaGreatDoorGad
import Derived.Test.YtopjjlmfilgngaaGreatDoorGae
namespace Go.Proofs.YtopjjlmfilgngaaGreatDoor
set_option maxHeartbeats 2000000
set_option maxRecDepth 100000
open Go.RowKit
set_option linter.unusedSimpArgs false
set_option linter.unusedVariables false
theorem rq:(Tryz.prog.info? 50).map (λi=>(i.zero,i.size,i.bytes))=some (some (.agg #[.slice none 0 0,.int .i64 0]),2,32):=by kernel_rfl
structure OwnEnts (w w':World) (S:Nat->Prop) (v:Value) (zs:List Ent):Prop where
 own: ∃cs,w'.ownsRow w.heap.size 50 2 v zs.length cs/\Cells w' S cs zs
theorem pJ {A:Option Addr}{n c:Nat}{m:Int}: ∀u∈[Value.slice A n c,Value.int .i64 m],u.oneCell'=true:=by
 intro u a;simp at a;rcases a with rfl|rfl<;>rfl
theorem qG {w:World}{b o:Nat}{c d:Value}(e:w.cell? ⟨b,o,none⟩=some c)(f:w.cell? ⟨b,o+1,none⟩=some d):Src w 2 (some ⟨b,o,none⟩) 1 [c,d]:=
 ⟨rfl,λ_=>⟨b,o,rfl,λj u a=>by
  match j,a with
  | 0,a=>simp at a;subst a;exact e
  | 1,a=>simp at a;subst a;exact f⟩⟩
theorem qc {w:World}{base:Nat}{e:TypeId}{size:Nat}{v:Value}{n:Nat}{xs:List Value}(h:w.ownsRow base e size v n xs):w.drew.ownsRow base e size v n xs:=h
theorem wG {w w':World}{base:Nat}{e:TypeId}{size:Nat}{v:Value}{n:Nat}{xs:List Value}(h:w.ownsRow base e size v n xs)(f: ∀g,v.ownBlock=some g->w'.heap[g]?=w.heap[g]?):w'.ownsRow base e size v n xs:=by
 refine⟨h.1,?_⟩;rcases h.2 with b|⟨g,cap,a,rfl,c,d,r⟩
 ·exact .inl b
 ·exact .inr ⟨g,cap,a,rfl,c,by rw[f g rfl];exact d,r⟩
theorem OwnEnts.any {w w':World}{S:Nat->Prop}{v:Value}{zs:List Ent}(h:OwnEnts w w' S v zs){n:Nat}:OwnEnts w (w'.drewN n) S v zs:=by
 obtain⟨a,b,c⟩:=h.own;exact⟨a,b,Cells.keep (show Same S w' (w'.drewN n) from λ_ _=>rfl) c⟩
theorem Sl.tail {α:Type}[Rep α]{w:World}{S:Nat->Prop}{A:Option Addr}{n c k:Nat}{xs:List α}(h:Sl w S A n c xs)(j:k<=n):
  Sl w S (if c=k then A else A.map (·.add (k*Rep.size α))) (n-k) (c-k) (xs.drop k):=by
 refine⟨by rw[List.length_drop,h.1],by have:=h.2.1;omega,by have:=h.2.2.1;omega,λd=>?_,λl=>?_⟩
 ·by_cases f:c=k
  ·omega
  ·rw[if_neg f]at d;have:=h.2.2.2.1 (by cases A with|none=>rfl|some a=>cases d);omega
 ·obtain⟨b,off,e,hb,hi⟩:=h.2.2.2.2 (by omega);have:=h.2.1;rw[if_neg (by omega),e];refine⟨b,off+k*Rep.size α,by rw[Option.map_some,mE],hb,λi g=>?_⟩;rw[List.length_drop]at g;have:=hi (k+i) (by omega);rw[List.getElem_drop,show off+k*Rep.size α+i*Rep.size α=off+(k+i)*Rep.size α from by rw[Nat.add_mul];omega];exact this
theorem OwnEnts.add {w wr a:World}{S:Nat->Prop}{e:Value}{zs:List Ent}{b:List Value}{x:Ent}{A:Option Addr}{n c:Nat}(d: ∀k,S k->k<w.heap.size)(j:Cells wr S b zs)(m:Sl w S A n c x.row)(i:jU x.count)(hb:Below w.heap.size w wr)(hw:Below w.heap.size wr a)(l:a.ownsRow w.heap.size 50 2 e (zs.length+1) (b++[.slice A n c,.int .i64 x.count])):OwnEnts w a S e (zs++[x]):=by
 have f:Same S wr a:=(Same.below hw).sub d;have g:Same S w a:=(Same.below (hb.trans hw)).sub d;have h:Rep.rd a S [.slice A n c,.int .i64 x.count] x:=⟨A,n,c,rfl,m.keep g,i⟩;exact⟨_,by rw[List.length_append];exact l,Cells.app (Cells.one h) (j.keep f)⟩
theorem vN.tail {C:Int}{a l:List Ent}{x:Ent}(h:vN C a)(e:a.drop 0=x::l):vN C l/\(-C<=x.count/\x.count<=C):=by
 rw[List.drop_zero]at e;subst e;exact⟨λy b=>h y (List.mem_cons_of_mem _ b),h x (List.mem_cons_self ..)⟩
theorem Jh (w:World)(A A':Option Addr)(n n' c c':Nat)(xs ys:List Ent)(hx:In w A n c xs)(hy:In w A' n' c' ys)(hn:n+n'<=1048576)(C D:Int)(aP:0<=C)(aQ:C<=1152921504606846976)(aR:0<=D)(aS:D<=1152921504606846976)(u:vN C xs)(aB:vN D ys):
  Calls Tryz.prog 47 #[.slice A n c,.slice A' n' c'] w
   λe w'=>(∃v,e=.returned v/\OwnEnts w w' (λk=>k<w.heap.size) v (iZ xs ys))/\Below w.heap.size w w':=by
 obtain⟨i0,hi,ai,aj,ak⟩:=info_parts rq;have aN:=Hm hx;have aO:=Hm hy;go_enter Tryz.func47,Tryz.ntmps47;go_wp2;go_loopw [0,1,5] (λa b o wr=> ∃(B B':Option Addr) (m j d N:Nat) (f vs zs:List Ent),a=.slice B m d/\b=.slice B' j N/\In w B m d f/\In w B' j N vs/\m+j+zs.length<=n+n'/\vN C f/\vN D vs/\
   iZ xs ys=zs++iZ f vs/\OwnEnts w wr (λk=>k<w.heap.size) o zs/\Below w.heap.size w wr)
  (λa b _ _=>GD a+GD b)
 case atStart=>exact⟨A,A',n,n',c,c',xs,ys,[],rfl,rfl,hx,hy,by simp,u,aB,rfl,⟨[],World.ownsRow_nil _ _ _ _,rfl⟩,Below.refl _ _⟩
 case round=>
  obtain⟨B,B',m,j,d,N,f,vs,zs,rfl,rfl,Y,O,aT,an,ao,ax,z,hb⟩:=hrel;have HE:=Hm ax;have HO:=Hm z;clear ax z;by_cases hm:0<m
  ·by_cases av:0<j
   ·obtain⟨E,off,x,rfl,G,HX,S,R,Q,i,q,e2,e3⟩:=Y.ent hm;simp only[Nat.zero_mul,Nat.add_zero]at i q;replace i:=fO hb G i;replace q:=fO hb G q;have am:=Nat.lt_of_lt_of_le G hb.size;have aF:(0:Int)<(m:Int):=by omega
    have aH:(1:Int)<=(m:Int):=by omega
    have aJ:(m:Int)<=(d:Int):=by have:=Y.cap;omega
    have aL:((m:Int)==0)=false:=by simp;omega
    obtain⟨J,of,y,rfl,K,HY,Yx,Yn,Yc,r,f1,f2,f3⟩:=O.ent av;simp only[Nat.zero_mul,Nat.add_zero]at r f1;replace r:=fO hb K r;replace f1:=fO hb K f1;have al:=Nat.lt_of_lt_of_le K hb.size;have aG:(0:Int)<(j:Int):=by omega
    have aI:(1:Int)<=(j:Int):=by omega
    have aK:(j:Int)<=(N:Int):=by have:=O.cap;omega
    have aM:((j:Int)==0)=false:=by simp;omega
    have ac:=Hm (show f=x::f.drop 1 by simpa using HX.o);have ad:=Hm (show vs=y::vs.drop 1 by simpa using HY.o);have ap:=Hm (Sl.tail Y (k:=1) (by omega));have ae:=Hm (vN.tail an HX.o);have aq:=Hm (Sl.tail O (k:=1) (by omega));have af:=Hm (vN.tail ao HY.o);have HM:=Hm (qA x y (f.drop 1) (vs.drop 1));have ay:=In.below e2 hb;have az:=In.below f2 hb;go_wp2_with fail;go_region_held3 (λw'=>w'.cell? ⟨E,off,none⟩=some (.slice S R Q)/\w'.cell? ⟨J,of,none⟩=some (.slice Yx Yn Yc)) (first|exact⟨i,r⟩|(have hq:=fP au;exact⟨fO hq am i,fO hq al r⟩)) (first|(go_at_call 64;refine(oZ _ S Yx R Yn Q Yc x.row y.row (by exact ay) (by exact az)).mono ?_;rintro e P ⟨rfl,au⟩));have aa:=fP au;have ab:=fH hb aa;replace i:=fO aa am i;replace q:=fO aa am q;replace r:=fO aa al r;replace f1:=fO aa al f1;obtain⟨Z,z,aw⟩:=HO.o.own;have L:=aw.keep ((Same.below aa).sub (λk hk=>Nat.lt_of_lt_of_le hk hb.size));have I:Hl (P.ownsRow w.heap.size 50 2 u5 zs.length Z):=Hm (wG z (λg hg=>aa.block g (z.lt g hg).2));have H:=Hm (λg (h:u5.ownBlock=some g)=>(z.lt g h).1);have M:=ab.size;clear z aw au aa ay az;obtain hc|hc|hc:gq x.row y.row<0\/0<gq x.row y.row\/gq x.row y.row=0:=by omega
    ·have T:Hl (iZ f vs=x::iZ (f.drop 1) vs):=Hm ((congr (congrArg iZ ac.o) ad.o).trans (HM.o.trans (by rw[if_pos hc,<-ad.o])));go_wp2_with fail;go_region_held3 (λw'=>w'.cell? ⟨E,off,none⟩=some (.slice S R Q)/\w'.cell? ⟨E,off+1,none⟩=some (.int .i64 x.count)) (first|exact⟨i,q⟩|(have u:=(((Below.refl w.heap.size P).alloc M _).drew).grown s (by simp;omega) H.o;exact⟨(u.cell (p:=⟨E,off,none⟩) G).trans i,(u.cell (p:=⟨E,off+1,none⟩) G).trans q⟩)|go_keep) (first|(refine jl _ rfl (.tmp 54) (.tmp 58) 27 rfl w.heap.size 50 i0 _ 2 32 Tryz.underlying27 hi ai aj ak rfl (by decide) u5 zs.length Z (by simp[Act.eval,Act.put]) (by first|exact qc (I.o.alloc _)|exact I.o.alloc _) (some ⟨P.heap.size,0,none⟩) 1 1 [.slice S R Q,.int .i64 x.count] (by simp[Act.eval,Act.put]) (by intro h;cases h) (by exact qG (by simp[go_sem]) (by simp[go_sem])) pJ (by simp only[maxLen];omega) (by omega) (by simp;omega) ?_;intro v1 w1 F s V));have t:=(((Below.refl w.heap.size P).alloc M _).drew).grown s (by simp;omega) H.o;have X:=Hm (OwnEnts.add (x:=x) (λ_ h=>h) L e2 e3 ab t F);have W:=ab.trans t;clear F s V t L i q r f1;go_wp2;all_goals(try(exfalso;go_light;simp_all;done));go_roundw
     case rel=>
      have U:=T.o;refine⟨_,_,m-1,j,d-1,N,f.drop 1,vs,zs++[x],by simp[Rep.size,mE],rfl,ap.o,O,?_,by simpa using ae.o.1,ao,?_,X.o,W⟩
      ·simp;omega
      ·rw[HE.o,U];simp
     case measure=>simp[GD];omega
    ·have T:Hl (iZ f vs=y::iZ f (vs.drop 1)):=Hm ((congr (congrArg iZ ac.o) ad.o).trans (HM.o.trans (by rw[if_neg (by omega),if_pos hc,<-ac.o])));go_wp2_with fail;go_region_held3 (λw'=>w'.cell? ⟨J,of,none⟩=some (.slice Yx Yn Yc)/\w'.cell? ⟨J,of+1,none⟩=some (.int .i64 y.count)) (first|exact⟨r,f1⟩|(have u:=(((Below.refl w.heap.size P).alloc M _).drew).grown s (by simp;omega) H.o;exact⟨(u.cell (p:=⟨J,of,none⟩) K).trans r,(u.cell (p:=⟨J,of+1,none⟩) K).trans f1⟩)|go_keep) (first|(refine jl _ rfl (.tmp 65) (.tmp 69) 27 rfl w.heap.size 50 i0 _ 2 32 Tryz.underlying27 hi ai aj ak rfl (by decide) u5 zs.length Z (by simp[Act.eval,Act.put]) (by first|exact qc (I.o.alloc _)|exact I.o.alloc _) (some ⟨P.heap.size,0,none⟩) 1 1 [.slice Yx Yn Yc,.int .i64 y.count] (by simp[Act.eval,Act.put]) (by intro h;cases h) (by exact qG (by simp[go_sem]) (by simp[go_sem])) pJ (by simp only[maxLen];omega) (by omega) (by simp;omega) ?_;intro v1 w1 F s V));have t:=(((Below.refl w.heap.size P).alloc M _).drew).grown s (by simp;omega) H.o;have X:=Hm (OwnEnts.add (x:=y) (λ_ h=>h) L f2 f3 ab t F);have W:=ab.trans t;clear F s V t L i q r f1;go_wp2;all_goals(try(exfalso;go_light;simp_all;done));go_roundw
     case rel=>
      have U:=T.o;refine⟨_,_,m,j-1,d,N-1,f,vs.drop 1,zs++[y],rfl,by simp[Rep.size,mE],Y,aq.o,?_,an,by simpa using af.o.1,?_,X.o,W⟩
      ·simp;omega
      ·rw[HE.o,U];simp
     case measure=>simp[GD];omega
    ·rw[hc];have T:Hl (iZ f vs=⟨x.row,x.count+y.count⟩::iZ (f.drop 1) (vs.drop 1)):=Hm ((congr (congrArg iZ ac.o) ad.o).trans (HM.o.trans (by rw[if_neg (by omega),if_neg (by omega)])));have aD:=ae.o.2;have aE:=af.o.2;have aC:IntKind.i64.wrap (x.count+y.count)=x.count+y.count:=IntWalk.i64_in _ (by omega);have aA:jU (x.count+y.count):=⟨by omega,by omega⟩;go_wp2_with fail;go_region_held3 (λw'=>w'.cell? ⟨E,off,none⟩=some (.slice S R Q)/\w'.cell? ⟨E,off+1,none⟩=some (.int .i64 x.count)/\w'.cell? ⟨J,of+1,none⟩=some (.int .i64 y.count)) (first|exact⟨i,q,f1⟩|(have u:=(((Below.refl w.heap.size P).alloc M _).drew).grown s (by simp;omega) H.o;exact⟨(u.cell (p:=⟨E,off,none⟩) G).trans i,(u.cell (p:=⟨E,off+1,none⟩) G).trans q,(u.cell (p:=⟨J,of+1,none⟩) K).trans f1⟩)|go_keep) (first|(refine jl _ rfl (.tmp 30) (.tmp 45) 27 rfl w.heap.size 50 i0 _ 2 32 Tryz.underlying27 hi ai aj ak rfl (by decide) u5 zs.length Z (by simp[Act.eval,Act.put]) (by first|exact qc (I.o.alloc _)|exact I.o.alloc _) (some ⟨P.heap.size,0,none⟩) 1 1 [.slice S R Q,.int .i64 (x.count+y.count)] (by simp[Act.eval,Act.put]) (by intro h;cases h) (by exact qG (by simp[go_sem]) (by simp[go_sem])) pJ (by simp only[maxLen];omega) (by omega) (by simp;omega) ?_;intro v1 w1 F s V));have t:=(((Below.refl w.heap.size P).alloc M _).drew).grown s (by simp;omega) H.o;have X:=Hm (OwnEnts.add (x:=⟨x.row,x.count+y.count⟩) (λ_ h=>h) L e2 aA ab t F);have W:=ab.trans t;clear F s V t L i q r f1 aC aD aE;go_wp2;go_quiet (fail);go_wp2;all_goals(try(exfalso;go_light;simp_all;done));go_roundw
     case rel=>
      have U:=T.o;refine⟨_,_,m-1,j-1,d-1,N-1,f.drop 1,vs.drop 1,zs++[⟨x.row,x.count+y.count⟩],by simp[Rep.size,mE],by simp[Rep.size,mE],ap.o,aq.o,?_,by simpa using ae.o.1,by simpa using af.o.1,?_,OwnEnts.any X.o,below_drewN W _⟩
      ·simp;omega
      ·rw[HE.o,U];simp
     case measure=>simp[GD];omega
   ·have ag:j=0:=by omega
    subst ag;have ah:vs=[]:=List.eq_nil_of_length_eq_zero O.len;obtain⟨E,off,x,rfl,G,HX,S,R,Q,i,q,e2,e3⟩:=Y.ent hm;simp only[Nat.zero_mul,Nat.add_zero]at i q;replace i:=fO hb G i;replace q:=fO hb G q;have am:=Nat.lt_of_lt_of_le G hb.size;have aF:(0:Int)<(m:Int):=by omega
    have aH:(1:Int)<=(m:Int):=by omega
    have aJ:(m:Int)<=(d:Int):=by have:=Y.cap;omega
    have aL:((m:Int)==0)=false:=by simp;omega
    have ac:=Hm (show f=x::f.drop 1 by simpa using HX.o);have ap:=Hm (Sl.tail Y (k:=1) (by omega));have ae:=Hm (vN.tail an HX.o);have T:Hl (iZ f vs=x::iZ (f.drop 1) vs):=Hm (by rw[ah];exact(congrArg (λl=>iZ l []) ac.o).trans (qB _ _));clear ah;have M:=hb.size;obtain⟨Z,z,L⟩:=HO.o.own;have I:=Hm z;have H:=Hm (λg (h:u5.ownBlock=some g)=>(z.lt g h).1);clear z;go_wp2_with fail;go_region_held3 (λw'=>w'.cell? ⟨E,off,none⟩=some (.slice S R Q)/\w'.cell? ⟨E,off+1,none⟩=some (.int .i64 x.count)) (first|exact⟨i,q⟩|(have u:=(((Below.refl w.heap.size wr).alloc M _).drew).grown s (by simp;omega) H.o;exact⟨(u.cell (p:=⟨E,off,none⟩) G).trans i,(u.cell (p:=⟨E,off+1,none⟩) G).trans q⟩)|go_keep) (first|(refine jl _ rfl (.tmp 54) (.tmp 58) 27 rfl w.heap.size 50 i0 _ 2 32 Tryz.underlying27 hi ai aj ak rfl (by decide) u5 zs.length Z (by simp[Act.eval,Act.put]) (by first|exact qc (I.o.alloc _)|exact I.o.alloc _) (some ⟨wr.heap.size,0,none⟩) 1 1 [.slice S R Q,.int .i64 x.count] (by simp[Act.eval,Act.put]) (by intro h;cases h) (by exact qG (by simp[go_sem]) (by simp[go_sem])) pJ (by simp only[maxLen];omega) (by omega) (by simp;omega) ?_;intro v1 w1 F s V));have t:=(((Below.refl w.heap.size wr).alloc M _).drew).grown s (by simp;omega) H.o;have X:=Hm (OwnEnts.add (x:=x) (λ_ h=>h) L e2 e3 hb t F);have W:=hb.trans t;clear F s V t L i q;go_wp2;all_goals(try(exfalso;go_light;simp_all;done));go_roundw
    case rel=>
     have U:=T.o;refine⟨_,_,m-1,0,d-1,N,f.drop 1,vs,zs++[x],by simp[Rep.size,mE],rfl,ap.o,O,?_,by simpa using ae.o.1,ao,?_,X.o,W⟩
     ·simp;omega
     ·rw[HE.o,U];simp
    case measure=>simp[GD];omega
  ·have ag:m=0:=by omega
   subst ag;have ar:f=[]:=List.eq_nil_of_length_eq_zero Y.len;by_cases av:0<j
   ·obtain⟨J,of,y,rfl,K,HY,Yx,Yn,Yc,r,f1,f2,f3⟩:=O.ent av;simp only[Nat.zero_mul,Nat.add_zero]at r f1;replace r:=fO hb K r;replace f1:=fO hb K f1;have al:=Nat.lt_of_lt_of_le K hb.size;have aG:(0:Int)<(j:Int):=by omega
    have aI:(1:Int)<=(j:Int):=by omega
    have aK:(j:Int)<=(N:Int):=by have:=O.cap;omega
    have aM:((j:Int)==0)=false:=by simp;omega
    have ad:=Hm (show vs=y::vs.drop 1 by simpa using HY.o);have aq:=Hm (Sl.tail O (k:=1) (by omega));have af:=Hm (vN.tail ao HY.o);have T:Hl (iZ f vs=y::iZ f (vs.drop 1)):=Hm (by rw[ar];exact(congrArg (λl=>iZ [] l) ad.o).trans (pI _ _));clear ar;have M:=hb.size;obtain⟨Z,z,L⟩:=HO.o.own;have I:=Hm z;have H:=Hm (λg (h:u5.ownBlock=some g)=>(z.lt g h).1);clear z;go_wp2_with fail;go_region_held3 (λw'=>w'.cell? ⟨J,of,none⟩=some (.slice Yx Yn Yc)/\w'.cell? ⟨J,of+1,none⟩=some (.int .i64 y.count)) (first|exact⟨r,f1⟩|(have u:=(((Below.refl w.heap.size wr).alloc M _).drew).grown s (by simp;omega) H.o;exact⟨(u.cell (p:=⟨J,of,none⟩) K).trans r,(u.cell (p:=⟨J,of+1,none⟩) K).trans f1⟩)|go_keep) (first|(refine jl _ rfl (.tmp 65) (.tmp 69) 27 rfl w.heap.size 50 i0 _ 2 32 Tryz.underlying27 hi ai aj ak rfl (by decide) u5 zs.length Z (by simp[Act.eval,Act.put]) (by first|exact qc (I.o.alloc _)|exact I.o.alloc _) (some ⟨wr.heap.size,0,none⟩) 1 1 [.slice Yx Yn Yc,.int .i64 y.count] (by simp[Act.eval,Act.put]) (by intro h;cases h) (by exact qG (by simp[go_sem]) (by simp[go_sem])) pJ (by simp only[maxLen];omega) (by omega) (by simp;omega) ?_;intro v1 w1 F s V));have t:=(((Below.refl w.heap.size wr).alloc M _).drew).grown s (by simp;omega) H.o;have X:=Hm (OwnEnts.add (x:=y) (λ_ h=>h) L f2 f3 hb t F);have W:=hb.trans t;clear F s V t L r f1;go_wp2;all_goals(try(exfalso;go_light;simp_all;done));go_roundw
    case rel=>
     have U:=T.o;refine⟨_,_,0,j-1,d,N-1,f,vs.drop 1,zs++[y],rfl,by simp[Rep.size,mE],Y,aq.o,?_,an,by simpa using af.o.1,?_,X.o,W⟩
     ·simp;omega
     ·rw[HE.o,U];simp
    case measure=>simp[GD];omega
   ·have ag:j=0:=by omega
    subst ag;have ah:vs=[]:=List.eq_nil_of_length_eq_zero O.len;have HZ:Hl (iZ xs ys=zs):=Hm (by rw[HE.o,ar,ah,vE,List.append_nil]);clear ar ah;go_wp2;go_ret;exact⟨⟨_,rfl,by rw[HZ.o];exact HO.o⟩,hb⟩
end Go.Proofs.YtopjjlmfilgngaaGreatDoor
