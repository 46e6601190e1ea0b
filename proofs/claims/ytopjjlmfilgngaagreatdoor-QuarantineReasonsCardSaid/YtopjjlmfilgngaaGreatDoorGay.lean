/-
  bag.Normalize; partition.Join. How waivers and quarantined rows read as arguments. inspect.copied: a bag in new memory. check.Violations. (Printed by gen_vioW.py.) check.Violations. (Printed by gen_vioW.py.) bag.Count: the count of a row. check.Judge. (Printed by gen_jdg.py.)
-/
import Derived.Deep.DeepCutAuto
import Derived.Test.YtopjjlmfilgngaaGreatDoorGap
import Derived.Test.YtopjjlmfilgngaaGreatDoorGax
namespace Go.Proofs.YtopjjlmfilgngaaGreatDoor
set_option maxHeartbeats 4000000
set_option maxRecDepth 100000
open Go.RowKit
set_option linter.unusedSimpArgs false
set_option linter.unusedVariables false
theorem SrcAt.alloc {w:World}{o:Obj}{size n:Nat}{A:Option Addr}{cs:List Value}(h:Src w size A n cs):Src (w.alloc o) size A n cs:=⟨h.1,λd=>by
 obtain⟨c,f,e,a⟩:=h.2 d;exact⟨c,f,e,λj u b=>fO fI (lt_of_cell (a j u b)) (a j u b)⟩⟩
open Go.ChangeShapes Go.WideShapes Go.ChangeAt Go.RowKit Go.WideElems
section
variable {P:Program}{t:TypeId}{e f1 f g:Field}
theorem Gl (h:P.underlying t=some (.struct #[e,f1,f,g]))(q:P.cellsOf t=4)(l:lM P e 0 ByteArray)(m:lM P f1 1 (List Val))(o:lM P f 2 Int)(p:lM P g 3 (List ByteArray)):pq P t Quar:=
 Gj h q l m o p λ_ _ _ _ _ _ a b d x i ⟨A,n,c,j,r⟩ rd ⟨A',n',c',k,s⟩=>⟨⟨a,b,d,x⟩,A,n,c,A',n',c',by rw[i.1,j,rd.1,k];rfl,r,s,i.2,rd.2⟩
end
theorem EK:pq Tryz.prog 57 Quar:=
 Gl Tryz.underlying57 (by kernel_rfl) ⟨rfl,by kernel_rfl,sH Tryz.underlying9⟩ ⟨rfl,by kernel_rfl,Gp⟩ ⟨rfl,by kernel_rfl,uI Tryz.underlying3⟩ ⟨rfl,by kernel_rfl,Gm⟩
def Mr (e:TypeId)(B:Nat)(T:List TypeId)(w:World)(v:Value)(xs:List Ent)(k:Nat):Prop:=
 (∃a b,w.ownsRow B e 2 v xs.length (a++b)/\Cells w (BS B (λ_=>False) T w) a (xs.take k)/\Cells w (BS B (λ_=>True) T w) b (xs.drop k))/\B<=w.heap.size
theorem Oj {B:Nat}{T:List TypeId}{w:World}{k:Nat}(h:BS B (λ_=>False) T w k):BS B (λ_=>True) T w k:=by
 rcases h with ⟨h,_⟩|h
 ·cases h
 ·exact .inr h
theorem Mr.start {e:TypeId}{B:Nat}{T:List TypeId}{w:World}{v:Value}{xs:List Ent}(h:OL e B (λ_=>True) T w v xs):Mr e B T w v xs 0:=by
 obtain⟨⟨a,b,c⟩,hb⟩:=h;exact⟨⟨[],a,b,rfl,c⟩,hb⟩
theorem Mr.any {e:TypeId}{B:Nat}{T:List TypeId}{w:World}{v:Value}{xs:List Ent}{k:Nat}(h:Mr e B T w v xs k):OL e B (λ_=>True) T w v xs:=by
 obtain⟨⟨g,i,b,c,d⟩,hb⟩:=h;have a:=Cells.app d (c.mono λ_ f=>Oj f);rw[List.take_append_drop]at a;exact⟨⟨_,b,a⟩,hb⟩
theorem Mr.below {e:TypeId}{B:Nat}{T:List TypeId}{w b:World}{v:Value}{xs:List Ent}{k:Nat}(h:Mr e B T w v xs k)(hb:Below w.heap.size w b):Mr e B T b v xs k:=by
 obtain⟨⟨l,m,d,n,o⟩,c⟩:=h;have f: ∀j,BS B (λ_=>False) T w j->b.heap[j]?=w.heap[j]?:=λj a=>hb.block j (a.lt c);have i: ∀j,BS B (λ_=>True) T w j->b.heap[j]?=w.heap[j]?:=λj a=>hb.block j (a.lt c);exact⟨⟨l,m,Ce d λg p=>hb.block g (wH d p).2.lt,(n.keep f).mono λj a=>a.kept (f j a),(o.keep i).mono λj a=>a.kept (i j a)⟩,Nat.le_trans c hb.size⟩
theorem OL.addr {α:Type}[Rep α]{e:TypeId}{B:Nat}{O:Nat->Prop}{T:List TypeId}{w:World}{A:Option Addr}{n c:Nat}{xs:List α}(h:OL e B O T w (.slice A n c) xs)(m:0<xs.length): ∃g,A=some ⟨g,0,none⟩/\B<=g/\iF w e g/\ ∀o,w.frozen? ⟨g,o,none⟩=false:=by
 obtain⟨⟨j,f,l⟩,hb⟩:=h;rcases f.2 with ⟨_,k⟩|⟨g,cap,d,a,i,b,_⟩
 ·omega
 ·injection a with a;exact⟨g,a,i,⟨d,b⟩,λo=>frozen_of_row w g o _ _ b⟩
theorem Mr.step {e:TypeId}{B:Nat}{T:List TypeId}{w:World}{g n c:Nat}{xs:List Ent}{k:Nat}(h:Mr e B T w (.slice (some ⟨g,0,none⟩) n c) xs k)(F:e∉T){x:Ent}(o:xs.drop k=x::xs.drop (k+1)){i:Option Addr}{m c1:Nat}(hs:Sl w (BS B (λ_=>False) T w) i m c1 x.row):
  Mr e B T (w.setCell ⟨g,k*2,none⟩ (.slice i m c1)) (.slice (some ⟨g,0,none⟩) n c) xs (k+1):=by
 obtain⟨⟨r,M,t,u,v⟩,hb⟩:=h;rw[o]at v;obtain⟨a,b,rfl,⟨L,Q,c0,rfl,P,J⟩,G⟩:=v;have I:r.length=k*2:=by
  have p:=u.len;have y:k<xs.length:=by
   rcases Nat.lt_or_ge k xs.length with q|q
   ·exact q
   ·rw[List.drop_eq_nil_of_le q]at o;cases o
  rw[p,List.length_take,Nat.min_eq_left (by omega)];rfl
 rcases t.2 with ⟨f,_⟩|⟨N,cap,s,f,H,z,p,y,C,D⟩
 ·cases f
 injection f with f q1 q2;injection f with f;injection f with f;subst f q2;have l: ∀(O:Nat->Prop) j,BS B O T w j->(w.setCell ⟨g,k*2,none⟩ (.slice i m c1)).heap[j]?=w.heap[j]?:=λO j d=>Below.heap_setCell _ _ _ j (λq=>by
  have q:j=g:=q;subst q;rcases d with ⟨_,d⟩|⟨_,R,K,d⟩
  ·omega
  ·exact iF.ne ⟨s,z⟩ d (λA=>F (A▸K)) rfl)
 refine⟨⟨r++[.slice i m c1,.int .i64 x.count],b,⟨?_,.inr ⟨g,c,s.setIfInBounds (k*2) (.slice i m c1),by rw[q1],H,by simp[World.setCell,Array.getElem?_modify,z],p,y,by simpa using C,?_⟩⟩,?_,?_⟩,by simpa[World.setCell] using hb⟩
 ·have E:=t.1;simp at E⊢;omega
 ·rw[Array.toList_setIfInBounds,List.take_set,D,<-I];simp
 ·rw[ic o];refine Cells.app (Cells.one (show Rep.rd _ _ [.slice i m c1,.int .i64 x.count] x from⟨_,_,_,rfl,(Sl.keep (λj d=>l _ j d) hs).mono λj d=>d.kept (l _ j d),J⟩)) ((u.keep (l _)).mono λj d=>d.kept (l _ j d))
 ·exact(G.keep (l _)).mono λj d=>d.kept (l _ j d)
open Go.RowKit Go.Maps
theorem OL.ne_new {α:Type}[Rep α]{e:TypeId}{B:Nat}{O:Nat->Prop}{T:List TypeId}{w:World}{v:Value}{xs:List α}(h:OL e B O T w v xs):some w.heap.size≠v.ownBlock:=λq=>by
 have:=(h.ty q.symm).2.lt;omega
theorem nS (w:World)(x:Chk)(A:Option Addr)(n c:Nat)(K:In w A n c x.cols)(A':Option Addr)(n' c':Nat)(L:In w A' n' c' x.ocols)(A'':Option Addr)(n'' c'':Nat)(O:In w A'' n'' c'' x.cond)(hw:Words w)(rn:ByteArray)(T:Option Addr)(S c1:Nat)(cols:List Col)(J:In w T S c1 cols)(Ak:Option Addr)(nk ck:Nat)(A3:Option Addr)(n3 c3:Nat)(rows:List Ent)(P:In w A3 n3 c3 rows)(on:ByteArray)(A2:Option Addr)(n2 c2:Nat)(f:List Col)(M:In w A2 n2 c2 f)(Al:Option Addr)(nl cl:Nat)(U:Option Addr)(n4 c4:Nat)(g:List Ent)(N:In w U n4 c4 g)(Z:Option Addr)(n5 c5:Nat)(zs:List Zone)(Q:In w Z n5 c5 zs)(aB:n<=4096)(aC:n'<=4096)(aD:S<=4096)(Y:n2<=4096):
  Calls Tryz.prog 59 #[.agg (fZ x A n c A' n' c' A'' n'' c'').toArray,.agg #[.string rn,.slice T S c1,.slice Ak nk ck,.slice A3 n3 c3],.agg #[.string on,.slice A2 n2 c2,.slice Al nl cl,.slice U n4 c4],.slice Z n5 c5] w
   λe w'=>(∃v,e=.returned (.tuple #[v,.int .i64 (jg x cols f rows g zs).1])/\OE w.heap.size w' v (jg x cols f rows g zs).2)/\Below w.heap.size w w':=by
 have HA:=Hm λW K L O hw J P M N Q=>Cu W x A n c K A' n' c' L A'' n'' c'' O hw rn T S c1 cols J Ak nk ck A3 n3 c3 rows P on A2 n2 c2 f M Al nl cl U n4 c4 g N Z n5 c5 zs Q aB aC aD Y;have HB:=Hm λW K L O hw J P M N Q H=>Du W x A n c K A' n' c' L A'' n'' c'' O hw rn T S c1 cols J Ak nk ck A3 n3 c3 rows P on A2 n2 c2 f M Al nl cl U n4 c4 g N Z n5 c5 zs Q aB aC aD Y H;have HD:=Hm (show jg x cols f rows g zs=if gP x cols f rows g zs≠0 then(gP x cols f rows g zs,[]) else(0,rows.filter λy=>iU x cols f rows g zs y.row) from rfl);have ar:=Hm (λh=>jX (c:=x) (rc:=cols) (oc:=f) (rr:=rows) (orr:=g) (zs:=zs) h);obtain⟨R,hR⟩: ∃R,jg x cols f rows g zs=R:=⟨_,rfl⟩;obtain⟨E,H⟩: ∃E,gP x cols f rows g zs=E:=⟨_,rfl⟩;obtain⟨X,az⟩: ∃V,iU x cols f rows g zs=V:=⟨_,rfl⟩;rw[hR,H]at HD;rw[H]at HA ar;rw[az]at HD HB;simp only[H]at HB;rw[hR];clear hR H az;simp only[fZ]at HA HB⊢;go_enter Tryz.func59,Tryz.ntmps59;have C:=Hm K;clear K;have ao:=Hm L;clear L;have HQ:=Hm O;clear O;have HW:=Hm hw;clear hw;have HC:=Hm J;clear J;have HO:=Hm M;clear M;have HZ:=Hm Q;clear Q;have D:=Hm P;clear P;have aq:=Hm N;clear N;go_wp2_with fail;obtain⟨W3,aA,a9,aG,r⟩:=jN w x A n c A' n' c' A'' n'' c'' rn T S c1 Ak nk ck A3 n3 c3 on A2 n2 c2 Al nl cl U n4 c4;rw[<-aA];clear aA;have d:=Hm aG;clear aG;obtain⟨⟨LR,g0,g1,g2,g3,g4,g5,g6,g7,g8,g9,av,aw,ax,ay⟩,⟨s,t,u,z,B⟩,L3,s0,s1,s2,s3⟩:=r.o _ (Below.refl _ _);go_wp2_with fail;refine(HA.o _ (C.o.below d.o) (ao.o.below d.o) (HQ.o.below d.o) (HW.o.below d.o) (HC.o.below d.o) (D.o.below d.o) (HO.o.below d.o) (aq.o.below d.o) (HZ.o.below d.o)).mono ?_;rintro e w3 ⟨rfl,Y⟩;have G:=Hm Y;clear Y;by_cases aj:E=0;rotate_left
 ·have q0:(E != 0)=true:=by simpa using aj
  have ag:Hl (R=(E,[])):=Hm (by rw[HD.o,if_pos aj]);obtain rfl:=ag.o;obtain⟨⟨LR,g0,g1,g2,g3,g4,g5,g6,g7,g8,g9,av,aw,ax,ay⟩,⟨s,t,u,z,B⟩,L3,s0,s1,s2,s3⟩:=r.o _ G.o;go_wp2;all_goals(try(exfalso;go_light;simp_all;done));go_ret2;exact⟨⟨_,rfl,OL.nil (fH d.o G.o).size⟩,(fH d.o G.o)⟩
 subst aj;obtain⟨⟨LR,g0,g1,g2,g3,g4,g5,g6,g7,g8,g9,av,aw,ax,ay⟩,⟨s,t,u,z,B⟩,L3,s0,s1,s2,s3⟩:=r.o _ G.o;go_wp2_with fail;have m:=Hm (fH d.o G.o);refine(HB.o _ (C.o.below m.o) (ao.o.below m.o) (HQ.o.below m.o) (HW.o.below m.o) (HC.o.below m.o) (D.o.below m.o) (HO.o.below m.o) (aq.o.below m.o) (HZ.o.below m.o) (by first|rfl|trivial)).mono ?_;rintro e w5 ⟨⟨fv,rfl,aH⟩,aE⟩;have l:=Hm (fH G.o aE);clear aE;have al:=Hm aH;have ah:=Hm (gW (ar.o (by first|rfl|trivial)).2.1);have aZ:=Hm (jm ah.o.1 ah.o.2.1);have be:n3<=4096:=by have:=aZ.o.1;rw[D.o.len]at this;exact this
 have aV:=Hm D.o.len;have bb:=D.o.le;clear aH;obtain⟨k9,ba,rfl,bd,aI⟩:=al.o;have aT:=Hm aI;clear aI al;obtain⟨W5,rfl⟩: ∃W,W=w5:=⟨_,rfl⟩;have aY:=Hm (fH d.o l.o).size;obtain⟨-,⟨s,t,u,z,B⟩, -⟩:=r.o _ l.o;go_wp2;go_loopw [12,31] (λo i wr=> ∃(k:Nat) (j:List Ent),k<=n3/\i=.int .i64 k/\j=(rows.take k).filter (λy=>X y.row)/\j.length<=k/\OE W5.heap.size wr o j/\Below W5.heap.size W5 wr) (λ_ i _=>n3-(RowKit.intOf i).toNat)
 case atStart=>exact⟨0,[],Nat.zero_le _,rfl,by simp,by simp,OL.nil (Nat.le_refl _),Below.refl _ _⟩
 case round=>
  obtain⟨k,j,hk,rfl,aM,a6,aK,hb⟩:=hrel;have ai:=Hm aM;have af:=Hm aK;clear aM aK;have q:=Hm hb;clear hb;by_cases a4:k<n3
  ·have aR:=Hm (fH (fH d.o l.o) q.o);obtain⟨b,off,y,rfl,bc,HX,Ax,An,Ac,e0,e1,e2,e3⟩:=(D.o.below aR.o).ent a4;have k0:(0:Int)<=(k:Int):=by omega
   have k1:(k:Int)<(n3:Int):=by omega
   have an:=Hm (ah.o.2.2 y (gH HX.o));have ae:=Hm e2;have a8:=Hm q.o;have a7:=Hm (fH (fH d.o l.o) q.o);clear e2;have aN:=Hm (fH l.o q.o);obtain⟨-,⟨s,t,u,z,B⟩, -⟩:=r.o _ aN.o;go_wp2_with fail;refine(aT.o _ (by exact fH q.o fI) _ _ _ y.row (by exact ae.o.below fI) an.o).mono ?_;rintro e w8 ⟨rfl,ad⟩;have x0:=fO (b:=wr.heap.size) (o:=0) (v:=.slice Ax An Ac) ad (by simp) (by simp[go_sem]);have x1:=fO (b:=wr.heap.size) (o:=1) (v:=.int .i64 y.count) ad (by simp) (by simp[go_sem]);have I:=fH fI ad;clear e0 e1 ad;have au:=Hm I;have ac:=Hm (fH q.o I);clear I;have ap:=Hm af.o.ne_new;have aU:=Hm (ae.o.below au.o);have ab:=Hm (af.o.below au.o);have F:=lt_of_cell x0;have X0:=Hm x0;have X1:=Hm x1;have am:=Hm (fH (fH d.o l.o) ac.o);have aa:=Hm ac.o;have bf:=a6;cases hv:X y.row
   ·have C:Hl (j=(rows.take (k+1)).filter (λy=>X y.row)):=Hm (by rw[ic HX.o,List.filter_append,ai.o,List.filter_cons_of_neg (by simp[hv])];simp);have aO:=Hm (fH l.o ac.o);obtain⟨-,⟨s,t,u,z,B⟩, -⟩:=r.o _ aO.o;go_wp2;go_roundw
    case rel=>exact⟨k+1,j,by omega,by go_num,C.o,by omega,ab.o,aa.o⟩
    case measure=>simp[RowKit.intOf];omega
   ·have C:Hl (j++[y]=(rows.take (k+1)).filter (λy=>X y.row)):=Hm (by rw[ic HX.o,List.filter_append,ai.o,List.filter_cons_of_pos (by simp[hv])];simp);have a2:j.length+1<=maxLen:=by simp only[maxLen];omega
    have a3:(j.length+1)*32<=140737488355328:=by omega
    have a5:An<=1048576:=by have h1:=HC.o.len;rw[<-ae.o.len,oD an.o];omega
    have aP:=Hm (fH l.o ac.o);obtain⟨-,⟨s,t,u,z,B⟩, -⟩:=r.o _ aP.o;go_wp2;go_region_held3 (λV=>V.cell? ⟨wr.heap.size,0,none⟩=some (.slice Ax An Ac)/\V.cell? ⟨wr.heap.size,1,none⟩=some (.int .i64 y.count))
     (first|exact⟨y0,y1⟩|exact⟨fO p.o F X0.o,fO p.o F X1.o⟩|exact⟨x0,x1⟩|go_keep)
     (first
      |(go_at_call 37;refine(uB _ Ax An Ac y.row (by exact aU.o.below (Below.refl _ _).drew) a5).mono ?_;rintro e w6 ⟨⟨A6,c6,rfl,aL⟩,aF⟩;have p:=Hm (fP aF);have a0:=Hm (aL.mono λk hk=>show BS W5.heap.size (λ_=>False) [36] w6 k from .inr ⟨Nat.le_trans aa.o.size hk.1,_,by simp,hk.2⟩);have aW:=Hm (ab.o.below p.o);clear aL aF)
      |(refine pK _ rfl _ _ _ rfl xm (by decide) w6 _ rfl aW.o (by simp[Act.eval,Act.put]) (by simp[Act.eval,Act.put]) ⟨y.row,y.count⟩ ⟨_,_,_,rfl,a0.o,e3⟩ a2 a3 ?_;intro v9 w9 aJ I ak a1;have aX:=Hm aJ;have y0:=(World.cell?_of_block (a:=⟨wr.heap.size,0,none⟩) (ak.block wr.heap.size (lt_of_cell (fO p.o F X0.o)) ap.o)).trans (fO p.o F X0.o);have y1:=(World.cell?_of_block (a:=⟨wr.heap.size,1,none⟩) (ak.block wr.heap.size (lt_of_cell (fO p.o F X1.o)) ap.o)).trans (fO p.o F X1.o);have aS:=Hm (aa.o.trans ((p.o.mono aa.o.size).trans I));clear aJ I ak a1))
    go_wp2;go_roundw
    case rel=>exact⟨k+1,j++[y],by omega,by go_num,C.o,by simp;omega,aX.o,aS.o⟩
    case measure=>simp[RowKit.intOf];omega
  ·have HT:Hl (j=rows.filter λy=>X y.row):=Hm (by rw[ai.o,List.take_of_length_le (by rw[aV.o];omega)]);have ag:Hl (R=(0,j)):=Hm (by rw[HD.o,HT.o];simp);have ab:=Hm af.o;have am:=Hm (fH (fH d.o l.o) q.o);obtain rfl:=ag.o;have aQ:=Hm (fH l.o q.o);obtain⟨-,⟨s,t,u,z,B⟩, -⟩:=r.o _ aQ.o;go_wp2;go_ret2;exact⟨⟨_,rfl,ab.o.rebase aY.o⟩,am.o⟩
theorem Bu (w:World)(A:Option Addr)(n c:Nat)(d:List Ent)(h:In w A n c d)(A2:Option Addr)(n2 c2:Nat)(row:List Val)(H:In w A2 n2 c2 row):
  Calls Tryz.prog 77 #[.slice A n c,.slice A2 n2 c2] w λe w'=>e=.returned (.int .i64 (cntF d row))/\Below w.heap.size w w':=by
 obtain⟨R,p⟩: ∃R,cntF d row=R:=⟨_,rfl⟩;have N:=Hm p;rw[p];clear p;have T:=Hm h.len;have aa:=h.le;go_enter Tryz.func77,Tryz.ntmps77;have f:=Hm h;clear h;have a:=Hm H;clear H;go_wp2;go_loopw [9] (λi wr=> ∃k:Nat,k<=n/\i=.int .i64 k/\R=cntF (d.drop k) row/\Below w.heap.size w wr) (λi _=>n-(RowKit.intOf i).toNat)
 case atStart=>exact⟨0,Nat.zero_le _,rfl,N.o.symm,Below.refl _ _⟩
 case round=>
  obtain⟨k,hk,rfl,G,hb⟩:=hrel;have l:=Hm G;clear G;have f:=Hm (f.o.below hb);have a:=Hm (a.o.below hb);have D:=Hm hb;clear hb;by_cases S:k<n
  ·obtain⟨b,off,x,rfl,ab,B,y,v,u,X,Y,F,Z⟩:=f.o.ent S;have J:=Hm F;clear F;go_wp2_with fail;obtain⟨V,q⟩: ∃W,W=wr.alloc (.cells #[.slice y v u,.int .i64 x.count] 50):=⟨_,rfl⟩;obtain⟨g,U,t,I⟩:=wX q rfl;rw[<-q];clear q;have a:=Hm (a.o.below g);have O:=Hm g;have P:=Hm (fH D.o g);clear g;have C:=lt_of_cell t;have K:=Hm (J.o.below O.o);go_wp2_with fail;refine(lw _ y A2 v n2 u c2 x.row row (by exact K.o) a.o).mono ?_;rintro e w3 ⟨rfl,r⟩;obtain⟨t,I,C⟩:=Pn r C t I;have E:=Hm (fH P.o r);clear r;obtain⟨Q,m⟩: ∃Q,gq x.row row=Q:=⟨_,rfl⟩;have z:=Hm m;rw[m];clear m;have L:=Hm E.o;have j:=Hm E.o;by_cases s:Q=0
   ·subst s;obtain rfl:R=x.count:=by rw[l.o,B.o,cntF,if_pos z.o]
    go_wp2;all_goals(try(exfalso;go_light;simp_all;done));go_ret;exact⟨rfl,j.o⟩
   ·have q0:(Q==0)=false:=by simpa using s
    have M:Hl (R=cntF (d.drop (k+1)) row):=Hm (by rw[l.o,B.o,cntF,if_neg (by rw[z.o];exact s)]);go_wp2;all_goals(try(exfalso;go_light;simp_all;done));go_roundw
    case rel=>exact⟨k+1,by omega,by go_num,M.o,L.o⟩
    case measure=>simp[RowKit.intOf];omega
  ·obtain rfl:R=0:=by rw[l.o,gG f.o.len (by omega)];rfl
   have j:=Hm D.o;go_wp2;go_ret;exact⟨rfl,j.o⟩
structure Ver where
 name:ByteArray
 bad:Bool
 rows:Int
 part:Int
 whole:Int
def Ver.cells (v:Ver):List Value:=[.string v.name,.bool v.bad,.int .i64 v.rows,.int .i64 v.part,.int .i64 v.whole]
structure VerAt (w:World) (g:Nat) (v:Ver):Prop where
 c0:w.cell? ⟨g,0,none⟩=some (.string v.name)
 c1:w.cell? ⟨g,1,none⟩=some (.bool v.bad)
 c2:w.cell? ⟨g,2,none⟩=some (.int .i64 v.rows)
 c3:w.cell? ⟨g,3,none⟩=some (.int .i64 v.part)
 c4:w.cell? ⟨g,4,none⟩=some (.int .i64 v.whole)
 fz: ∀o,w.frozen? ⟨g,o,none⟩=false
theorem VerAt.lt {w:World}{g:Nat}{v:Ver}(h:VerAt w g v):g<w.heap.size:=lt_of_cell h.c0
theorem VerAt.below {w w':World}{g:Nat}{v:Ver}(h:VerAt w g v)(hb:Below w.heap.size w w'):VerAt w' g v:=
 ⟨fO hb h.lt h.c0,fO hb h.lt h.c1,fO hb h.lt h.c2,fO hb h.lt h.c3,fO hb h.lt h.c4,λo=>((fU hb).2 g o h.lt).trans (h.fz o)⟩
theorem pY {w:World}{g:Nat}(h: ∀o,w.frozen? ⟨g,o,none⟩=false)(b o:Nat)(u:Value): ∀a,(w.setCell ⟨b,o,none⟩ u).frozen? ⟨g,a,none⟩=false:=λa=>by
 rw[World.frozen?_setCell];exact h a
theorem VerAt.set3 {w:World}{g:Nat}{v:Ver}(h:VerAt w g v)(p:Int):VerAt (w.setCell ⟨g,3,none⟩ (.int .i64 p)) g {v with part:=p}:=
 ⟨fM h.c0 (.inr (by omega)),fM h.c1 (.inr (by omega)),fM h.c2 (.inr (by omega)),iC h.c3,fM h.c4 (.inr (by omega)),pY h.fz _ _ _⟩
theorem VerAt.set4 {w:World}{g:Nat}{v:Ver}(h:VerAt w g v)(p:Int):VerAt (w.setCell ⟨g,4,none⟩ (.int .i64 p)) g {v with whole:=p}:=
 ⟨fM h.c0 (.inr (by omega)),fM h.c1 (.inr (by omega)),fM h.c2 (.inr (by omega)),fM h.c3 (.inr (by omega)),iC h.c4,pY h.fz _ _ _⟩
theorem sG {α:Type}[Rep α]{e:TypeId}{B:Nat}{O:Nat->Prop}{T:List TypeId}{w:World}{v:Value}{xs:List α}(h:OL e B O T w v xs): ∃A c,v=.slice A xs.length c/\In w A xs.length c xs:=h.inn
end Go.Proofs.YtopjjlmfilgngaaGreatDoor
