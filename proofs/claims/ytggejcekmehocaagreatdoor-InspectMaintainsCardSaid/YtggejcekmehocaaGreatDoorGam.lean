/-
  warehouseworld.Row, Columns, Table: tables that fit. bag.Add, warehouseref6.Add. bag.Subtract, warehouseref6.Subtract, Negate and their helpers. Plain law of bag.sum: a sorted list, its runs of equal rows summed. No program is in sight. warehouseworld.Columns, Table; warehouselaw22.table: columns, a zone and a table that fits.
-/
import Derived.Test.YtggejcekmehocaaGreatDoorValW
import Derived.Test.YtggejcekmehocaaGreatDoorGad
import Derived.Test.YtggejcekmehocaaGreatDoorGak
import Derived.Test.YtggejcekmehocaaGreatDoorBagM
namespace Go.Proofs.YtggejcekmehocaaGreatDoor
set_option maxHeartbeats 4000000
set_option maxRecDepth 100000
open Go.RowKit
set_option linter.unusedSimpArgs false
set_option linter.unusedVariables false
theorem wT {w W W':World}{row:Option Nat}(h:w.grownBy W row)(hb:Below w.heap.size W W'):w.grownBy W' row:=
 ⟨hb.os.trans h.os,hb.tape.trans h.tape,hb.output.trans h.output,Nat.le_trans h.size hb.size,λk hk hr=>(hb.block k hk).trans (h.block k hk hr)⟩
theorem Num.low {W W':World}{B gb:Nat}{A:Option Addr}{n c:Nat}{l:List Int}{i:Nat}(h:Num W gb A n c l i)(hb:Below B W W')(hgb:gb<B):Num W' gb A n c l i:=by
 obtain ⟨cur,hc,hm⟩:=h.blk;exact ⟨(hb.cell (p:=⟨gb,0,none⟩) hgb).trans h.c0,(hb.cell (p:=⟨gb,1,none⟩) hgb).trans h.c1,⟨cur,(hb.block gb hgb).trans hc,hm⟩,h.lst.keep λk hk=>hb.block k (Nat.lt_trans hk hgb),h.le,h.nn⟩
structure RowAt (w W:World) (gb:Nat) (A:Option Addr) (n c:Nat) (l:List Int) (cols:List Col) (B:Option Addr) (d k:Nat) (vs:List Val):Prop where
 len:vs.length=k
 fits: ∀i,i<k->Fits (cols.getD i default) (vs.getD i default)
 stk:Stk w.heap.size W 74 B d vs
 num: ∃j,Num W gb A n c l j
 grown:w.grownBy W (some gb)
theorem M9 {α:Type}[Flat α]{B:Nat}{W W':World}{e:TypeId}{A:Option Addr}{c gb:Nat}{xs:List α}(h:Stk B W e A c xs)(hg:W.grownBy W' (some gb))(hgb:gb<B):Stk B W' e A c xs:=
 ⟨vM h.own λg hq=>hg.block g (h.blk g hq).1 (λe=>by injection e with e;have:=(h.blk g hq).2;omega),h.ok⟩
theorem Fq (w:World)(gb:Nat)(A:Option Addr)(n c:Nat)(l:List Int)(i:Nat)(hN:Num w gb A n c l i)(A1:Option Addr)(n1 c1:Nat)(cols:List Col)(hc:Off w gb A1 n1 c1 cols)(hgood: ∀x∈cols,x.good)(hn1:n1<=4096):
  Calls Tryz.prog 46 #[.slice A1 n1 c1,.pointer (some ⟨gb,0,none⟩)] w
   λe w'=> ∃B d vs,e=.returned (.slice B n1 d)/\RowAt w w' gb A n c l cols B d n1 vs:=by
 obtain ⟨i0,hi,hz0,hz1,hz2⟩:=info_parts lZ;have h63:=hc.inn.le;have hlow:=hN.lt;have HG:=hide hgood;have HN:=hide hN;clear hgood hN;go_enter Tryz.func46,Tryz.ntmps46;go_wp2;go_loopw [5,6] (λo q wr=> ∃(k:Nat) (B:Option Addr) (d:Nat) (vs:List Val),k<=n1/\q=.int .i64 k/\o=.slice B k d/\RowAt w wr gb A n c l cols B d k vs) (λ_ q _=>n1-(intOf q).toNat)
 case atStart=>exact ⟨0,none,0,[],Nat.zero_le _,rfl,rfl,rfl,λi hi=>by omega,Stk.nil_ _ _ _,⟨_,HN.out⟩,Below.grows (Below.refl _ _) _⟩
 case round=>
  obtain ⟨k,B,d,vs,hk,rfl,rfl,hR⟩:=hrel;have HR:=hide hR;clear hR;by_cases hlt:k<n1
  ·obtain ⟨b,off,x,rfl,hB,HX,e0,e1,e2,e3⟩:=(hc.grown HR.out.grown).inn.col hlt;have hxg:=HG.out x (mem_of_drop HX.out);have HF:Hid (cols.getD k default=x):=hide (by rw[List.getD,(bX HX.out).1];rfl);obtain ⟨j,kg⟩:=HR.out.num;have k0:(0:Int)<=(k:Int):=by omega
   have k1:(k:Int)<(n1:Int):=by omega
   obtain ⟨nm,kd,nl⟩:=x;simp only at e0 e1 e2;go_wp2_with fail;refine (Ho wr gb A n c l j kg nm kd nl hxg).mono ?_;rintro e w2 ⟨⟨v,j2,rfl,hfit,hn2⟩,hg2⟩;have NQ:=hide hfit;have eY:=hide hn2;have HG2:=hide hg2;have hok:=hfit.1;have hsz:w.heap.size<=w2.heap.size:=Nat.le_trans HR.out.grown.size hg2.size;have HS2:=hide (M9 HR.out.stk hg2 hlow);have Zq:=hide (Nat.le_of_eq HR.out.len.symm);clear hfit hn2 hg2 kg e0 e1 e2;go_wp2_with (at_builtin;refine oz (α:=Val) _ rfl (.tmp 13) (.tmp 20) 59 rfl w.heap.size 74 i0 _ 32 Tryz.underlying59 hi hz0 hz1 hz2 rfl (by decide) B d k vs (HS2.out.keep ae) Zq.out rfl v hok w2.heap.size rfl (bq _ _ _ _ rfl) (by omega) (by simp;omega) ?_;intro A' c' w5 tL hb5);have ZK:Hid (RowAt w w5 gb A n c l cols A' c' (k+1) (vs++[v])):=hide (by
    have hl:=HR.out.len;rw[List.take_of_length_le (by omega)]at tL;refine ⟨by rw[List.length_append,hl];rfl,λi hi=>?_,tL,⟨j2,(eY.out.below ae).low hb5 hlow⟩,wT ((HR.out.grown.trans HG2.out).trans (Below.grows ae _)) hb5⟩;by_cases hik:i=k
    ·subst hik;rw[HF.out,List.getD,List.getElem?_append_right (by omega),hl,Nat.sub_self];exact NQ.out
    ·rw[show (vs++[v]).getD i default=vs.getD i default by rw[List.getD,List.getD,List.getElem?_append_left (by omega)]];exact HR.out.fits i (by omega))
   clear tL hb5;go_wp2;go_roundw
   case rel=>exact ⟨k+1,A',c',vs++[v],by omega,by go_num,rfl,ZK.out⟩
   case measure=>simp[intOf];omega
  ·have hkn:k=n1:=by omega
   subst hkn;go_wp2;go_ret;exact ⟨B,d,vs,rfl,HR.out⟩
theorem nz {xs ys:List Ent}:jS xs ys=0↔ay xs=0/\ay ys=0:=by
 rw[jS]
 split
 ·rename_i h;exact ⟨λq=>absurd q h,λq=>absurd q.1 h⟩
 ·rename_i h;exact ⟨λq=>⟨by simpa using h,q⟩,λq=>q.2⟩
theorem DZ {xs ys:List Ent}(h:jS xs ys≠0):j6 xs ys=(jS xs ys,[]):=by
 rw[jS]at h⊢;rw[j6]
 split
 ·rfl
 ·rename_i q;rw[if_neg q]at h;rw[if_pos h]
theorem Ii {xs ys:List Ent}(h:jS xs ys=0):j6 xs ys=nL (aI xs ys):=by
 obtain ⟨h1,h2⟩:=nz.1 h;rw[j6,if_neg (by simpa using h1),if_neg (by simpa using h2),BL (uu (bag_asc h1) (bag_asc h2)) (uw xs ys)]
theorem sH {b:List Ent}(h:ay b=0):tQ 65536 b:=λx hx=>by have:=qD (kw h x hx);omega
theorem bag_row {b:List Ent}(h:ay b=0): ∀x∈b,x.row.length<=12:=λx hx=>(qD (kw h x hx)).2.2
theorem bag_le {b:List Ent}(h:ay b=0):b.length<=4096:=(dX.1 h).1
theorem Ij (w:World)(A:Option Addr)(n c:Nat)(xs:List Ent)(hx:In w A n c xs)(A2:Option Addr)(n2 c2:Nat)(ys:List Ent)(hy:In w A2 n2 c2 ys):
  Calls Tryz.prog 72 #[.slice A n c,.slice A2 n2 c2] w λe w'=>(∃v,e=.returned (.tuple #[v,.int .i64 (j6 xs ys).1])/\OE w.heap.size w' v (j6 xs ys).2)/\Below w.heap.size w w':=by
 have H1:=hide (DZ (xs:=xs) (ys:=ys));have H2:=hide (Ii (xs:=xs) (ys:=ys));have H3:=hide (nz (xs:=xs) (ys:=ys)).1;obtain ⟨R,hR⟩: ∃R,j6 xs ys=R:=⟨_,rfl⟩;rw[hR]at H1 H2⊢;obtain ⟨E,hE⟩: ∃E,jS xs ys=E:=⟨_,rfl⟩;have HE:=hide hE;rw[hE]at H1 H2 H3;clear hE hR;have hnx:=hx.len;have hny:=hy.len;go_enter Tryz.func72,Tryz.ntmps72;have HX:=hide hx;clear hx;have HY:=hide hy;clear hy;go_wp2_with fail;refine (Bv _ _ _ _ xs HX.out _ _ _ ys HY.out).mono ?_;rintro e w1 ⟨rfl,hb1⟩;have HX:=hide (HX.out.below hb1);have HY:=hide (HY.out.below hb1);have fq:=hide hb1;clear hb1;rw[HE.out];by_cases h0:E=0
 ·have Tz:=hide (H2.out h0);obtain ⟨h1,h2⟩:=H3.out h0;have h3:=bag_le h1;have h4:=bag_le h2;have HM:Hid (aI xs (sg 1 ys)=aI xs ys):=hide (by rw[Sb]);have bS:=hide h1;have HG2:=hide h2;subst h0;have hsz:=fq.out.size;clear h1 h2;go_wp2_with fail;refine (BM _ 1 (.inl rfl) _ _ _ _ _ _ xs ys HX.out HY.out (by omega) (sH bS.out) (sH HG2.out) (bag_row bS.out) (bag_row HG2.out)).mono ?_;rintro e w3 ⟨⟨v,rfl,ho⟩,hb3⟩;have kK:=hide (aa fq.out hb3);clear hb3;rw[HM.out]at ho⊢;have HO:=hide (ho.rebase hsz);clear ho;generalize nL (aI xs ys)=R2 at*;obtain rfl:=Tz.out;go_wp2;go_ret2;exact ⟨⟨_,rfl,HO.out⟩,kK.out⟩
 ·obtain rfl:=H1.out h0;have q:(E != 0)=true:=by simpa using h0
  go_wp2;all_goals (try (exfalso;go_light;simp_all;done));go_ret2;exact ⟨⟨_,rfl,OL.nil fq.out.size⟩,fq.out⟩
theorem Nh (w:World)(A:Option Addr)(n c:Nat)(xs:List Ent)(hx:In w A n c xs)(A2:Option Addr)(n2 c2:Nat)(ys:List Ent)(hy:In w A2 n2 c2 ys):
  Calls Tryz.prog 48 #[.slice A n c,.slice A2 n2 c2] w λe w'=>e=.returned (.int .i64 (jS xs ys))/\Below w.heap.size w w':=by
 have HF:=hide (show jS xs ys=if ay xs≠0 then ay xs else ay ys from rfl);generalize jS xs ys=r at*;obtain ⟨E,hE⟩: ∃E,ay xs=E:=⟨_,rfl⟩;have HE:=hide hE;rw[hE]at HF;clear hE;go_enter Tryz.func48,Tryz.ntmps48;have HX:=hide hx;clear hx;have HY:=hide hy;clear hy;go_wp2_with fail;refine (yt _ _ _ _ xs HX.out).mono ?_;rintro e w5 ⟨rfl,hb5⟩;have HY:=hide (HY.out.below hb5);have ul:=hide hb5;clear hb5;rw[HE.out];by_cases h0:E=0
 ·have DJ:=HF.out;rw[if_neg (by simpa using h0)]at DJ;subst h0;go_wp2_with fail;refine (yt _ _ _ _ ys HY.out).mono ?_;rintro e w7 ⟨rfl,cu⟩;have qU:=hide (aa ul.out cu);clear cu;go_wp2;go_ret;exact ⟨aj DJ.symm,qU.out⟩
 ·have DJ:=HF.out;rw[if_pos h0]at DJ;subst DJ;have q:(r != 0)=true:=by simpa using h0
  go_wp2;all_goals (try (exfalso;go_light;simp_all;done));go_ret;exact ⟨rfl,ul.out⟩
theorem Dr {M:List Ent}{m:Int}{zs:List Ent}(h:(m=2/\bP 0 M=true/\zs=[])\/(m=0/\bP 0 M=false/\zs=bN M)):nL M=(m,zs):=by
 rw[nL];rcases h with ⟨rfl,h,rfl⟩|⟨rfl,h,rfl⟩
 ·rw[if_pos h]
 ·rw[if_neg (by rw[h];simp)]
theorem EY {xs ys:List Ent}:(aI xs ys).length<=xs.length+ys.length:=jN _ xs ys (Nat.le_refl _)
theorem OwnEnts.out {w w':World}{S:Nat->Prop}{v:Value}{zs:List Ent}(h:OwnEnts w w' S v zs)(hS: ∀k,S k->k<w'.heap.size): ∃A c,v=.slice A zs.length c/\In w' A zs.length c zs:=h.sl hS
theorem add_ref6 (w:World)(A:Option Addr)(n c:Nat)(xs:List Ent)(hx:In w A n c xs)(A2:Option Addr)(n2 c2:Nat)(ys:List Ent)(hy:In w A2 n2 c2 ys):
  Calls Tryz.prog 22 #[.slice A n c,.slice A2 n2 c2] w λe w'=>(∃v,e=.returned (.tuple #[v,.int .i64 (j6 xs ys).1])/\OE w.heap.size w' v (j6 xs ys).2)/\Below w.heap.size w w':=by
 have H1:=hide (DZ (xs:=xs) (ys:=ys));have H2:=hide (Ii (xs:=xs) (ys:=ys));have H3:=hide (nz (xs:=xs) (ys:=ys)).1;obtain ⟨R,hR⟩: ∃R,j6 xs ys=R:=⟨_,rfl⟩;rw[hR]at H1 H2⊢;obtain ⟨E,hE⟩: ∃E,jS xs ys=E:=⟨_,rfl⟩;have HE:=hide hE;rw[hE]at H1 H2 H3;clear hE hR;have hnx:=hx.len;have hny:=hy.len;go_enter Tryz.func22,Tryz.ntmps22;have HX:=hide hx;clear hx;have HY:=hide hy;clear hy;go_wp2_with fail;refine (Nh _ _ _ _ xs HX.out _ _ _ ys HY.out).mono ?_;rintro e w9 ⟨rfl,dZ⟩;have HX:=hide (HX.out.below dZ);have HY:=hide (HY.out.below dZ);have gL:=hide dZ;clear dZ;rw[HE.out];by_cases h0:E=0
 ·have Tz:=hide (H2.out h0);obtain ⟨h1,h2⟩:=H3.out h0;have h3:=bag_le h1;have h4:=bag_le h2;have bS:=hide h1;have HG2:=hide h2;have ZA:=hide (EY (xs:=xs) (ys:=ys));have ZB:Hid (∀x∈aI xs ys,x.row.length<=4096):=hide λx hx=>by
   have:=dI (P:=λr=>r.length<=12) _ xs ys (bag_row h1) (bag_row h2) x hx;omega
  subst h0;have hsz:=gL.out.size;clear h1 h2;go_wp2_with fail;refine (BN _ _ _ _ _ _ _ xs ys HX.out HY.out (by omega) 65536 65536 (by omega) (by omega) (by omega) (by omega) (sH bS.out) (sH HG2.out)).mono ?_;rintro e Hq ⟨⟨v,rfl,ho⟩,fT⟩;have TK:=hide fT;have jw:=hide (aa gL.out fT);clear fT;obtain ⟨A6,c6,hv,hin⟩:=ho.sl (λk hk=>Nat.lt_of_lt_of_le hk TK.out.size);subst hv;have hml:=ZA.out;have hsz2:=jw.out.size;clear ho;generalize aI xs ys=M at*;go_wp2_with fail;refine (zT _ _ _ _ M hin (by omega) ZB.out).mono ?_;rintro e Yd ⟨⟨v,m,zs,rfl,hf,hal⟩,nG⟩;have TL:=hide nG;have qi:=hide (aa jw.out nG);clear nG;have HR:=hide (Dr hal);have HO:=hide ((hf.ol TL.out.size).rebase hsz2);clear hf hal;obtain rfl:=Tz.out.trans HR.out;go_wp2;go_ret2;exact ⟨⟨_,rfl,HO.out⟩,qi.out⟩
 ·obtain rfl:=H1.out h0;have q:(E != 0)=true:=by simpa using h0
  go_wp2;all_goals (try (exfalso;go_light;simp_all;done));go_ret2;exact ⟨⟨_,rfl,OL.nil gL.out.size⟩,gL.out⟩
def sw (xs ys:List Ent):Int×List Ent:=if jS xs ys≠0 then (jS xs ys,[]) else nL (aI xs (sg (-1) ys))
theorem Sa (s:Int)(l:List Ent):(sg s l).length=l.length:=List.length_map ..
theorem Ps (w:World)(A:Option Addr)(n c:Nat)(xs:List Ent)(hx:In w A n c xs)(A2:Option Addr)(n2 c2:Nat)(ys:List Ent)(hy:In w A2 n2 c2 ys):
  Calls Tryz.prog 42 #[.slice A n c,.slice A2 n2 c2] w λe w'=>(∃v,e=.returned (.tuple #[v,.int .i64 (sw xs ys).1])/\OE w.heap.size w' v (sw xs ys).2)/\Below w.heap.size w w':=by
 have H1:=hide (show jS xs ys≠0->sw xs ys=(jS xs ys,[]) from λh=>if_pos h);have H2:=hide (show jS xs ys=0->sw xs ys=nL (aI xs (sg (-1) ys)) from λh=>if_neg (by simpa using h));have H3:=hide (nz (xs:=xs) (ys:=ys)).1;obtain ⟨R,hR⟩: ∃R,sw xs ys=R:=⟨_,rfl⟩;rw[hR]at H1 H2⊢;obtain ⟨E,hE⟩: ∃E,jS xs ys=E:=⟨_,rfl⟩;have HE:=hide hE;rw[hE]at H1 H2 H3;clear hE hR;have hnx:=hx.len;have hny:=hy.len;go_enter Tryz.func42,Tryz.ntmps42;have HX:=hide hx;clear hx;have HY:=hide hy;clear hy;go_wp2_with fail;refine (Bv _ _ _ _ xs HX.out _ _ _ ys HY.out).mono ?_;rintro e w1 ⟨rfl,hb1⟩;have HX:=hide (HX.out.below hb1);have HY:=hide (HY.out.below hb1);have fq:=hide hb1;clear hb1;rw[HE.out];by_cases h0:E=0
 ·have Tz:=hide (H2.out h0);obtain ⟨h1,h2⟩:=H3.out h0;have h3:=bag_le h1;have h4:=bag_le h2;have bS:=hide h1;have HG2:=hide h2;subst h0;have hsz:=fq.out.size;clear h1 h2;go_wp2_with fail;refine (BM _ (-1) (.inr rfl) _ _ _ _ _ _ xs ys HX.out HY.out (by omega) (sH bS.out) (sH HG2.out) (bag_row bS.out) (bag_row HG2.out)).mono ?_;rintro e w3 ⟨⟨v,rfl,ho⟩,hb3⟩;have kK:=hide (aa fq.out hb3);clear hb3;have HO:=hide (ho.rebase hsz);clear ho;generalize nL (aI xs (sg (-1) ys))=R2 at*;obtain rfl:=Tz.out;go_wp2;go_ret2;exact ⟨⟨_,rfl,HO.out⟩,kK.out⟩
 ·obtain rfl:=H1.out h0;have q:(E != 0)=true:=by simpa using h0
  go_wp2;all_goals (try (exfalso;go_light;simp_all;done));go_ret2;exact ⟨⟨_,rfl,OL.nil fq.out.size⟩,fq.out⟩
def AC:List Ent->List Ent
 | []=>[]
 |x :: l=>match AC l with
  | []=>[x]
  |y :: m=>if ax x.row y.row=0 then ⟨x.row,x.count+y.count⟩ :: m else x :: y :: m
theorem Jn: ∀(x:Ent) (l:List Ent),∃n m,AC (x :: l)=⟨x.row,n⟩ :: m:=by
 intro x l;rw[AC]
 split
 ·exact ⟨_,_,rfl⟩
 ·split
  ·exact ⟨_,_,rfl⟩
  ·exact ⟨_,_,rfl⟩
def AY:List Ent->Int
 | []=>0
 |x :: l=>x.count+AY l
theorem JY (l:List Ent)(x:Ent):AY (l++[x])=AY l+x.count:=by
 induction l with
 |nil=>simp[AY]
 |cons y l ih=>rw[List.cons_append,AY,AY,ih];omega
theorem Eo (r:List Val)(rest:List Ent)(hr: ∀y∈rest.head?,y.row≠r): ∀(Fu:List Ent),Fu≠[]->(∀x∈Fu,x.row=r)->AC (Fu++rest)=⟨r,AY Fu⟩ :: AC rest
 | [],h,_=>absurd rfl h
 | [x],_,h=>by
  have hx:=h x (by simp);rw[List.singleton_append,AC];cases rest with
  |nil=>
   simp only[AC,AY];obtain ⟨a,b⟩:=x;simp only at hx;subst hx;simp
  |cons y rest=>
   obtain ⟨n,m,e⟩:=Jn y rest;rw[e];simp only;have hy:=hr y (by simp);rw[if_neg λq=>hy ((bV.1 q).symm.trans hx)];obtain ⟨a,b⟩:=x;simp only at hx;subst hx;simp[AY]
 |x :: x2 :: Fu,_,h=>by
  have hx:=h x (by simp);have ih:=Eo r rest hr (x2 :: Fu) (by simp) λy hy=>h y (by simp[hy]);rw[List.cons_append,AC,ih];simp only;rw[if_pos (bV.2 hx),hx];rfl
def F6 (ys:List Ent)(r:List Val)(k q:Nat)(n:Int):Prop:= ∃Fu,ys.drop k=Fu++ys.drop q/\Fu.length=q-k/\(∀x∈Fu,x.row=r)/\n=AY Fu/\ -65536*((q:Int)-k)<=n/\n<=65536*((q:Int)-k)
theorem F6.start (ys:List Ent)(r:List Val)(k:Nat):F6 ys r k k 0:=⟨[],by simp,by simp,by simp,rfl,by omega,by omega⟩
theorem F6.step {ys:List Ent}{r:List Val}{k q:Nat}{n:Int}(h:F6 ys r k q n)(hk:k<=q){y:Ent}(hy:ys.drop q=y :: ys.drop (q+1))(hr:y.row=r)(hb: -65536<=y.count/\y.count<=65536):F6 ys r k (q+1) (n+y.count):=by
 obtain ⟨Fu,h1,h2,h3,h4,h5,h6⟩:=h;refine ⟨Fu++[y],by rw[h1,hy];simp,by simp;omega,λx hx=>?_,by rw[JY,h4],by omega,by omega⟩;rcases List.mem_append.1 hx with hx|hx
 ·exact h3 x hx
 ·simp at hx;subst hx;exact hr
theorem F6.fin {ys:List Ent}{k q:Nat}{n:Int}{x:Ent}(h:F6 ys x.row k q n)(hx:ys.drop k=x :: ys.drop (k+1))(hq: ∀y∈(ys.drop q).head?,y.row≠x.row):AC (ys.drop k)=⟨x.row,n⟩ :: AC (ys.drop q)/\k<q:=by
 obtain ⟨Fu,h1,h2,h3,h4,_⟩:=h;have hne:Fu≠[]:=λe=>by
  rw[e,List.nil_append]at h1;exact hq x (by rw[<-h1,hx];simp) rfl
 refine ⟨by rw[h1,h4];exact Eo x.row _ hq Fu hne h3,?_⟩;cases Fu with
 |nil=>exact absurd rfl hne
 |cons _ _=>simp at h2;omega
def cId (nl:Bool):Col:=⟨⟨#[105,100]⟩,2,nl⟩
def Ud (nl:Bool):Col:=⟨⟨#[110,97,109,101]⟩,3,nl⟩
theorem Rk {c:Col}(h1:c.name.size<=4)(h2:0<=c.kind)(h3:c.kind<=4):c.ok:=⟨by unfold Str;omega,by omega,by omega⟩
theorem yS (xs:List Col)(w:World)(S:Nat->Prop)(h: ∀x∈xs,x.ok):Cells w S (xs.flatMap Col.cells) xs:=by
 induction xs with
 |nil=>rfl
 |cons x l ih=>exact ⟨x.cells,_,rfl,⟨rfl,h x (by simp)⟩,ih λy hy=>h y (by simp[hy])⟩
theorem JG {α:Type}[Rep α]{w w2 w3:World}{gb:Nat}{A:Option Addr}{n c:Nat}{xs:List α}{t:Nat}(ht:t≠51)(hb:eP w2 51 gb)(hg:w2.grownBy w3 (some gb))(h:Sl w2 (New w w2 t) A n c xs):Sl w3 (New w w3 t) A n c xs:=by
 have hs: ∀k,eP w2 t k->w3.heap[k]?=w2.heap[k]?:=λk hk=>hg.block k hk.lt λe=>by
  injection e with e;exact eP.ne hk hb ht e
 refine (h.keep λk hk=>hs k hk.2).mono λk hk=>⟨hk.1,?_⟩;obtain ⟨q,hq⟩:=hk.2;exact ⟨q,(hs k hk.2).trans hq⟩
theorem xD {w w2 w3:World}{gb:Nat}{v:Value}{zs:List Ent}(hb:eP w2 51 gb)(hg:w2.grownBy w3 (some gb))(h:aB w w2 v zs):aB w w3 v zs:=
 h.kept hg (by
  by_cases q:v.ownBlock=some gb
  ·exact absurd rfl (eP.ne (h.row q).2.2 hb (by decide))
  ·exact .inr q) λk e hk=>by
   injection e with e;exact eP.ne hk hb (by decide) e.symm
def Ga (cols:List Col)(x:Ent):Prop:=x.row.length=cols.length/\(∀i,i<cols.length->Fits (cols.getD i default) (x.row.getD i default))/\1<=x.count/\x.count<=2
structure TabAt (w W:World) (gb:Nat) (A:Option Addr) (n c:Nat) (l:List Int) (cols:List Col) (v:Value) (xs:List Ent):Prop where
 fresh:aB w W v xs
 ents: ∀x∈xs,Ga cols x
 num: ∃j,Num W gb A n c l j
 grown:w.grownBy W (some gb)
theorem GA {x:Int}(h0:0<=x)(h1:x<3):x.tdiv 2=x / 2/\0<=x / 2/\x / 2<=1:=⟨Int.tdiv_eq_ediv_of_nonneg h0,by omega,by omega⟩
theorem zY (w:World)(gb:Nat)(A:Option Addr)(n c:Nat)(l:List Int)(i:Nat)(hN:Num w gb A n c l i)(A1:Option Addr)(n1 c1:Nat)(cols:List Col)(hc:Off w gb A1 n1 c1 cols)(hgood: ∀x∈cols,x.good)(hn1:n1<=12)(m:Int)(hm0:0<=m)(hm:m<=1000):
  Calls Tryz.prog 33 #[.slice A1 n1 c1,.pointer (some ⟨gb,0,none⟩),.int .i64 m] w
   λe w'=> ∃v xs zs q j,e=.returned v/\aB w w' v zs/\(∀x∈xs,Ga cols x)/\xs.length<=1000/\wE xs q zs/\Num w' gb A n c l j/\w.grownBy w' (some gb):=by
 obtain ⟨i0,hi,hz0,hz1,hz2⟩:=info_parts pK;have hlow:=hN.lt;have hcl:=hide hc.inn.len;have q0:IntKind.i64.wrap (m+1)=m+1:=IntWalk.i64_in _ (by omega);go_enter Tryz.func33,Tryz.ntmps33;go_wp2_with fail;refine (fK w gb A n c l i hN (m+1) (by omega)).mono ?_;rintro e w1 ⟨⟨s,j,rfl,s0,s1,hn1'⟩,hg1⟩;have s1:=s1 (by omega);have HT0:Hid (TabAt w w1 gb A n c l cols (.slice none 0 0) []):=hide ⟨aB.nil _ _,(λx hx=>by cases hx),⟨_,hn1'⟩,hg1⟩;clear hn1' hg1 hN;obtain ⟨s,rfl⟩: ∃s':Nat,s=(s':Int):=⟨s.toNat,by omega⟩;have s2:s<=1000:=by omega
 clear s0 s1;go_wp2;go_loopw [7,8] (λo q wr=> ∃(k:Nat) (xs:List Ent),q=.int .i64 k/\xs.length+k<=1000/\TabAt w wr gb A n c l cols o xs) (λ_ q _=>(intOf q).toNat)
 case atStart=>exact ⟨s,[],rfl,by simp;omega,HT0.out⟩
 case round=>
  obtain ⟨k,xs,rfl,hlen,hT⟩:=hrel;have HT:=hide hT;clear hT;obtain ⟨j2,kg⟩:=HT.out.num;have Jv:=HT.out.grown.size;by_cases hk:0<k
  ·have k0:(0:Int)<(k:Int):=by omega
   have k2:IntKind.i64.wrap ((k:Int)-1)=(k:Int)-1:=IntWalk.i64_in _ (by omega);go_wp2_with fail;refine (Fq wr gb A n c l j2 kg A1 n1 c1 cols (hc.grown HT.out.grown) hgood (by omega)).mono ?_;rintro e w2 ⟨B,d,vs,rfl,hR⟩;obtain ⟨j3,AJ⟩:=hR.num;have HR:=hide hR;have Ve:=hide AJ;clear hR;go_wp2_with fail;refine (fK w2 gb A n c l j3 AJ 3 (by omega)).mono ?_;rintro e w3 ⟨⟨x,j4,rfl,x0,x1,Pe⟩,hg4⟩;have x1:=x1 (by omega);obtain ⟨p1,p2,p3⟩:=GA x0 x1;have p4:IntKind.i64.wrap (x / 2)=x / 2:=IntWalk.i64_in _ (by omega);have p5:IntKind.i64.wrap (1+x / 2)=1+x / 2:=IntWalk.i64_in _ (by omega);have ZE:=hide Pe;have Va:=hide hg4;have hnum':=kg;clear kg AJ Pe hg4;have Xc:Hid (w.heap.size<=w3.heap.size):=hide (Nat.le_trans (Nat.le_trans Jv HR.out.grown.size) Va.out.size);have UW:=Xc.out;have Zg:=hide (xD Ve.out.blk.ty Va.out (xD hnum'.blk.ty HR.out.grown HT.out.fresh));have WY:Hid (Sl w2 (New w w2 74) B n1 d vs):=hide (by
    have hl:=HR.out.len;obtain ⟨A',c',hv,hs,_⟩:=fE (S:=λ_=>False) (T:=New w w2 74) HR.out.stk.own (nA w2 _ HR.out.stk.ok) (λ_ h=>h.elim) rfl (λg hg ht=>⟨Nat.le_trans Jv hg,ht⟩);injection hv with h1 _ h3;subst h1 h3;rw[hl]at hs;exact hs)
   have WZ:=hide (JG (by decide) Ve.out.blk.ty Va.out WY.out);have Qw:Hid (Ga cols ⟨vs,1+x / 2⟩):=hide ⟨by show vs.length=_;rw[HR.out.len,hcl.out],λi hi=>HR.out.fits i (by rw[<-hcl.out];exact hi),by show 1<=1+x / 2;omega,by show 1+x / 2<=2;omega⟩;obtain ⟨cs,hown,hcells⟩:=Zg.out;obtain ⟨kx,hkx⟩: ∃kx,xs.length=kx:=⟨_,rfl⟩;rw[hkx]at hown;have Vd:=hide hkx;have hkx1:kx<=1000:=by omega
   have HOW:=hide hown;have Hu:=hide hcells;clear hkx hown hcells;go_wp2_with (at_builtin;refine iw _ rfl (.tmp 19) (.tmp 28) 30 rfl w.heap.size 61 i0 _ 2 32 Tryz.underlying30 hi hz0 hz1 hz2 rfl (by decide) u7 kx cs rfl (HOW.out.alloc _) (some ⟨w3.heap.size,0,none⟩) 1 1 [.slice B n1 d,.int .i64 (1+x / 2)] rfl (by intro h;cases h) (oq (by simp[go_sem]) (by simp[go_sem])) mO (by simp only[maxLen];omega) (by omega) (by simp;omega) ?_;intro v1 w5 hown1 hg1 qY);have PL:Hid (Below w.heap.size (w3.alloc (.cells #[.slice B n1 d,.int .i64 (1+x / 2)] 61)) w5):=hide ((Below.refl _ _).grown hg1 (by simp;omega) (λj e=>(HOW.out.lt j e).1));have ZN:Hid (TabAt w w5 gb A n c l cols v1 (xs++[⟨vs,1+x / 2⟩])):=hide (by
    refine ⟨aB.add (x:=⟨vs,1+x / 2⟩) (by rw[Vd.out];exact HOW.out.alloc _) ((Hu.out.keep ((Same.below ae).sub λk hk=>hk.2.lt)).mono λk hk=>⟨hk.1,hk.2.below ae⟩) ((WZ.out.keep ((Same.below ae).sub λk hk=>hk.2.lt)).mono λk hk=>⟨hk.1,hk.2.below ae⟩) ⟨by show -9223372036854775808<=1+x / 2;omega,by show 1+x / 2<=9223372036854775807;omega⟩ (λk hk hne=>hg1.block k hk (λe=>hne e.symm)) (by rw[Vd.out];exact hown1),λy hy=>?_,⟨j4,(ZE.out.below ae).low PL.out hlow⟩,wT (((HT.out.grown.trans HR.out.grown).trans Va.out).trans (Below.grows ae _)) PL.out⟩;rcases List.mem_append.1 hy with hy|hy
    ·exact HT.out.ents y hy
    ·simp at hy;subst hy;exact Qw.out)
   clear hown1 hg1 qY;go_wp2;go_roundw
   case rel=>exact ⟨k-1,xs++[⟨vs,1+x / 2⟩],by go_num,by rw[List.length_append];show xs.length+1+(k-1)<=1000;omega,ZN.out⟩
   case measure=>simp[intOf];omega
  ·have hk0:k=0:=by omega
   subst hk0;obtain ⟨A7,c7,rfl,hin⟩:=HT.out.fresh.sl;go_wp2_with fail;refine (uh wr A7 _ c7 xs hin (by omega)).mono ?_;rintro e w2 ⟨⟨v,q,zs,rfl,hf,hn⟩,hb2⟩;have HF:=hide (hf.base Jv);have HN:=hide hn;have HB2:=hide hb2;have WO:=hide kg;clear hf hn hb2 kg hin;go_wp2;go_ret;exact ⟨v,xs,zs,q,j2,rfl,HF.out,HT.out.ents,by omega,HN.out,WO.out.below HB2.out,HT.out.grown.trans (Below.grows HB2.out _)⟩
section
variable {P:Program}
end
def Hi {α:Type}[Rep α](B:Nat)(w:World)(A:Option Addr)(n c:Nat)(xs:List α):Prop:=Sl w (λk=>B<=k/\k<w.heap.size) A n c xs
section
variable {α:Type}[Rep α]{B gb:Nat}{w w':World}{A:Option Addr}{n c:Nat}{xs:List α}
theorem Hi.inn (h:Hi B w A n c xs):In w A n c xs:=Sl.mono (λk hk=>hk.2) h
theorem Hi.off (h:Hi B w A n c xs)(hg:gb<B):Off w gb A n c xs:=Sl.mono (λk hk=>⟨hk.2,by omega⟩) h
theorem Hi.grown {row:Option Nat}(h:Hi B w A n c xs)(hg:w.grownBy w' row)(hr: ∀k,row=some k->k<B):Hi B w' A n c xs:=
 (Sl.keep (λk hk=>hg.block k hk.2 λe=>by have:=hr k e.symm;omega) h).mono λk hk=>⟨hk.1,Nat.lt_of_lt_of_le hk.2 hg.size⟩
theorem Hi.below (h:Hi B w A n c xs)(hb:Below w.heap.size w w'):Hi B w' A n c xs:=h.grown (row:=none) (Below.grows hb _) λk e=>by cases e
theorem hi_of (h:In w A n c xs)(hr: ∀(S T:Nat->Prop) (cs:List Value) (a:α),Rep.rd w S cs a->Rep.rd w T cs a)(hb: ∀b off,A=some ⟨b,off,none⟩->B<=b):Hi B w A n c xs:=by
 refine ⟨h.1,h.2.1,h.2.2.1,h.2.2.2.1,λhn=>?_⟩;obtain ⟨b,off,e,hlt,hi⟩:=h.2.2.2.2 hn;refine ⟨b,off,e,⟨hb b off e,hlt⟩,λi hi'=>?_⟩;obtain ⟨cs,h1,h3⟩:=hi i hi';exact ⟨cs,hr _ _ cs _ h1,h3⟩
end
theorem aB.hi {w w':World}{v:Value}{zs:List Ent}(h:aB w w' v zs): ∃A c,v=.slice A zs.length c/\Hi w.heap.size w' A zs.length c zs:=by
 obtain ⟨cs,h1,h2⟩:=h;obtain ⟨A,c,e,hs,_⟩:=fE (T:=λk=>w.heap.size<=k/\k<w'.heap.size) h1 h2 (λk hk=>⟨hk.1,hk.2.lt⟩) rfl (λg hb hg=>⟨hb,hg.lt⟩);exact ⟨A,c,e,hs⟩
def uQ (cols:List Col)(zs:List Ent):Prop:= ∃xs q,(∀x∈xs,Ga cols x)/\xs.length<=1000/\wE xs q zs
end Go.Proofs.YtggejcekmehocaaGreatDoor
