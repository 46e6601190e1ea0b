/-
  slices.Clone of values, partition.copied, byDay: the rows of each day, copied. Package bag: put, done, both. Package bag: merge, Add. (Printed by gen_bagm.py.) Plain law of bag.sum: a sorted list, its runs of equal rows summed. No program is in sight. warehouseref22.CopyEntries.
-/
import Derived.Test.YtggejcekmehocaaGreatDoorGam
import Derived.Test.YtggejcekmehocaaGreatDoorGaj
import Derived.Test.YtggejcekmehocaaGreatDoorGad
import Derived.Test.YtggejcekmehocaaGreatDoorGah
import Derived.Test.YtggejcekmehocaaGreatDoorGac
namespace Go.Proofs.YtggejcekmehocaaGreatDoor
set_option maxHeartbeats 4000000
set_option maxRecDepth 100000
open Go.RowKit
set_option linter.unusedSimpArgs false
set_option linter.unusedVariables false
theorem rX (w:World)(A:Option Addr)(n c:Nat)(xs:List Val)(hx:In w A n c xs)(hn:n<=1048576):
  Calls Tryz.prog 63 #[.slice A n c] w λe w'=>(∃A' c',e=.returned (.slice A' n c')/\Sl w' (New w w' 74) A' n c' xs)/\Below w.heap.size w w':=by
 obtain ⟨i0,hi,hz0,hz1,hz2⟩:=info_parts mR
 have hlen:=hide hx.len
 have kn:=λ(W:World) (a:Option Addr) (l c:Nat)=>Lib.run_eql_slice_nil (P:=Tryz.prog) W 59 74 a l c 0 0 Tryz.underlying59
 cases A with
 |none=>
  have h0:c=0:=hx.2.2.2.1 rfl
  have h1:n=0:=by have:=hx.2.1;omega
  subst h0 h1
  have he:xs=[]:=List.eq_nil_of_length_eq_zero hx.1
  subst he
  go_enter Tryz.func63,Tryz.ntmps63
  go_wp2
  go_ret
  exact ⟨⟨_,_,rfl,Sl.nil_⟩,Below.refl _ _⟩
 |some ad=>
  obtain ⟨cs,HC,HS⟩:=Sl.cells (hx.below (af (o:=.cells #[] 74)))
  have h1:=tL HC
  have HC:=hide HC
  go_enter Tryz.func63,Tryz.ntmps63
  go_wp2_with (at_builtin;refine nM _ rfl (.tmp 5) (.tmp 6) 59 rfl w.heap.size 74 i0 _ 3 32 Tryz.underlying59 hi hz0 hz1 hz2 rfl (by decide) (.slice (some ⟨w.heap.size,0,none⟩) 0 0) 0 [] rfl (World.ownsRow_made w #[] 0 (Nat.le_refl _) (by decide) rfl) (some ad) n c cs rfl (λh=>by cases h) HS h1 (by simp only[maxLen];omega) (by omega) (by simp) ?_;intro v1 w3 hown1 hg1 Ud)
  have hb3:Below w.heap.size w w3:=(af).grown hg1 (by simp) (λj e=>by simp[Value.ownBlock]at e;omega)
  have hown2:w3.ownsRow w.heap.size 74 3 v1 n cs:=by simpa using hown1
  obtain ⟨A',c',rfl,hsl,_⟩:=lg (S:=λ_=>False) (T:=New w w3 74) hown2 (nT HC.out) (λ_ h=>h.elim) hlen.out (λg hg ht=>⟨hg,ht⟩)
  go_ret
  exact ⟨⟨A',c',rfl,hsl⟩,hb3⟩
theorem vR:Elem Tryz.prog 30 61 2 32:=uM _ Tryz.underlying30 D6 rfl (by decide)
abbrev OE (B:Nat)(w:World)(v:Value)(zs:List Ent):Prop:=OL 61 B (λ_=>False) [74] w v zs
theorem bz.ol {w w':World}{v:Value}{zs:List Ent}(h:bz w w' v zs)(hb:w.heap.size<=w'.heap.size):OE w.heap.size w' v zs:=by
 obtain ⟨cs,h1,h2⟩:=h
 exact ⟨⟨cs,h1,h2.mono λk hk=>.inr ⟨hk.1,_,by simp,hk.2⟩⟩,hb⟩
def Pn (zs:List Ent)(row:List Val)(k:Int):Bool×List Ent:=if k < -65536\/65536<k then (false,[]) else (true,if k=0 then zs else zs++[⟨row,k⟩])
def sg (s:Int)(l:List Ent):List Ent:=l.map λx=>⟨x.row,s*x.count⟩
def tu (M rest:List Ent)(ok:Bool)(zs:List Ent):Prop:=
 ∃ws,M=ws++rest/\(ok=true->zs=iZ ws/\ ∀x∈ws, -65536<=x.count/\x.count<=65536)/\(ok=false-> ∃x∈ws,x.count < -65536\/65536<x.count)
theorem tu.start (M:List Ent):tu M M true []:=⟨[],rfl,λ_=>⟨rfl,by simp⟩,λh=>by cases h⟩
theorem tu.step {M rest rest' zs:List Ent}{x:Ent}(h:tu M rest true zs)(e:rest=x :: rest'):tu M rest' (Pn zs x.row x.count).1 (Pn zs x.row x.count).2:=by
 obtain ⟨ws,h1,h2,_⟩:=h
 obtain ⟨h3,h4⟩:=h2 rfl
 subst h3 e
 refine ⟨ws++[x],by rw[h1];simp,λq=>?_,λq=>?_⟩
 ·rw[Pn]at q⊢
  split at q
  ·cases q
  ·rename_i hr
   rw[if_neg hr]
   refine ⟨?_,λy hy=>?_⟩
   ·show (if x.count=0 then iZ ws else iZ ws++[⟨x.row,x.count⟩])=iZ (ws++[x])
    rw[show iZ (ws++[x])=iZ ws++iZ [x] from List.filter_append ..]
    split
    ·rename_i q;simp[iZ,q]
    ·rename_i q;simp[iZ,q]
   ·rcases List.mem_append.1 hy with hy|hy
    ·exact h4 y hy
    ·simp at hy;subst hy;omega
 ·rw[Pn]at q
  split at q
  ·rename_i hr;exact ⟨x,by simp,hr⟩
  ·cases q
theorem tY: ∀(l:List Ent) (m:Nat),(∃x∈l,x.count < -65536\/65536<x.count)->jG m l=true
 | [],m,h=>by simp at h
 |x :: l,m,h=>by
  rw[jG]
  by_cases q:x.count=0
  ·rw[if_pos q]
   refine tY l m ?_
   obtain ⟨y,hy,h⟩:=h
   rcases List.mem_cons.1 hy with rfl|hy
   ·omega
   ·exact ⟨y,hy,h⟩
  ·rw[if_neg q]
   obtain ⟨y,hy,h⟩:=h
   rcases List.mem_cons.1 hy with rfl|hy
   ·rcases h with h|h <;> simp[h]
   ·rw[tY l (m+1) ⟨y,hy,h⟩];simp
def Qa (M:List Ent):Int×List Ent:=if jG 0 M=true then (2,[]) else (0,iZ M)
theorem tu.bad {M rest zs:List Ent}(h:tu M rest false zs):Qa M=(2,[]):=by
 obtain ⟨ws,h1,_,h3⟩:=h
 obtain ⟨x,hx,h⟩:=h3 rfl
 rw[Qa,if_pos (tY _ _ ⟨x,by rw[h1];simp[hx],h⟩)]
def GX:List Ent->Int
 | []=>0
 |x :: l=>x.count+GX l
theorem JZ (l:List Ent)(x:Ent):GX (l++[x])=GX l+x.count:=by
 induction l with
 |nil=>simp[GX]
 |cons y l ih=>rw[List.cons_append,GX,GX,ih];omega
def K7 (ys:List Ent)(r:List Val)(k q:Nat)(n:Int):Prop:= ∃Si,ys.drop k=Si++ys.drop q/\Si.length=q-k/\(∀x∈Si,x.row=r)/\n=GX Si/\ -65536*((q:Int)-k)<=n/\n<=65536*((q:Int)-k)
theorem K7.start (ys:List Ent)(r:List Val)(k:Nat):K7 ys r k k 0:=⟨[],by simp,by simp,by simp,rfl,by omega,by omega⟩
theorem K7.step {ys:List Ent}{r:List Val}{k q:Nat}{n:Int}(h:K7 ys r k q n)(hk:k<=q){y:Ent}(hy:ys.drop q=y :: ys.drop (q+1))(hr:y.row=r)(hb: -65536<=y.count/\y.count<=65536):K7 ys r k (q+1) (n+y.count):=by
 obtain ⟨Si,h1,h2,h3,h4,h5,h6⟩:=h
 refine ⟨Si++[y],by rw[h1,hy];simp,by simp;omega,λx hx=>?_,by rw[JZ,h4],by omega,by omega⟩
 rcases List.mem_append.1 hx with hx|hx
 ·exact h3 x hx
 ·simp at hx;subst hx;exact hr
theorem Cm (w:World)(A:Option Addr)(n c:Nat)(xs:List Ent)(hx:In w A n c xs)(hn:n<=1048576)(hrow: ∀x∈xs,x.row.length<=4096):
  Calls Tryz.prog 39 #[.slice A n c] w
   λe w'=>(∃v,e=.returned v/\bz w w' v xs)/\Below w.heap.size w w':=by
 obtain ⟨i0,hi,hz0,hz1,hz2⟩:=info_parts D6
 obtain ⟨i1,hj,hy0,hy1,hy2⟩:=info_parts mR
 have h63:=hx.le
 go_enter Tryz.func39,Tryz.ntmps39
 go_wp2
 go_loopw [3,4] (λo i wr=> ∃k:Nat,k<=n/\i=.int .i64 k/\bz w wr o (xs.take k)/\Below w.heap.size w wr)
  (λ_ i _=>n-(RowKit.intOf i).toNat)
 case atStart=>exact ⟨0,Nat.zero_le _,rfl,bz.nil _ _,Below.refl _ _⟩
 case round=>
  obtain ⟨k,hk,rfl,hf,hb⟩:=hrel
  have HF:=hide hf
  clear hf
  by_cases hlt:k<n
  ·obtain ⟨bl,off,x,rfl,hB,HX,Ax,nx,cx,e0,e1,e2,e3⟩:=hx.ent hlt
   replace e0:=ah hb hB e0
   replace e1:=ah hb hB e1
   have hBr:=Nat.lt_of_lt_of_le hB hb.size
   obtain ⟨m1,m2⟩:=e3
   have hrx:x.row.length<=4096:=hrow x (List.mem_of_getElem? (dS HX.out).1)
   have k0:(0:Int)<=(k:Int):=by omega
   have k1:(k:Int)<(n:Int):=by omega
   obtain ⟨cs,hown,hcells⟩:=HF.out
   have Qq:Hid ((xs.take k).length=k):=hide (by rw[List.length_take,hx.len];omega)
   rw[Qq.out]at hown
   have HW:=hide hown
   have hsz:=hb.size
   have HRW:=hide (λg (h:u3.ownBlock=some g)=>(hown.lt g h).1)
   obtain ⟨rs,hrs,hsrc⟩:=Sl.cells e2
   have hAx:Ax=none->nx=0:=λh=>by have:=e2.2.2.2.1 h;have:=e2.2.1;omega
   have hnx:nx<=4096:=by rw[<-e2.len];exact hrx
   have ZP:=tL hrs
   have WG:Hid (∀W,Below w.heap.size w W->Src W 3 Ax nx rs):=hide (λW hW=>⟨hsrc.1,λh0=>by
    obtain ⟨b',o',e,hc⟩:=hsrc.2 h0
    refine ⟨b',o',e,λj u hu=>?_⟩
    have hcj:=hc j u hu
    exact (hW.cell (p:=⟨b',o'+j,none⟩) (block_lt_of_cell hcj)).trans hcj⟩)
   have PK:=hide hrs
   have Qk:=hide hcells
   clear hown hcells hsrc hrs
   go_wp2
   go_region_held3 (λw'=>w'.cell? ⟨bl,off+k*2,none⟩=some (.slice Ax nx cx)/\w'.cell? ⟨bl,off+k*2+1,none⟩=some (.int .i64 x.count)) (first|exact ⟨e0,e1⟩|exact ⟨(hb2.cell (p:=⟨bl,off+k*2,none⟩) hB).trans e0,(hb2.cell (p:=⟨bl,off+k*2+1,none⟩) hB).trans e1⟩|exact ⟨(hb1.cell (p:=⟨bl,off+k*2,none⟩) hB).trans e0,(hb1.cell (p:=⟨bl,off+k*2+1,none⟩) hB).trans e1⟩|go_keep) (first|(refine lZ _ rfl (.const (.slice none 0 0)) (.tmp 16) 59 rfl w.heap.size 74 i1 _ 3 32 Tryz.underlying59 hj hy0 hy1 hy2 rfl (by decide) (.slice none 0 0) 0 [] rfl (World.ownsRow_nil _ _ _ _) Ax nx cx rs (by simp[Act.eval,Act.put]) hAx (by exact WG.out _ ((hb.drew))) ZP (by simp only[maxLen];omega) (by omega) (by simp;omega) ?_;intro v0 w0 hown0 hg0 XG;have hb1:Below w.heap.size wr w0:=((Below.refl w.heap.size wr).drew).grown hg0 (by simp;omega) (by simp[Value.ownBlock]);obtain ⟨A0,c0,rfl,hsl0,_⟩:=lg (S:=λ_=>False) (T:=New w w0 74) hown0 (nT PK.out) (λ_ h=>h.elim) (by rw[e2.len];omega) (λg hg ht=>⟨hg,ht⟩);rw[Nat.zero_add]at hsl0;have WE:=hide hsl0;have hbw0:Below wr.heap.size wr w0:=((Below.refl wr.heap.size wr).drew).grown hg0 (by simp) (by simp[Value.ownBlock]);have hsz0:w.heap.size<=w0.heap.size:=Nat.le_trans hsz hbw0.size;have Kn:=hide (ET HW.out (λg hg=>hbw0.block g (HW.out.lt g hg).2));have YL:=hide ((Qk.out.keep ((Same.below hbw0).sub λk hk=>hk.2.lt)).mono λk (hk:New w wr 74 k)=>(⟨hk.1,hk.2.below hbw0⟩:New w w0 74 k));clear hsl0 hown0 hg0 XG)|(refine lZ _ rfl (.tmp 11) (.tmp 24) 30 rfl w.heap.size 61 i0 _ 2 32 Tryz.underlying30 hi hz0 hz1 hz2 rfl (by decide) u3 k cs (by simp[Act.eval,Act.put]) (by first|exact MN (Kn.out.alloc _)|exact Kn.out.alloc _) (some ⟨w0.heap.size,0,none⟩) 1 1 [.slice A0 nx c0,.int .i64 x.count] (by simp[Act.eval,Act.put]) (by intro h;cases h) (by exact Po (by simp[go_sem]) (by simp[go_sem])) Pm (by simp only[maxLen];omega) (by omega) (by simp;omega) ?_;intro v1 w1 hown1 hg1 Ud;have hb2:Below w.heap.size wr w1:=(hb1.trans ((Below.refl w.heap.size w0).alloc hsz0 _)).grown hg1 (by simp;omega) HRW.out))
   have hf1:bz w w1 v1 (xs.take k++[x]):=bz.add (by rw[Qq.out];exact Kn.out) YL.out WE.out ⟨m1,m2⟩ (λk hk hne=>(hg1.block k (by simp;omega) (λe=>hne e.symm)).trans (Below.heap_alloc _ _ _ hk)) (by rw[Qq.out];exact hown1)
   have Qm:=hide hf1
   have hbw:=hb.trans hb2
   clear hf1 hown1 hg1 Ud
   go_wp2
   go_roundw
   case rel=>exact ⟨k+1,by omega,by go_num,by rw[bP HX.out];exact Qm.out,hbw⟩
   case measure=>simp[RowKit.intOf];omega
  ·have YY:Hid (bz w wr u3 xs):=hide (by
    have h:=HF.out
    rw[List.take_of_length_le (by rw[hx.len];omega)]at h
    exact h)
   go_wp2
   go_ret
   exact ⟨⟨_,rfl,YY.out⟩,hb⟩
end Go.Proofs.YtggejcekmehocaaGreatDoor
