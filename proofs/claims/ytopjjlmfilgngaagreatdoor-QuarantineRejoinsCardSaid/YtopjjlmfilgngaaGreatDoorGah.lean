/-
  expr.shaped and warehouseref8.formed: both return shaped. expr.shaped at a call; expr.shaped whole; warehouseref8.formed.
-/
import Derived.Test.YtopjjlmfilgngaaGreatDoorGag
import Derived.Test.YtopjjlmfilgngaaGreatDoorMap
import Derived.Test.YtopjjlmfilgngaaGreatDoorGad
namespace Go.Proofs.YtopjjlmfilgngaaGreatDoor
set_option maxHeartbeats 2000000
set_option maxRecDepth 100000
open Go.RowKit
set_option linter.unusedSimpArgs false
set_option linter.unusedVariables false
def yl:Array MapEntry:= #[{key:=.string ⟨#[105,102]⟩,val:=.int .i64 17,born:=0},{key:=.string ⟨#[99,111,97,108,101,115,99,101]⟩,val:=.int .i64 18,born:=1},{key:=.string ⟨#[105,115,110,117,108,108]⟩,val:=.int .i64 16,born:=2},{key:=.string ⟨#[108,101,110,103,116,104]⟩,val:=.int .i64 19,born:=3},{key:=.string ⟨#[100,97,121]⟩,val:=.int .i64 20,born:=4}]
def oV:List (ByteArray×Value):=[(⟨#[105,102]⟩,.int .i64 17),(⟨#[99,111,97,108,101,115,99,101]⟩,.int .i64 18),(⟨#[105,115,110,117,108,108]⟩,.int .i64 16),(⟨#[108,101,110,103,116,104]⟩,.int .i64 19),(⟨#[100,97,121]⟩,.int .i64 20)]
def kg (w:World):World:=w.alloc (.map yl 5)
theorem CQ (w:World):jM (kg w) w.heap.size oV:=⟨yl,5,heap_alloc_new w _,rfl⟩
theorem EL (s:ByteArray):(fV s oV).isSome=pK s:=by
 have key: ∀(l:List (ByteArray×Value)),(fV s l).isSome=(l.map (·.1)).any λx=>x.toList==s.toList:=by
  intro l
  induction l with
  |nil=>rfl
  |cons p l ih=>
   rw[fV,List.map_cons,List.any_cons,show (p.1.toList==s.toList)=(s.toList==p.1.toList) from Bool.beq_comm];cases (s.toList==p.1.toList)
   ·simpa using ih
   ·rfl
 exact key oV
theorem ym (w:World):Calls Tryz.prog 261 #[] w λe w'=>e=.returned (.map (some w.heap.size))/\w'=kg w:=by
 have hmm:=@run_makeMap Tryz.prog;have h1:(Instr.mapUpdate 157 (.map (some w.heap.size)) (.string ⟨#[105,102]⟩) (.int .i64 17)).run Tryz.prog (w.alloc (.map #[] 0))=.ok () (w.alloc (.map #[{key:=.string ⟨#[105,102]⟩,val:=.int .i64 17,born:=0}] 1)):=eP Tryz.underlying157 Tryz.underlying9 w #[] 0 ⟨#[105,102]⟩ (.int .i64 17) rfl;have h2:(Instr.mapUpdate 157 (.map (some w.heap.size)) (.string ⟨#[99,111,97,108,101,115,99,101]⟩) (.int .i64 18)).run Tryz.prog (w.alloc (.map #[{key:=.string ⟨#[105,102]⟩,val:=.int .i64 17,born:=0}] 1))=.ok () (w.alloc (.map #[{key:=.string ⟨#[105,102]⟩,val:=.int .i64 17,born:=0},{key:=.string ⟨#[99,111,97,108,101,115,99,101]⟩,val:=.int .i64 18,born:=1}] 2)):=eP Tryz.underlying157 Tryz.underlying9 w #[{key:=.string ⟨#[105,102]⟩,val:=.int .i64 17,born:=0}] 1 ⟨#[99,111,97,108,101,115,99,101]⟩ (.int .i64 18) rfl;have h3:(Instr.mapUpdate 157 (.map (some w.heap.size)) (.string ⟨#[105,115,110,117,108,108]⟩) (.int .i64 16)).run Tryz.prog (w.alloc (.map #[{key:=.string ⟨#[105,102]⟩,val:=.int .i64 17,born:=0},{key:=.string ⟨#[99,111,97,108,101,115,99,101]⟩,val:=.int .i64 18,born:=1}] 2))=.ok () (w.alloc (.map #[{key:=.string ⟨#[105,102]⟩,val:=.int .i64 17,born:=0},{key:=.string ⟨#[99,111,97,108,101,115,99,101]⟩,val:=.int .i64 18,born:=1},{key:=.string ⟨#[105,115,110,117,108,108]⟩,val:=.int .i64 16,born:=2}] 3)):=eP Tryz.underlying157 Tryz.underlying9 w #[{key:=.string ⟨#[105,102]⟩,val:=.int .i64 17,born:=0},{key:=.string ⟨#[99,111,97,108,101,115,99,101]⟩,val:=.int .i64 18,born:=1}] 2 ⟨#[105,115,110,117,108,108]⟩ (.int .i64 16) rfl;have h4:(Instr.mapUpdate 157 (.map (some w.heap.size)) (.string ⟨#[108,101,110,103,116,104]⟩) (.int .i64 19)).run Tryz.prog (w.alloc (.map #[{key:=.string ⟨#[105,102]⟩,val:=.int .i64 17,born:=0},{key:=.string ⟨#[99,111,97,108,101,115,99,101]⟩,val:=.int .i64 18,born:=1},{key:=.string ⟨#[105,115,110,117,108,108]⟩,val:=.int .i64 16,born:=2}] 3))=.ok () (w.alloc (.map #[{key:=.string ⟨#[105,102]⟩,val:=.int .i64 17,born:=0},{key:=.string ⟨#[99,111,97,108,101,115,99,101]⟩,val:=.int .i64 18,born:=1},{key:=.string ⟨#[105,115,110,117,108,108]⟩,val:=.int .i64 16,born:=2},{key:=.string ⟨#[108,101,110,103,116,104]⟩,val:=.int .i64 19,born:=3}] 4)):=eP Tryz.underlying157 Tryz.underlying9 w #[{key:=.string ⟨#[105,102]⟩,val:=.int .i64 17,born:=0},{key:=.string ⟨#[99,111,97,108,101,115,99,101]⟩,val:=.int .i64 18,born:=1},{key:=.string ⟨#[105,115,110,117,108,108]⟩,val:=.int .i64 16,born:=2}] 3 ⟨#[108,101,110,103,116,104]⟩ (.int .i64 19) rfl;have h5:(Instr.mapUpdate 157 (.map (some w.heap.size)) (.string ⟨#[100,97,121]⟩) (.int .i64 20)).run Tryz.prog (w.alloc (.map #[{key:=.string ⟨#[105,102]⟩,val:=.int .i64 17,born:=0},{key:=.string ⟨#[99,111,97,108,101,115,99,101]⟩,val:=.int .i64 18,born:=1},{key:=.string ⟨#[105,115,110,117,108,108]⟩,val:=.int .i64 16,born:=2},{key:=.string ⟨#[108,101,110,103,116,104]⟩,val:=.int .i64 19,born:=3}] 4))=.ok () (w.alloc (.map #[{key:=.string ⟨#[105,102]⟩,val:=.int .i64 17,born:=0},{key:=.string ⟨#[99,111,97,108,101,115,99,101]⟩,val:=.int .i64 18,born:=1},{key:=.string ⟨#[105,115,110,117,108,108]⟩,val:=.int .i64 16,born:=2},{key:=.string ⟨#[108,101,110,103,116,104]⟩,val:=.int .i64 19,born:=3},{key:=.string ⟨#[100,97,121]⟩,val:=.int .i64 20,born:=4}] 5)):=eP Tryz.underlying157 Tryz.underlying9 w #[{key:=.string ⟨#[105,102]⟩,val:=.int .i64 17,born:=0},{key:=.string ⟨#[99,111,97,108,101,115,99,101]⟩,val:=.int .i64 18,born:=1},{key:=.string ⟨#[105,115,110,117,108,108]⟩,val:=.int .i64 16,born:=2},{key:=.string ⟨#[108,101,110,103,116,104]⟩,val:=.int .i64 19,born:=3}] 4 ⟨#[100,97,121]⟩ (.int .i64 20) rfl;go_enter Tryz.func261,Tryz.ntmps261;go_wp2;go_ret;exact ⟨rfl,rfl⟩
theorem rA (v:Val):iW v=true↔v.kind=0/\v.num=0/\v.str.toList=[]:=by
 simp only[iW,dx,Bool.and_eq_true,beq_iff_eq,List.isEmpty_iff,and_assoc]
def gN (op kd nu:Int)(st nm:ByteArray)(ar:Int):Array Value:= #[.int .i64 op,.int .i64 kd,.int .i64 nu,.string st,.string nm,.int .i64 ar]
theorem Gl (kd nu ar:Int)(st nm:ByteArray)(hv:Val.ok ⟨kd,nu,st⟩)(w:World):
  Calls Tryz.prog 253 #[.agg (gN 0 kd nu st nm ar)] w λe w'=>e=.returned (.bool (shaped ⟨0,⟨kd,nu,st⟩,nm,ar⟩))/\Below w.heap.size w w':=by
 have HS:Hid (shaped ⟨0,⟨kd,nu,st⟩,nm,ar⟩=(valid ⟨kd,nu,st⟩&&dx nm&&ar==0)):=hide (by simp[shaped]);simp only[gN];go_enter Tryz.func253,Tryz.ntmps253;go_wp2_with (go_at_call 86;refine (kw ⟨kd,nu,st⟩ hv _).mono ?_;rintro e w1 ⟨rfl,hb1⟩);all_goals (go_ret;refine ⟨ay ?_,by first|exact aa ae hb1|exact ae⟩;rw[HS.out];go_light;simp_all[dx])
theorem BB (op kd nu ar:Int)(st nm:ByteArray)(w:World)(h0:op≠0)(hz:iW ⟨kd,nu,st⟩=false):
  Calls Tryz.prog 253 #[.agg (gN op kd nu st nm ar)] w λe w'=>e=.returned (.bool (shaped ⟨op,⟨kd,nu,st⟩,nm,ar⟩))/\Below w.heap.size w w':=by
 have HS:Hid (shaped ⟨op,⟨kd,nu,st⟩,nm,ar⟩=false):=hide (by simp only[shaped];rw[if_neg h0,hz];rfl);have q0:(op != 0)=true:=by simpa using h0
 have HZ:Hid (¬(kd=0/\nu=0/\st.toList=[])):=hide (λh=>by rw[(rA _).2 h]at hz;cases hz);clear hz h0;simp only[gN];go_enter Tryz.func253,Tryz.ntmps253;go_wp2_with fail;all_goals (first|(exfalso;exact HZ.out ⟨by assumption,by assumption,by assumption⟩)|(go_ret;exact ⟨ay HS.out.symm,ae⟩))
theorem iU {s:ByteArray}(h:s.toList=[]):dx s=true:=by rw[dx,h];rfl
theorem Gm (nm st:ByteArray)(ar:Int)(hs:Str nm)(hst:st.toList=[])(w:World)(hw:Words w):
  Calls Tryz.prog 253 #[.agg (gN 1 0 0 st nm ar)] w λe w'=>e=.returned (.bool (shaped ⟨1,⟨0,0,st⟩,nm,ar⟩))/\Below w.heap.size w w':=by
 have HS:Hid (shaped ⟨1,⟨0,0,st⟩,nm,ar⟩=((ar==0)&&(cu nm&&!tK nm))):=hide (by simp[shaped,iW,iU hst]);simp only[gN];go_enter Tryz.func253,Tryz.ntmps253;go_wp2_with (first|(go_at_call 184;refine (ji _ hs _).mono ?_;rintro e w1 ⟨rfl,hb1⟩;have hbb:=aa ae hb1;have hw1:=hw.below hbb;obtain ⟨hc1,hf1⟩:=aP hb1;have hz1:=hb1.size)|(go_at_call 259;refine (kZ _ _ hw1).mono ?_;rintro e w' ⟨rfl,rfl⟩));all_goals (go_ret;refine ⟨ay ?_,by first|exact hbb|exact ae⟩;rw[HS.out];go_light;simp_all)
theorem DI (nm st:ByteArray)(ar:Int)(hs:Str nm)(hst:st.toList=[])(w:World)(hw:Words w):
  Calls Tryz.prog 253 #[.agg (gN 20 0 0 st nm ar)] w λe w'=>e=.returned (.bool (shaped ⟨20,⟨0,0,st⟩,nm,ar⟩))/\Below w.heap.size w w':=by
 have HS:Hid (shaped ⟨20,⟨0,0,st⟩,nm,ar⟩=((ar==0)&&(jk nm&&!tK nm))):=hide (by simp[shaped,iW,iU hst]);simp only[gN];go_enter Tryz.func253,Tryz.ntmps253;go_wp2_with (first|(go_at_call 260;refine (zD _ hs _).mono ?_;rintro e w1 ⟨rfl,hb1⟩;have hbb:=aa ae hb1;have hw1:=hw.below hbb;obtain ⟨hc1,hf1⟩:=aP hb1;have hz1:=hb1.size)|(go_at_call 259;refine (kZ _ _ hw1).mono ?_;rintro e w' ⟨rfl,rfl⟩));all_goals (go_ret;refine ⟨ay ?_,by first|exact hbb|exact ae⟩;rw[HS.out];go_light;simp_all)
theorem zH (op ar:Int)(nm st:ByteArray)(hst:st.toList=[])(w:World)(h0:op≠0)(h1:op≠1)(h2:op≠20)(h3:op≠21):
  Calls Tryz.prog 253 #[.agg (gN op 0 0 st nm ar)] w λe w'=>e=.returned (.bool (shaped ⟨op,⟨0,0,st⟩,nm,ar⟩))/\Below w.heap.size w w':=by
 have HS:Hid (shaped ⟨op,⟨0,0,st⟩,nm,ar⟩=((ar==0)&&(dx nm&&decide (0<=arity op ar)))):=hide (by simp[shaped,iW,iU hst,h0,h1,h2,h3]);have q0:(op==0)=false:=by simpa using h0
 have q1:(op==1)=false:=by simpa using h1
 have q2:(op==20)=false:=by simpa using h2
 have q3:(op==21)=false:=by simpa using h3
 have p0:(op != 0)=true:=by simpa using h0
 have p3:(op != 21)=true:=by simpa using h3
 clear h0 h1 h2 h3;simp only[gN];go_enter Tryz.func253,Tryz.ntmps253;go_wp2_with (go_at_call 188;refine (jV ⟨op,⟨0,0,st⟩,nm,ar⟩ _).mono ?_;rintro e w1 ⟨rfl,hb1⟩);all_goals (go_ret;refine ⟨ay ?_,by first|exact aa ae hb1|exact ae⟩;rw[HS.out];go_light;simp_all[dx])
theorem Bi (w:World)(b:Nat)(h:jM w b oV)(s:ByteArray):(Instr.lookup 157 (.map (some b)) (.string s) true).run Tryz.prog w=.ok (.tuple #[(fV s oV).getD (.int .i64 0),.bool (pK s)]) w:=by
 have:=(zG (P:=Tryz.prog) Tryz.underlying157 Tryz.underlying9 h s (.int .i64 0) (by kernel_rfl)).1;rw[EL]at this;exact this
theorem DJ (nm st:ByteArray)(ar:Int)(hs:Str nm)(hst:st.toList=[])(w:World)(hw:Words w):
  Calls Tryz.prog 253 #[.agg (gN 21 0 0 st nm ar)] w λe w'=>e=.returned (.bool (shaped ⟨21,⟨0,0,st⟩,nm,ar⟩))/\Below w.heap.size w w':=by
 have HS:Hid (shaped ⟨21,⟨0,0,st⟩,nm,ar⟩=(jk nm&&!pK nm&&!tK nm&&(decide (0<=ar)&&decide (ar<=8)))):=hide (by simp[shaped,iW,iU hst]);have hl:=Bi (kg (w.alloc (.cells #[.int .i64 21,.int .i64 0,.int .i64 0,.string st,.string nm,.int .i64 ar] 89)).drew) (w.heap.size+1) (by have:=CQ (w.alloc (.cells #[.int .i64 21,.int .i64 0,.int .i64 0,.string st,.string nm,.int .i64 ar] 89)).drew;simpa using this) nm;simp only[gN];go_enter Tryz.func253,Tryz.ntmps253;go_wp2_with fail;go_region_held3 (λV=>V.cell? ⟨w.heap.size,4,none⟩=some (.string nm)) (first|go_keep|exact aj ae (by simp) (by simp[go_sem])) (first|(go_at_call 261;refine (ym _).mono ?_;rintro e w' ⟨rfl,rfl⟩));obtain ⟨w1,hw1⟩: ∃w1,w1=kg (w.alloc (.cells #[.int .i64 21,.int .i64 0,.int .i64 0,.string st,.string nm,.int .i64 ar] 89)).drew:=⟨_,rfl⟩;have b1:Below w.heap.size w w1:=by rw[hw1];exact aa ((Below.refl _ _).alloc (Nat.le_refl _) _).drew ae
 have g4:w1.cell? ⟨w.heap.size,4,none⟩=some (.string nm):=by rw[hw1];exact aj ae (by simp) (by simp[go_sem])
 have g5:w1.cell? ⟨w.heap.size,5,none⟩=some (.int .i64 ar):=by rw[hw1];exact aj ae (by simp) (by simp[go_sem])
 have z1:w.heap.size<w1.heap.size:=by rw[hw1];simp[kg];omega
 rw[<-hw1];clear hl hw1;go_wp2_with fail;refine (zD _ hs _).mono ?_;rintro e w2 ⟨rfl,hb2⟩;have b2:=aa b1 hb2;have hw2:=hw.below b2;replace g4:=aj hb2 z1 g4;replace g5:=aj hb2 z1 g5;clear hb2 b1 z1 hw;cases hq:jk nm
 ·go_wp2;go_ret;exact ⟨ay (by rw[HS.out,hq];rfl),b2⟩
 cases hi:pK nm
 ·go_wp2_with (go_at_call 259;refine (kZ _ _ hw2).mono ?_;rintro e w' ⟨rfl,rfl⟩);all_goals (go_ret;refine ⟨ay ?_,b2⟩;rw[HS.out];go_light;first|(simp_all;done)|(simp_all;omega))
 ·go_wp2;go_ret;exact ⟨ay (by rw[HS.out,hq,hi];rfl),b2⟩
theorem BA (n:Node)(hn:n.ok)(w:World)(hw:Words w):
  Calls Tryz.prog 253 #[.agg n.cells.toArray] w λe w'=>e=.returned (.bool (shaped n))/\Below w.heap.size w w':=by
 obtain ⟨op,⟨kd,nu,st⟩,nm,ar⟩:=n;obtain ⟨_,hv,hs,_⟩:=hn;by_cases h0:op=0
 ·subst h0;exact Gl kd nu ar st nm hv w
 cases hz:iW ⟨kd,nu,st⟩
 ·exact BB op kd nu ar st nm w h0 hz
 obtain ⟨e1,e2,e3⟩:=(rA _).1 hz;simp only at e1 e2 e3;subst e1 e2;by_cases h1:op=1
 ·subst h1;exact Gm nm st ar hs e3 w hw
 by_cases h2:op=20
 ·subst h2;exact DI nm st ar hs e3 w hw
 by_cases h3:op=21
 ·subst h3;exact DJ nm st ar hs e3 w hw
 exact zH op ar nm st e3 w h0 h1 h2 h3
end Go.Proofs.YtopjjlmfilgngaaGreatDoor
