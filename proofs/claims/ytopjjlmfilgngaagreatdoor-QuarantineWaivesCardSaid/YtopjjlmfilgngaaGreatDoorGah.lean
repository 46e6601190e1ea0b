/-
  expr.shaped and warehouseref8.formed: both return shaped. expr.shaped at a call; expr.shaped whole; warehouseref8.formed.
-/
import Derived.Test.YtopjjlmfilgngaaGreatDoorGag
import Derived.Test.YtopjjlmfilgngaaGreatDoorMap
import Derived.Test.YtopjjlmfilgngaaGreatDoorGad
namespace Go.Proofs.YtopjjlmfilgngaaGreatDoor
set_option maxHeartbeats 2000000
set_option maxRecDepth 100000
open Go.RowKit
set_option linter.unusedSimpArgs false
set_option linter.unusedVariables false
def EN:Array MapEntry:= #[{key:=.string ⟨#[105,102]⟩,val:=.int .i64 17,born:=0},{key:=.string ⟨#[99,111,97,108,101,115,99,101]⟩,val:=.int .i64 18,born:=1},{key:=.string ⟨#[105,115,110,117,108,108]⟩,val:=.int .i64 16,born:=2},{key:=.string ⟨#[108,101,110,103,116,104]⟩,val:=.int .i64 19,born:=3},{key:=.string ⟨#[100,97,121]⟩,val:=.int .i64 20,born:=4}]
def uJ:List (ByteArray×Value):=[(⟨#[105,102]⟩,.int .i64 17),(⟨#[99,111,97,108,101,115,99,101]⟩,.int .i64 18),(⟨#[105,115,110,117,108,108]⟩,.int .i64 16),(⟨#[108,101,110,103,116,104]⟩,.int .i64 19),(⟨#[100,97,121]⟩,.int .i64 20)]
def oW (w:World):World:=w.alloc (.map EN 5)
theorem JX (w:World):nS (oW w) w.heap.size uJ:=⟨EN,5,heap_alloc_new w _,rfl⟩
theorem MO (s:ByteArray):(jV s uJ).isSome=nC s:=by
 have key: ∀(l:List (ByteArray×Value)),(jV s l).isSome=(l.map (·.1)).any λx=>x.toList==s.toList:=by
  intro l
  induction l with
  |nil=>rfl
  |cons p l ih=>
   rw[jV,List.map_cons,List.any_cons,show (p.1.toList==s.toList)=(s.toList==p.1.toList) from Bool.beq_comm];cases (s.toList==p.1.toList)
   ·simpa using ih
   ·rfl
 exact key uJ
theorem EO (w:World):Calls Tryz.prog 261 #[] w λe w'=>e=.returned (.map (some w.heap.size))/\w'=oW w:=by
 have hmm:=@run_makeMap Tryz.prog;have h1:(Instr.mapUpdate 157 (.map (some w.heap.size)) (.string ⟨#[105,102]⟩) (.int .i64 17)).run Tryz.prog (w.alloc (.map #[] 0))=.ok () (w.alloc (.map #[{key:=.string ⟨#[105,102]⟩,val:=.int .i64 17,born:=0}] 1)):=jd Tryz.underlying157 Tryz.underlying9 w #[] 0 ⟨#[105,102]⟩ (.int .i64 17) rfl;have h2:(Instr.mapUpdate 157 (.map (some w.heap.size)) (.string ⟨#[99,111,97,108,101,115,99,101]⟩) (.int .i64 18)).run Tryz.prog (w.alloc (.map #[{key:=.string ⟨#[105,102]⟩,val:=.int .i64 17,born:=0}] 1))=.ok () (w.alloc (.map #[{key:=.string ⟨#[105,102]⟩,val:=.int .i64 17,born:=0},{key:=.string ⟨#[99,111,97,108,101,115,99,101]⟩,val:=.int .i64 18,born:=1}] 2)):=jd Tryz.underlying157 Tryz.underlying9 w #[{key:=.string ⟨#[105,102]⟩,val:=.int .i64 17,born:=0}] 1 ⟨#[99,111,97,108,101,115,99,101]⟩ (.int .i64 18) rfl;have h3:(Instr.mapUpdate 157 (.map (some w.heap.size)) (.string ⟨#[105,115,110,117,108,108]⟩) (.int .i64 16)).run Tryz.prog (w.alloc (.map #[{key:=.string ⟨#[105,102]⟩,val:=.int .i64 17,born:=0},{key:=.string ⟨#[99,111,97,108,101,115,99,101]⟩,val:=.int .i64 18,born:=1}] 2))=.ok () (w.alloc (.map #[{key:=.string ⟨#[105,102]⟩,val:=.int .i64 17,born:=0},{key:=.string ⟨#[99,111,97,108,101,115,99,101]⟩,val:=.int .i64 18,born:=1},{key:=.string ⟨#[105,115,110,117,108,108]⟩,val:=.int .i64 16,born:=2}] 3)):=jd Tryz.underlying157 Tryz.underlying9 w #[{key:=.string ⟨#[105,102]⟩,val:=.int .i64 17,born:=0},{key:=.string ⟨#[99,111,97,108,101,115,99,101]⟩,val:=.int .i64 18,born:=1}] 2 ⟨#[105,115,110,117,108,108]⟩ (.int .i64 16) rfl;have h4:(Instr.mapUpdate 157 (.map (some w.heap.size)) (.string ⟨#[108,101,110,103,116,104]⟩) (.int .i64 19)).run Tryz.prog (w.alloc (.map #[{key:=.string ⟨#[105,102]⟩,val:=.int .i64 17,born:=0},{key:=.string ⟨#[99,111,97,108,101,115,99,101]⟩,val:=.int .i64 18,born:=1},{key:=.string ⟨#[105,115,110,117,108,108]⟩,val:=.int .i64 16,born:=2}] 3))=.ok () (w.alloc (.map #[{key:=.string ⟨#[105,102]⟩,val:=.int .i64 17,born:=0},{key:=.string ⟨#[99,111,97,108,101,115,99,101]⟩,val:=.int .i64 18,born:=1},{key:=.string ⟨#[105,115,110,117,108,108]⟩,val:=.int .i64 16,born:=2},{key:=.string ⟨#[108,101,110,103,116,104]⟩,val:=.int .i64 19,born:=3}] 4)):=jd Tryz.underlying157 Tryz.underlying9 w #[{key:=.string ⟨#[105,102]⟩,val:=.int .i64 17,born:=0},{key:=.string ⟨#[99,111,97,108,101,115,99,101]⟩,val:=.int .i64 18,born:=1},{key:=.string ⟨#[105,115,110,117,108,108]⟩,val:=.int .i64 16,born:=2}] 3 ⟨#[108,101,110,103,116,104]⟩ (.int .i64 19) rfl;have h5:(Instr.mapUpdate 157 (.map (some w.heap.size)) (.string ⟨#[100,97,121]⟩) (.int .i64 20)).run Tryz.prog (w.alloc (.map #[{key:=.string ⟨#[105,102]⟩,val:=.int .i64 17,born:=0},{key:=.string ⟨#[99,111,97,108,101,115,99,101]⟩,val:=.int .i64 18,born:=1},{key:=.string ⟨#[105,115,110,117,108,108]⟩,val:=.int .i64 16,born:=2},{key:=.string ⟨#[108,101,110,103,116,104]⟩,val:=.int .i64 19,born:=3}] 4))=.ok () (w.alloc (.map #[{key:=.string ⟨#[105,102]⟩,val:=.int .i64 17,born:=0},{key:=.string ⟨#[99,111,97,108,101,115,99,101]⟩,val:=.int .i64 18,born:=1},{key:=.string ⟨#[105,115,110,117,108,108]⟩,val:=.int .i64 16,born:=2},{key:=.string ⟨#[108,101,110,103,116,104]⟩,val:=.int .i64 19,born:=3},{key:=.string ⟨#[100,97,121]⟩,val:=.int .i64 20,born:=4}] 5)):=jd Tryz.underlying157 Tryz.underlying9 w #[{key:=.string ⟨#[105,102]⟩,val:=.int .i64 17,born:=0},{key:=.string ⟨#[99,111,97,108,101,115,99,101]⟩,val:=.int .i64 18,born:=1},{key:=.string ⟨#[105,115,110,117,108,108]⟩,val:=.int .i64 16,born:=2},{key:=.string ⟨#[108,101,110,103,116,104]⟩,val:=.int .i64 19,born:=3}] 4 ⟨#[100,97,121]⟩ (.int .i64 20) rfl;go_enter Tryz.func261,Tryz.ntmps261;go_wp2;go_ret;exact ⟨rfl,rfl⟩
theorem nQ (v:Val):iw v=true↔v.kind=0/\v.num=0/\v.str.toList=[]:=by
 simp only[iw,ek,Bool.and_eq_true,beq_iff_eq,List.isEmpty_iff,and_assoc]
def eQ (op kd nu:Int)(st nm:ByteArray)(ar:Int):Array Value:= #[.int .i64 op,.int .i64 kd,.int .i64 nu,.string st,.string nm,.int .i64 ar]
theorem OD (kd nu ar:Int)(st nm:ByteArray)(hv:Val.ok ⟨kd,nu,st⟩)(w:World):
  Calls Tryz.prog 253 #[.agg (eQ 0 kd nu st nm ar)] w λe w'=>e=.returned (.bool (shaped ⟨0,⟨kd,nu,st⟩,nm,ar⟩))/\Below w.heap.size w w':=by
 have HS:Hid (shaped ⟨0,⟨kd,nu,st⟩,nm,ar⟩=(valid ⟨kd,nu,st⟩&&ek nm&&ar==0)):=hide (by simp[shaped]);simp only[eQ];go_enter Tryz.func253,Tryz.ntmps253;go_wp2_with (go_at_call 86;refine (pE ⟨kd,nu,st⟩ hv _).mono ?_;rintro e w1 ⟨rfl,hb1⟩);all_goals (go_ret;refine ⟨ay ?_,by first|exact aa ae hb1|exact ae⟩;rw[HS.out];go_light;simp_all[ek])
theorem Iu (op kd nu ar:Int)(st nm:ByteArray)(w:World)(h0:op≠0)(hz:iw ⟨kd,nu,st⟩=false):
  Calls Tryz.prog 253 #[.agg (eQ op kd nu st nm ar)] w λe w'=>e=.returned (.bool (shaped ⟨op,⟨kd,nu,st⟩,nm,ar⟩))/\Below w.heap.size w w':=by
 have HS:Hid (shaped ⟨op,⟨kd,nu,st⟩,nm,ar⟩=false):=hide (by simp only[shaped];rw[if_neg h0,hz];rfl);have q0:(op != 0)=true:=by simpa using h0
 have HZ:Hid (¬(kd=0/\nu=0/\st.toList=[])):=hide (λh=>by rw[(nQ _).2 h]at hz;cases hz);clear hz h0;simp only[eQ];go_enter Tryz.func253,Tryz.ntmps253;go_wp2_with fail;all_goals (first|(exfalso;exact HZ.out ⟨by assumption,by assumption,by assumption⟩)|(go_ret;exact ⟨ay HS.out.symm,ae⟩))
theorem gF {s:ByteArray}(h:s.toList=[]):ek s=true:=by rw[ek,h];rfl
theorem OG (nm st:ByteArray)(ar:Int)(hs:Str nm)(hst:st.toList=[])(w:World)(hw:Words w):
  Calls Tryz.prog 253 #[.agg (eQ 1 0 0 st nm ar)] w λe w'=>e=.returned (.bool (shaped ⟨1,⟨0,0,st⟩,nm,ar⟩))/\Below w.heap.size w w':=by
 have HS:Hid (shaped ⟨1,⟨0,0,st⟩,nm,ar⟩=((ar==0)&&(bV nm&&!nD nm))):=hide (by simp[shaped,iw,gF hst]);simp only[eQ];go_enter Tryz.func253,Tryz.ntmps253;go_wp2_with (first|(go_at_call 184;refine (mK _ hs _).mono ?_;rintro e w1 ⟨rfl,hb1⟩;have hbb:=aa ae hb1;have hw1:=hw.below hbb;obtain ⟨hc1,hf1⟩:=au hb1;have hz1:=hb1.size)|(go_at_call 259;refine (qp _ _ hw1).mono ?_;rintro e w' ⟨rfl,rfl⟩));all_goals (go_ret;refine ⟨ay ?_,by first|exact hbb|exact ae⟩;rw[HS.out];go_light;simp_all)
theorem K7 (nm st:ByteArray)(ar:Int)(hs:Str nm)(hst:st.toList=[])(w:World)(hw:Words w):
  Calls Tryz.prog 253 #[.agg (eQ 20 0 0 st nm ar)] w λe w'=>e=.returned (.bool (shaped ⟨20,⟨0,0,st⟩,nm,ar⟩))/\Below w.heap.size w w':=by
 have HS:Hid (shaped ⟨20,⟨0,0,st⟩,nm,ar⟩=((ar==0)&&(gN nm&&!nD nm))):=hide (by simp[shaped,iw,gF hst]);simp only[eQ];go_enter Tryz.func253,Tryz.ntmps253;go_wp2_with (first|(go_at_call 260;refine (F5 _ hs _).mono ?_;rintro e w1 ⟨rfl,hb1⟩;have hbb:=aa ae hb1;have hw1:=hw.below hbb;obtain ⟨hc1,hf1⟩:=au hb1;have hz1:=hb1.size)|(go_at_call 259;refine (qp _ _ hw1).mono ?_;rintro e w' ⟨rfl,rfl⟩));all_goals (go_ret;refine ⟨ay ?_,by first|exact hbb|exact ae⟩;rw[HS.out];go_light;simp_all)
theorem F8 (op ar:Int)(nm st:ByteArray)(hst:st.toList=[])(w:World)(h0:op≠0)(h1:op≠1)(h2:op≠20)(h3:op≠21):
  Calls Tryz.prog 253 #[.agg (eQ op 0 0 st nm ar)] w λe w'=>e=.returned (.bool (shaped ⟨op,⟨0,0,st⟩,nm,ar⟩))/\Below w.heap.size w w':=by
 have HS:Hid (shaped ⟨op,⟨0,0,st⟩,nm,ar⟩=((ar==0)&&(ek nm&&decide (0<=arity op ar)))):=hide (by simp[shaped,iw,gF hst,h0,h1,h2,h3]);have q0:(op==0)=false:=by simpa using h0
 have q1:(op==1)=false:=by simpa using h1
 have q2:(op==20)=false:=by simpa using h2
 have q3:(op==21)=false:=by simpa using h3
 have p0:(op != 0)=true:=by simpa using h0
 have p3:(op != 21)=true:=by simpa using h3
 clear h0 h1 h2 h3;simp only[eQ];go_enter Tryz.func253,Tryz.ntmps253;go_wp2_with (go_at_call 188;refine (oH ⟨op,⟨0,0,st⟩,nm,ar⟩ _).mono ?_;rintro e w1 ⟨rfl,hb1⟩);all_goals (go_ret;refine ⟨ay ?_,by first|exact aa ae hb1|exact ae⟩;rw[HS.out];go_light;simp_all[ek])
theorem H9 (w:World)(b:Nat)(h:nS w b uJ)(s:ByteArray):(Instr.lookup 157 (.map (some b)) (.string s) true).run Tryz.prog w=.ok (.tuple #[(jV s uJ).getD (.int .i64 0),.bool (nC s)]) w:=by
 have:=(F7 (P:=Tryz.prog) Tryz.underlying157 Tryz.underlying9 h s (.int .i64 0) (by kernel_rfl)).1;rw[MO]at this;exact this
theorem K8 (nm st:ByteArray)(ar:Int)(hs:Str nm)(hst:st.toList=[])(w:World)(hw:Words w):
  Calls Tryz.prog 253 #[.agg (eQ 21 0 0 st nm ar)] w λe w'=>e=.returned (.bool (shaped ⟨21,⟨0,0,st⟩,nm,ar⟩))/\Below w.heap.size w w':=by
 have HS:Hid (shaped ⟨21,⟨0,0,st⟩,nm,ar⟩=(gN nm&&!nC nm&&!nD nm&&(decide (0<=ar)&&decide (ar<=8)))):=hide (by simp[shaped,iw,gF hst]);have hl:=H9 (oW (w.alloc (.cells #[.int .i64 21,.int .i64 0,.int .i64 0,.string st,.string nm,.int .i64 ar] 89)).drew) (w.heap.size+1) (by have:=JX (w.alloc (.cells #[.int .i64 21,.int .i64 0,.int .i64 0,.string st,.string nm,.int .i64 ar] 89)).drew;simpa using this) nm;simp only[eQ];go_enter Tryz.func253,Tryz.ntmps253;go_wp2_with fail;go_region_held3 (λV=>V.cell? ⟨w.heap.size,4,none⟩=some (.string nm)) (first|go_keep|exact ah ae (by simp) (by simp[go_sem])) (first|(go_at_call 261;refine (EO _).mono ?_;rintro e w' ⟨rfl,rfl⟩));obtain ⟨w1,hw1⟩: ∃w1,w1=oW (w.alloc (.cells #[.int .i64 21,.int .i64 0,.int .i64 0,.string st,.string nm,.int .i64 ar] 89)).drew:=⟨_,rfl⟩;have b1:Below w.heap.size w w1:=by rw[hw1];exact aa ((Below.refl _ _).alloc (Nat.le_refl _) _).drew ae
 have g4:w1.cell? ⟨w.heap.size,4,none⟩=some (.string nm):=by rw[hw1];exact ah ae (by simp) (by simp[go_sem])
 have g5:w1.cell? ⟨w.heap.size,5,none⟩=some (.int .i64 ar):=by rw[hw1];exact ah ae (by simp) (by simp[go_sem])
 have z1:w.heap.size<w1.heap.size:=by rw[hw1];simp[oW];omega
 rw[<-hw1];clear hl hw1;go_wp2_with fail;refine (F5 _ hs _).mono ?_;rintro e w2 ⟨rfl,hb2⟩;have b2:=aa b1 hb2;have hw2:=hw.below b2;replace g4:=ah hb2 z1 g4;replace g5:=ah hb2 z1 g5;clear hb2 b1 z1 hw;cases hq:gN nm
 ·go_wp2;go_ret;exact ⟨ay (by rw[HS.out,hq];rfl),b2⟩
 cases hi:nC nm
 ·go_wp2_with (go_at_call 259;refine (qp _ _ hw2).mono ?_;rintro e w' ⟨rfl,rfl⟩);all_goals (go_ret;refine ⟨ay ?_,b2⟩;rw[HS.out];go_light;first|(simp_all;done)|(simp_all;omega))
 ·go_wp2;go_ret;exact ⟨ay (by rw[HS.out,hq,hi];rfl),b2⟩
theorem Ir (n:Node)(hn:n.ok)(w:World)(hw:Words w):
  Calls Tryz.prog 253 #[.agg n.cells.toArray] w λe w'=>e=.returned (.bool (shaped n))/\Below w.heap.size w w':=by
 obtain ⟨op,⟨kd,nu,st⟩,nm,ar⟩:=n;obtain ⟨_,hv,hs,_⟩:=hn;by_cases h0:op=0
 ·subst h0;exact OD kd nu ar st nm hv w
 cases hz:iw ⟨kd,nu,st⟩
 ·exact Iu op kd nu ar st nm w h0 hz
 obtain ⟨e1,e2,e3⟩:=(nQ _).1 hz;simp only at e1 e2 e3;subst e1 e2;by_cases h1:op=1
 ·subst h1;exact OG nm st ar hs e3 w hw
 by_cases h2:op=20
 ·subst h2;exact K7 nm st ar hs e3 w hw
 by_cases h3:op=21
 ·subst h3;exact K8 nm st ar hs e3 w hw
 exact F8 op ar nm st e3 w h0 h1 h2 h3
theorem DD (s:ByteArray)(hs:Str s)(w:World):Calls Tryz.prog 192 #[.string s] w λe w'=>e=.returned (.bool (bV s&&!nD s))/\Below w.heap.size w w':=by
 go_enter Tryz.func192,Tryz.ntmps192;go_wp2_with (first|(go_at_call 127;refine (il _ hs _).mono ?_;rintro e w' ⟨rfl,rfl⟩)|(go_at_call 221;refine (vw _ _).mono ?_;rintro e w1 ⟨rfl,hb1⟩));all_goals (go_ret;refine ⟨ay ?_,by first|exact hb1|exact Below.refl _ _⟩;go_light;simp_all)
theorem qK (s:ByteArray)(hs:Str s)(w:World):Calls Tryz.prog 193 #[.string s] w λe w'=>e=.returned (.bool (gN s&&!nD s))/\Below w.heap.size w w':=by
 go_enter Tryz.func193,Tryz.ntmps193;go_wp2_with (first|(go_at_call 222;refine (OA _ hs _).mono ?_;rintro e w' ⟨rfl,rfl⟩)|(go_at_call 221;refine (vw _ _).mono ?_;rintro e w1 ⟨rfl,hb1⟩));all_goals (go_ret;refine ⟨ay ?_,by first|exact hb1|exact Below.refl _ _⟩;go_light;simp_all)
theorem Nf (kd nu ar:Int)(st nm:ByteArray)(hv:Val.ok ⟨kd,nu,st⟩)(w:World):
  Calls Tryz.prog 153 #[.agg (eQ 0 kd nu st nm ar)] w λe w'=>e=.returned (.bool (shaped ⟨0,⟨kd,nu,st⟩,nm,ar⟩))/\Below w.heap.size w w':=by
 have HS:Hid (shaped ⟨0,⟨kd,nu,st⟩,nm,ar⟩=(valid ⟨kd,nu,st⟩&&ek nm&&ar==0)):=hide (by simp[shaped]);simp only[eQ];obtain q|⟨q,q'⟩|⟨q,q',q''⟩|⟨q,q',q''⟩:¬kd=0\/(kd=0/\¬nu=0)\/(kd=0/\nu=0/\¬st.toList=[])\/(kd=0/\nu=0/\st.toList=[]):=by
  by_cases h1:kd=0
  ·by_cases h2:nu=0
   ·by_cases h3:st.toList=[]
    ·exact .inr (.inr (.inr ⟨h1,h2,h3⟩))
    ·exact .inr (.inr (.inl ⟨h1,h2,h3⟩))
   ·exact .inr (.inl ⟨h1,h2⟩)
  ·exact .inl h1
 all_goals
  (try subst q)
  (try subst q');go_enter Tryz.func153,Tryz.ntmps153;go_wp2_with (go_at_call 100;refine (wO ⟨_,_,st⟩ hv _).mono ?_;rintro e w1 ⟨rfl,hb1⟩;have hbb:=aa ae hb1;have g4:=ah (b:=w.heap.size) (o:=4) (v:=.string nm) hb1 (by simp) (by simp[go_sem]);have g5:=ah (b:=w.heap.size) (o:=5) (v:=.int .i64 ar) hb1 (by simp) (by simp[go_sem]);clear hb1);all_goals (go_ret;refine ⟨ay ?_,hbb⟩;rw[HS.out];(try clear g4 g5);(try clear hbb);go_light;simp_all[ek])
theorem He (op kd nu ar:Int)(st nm:ByteArray)(w:World)(h0:op≠0)(hz:iw ⟨kd,nu,st⟩=false):
  Calls Tryz.prog 153 #[.agg (eQ op kd nu st nm ar)] w λe w'=>e=.returned (.bool (shaped ⟨op,⟨kd,nu,st⟩,nm,ar⟩))/\Below w.heap.size w w':=by
 have HS:Hid (shaped ⟨op,⟨kd,nu,st⟩,nm,ar⟩=false):=hide (by simp only[shaped];rw[if_neg h0,hz];rfl);have q0:(op==0)=false:=by simpa using h0
 have HZ:¬(kd=0/\nu=0/\st.toList=[]):=λh=>by rw[(nQ _).2 h]at hz;cases hz
 clear hz h0;simp only[eQ];obtain q|⟨q,q'⟩|⟨q,q',q''⟩:¬kd=0\/(kd=0/\¬nu=0)\/(kd=0/\nu=0/\¬st.toList=[]):=by
  by_cases h1:kd=0
  ·by_cases h2:nu=0
   ·exact .inr (.inr ⟨h1,h2,λh3=>HZ ⟨h1,h2,h3⟩⟩)
   ·exact .inr (.inl ⟨h1,h2⟩)
  ·exact .inl h1
 all_goals
  clear HZ
  (try subst q)
  (try subst q');go_enter Tryz.func153,Tryz.ntmps153;go_wp2_with (go_at_call 131;refine (l9 ⟨op,⟨_,_,st⟩,nm,ar⟩ _).mono ?_;rintro e w1 ⟨rfl,hb1⟩;have hbb:=aa ae hb1;have g4:=ah (b:=w.heap.size) (o:=4) (v:=.string nm) hb1 (by simp) (by simp[go_sem]);have g5:=ah (b:=w.heap.size) (o:=5) (v:=.int .i64 ar) hb1 (by simp) (by simp[go_sem]);clear hb1);all_goals (go_ret;refine ⟨ay (by first|exact HS.out.symm|(rw[HS.out];(try clear g4 g5);(try clear hbb);go_light;simp_all;done)),by first|exact hbb|exact ae⟩)
theorem Ng (nm st:ByteArray)(ar:Int)(hs:Str nm)(hst:st.toList=[])(w:World):
  Calls Tryz.prog 153 #[.agg (eQ 1 0 0 st nm ar)] w λe w'=>e=.returned (.bool (shaped ⟨1,⟨0,0,st⟩,nm,ar⟩))/\Below w.heap.size w w':=by
 have HS:Hid (shaped ⟨1,⟨0,0,st⟩,nm,ar⟩=((ar==0)&&(bV nm&&!nD nm))):=hide (by simp[shaped,iw,gF hst]);simp only[eQ];go_enter Tryz.func153,Tryz.ntmps153;go_wp2_with (go_at_call 192;refine (DD _ hs _).mono ?_;rintro e w1 ⟨rfl,hb1⟩;have hbb:=aa ae hb1);all_goals (go_ret;refine ⟨ay ?_,by first|exact hbb|exact ae⟩;rw[HS.out];(try clear g4 g5);(try clear hbb);go_light;simp_all)
theorem Ki (nm st:ByteArray)(ar:Int)(hs:Str nm)(hst:st.toList=[])(w:World):
  Calls Tryz.prog 153 #[.agg (eQ 20 0 0 st nm ar)] w λe w'=>e=.returned (.bool (shaped ⟨20,⟨0,0,st⟩,nm,ar⟩))/\Below w.heap.size w w':=by
 have HS:Hid (shaped ⟨20,⟨0,0,st⟩,nm,ar⟩=((ar==0)&&(gN nm&&!nD nm))):=hide (by simp[shaped,iw,gF hst]);simp only[eQ];go_enter Tryz.func153,Tryz.ntmps153;go_wp2_with (go_at_call 193;refine (qK _ hs _).mono ?_;rintro e w1 ⟨rfl,hb1⟩;have hbb:=aa ae hb1);all_goals (go_ret;refine ⟨ay ?_,by first|exact hbb|exact ae⟩;rw[HS.out];(try clear g4 g5);(try clear hbb);go_light;simp_all)
theorem Kj (nm st:ByteArray)(ar:Int)(hs:Str nm)(hst:st.toList=[])(w:World):
  Calls Tryz.prog 153 #[.agg (eQ 21 0 0 st nm ar)] w λe w'=>e=.returned (.bool (shaped ⟨21,⟨0,0,st⟩,nm,ar⟩))/\Below w.heap.size w w':=by
 have HS:Hid (shaped ⟨21,⟨0,0,st⟩,nm,ar⟩=(gN nm&&!nC nm&&!nD nm&&(decide (0<=ar)&&decide (ar<=8)))):=hide (by simp[shaped,iw,gF hst]);simp only[eQ];go_enter Tryz.func153,Tryz.ntmps153;go_wp2_with (first|(go_at_call 193;refine (qK _ hs _).mono ?_;rintro e w1 ⟨rfl,hb1⟩;have hbb:=aa ae hb1;have g4:=ah (b:=w.heap.size) (o:=4) (v:=.string nm) hb1 (by simp) (by simp[go_sem]);have g5:=ah (b:=w.heap.size) (o:=5) (v:=.int .i64 ar) hb1 (by simp) (by simp[go_sem]);clear hb1)|(go_at_call 194;refine (EP _ _).mono ?_;rintro e w2 ⟨rfl,hb2⟩;have hb3:=aa hbb hb2;clear hb2));all_goals (go_ret;refine ⟨ay ?_,by first|exact hb3|exact hbb|exact ae⟩;rw[HS.out];(try clear g4 g5);(try clear hbb);go_light;cases hq:gN nm <;> cases hr:nD nm <;> cases hi:nC nm <;> first|(simp_all;done)|(simp_all;omega))
theorem Fa (op ar:Int)(nm st:ByteArray)(hst:st.toList=[])(w:World)(h0:op≠0)(h1:op≠1)(h2:op≠20)(h3:op≠21):
  Calls Tryz.prog 153 #[.agg (eQ op 0 0 st nm ar)] w λe w'=>e=.returned (.bool (shaped ⟨op,⟨0,0,st⟩,nm,ar⟩))/\Below w.heap.size w w':=by
 have HS:Hid (shaped ⟨op,⟨0,0,st⟩,nm,ar⟩=((ar==0)&&(ek nm&&decide (0<=arity op ar)))):=hide (by simp[shaped,iw,gF hst,h0,h1,h2,h3]);have q0:(op==0)=false:=by simpa using h0
 have q1:(op==1)=false:=by simpa using h1
 have q2:(op==20)=false:=by simpa using h2
 have q3:(op==21)=false:=by simpa using h3
 clear h0 h1 h2 h3;simp only[eQ];go_enter Tryz.func153,Tryz.ntmps153;go_wp2_with (go_at_call 131;refine (l9 ⟨op,⟨0,0,st⟩,nm,ar⟩ _).mono ?_;rintro e w1 ⟨rfl,hb1⟩;have hbb:=aa ae hb1;have g4:=ah (b:=w.heap.size) (o:=4) (v:=.string nm) hb1 (by simp) (by simp[go_sem]);have g5:=ah (b:=w.heap.size) (o:=5) (v:=.int .i64 ar) hb1 (by simp) (by simp[go_sem]);clear hb1);all_goals (go_ret;refine ⟨ay ?_,hbb⟩;rw[HS.out];(try clear g4 g5);(try clear hbb);go_light;first|(simp_all[ek];done)|(simp_all[ek];intro e1 _;subst e1;first|assumption|omega))
theorem Fb (n:Node)(hn:n.ok)(w:World):
  Calls Tryz.prog 153 #[.agg n.cells.toArray] w λe w'=>e=.returned (.bool (shaped n))/\Below w.heap.size w w':=by
 obtain ⟨op,⟨kd,nu,st⟩,nm,ar⟩:=n;obtain ⟨_,hv,hs,_⟩:=hn;by_cases h0:op=0
 ·subst h0;exact Nf kd nu ar st nm hv w
 cases hz:iw ⟨kd,nu,st⟩
 ·exact He op kd nu ar st nm w h0 hz
 obtain ⟨e1,e2,e3⟩:=(nQ _).1 hz;simp only at e1 e2 e3;subst e1 e2;by_cases h1:op=1
 ·subst h1;exact Ng nm st ar hs e3 w
 by_cases h2:op=20
 ·subst h2;exact Ki nm st ar hs e3 w
 by_cases h3:op=21
 ·subst h3;exact Kj nm st ar hs e3 w
 exact Fa op ar nm st e3 w h0 h1 h2 h3
end Go.Proofs.YtopjjlmfilgngaaGreatDoor
