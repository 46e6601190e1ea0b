/-
  expr.shaped and warehouseref8.formed: both return shaped. expr.shaped at a call; expr.shaped whole; warehouseref8.formed.
-/
import Derived.Test.YthnelebakkggjaaGreatDoorGaf
import Derived.Test.YthnelebakkggjaaGreatDoorGao
namespace Go.Proofs.YthnelebakkggjaaGreatDoor
set_option maxHeartbeats 2000000
set_option maxRecDepth 100000
open Go.RowKit
set_option linter.unusedSimpArgs false
set_option linter.unusedVariables false
def Ct:Array MapEntry:= #[{key:=.string ⟨#[105,102]⟩,val:=.int .i64 17,born:=0},{key:=.string ⟨#[99,111,97,108,101,115,99,101]⟩,val:=.int .i64 18,born:=1},{key:=.string ⟨#[105,115,110,117,108,108]⟩,val:=.int .i64 16,born:=2},{key:=.string ⟨#[108,101,110,103,116,104]⟩,val:=.int .i64 19,born:=3},{key:=.string ⟨#[100,97,121]⟩,val:=.int .i64 20,born:=4}]
def vz:List (ByteArray×Value):=[(⟨#[105,102]⟩,.int .i64 17),(⟨#[99,111,97,108,101,115,99,101]⟩,.int .i64 18),(⟨#[105,115,110,117,108,108]⟩,.int .i64 16),(⟨#[108,101,110,103,116,104]⟩,.int .i64 19),(⟨#[100,97,121]⟩,.int .i64 20)]
def ru (w:World):World:=w.alloc (.map Ct 5)
theorem Gl (w:World):qK (ru w) w.heap.size vz:=⟨Ct,5,heap_alloc_new w _,rfl⟩
theorem Iz (s:ByteArray):(mZ s vz).isSome=qy s:=by
 have key: ∀(l:List (ByteArray×Value)),(mZ s l).isSome=(l.map (·.1)).any λx=>x.toList==s.toList:=by
  intro l
  induction l with
  |nil=>rfl
  |cons p l a=>
   rw[mZ,List.map_cons,List.any_cons,show(p.1.toList==s.toList)=(s.toList==p.1.toList) from Bool.beq_comm];cases (s.toList==p.1.toList)
   ·simpa using a
   ·rfl
 exact key vz
theorem Cu (w:World):Calls Tryz.prog 208 #[] w λe w'=>e=.returned (.map (some w.heap.size))/\w'=ru w:=by
 have g:=@run_makeMap Tryz.prog;have a:(Instr.mapUpdate 103 (.map (some w.heap.size)) (.string ⟨#[105,102]⟩) (.int .i64 17)).run Tryz.prog (w.alloc (.map #[] 0))=.ok () (w.alloc (.map #[{key:=.string ⟨#[105,102]⟩,val:=.int .i64 17,born:=0}] 1)):=l5 Tryz.underlying103 Tryz.underlying9 w #[] 0 ⟨#[105,102]⟩ (.int .i64 17) rfl;have b:(Instr.mapUpdate 103 (.map (some w.heap.size)) (.string ⟨#[99,111,97,108,101,115,99,101]⟩) (.int .i64 18)).run Tryz.prog (w.alloc (.map #[{key:=.string ⟨#[105,102]⟩,val:=.int .i64 17,born:=0}] 1))=.ok () (w.alloc (.map #[{key:=.string ⟨#[105,102]⟩,val:=.int .i64 17,born:=0},{key:=.string ⟨#[99,111,97,108,101,115,99,101]⟩,val:=.int .i64 18,born:=1}] 2)):=l5 Tryz.underlying103 Tryz.underlying9 w #[{key:=.string ⟨#[105,102]⟩,val:=.int .i64 17,born:=0}] 1 ⟨#[99,111,97,108,101,115,99,101]⟩ (.int .i64 18) rfl;have c:(Instr.mapUpdate 103 (.map (some w.heap.size)) (.string ⟨#[105,115,110,117,108,108]⟩) (.int .i64 16)).run Tryz.prog (w.alloc (.map #[{key:=.string ⟨#[105,102]⟩,val:=.int .i64 17,born:=0},{key:=.string ⟨#[99,111,97,108,101,115,99,101]⟩,val:=.int .i64 18,born:=1}] 2))=.ok () (w.alloc (.map #[{key:=.string ⟨#[105,102]⟩,val:=.int .i64 17,born:=0},{key:=.string ⟨#[99,111,97,108,101,115,99,101]⟩,val:=.int .i64 18,born:=1},{key:=.string ⟨#[105,115,110,117,108,108]⟩,val:=.int .i64 16,born:=2}] 3)):=l5 Tryz.underlying103 Tryz.underlying9 w #[{key:=.string ⟨#[105,102]⟩,val:=.int .i64 17,born:=0},{key:=.string ⟨#[99,111,97,108,101,115,99,101]⟩,val:=.int .i64 18,born:=1}] 2 ⟨#[105,115,110,117,108,108]⟩ (.int .i64 16) rfl;have d:(Instr.mapUpdate 103 (.map (some w.heap.size)) (.string ⟨#[108,101,110,103,116,104]⟩) (.int .i64 19)).run Tryz.prog (w.alloc (.map #[{key:=.string ⟨#[105,102]⟩,val:=.int .i64 17,born:=0},{key:=.string ⟨#[99,111,97,108,101,115,99,101]⟩,val:=.int .i64 18,born:=1},{key:=.string ⟨#[105,115,110,117,108,108]⟩,val:=.int .i64 16,born:=2}] 3))=.ok () (w.alloc (.map #[{key:=.string ⟨#[105,102]⟩,val:=.int .i64 17,born:=0},{key:=.string ⟨#[99,111,97,108,101,115,99,101]⟩,val:=.int .i64 18,born:=1},{key:=.string ⟨#[105,115,110,117,108,108]⟩,val:=.int .i64 16,born:=2},{key:=.string ⟨#[108,101,110,103,116,104]⟩,val:=.int .i64 19,born:=3}] 4)):=l5 Tryz.underlying103 Tryz.underlying9 w #[{key:=.string ⟨#[105,102]⟩,val:=.int .i64 17,born:=0},{key:=.string ⟨#[99,111,97,108,101,115,99,101]⟩,val:=.int .i64 18,born:=1},{key:=.string ⟨#[105,115,110,117,108,108]⟩,val:=.int .i64 16,born:=2}] 3 ⟨#[108,101,110,103,116,104]⟩ (.int .i64 19) rfl;have f:(Instr.mapUpdate 103 (.map (some w.heap.size)) (.string ⟨#[100,97,121]⟩) (.int .i64 20)).run Tryz.prog (w.alloc (.map #[{key:=.string ⟨#[105,102]⟩,val:=.int .i64 17,born:=0},{key:=.string ⟨#[99,111,97,108,101,115,99,101]⟩,val:=.int .i64 18,born:=1},{key:=.string ⟨#[105,115,110,117,108,108]⟩,val:=.int .i64 16,born:=2},{key:=.string ⟨#[108,101,110,103,116,104]⟩,val:=.int .i64 19,born:=3}] 4))=.ok () (w.alloc (.map #[{key:=.string ⟨#[105,102]⟩,val:=.int .i64 17,born:=0},{key:=.string ⟨#[99,111,97,108,101,115,99,101]⟩,val:=.int .i64 18,born:=1},{key:=.string ⟨#[105,115,110,117,108,108]⟩,val:=.int .i64 16,born:=2},{key:=.string ⟨#[108,101,110,103,116,104]⟩,val:=.int .i64 19,born:=3},{key:=.string ⟨#[100,97,121]⟩,val:=.int .i64 20,born:=4}] 5)):=l5 Tryz.underlying103 Tryz.underlying9 w #[{key:=.string ⟨#[105,102]⟩,val:=.int .i64 17,born:=0},{key:=.string ⟨#[99,111,97,108,101,115,99,101]⟩,val:=.int .i64 18,born:=1},{key:=.string ⟨#[105,115,110,117,108,108]⟩,val:=.int .i64 16,born:=2},{key:=.string ⟨#[108,101,110,103,116,104]⟩,val:=.int .i64 19,born:=3}] 4 ⟨#[100,97,121]⟩ (.int .i64 20) rfl;go_enter Tryz.func208,Tryz.ntmps208;go_wp2;go_ret;exact⟨rfl,rfl⟩
theorem qJ (v:Val):lh v=true↔v.kind=0/\v.num=0/\v.str.toList=[]:=by
 simp only[lh,jH,Bool.and_eq_true,beq_iff_eq,List.isEmpty_iff,and_assoc]
def gT (c kd b:Int)(st nm:ByteArray)(a:Int):Array Value:= #[.int .i64 c,.int .i64 kd,.int .i64 b,.string st,.string nm,.int .i64 a]
theorem JC (kd a b:Int)(st nm:ByteArray)(f:Val.ok ⟨kd,a,st⟩)(w:World):
  Calls Tryz.prog 191 #[.agg (gT 0 kd a st nm b)] w λe w'=>e=.returned (.bool (shaped ⟨0,⟨kd,a,st⟩,nm,b⟩))/\Below w.heap.size w w':=by
 have c:Hl (shaped ⟨0,⟨kd,a,st⟩,nm,b⟩=(valid ⟨kd,a,st⟩&&jH nm&&b==0)):=Hm (by simp[shaped]);simp only[gT];go_enter Tryz.func191,Tryz.ntmps191;go_wp2_with (go_at_call 88;refine(rD ⟨kd,a,st⟩ f _).mono ?_;rintro e g ⟨rfl,d⟩);all_goals(go_ret;refine⟨eU ?_,by first|exact eu eB d|exact eB⟩;rw[c.o];go_light;simp_all[jH])
theorem FB (b kd a d:Int)(st nm:ByteArray)(w:World)(f:b≠0)(c:lh ⟨kd,a,st⟩=false):
  Calls Tryz.prog 191 #[.agg (gT b kd a st nm d)] w λe w'=>e=.returned (.bool (shaped ⟨b,⟨kd,a,st⟩,nm,d⟩))/\Below w.heap.size w w':=by
 have g:Hl (shaped ⟨b,⟨kd,a,st⟩,nm,d⟩=false):=Hm (by simp only[shaped];rw[if_neg f,c];rfl);have j:(b != 0)=true:=by simpa using f
 have i:Hl (¬(kd=0/\a=0/\st.toList=[])):=Hm (λh=>by rw[(qJ _).2 h]at c;cases c);clear c f;simp only[gT];go_enter Tryz.func191,Tryz.ntmps191;go_wp2_with fail;all_goals(first|(exfalso;exact i.o ⟨by assumption,by assumption,by assumption⟩)|(go_ret;exact⟨eU g.o.symm,eB⟩))
theorem kE {s:ByteArray}(h:s.toList=[]):jH s=true:=by rw[jH,h];rfl
theorem JD (nm st:ByteArray)(a:Int)(hs:Str nm)(g:st.toList=[])(w:World)(hw:Words w):
  Calls Tryz.prog 191 #[.agg (gT 1 0 0 st nm a)] w λe w'=>e=.returned (.bool (shaped ⟨1,⟨0,0,st⟩,nm,a⟩))/\Below w.heap.size w w':=by
 have f:Hl (shaped ⟨1,⟨0,0,st⟩,nm,a⟩=((a==0)&&(ik nm&&!qA nm))):=Hm (by simp[shaped,lh,kE g]);simp only[gT];go_enter Tryz.func191,Tryz.ntmps191;go_wp2_with (first|(go_at_call 122;refine(qf _ hs _).mono ?_;rintro e l ⟨rfl,c⟩;have d:=eu eB c;have h:=hw.b d;obtain⟨i,j⟩:=eO c;have k:=c.size)|(go_at_call 206;refine(si _ _ h).mono ?_;rintro e w' ⟨rfl,rfl⟩));all_goals(go_ret;refine⟨eU ?_,by first|exact d|exact eB⟩;rw[f.o];go_light;simp_all)
theorem Hz (nm st:ByteArray)(a:Int)(hs:Str nm)(g:st.toList=[])(w:World)(hw:Words w):
  Calls Tryz.prog 191 #[.agg (gT 20 0 0 st nm a)] w λe w'=>e=.returned (.bool (shaped ⟨20,⟨0,0,st⟩,nm,a⟩))/\Below w.heap.size w w':=by
 have f:Hl (shaped ⟨20,⟨0,0,st⟩,nm,a⟩=((a==0)&&(kP nm&&!qA nm))):=Hm (by simp[shaped,lh,kE g]);simp only[gT];go_enter Tryz.func191,Tryz.ntmps191;go_wp2_with (first|(go_at_call 207;refine(DL _ hs _).mono ?_;rintro e l ⟨rfl,c⟩;have d:=eu eB c;have h:=hw.b d;obtain⟨i,j⟩:=eO c;have k:=c.size)|(go_at_call 206;refine(si _ _ h).mono ?_;rintro e w' ⟨rfl,rfl⟩));all_goals(go_ret;refine⟨eU ?_,by first|exact d|exact eB⟩;rw[f.o];go_light;simp_all)
theorem DU (a b:Int)(nm st:ByteArray)(j:st.toList=[])(w:World)(c:a≠0)(f:a≠1)(g:a≠20)(d:a≠21):
  Calls Tryz.prog 191 #[.agg (gT a 0 0 st nm b)] w λe w'=>e=.returned (.bool (shaped ⟨a,⟨0,0,st⟩,nm,b⟩))/\Below w.heap.size w w':=by
 have h:Hl (shaped ⟨a,⟨0,0,st⟩,nm,b⟩=((b==0)&&(jH nm&&decide (0<=arity a b)))):=Hm (by simp[shaped,lh,kE j,c,f,g,d]);have l:(a==0)=false:=by simpa using c
 have m:(a==1)=false:=by simpa using f
 have n:(a==20)=false:=by simpa using g
 have p:(a==21)=false:=by simpa using d
 have k:(a != 0)=true:=by simpa using c
 have p3:(a != 21)=true:=by simpa using d
 clear c f g d;simp only[gT];go_enter Tryz.func191,Tryz.ntmps191;go_wp2_with (go_at_call 128;refine(qU ⟨a,⟨0,0,st⟩,nm,b⟩ _).mono ?_;rintro e q ⟨rfl,i⟩);all_goals(go_ret;refine⟨eU ?_,by first|exact eu eB i|exact eB⟩;rw[h.o];go_light;simp_all[jH])
theorem EQ (w:World)(b:Nat)(h:qK w b vz)(s:ByteArray):(Instr.lookup 103 (.map (some b)) (.string s) true).run Tryz.prog w=.ok (.tuple #[(mZ s vz).getD (.int .i64 0),.bool (qy s)]) w:=by
 have:=(DT (P:=Tryz.prog) Tryz.underlying103 Tryz.underlying9 h s (.int .i64 0) (by kernel_rfl)).1;rw[Iz]at this;exact this
theorem Ia (nm st:ByteArray)(a:Int)(hs:Str nm)(k:st.toList=[])(w:World)(hw:Words w):
  Calls Tryz.prog 191 #[.agg (gT 21 0 0 st nm a)] w λe w'=>e=.returned (.bool (shaped ⟨21,⟨0,0,st⟩,nm,a⟩))/\Below w.heap.size w w':=by
 have g:Hl (shaped ⟨21,⟨0,0,st⟩,nm,a⟩=(kP nm&&!qy nm&&!qA nm&&(decide (0<=a)&&decide (a<=8)))):=Hm (by simp[shaped,lh,kE k]);have j:=EQ (ru (w.alloc (.cells #[.int .i64 21,.int .i64 0,.int .i64 0,.string st,.string nm,.int .i64 a] 69)).drew) (w.heap.size+1) (by have:=Gl (w.alloc (.cells #[.int .i64 21,.int .i64 0,.int .i64 0,.string st,.string nm,.int .i64 a] 69)).drew;simpa using this) nm;simp only[gT];go_enter Tryz.func191,Tryz.ntmps191;go_wp2_with fail;go_region_held3 (λV=>V.cell? ⟨w.heap.size,4,none⟩=some (.string nm)) (first|go_keep|exact eG eB II (by simp[go_sem])) (first|(go_at_call 208;refine(Cu _).mono ?_;rintro e w' ⟨rfl,rfl⟩));obtain⟨d,c⟩: ∃d,d=ru (w.alloc (.cells #[.int .i64 21,.int .i64 0,.int .i64 0,.string st,.string nm,.int .i64 a] 69)).drew:=⟨_,rfl⟩;have b1:Below w.heap.size w d:=by rw[c];exact eu ((IJ).alloc IK _).drew eB
 have g4:d.cell? ⟨w.heap.size,4,none⟩=some (.string nm):=by rw[c];exact eG eB II (by simp[go_sem])
 have g5:d.cell? ⟨w.heap.size,5,none⟩=some (.int .i64 a):=by rw[c];exact eG eB II (by simp[go_sem])
 have h:w.heap.size<d.heap.size:=by rw[c];simp[ru];omega
 rw[<-c];clear j c;go_wp2_with fail;refine(DL _ hs _).mono ?_;rintro e m ⟨rfl,f⟩;have b2:=eu b1 f;have l:=hw.b b2;replace g4:=eG f h g4;replace g5:=eG f h g5;clear f b1 h hw;cases i:kP nm
 ·go_wp2;go_ret;exact⟨eU (by rw[g.o,i];rfl),b2⟩
 cases hi:qy nm
 ·go_wp2_with (go_at_call 206;refine(si _ _ l).mono ?_;rintro e w' ⟨rfl,rfl⟩);all_goals(go_ret;refine⟨eU ?_,b2⟩;rw[g.o];go_light;first|(simp_all;done)|(simp_all;omega))
 ·go_wp2;go_ret;exact⟨eU (by rw[g.o,i,hi];rfl),b2⟩
theorem Fz (n:Node)(m:n.ok)(w:World)(hw:Words w):
  Calls Tryz.prog 191 #[.agg n.cells.toArray] w λe w'=>e=.returned (.bool (shaped n))/\Below w.heap.size w w':=by
 obtain⟨b,⟨kd,f,st⟩,nm,a⟩:=n;obtain⟨_,o,hs,_⟩:=m;by_cases d:b=0
 ·subst d;exact JC kd f a st nm o w
 cases l:lh ⟨kd,f,st⟩
 ·exact FB b kd f a st nm w d l
 obtain⟨g,h,c⟩:=(qJ _).1 l;simp only at g h c;subst g h;by_cases i:b=1
 ·subst i;exact JD nm st a hs c w hw
 by_cases j:b=20
 ·subst j;exact Hz nm st a hs c w hw
 by_cases k:b=21
 ·subst k;exact Ia nm st a hs c w hw
 exact DU b a nm st c w d i j k
theorem BR (s:ByteArray)(hs:Str s)(w:World):Calls Tryz.prog 181 #[.string s] w λe w'=>e=.returned (.bool (ik s&&!qA s))/\Below w.heap.size w w':=by
 go_enter Tryz.func181,Tryz.ntmps181;go_wp2_with (first|(go_at_call 132;refine(kY _ hs _).mono ?_;rintro e w' ⟨rfl,rfl⟩)|(go_at_call 196;refine(vV _ _).mono ?_;rintro e b ⟨rfl,a⟩));all_goals(go_ret;refine⟨eU ?_,by first|exact a|exact IJ⟩;go_light;simp_all)
theorem sK (s:ByteArray)(hs:Str s)(w:World):Calls Tryz.prog 182 #[.string s] w λe w'=>e=.returned (.bool (kP s&&!qA s))/\Below w.heap.size w w':=by
 go_enter Tryz.func182,Tryz.ntmps182;go_wp2_with (first|(go_at_call 197;refine(Jz _ hs _).mono ?_;rintro e w' ⟨rfl,rfl⟩)|(go_at_call 196;refine(vV _ _).mono ?_;rintro e b ⟨rfl,a⟩));all_goals(go_ret;refine⟨eU ?_,by first|exact a|exact IJ⟩;go_light;simp_all)
theorem I5 (kd a c:Int)(st nm:ByteArray)(l:Val.ok ⟨kd,a,st⟩)(w:World):
  Calls Tryz.prog 155 #[.agg (gT 0 kd a st nm c)] w λe w'=>e=.returned (.bool (shaped ⟨0,⟨kd,a,st⟩,nm,c⟩))/\Below w.heap.size w w':=by
 have k:Hl (shaped ⟨0,⟨kd,a,st⟩,nm,c⟩=(valid ⟨kd,a,st⟩&&jH nm&&c==0)):=Hm (by simp[shaped]);simp only[gT];obtain q|⟨q,h⟩|⟨q,h,m⟩|⟨q,h,m⟩:¬kd=0\/(kd=0/\¬a=0)\/(kd=0/\a=0/\¬st.toList=[])\/(kd=0/\a=0/\st.toList=[]):=by
  by_cases d:kd=0
  ·by_cases g:a=0
   ·by_cases i:st.toList=[]
    ·exact .inr (.inr (.inr ⟨d,g,i⟩))
    ·exact .inr (.inr (.inl ⟨d,g,i⟩))
   ·exact .inr (.inl ⟨d,g⟩)
  ·exact .inl d
 all_goals
  (try subst q)
  (try subst h);go_enter Tryz.func155,Tryz.ntmps155;go_wp2_with (go_at_call 111;refine(xg ⟨_,_,st⟩ l _).mono ?_;rintro e n ⟨rfl,f⟩;have j:=eu eB f;have g4:=eG (b:=w.heap.size) (o:=4) (v:=.string nm) f II (by simp[go_sem]);have g5:=eG (b:=w.heap.size) (o:=5) (v:=.int .i64 c) f II (by simp[go_sem]);clear f);all_goals(go_ret;refine⟨eU ?_,j⟩;rw[k.o];(try clear g4 g5);(try clear j);go_light;simp_all[jH])
theorem EL (c kd a d:Int)(st nm:ByteArray)(w:World)(j:c≠0)(i:lh ⟨kd,a,st⟩=false):
  Calls Tryz.prog 155 #[.agg (gT c kd a st nm d)] w λe w'=>e=.returned (.bool (shaped ⟨c,⟨kd,a,st⟩,nm,d⟩))/\Below w.heap.size w w':=by
 have l:Hl (shaped ⟨c,⟨kd,a,st⟩,nm,d⟩=false):=Hm (by simp only[shaped];rw[if_neg j,i];rfl);have t:(c==0)=false:=by simpa using j
 have m:¬(kd=0/\a=0/\st.toList=[]):=λh=>by rw[(qJ _).2 h]at i;cases i
 clear i j;simp only[gT];obtain q|⟨q,p⟩|⟨q,p,s⟩:¬kd=0\/(kd=0/\¬a=0)\/(kd=0/\a=0/\¬st.toList=[]):=by
  by_cases f:kd=0
  ·by_cases k:a=0
   ·exact .inr (.inr ⟨f,k,λr=>m ⟨f,k,r⟩⟩)
   ·exact .inr (.inl ⟨f,k⟩)
  ·exact .inl f
 all_goals
  clear m
  (try subst q)
  (try subst p);go_enter Tryz.func155,Tryz.ntmps155;go_wp2_with (go_at_call 136;refine(pK ⟨c,⟨_,_,st⟩,nm,d⟩ _).mono ?_;rintro e u ⟨rfl,g⟩;have n:=eu eB g;have g4:=eG (b:=w.heap.size) (o:=4) (v:=.string nm) g II (by simp[go_sem]);have g5:=eG (b:=w.heap.size) (o:=5) (v:=.int .i64 d) g II (by simp[go_sem]);clear g);all_goals(go_ret;refine⟨eU (by first|exact l.o.symm|(rw[l.o];(try clear g4 g5);(try clear n);go_light;simp_all;done)),by first|exact n|exact eB⟩)
theorem I6 (nm st:ByteArray)(a:Int)(hs:Str nm)(f:st.toList=[])(w:World):
  Calls Tryz.prog 155 #[.agg (gT 1 0 0 st nm a)] w λe w'=>e=.returned (.bool (shaped ⟨1,⟨0,0,st⟩,nm,a⟩))/\Below w.heap.size w w':=by
 have c:Hl (shaped ⟨1,⟨0,0,st⟩,nm,a⟩=((a==0)&&(ik nm&&!qA nm))):=Hm (by simp[shaped,lh,kE f]);simp only[gT];go_enter Tryz.func155,Tryz.ntmps155;go_wp2_with (go_at_call 181;refine(BR _ hs _).mono ?_;rintro e g ⟨rfl,d⟩;have b:=eu eB d);all_goals(go_ret;refine⟨eU ?_,by first|exact b|exact eB⟩;rw[c.o];(try clear g4 g5);(try clear b);go_light;simp_all)
theorem GA (nm st:ByteArray)(a:Int)(hs:Str nm)(f:st.toList=[])(w:World):
  Calls Tryz.prog 155 #[.agg (gT 20 0 0 st nm a)] w λe w'=>e=.returned (.bool (shaped ⟨20,⟨0,0,st⟩,nm,a⟩))/\Below w.heap.size w w':=by
 have c:Hl (shaped ⟨20,⟨0,0,st⟩,nm,a⟩=((a==0)&&(kP nm&&!qA nm))):=Hm (by simp[shaped,lh,kE f]);simp only[gT];go_enter Tryz.func155,Tryz.ntmps155;go_wp2_with (go_at_call 182;refine(sK _ hs _).mono ?_;rintro e g ⟨rfl,d⟩;have b:=eu eB d);all_goals(go_ret;refine⟨eU ?_,by first|exact b|exact eB⟩;rw[c.o];(try clear g4 g5);(try clear b);go_light;simp_all)
theorem GD (nm st:ByteArray)(a:Int)(hs:Str nm)(i:st.toList=[])(w:World):
  Calls Tryz.prog 155 #[.agg (gT 21 0 0 st nm a)] w λe w'=>e=.returned (.bool (shaped ⟨21,⟨0,0,st⟩,nm,a⟩))/\Below w.heap.size w w':=by
 have g:Hl (shaped ⟨21,⟨0,0,st⟩,nm,a⟩=(kP nm&&!qy nm&&!qA nm&&(decide (0<=a)&&decide (a<=8)))):=Hm (by simp[shaped,lh,kE i]);simp only[gT];go_enter Tryz.func155,Tryz.ntmps155;go_wp2_with (first|(go_at_call 182;refine(sK _ hs _).mono ?_;rintro e l ⟨rfl,c⟩;have d:=eu eB c;have g4:=eG (b:=w.heap.size) (o:=4) (v:=.string nm) c II (by simp[go_sem]);have g5:=eG (b:=w.heap.size) (o:=5) (v:=.int .i64 a) c II (by simp[go_sem]);clear c)|(go_at_call 183;refine(Cv _ _).mono ?_;rintro e m ⟨rfl,f⟩;have h:=eu d f;clear f));all_goals(go_ret;refine⟨eU ?_,by first|exact h|exact d|exact eB⟩;rw[g.o];(try clear g4 g5);(try clear d);go_light;cases j:kP nm<;>cases k:qA nm<;>cases hi:qy nm<;>first|(simp_all;done)|(simp_all;omega))
theorem CU (a c:Int)(nm st:ByteArray)(m:st.toList=[])(w:World)(f:a≠0)(g:a≠1)(h:a≠20)(i:a≠21):
  Calls Tryz.prog 155 #[.agg (gT a 0 0 st nm c)] w λe w'=>e=.returned (.bool (shaped ⟨a,⟨0,0,st⟩,nm,c⟩))/\Below w.heap.size w w':=by
 have k:Hl (shaped ⟨a,⟨0,0,st⟩,nm,c⟩=((c==0)&&(jH nm&&decide (0<=arity a c)))):=Hm (by simp[shaped,lh,kE m,f,g,h,i]);have n:(a==0)=false:=by simpa using f
 have p:(a==1)=false:=by simpa using g
 have q:(a==20)=false:=by simpa using h
 have r:(a==21)=false:=by simpa using i
 clear f g h i;simp only[gT];go_enter Tryz.func155,Tryz.ntmps155;go_wp2_with (go_at_call 136;refine(pK ⟨a,⟨0,0,st⟩,nm,c⟩ _).mono ?_;rintro e s ⟨rfl,d⟩;have j:=eu eB d;have g4:=eG (b:=w.heap.size) (o:=4) (v:=.string nm) d II (by simp[go_sem]);have g5:=eG (b:=w.heap.size) (o:=5) (v:=.int .i64 c) d II (by simp[go_sem]);clear d);all_goals(go_ret;refine⟨eU ?_,j⟩;rw[k.o];(try clear g4 g5);(try clear j);go_light;first|(simp_all[jH];done)|(simp_all[jH];intro l _;subst l;first|assumption|omega))
theorem CV (n:Node)(m:n.ok)(w:World):
  Calls Tryz.prog 155 #[.agg n.cells.toArray] w λe w'=>e=.returned (.bool (shaped n))/\Below w.heap.size w w':=by
 obtain⟨b,⟨kd,f,st⟩,nm,a⟩:=n;obtain⟨_,o,hs,_⟩:=m;by_cases d:b=0
 ·subst d;exact I5 kd f a st nm o w
 cases l:lh ⟨kd,f,st⟩
 ·exact EL b kd f a st nm w d l
 obtain⟨g,h,c⟩:=(qJ _).1 l;simp only at g h c;subst g h;by_cases i:b=1
 ·subst i;exact I6 nm st a hs c w
 by_cases j:b=20
 ·subst j;exact GA nm st a hs c w
 by_cases k:b=21
 ·subst k;exact GD nm st a hs c w
 exact CU b a nm st c w d i j k
end Go.Proofs.YthnelebakkggjaaGreatDoor
