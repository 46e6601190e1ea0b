/-
  Names with a dot, reserved words: strings.Cut at one byte, schema.IsQualified, token.Reserved, and the reference's. strings.Cut at ".", schema.IsQualified and warehouseref5.IsQualified: both return isQual. What the tied rows of chapter 9 share: what the listed variable gives the walks; the arguments' readings; the end of a call that changes nothing below its own blocks.
-/
import Derived.Lib.Strings
import Derived.Lib.Slices
import Derived.Lib.Walk
import Derived.Lib.Bytealg
import Derived.Test.YtggejcekmehocaaGreatDoorTie
import Derived.WalkKit
import Derived.ProofKit
import Derived.OpenShut
import Derived.Below
import Derived.ChangeSame
import Derived.Carry
import Derived.LaidMore
import Derived.Stop.Joined
import Derived.SevenTiedAt
import Derived.Test.YtggejcekmehocaaGreatDoorGad
import Derived.Test.YtggejcekmehocaaGreatDoorGaa
import Derived.Test.YtggejcekmehocaaGreatDoorGae
namespace Go.Proofs.YtggejcekmehocaaGreatDoor
set_option maxHeartbeats 1000000
set_option maxRecDepth 100000
open Go.RowKit
set_option linter.unusedSimpArgs false
set_option linter.unusedVariables false
theorem rM (x:ByteArray)(l:List ByteArray)(s:ByteArray):jq (x :: l) s=(x.toList==s.toList || jq l s):=rfl
theorem Da (w:World)(A:Option Addr)(n c:Nat)(xs:List ByteArray)(hx:In w A n c xs)(name:ByteArray):
  Calls Tryz.prog 158 #[.slice A n c,.string name] w λe w'=>e=.returned (.bool (jq xs name))/\w=w':=by
 have h63:=hx.le;go_enter Tryz.func158,Tryz.ntmps158;go_wp2
 go_loop [5] (λi=> ∃k:Nat,k<=n/\i=.int .i64 k/\jq xs name=jq (xs.drop k) name) (λi=>n-(intOf i).toNat)
 case atStart=>exact ⟨0,Nat.zero_le _,rfl,rfl⟩
 case round=>
  obtain ⟨k,hk,rfl,heq⟩:=hrel;have HE:=hide heq;clear heq;by_cases hlt':k<n
  ·obtain ⟨b,off,x,rfl,hB,HX,e0,e1⟩:=hx.str hlt';cases hz:(x.toList==name.toList)
   ·go_wp2
    go_round
    case rel=>exact ⟨k+1,by omega,by go_num,by rw[HE.out,HX.out,rM,hz,Bool.false_or]⟩
    case measure=>simp[intOf];omega
   ·go_wp2;go_ret;exact ⟨au (by rw[HE.out,HX.out,rM,hz,Bool.true_or]),rfl⟩
  ·go_wp2;go_ret;exact ⟨au (by rw[HE.out,aJ hx.len (by omega)];rfl),rfl⟩
def vS (name:ByteArray):Nat->List ByteArray->Int
 | _,[]=> -1
 |k,x :: l=>if name.toList==x.toList then k else vS name (k+1) l
theorem BV (name:ByteArray): ∀(l:List ByteArray) (k:Nat),decide (0<=vS name k l)=jq l name
 | [],k=>rfl
 |x :: l,k=>by
  rw[vS,rM,show (x.toList==name.toList)=(name.toList==x.toList) from Bool.beq_comm];cases h:(name.toList==x.toList)
  ·simp only[Bool.false_eq_true,if_false,Bool.false_or];exact BV name l (k+1)
  ·simp
theorem JX (w:World)(A:Option Addr)(n c:Nat)(xs:List ByteArray)(hx:In w A n c xs)(name:ByteArray):
  Calls Tryz.prog 163 #[.slice A n c,.string name] w λe w'=>e=.returned (.int .i64 (vS name 0 xs))/\w=w':=by
 have h63:=hx.le;go_enter Tryz.func163,Tryz.ntmps163;go_wp2
 go_loop [8] (λi=> ∃k:Nat,k<=n/\i=.int .i64 k/\vS name 0 xs=vS name k (xs.drop k)) (λi=>n-(intOf i).toNat)
 case atStart=>exact ⟨0,Nat.zero_le _,rfl,rfl⟩
 case round=>
  obtain ⟨k,hk,rfl,heq⟩:=hrel;have HE:=hide heq;clear heq;by_cases hlt':k<n
  ·obtain ⟨b,off,x,rfl,hB,HX,e0,e1⟩:=hx.str hlt';cases hz:(name.toList==x.toList)
   ·go_wp2
    go_round
    case rel=>exact ⟨k+1,by omega,by go_num,by rw[HE.out,HX.out,vS,if_neg (by simp[hz])]⟩
    case measure=>simp[intOf];omega
   ·go_wp2;go_ret;exact ⟨aj (by rw[HE.out,HX.out,vS,if_pos hz]),rfl⟩
  ·go_wp2;go_ret;exact ⟨aj (by rw[HE.out,aJ hx.len (by omega),vS]),rfl⟩
theorem zk (w:World)(A:Option Addr)(n c:Nat)(xs:List ByteArray)(hx:In w A n c xs)(name:ByteArray):
  Calls Tryz.prog 126 #[.slice A n c,.string name] w λe w'=>e=.returned (.bool (jq xs name))/\w=w':=by
 go_enter Tryz.func126,Tryz.ntmps126;have HS:=hide (BV name xs 0);go_wp2_with (go_at_call 163;refine (JX _ _ _ _ xs hx name).mono ?_;rintro e w' ⟨rfl,rfl⟩);go_ret;exact ⟨au HS.out,rfl⟩
def Words (w:World):Prop:= ∃A n c,w.cell? ⟨0,0,none⟩=some (.slice A n c)/\In w A n c words/\0<w.heap.size
theorem Words.below {w w':World}(h:Words w)(hb:Below w.heap.size w w'):Words w':=by
 obtain ⟨A,n,c,h1,h2,h3⟩:=h;exact ⟨A,n,c,bat hb h3 h1,h2.below hb,Nat.lt_of_lt_of_le h3 hb.size⟩
theorem qL (s:ByteArray)(w:World)(hw:Words w):Calls Tryz.prog 251 #[.string s] w λe w'=>e=.returned (.bool (nZ s))/\w=w':=by
 obtain ⟨A,n,c,h1,h2,h3⟩:=hw;go_enter Tryz.func251,Tryz.ntmps251;go_wp2_with (go_at_call 126;refine (zk _ _ _ _ words h2 s).mono ?_;rintro e w' ⟨rfl,rfl⟩);go_ret;exact ⟨rfl,rfl⟩
theorem Pi {w:World}{g n:Nat}{xs:List ByteArray}(hn:xs.length=n)(h63:n<=9223372036854775807)(hs: ∀x∈xs,Str x)(hg:g<w.heap.size)(hc: ∀i,(h:i<xs.length)->w.cell? ⟨g,i,none⟩=some (.string xs[i])):In w (some ⟨g,0,none⟩) n n xs:=
 ⟨hn,Nat.le_refl _,h63,(λh=>by cases h),λ_=>⟨g,0,rfl,hg,λi hi=>⟨_,⟨rfl,hs _ (List.getElem_mem _)⟩,λj hj=>by
  have hj0:j=0:=by simp at hj;exact hj
  subst hj0;have:=hc i hi;simpa[Rep.size] using this⟩⟩⟩
theorem J5: ∀x∈words,Str x:=by intro x hx;simp only[words,List.mem_cons,List.mem_nil_iff,or_false]at hx;rcases hx with rfl|rfl|rfl|rfl|rfl|rfl|rfl|rfl <;> (unfold Str;simp[ByteArray.size])
theorem Cy: ∀x∈rE,Str x:=by intro x hx;simp only[rE,List.mem_cons,List.mem_nil_iff,or_false]at hx;rcases hx with rfl|rfl|rfl|rfl|rfl <;> (unfold Str;simp[ByteArray.size])
def strCells (l:List ByteArray):Array Value:=(l.map Value.string).toArray
theorem xG (w:World)(xs:List ByteArray)(ty:TypeId)(hs: ∀x∈xs,Str x)(h:xs.length<=9223372036854775807):In (w.alloc (.cells (strCells xs) ty)) (some ⟨w.heap.size,0,none⟩) xs.length xs.length xs:=
 Pi rfl h hs (by simp) λi hi=>by
  rw[cell_of_row _ _ _ _ _ _ (heap_alloc_new w _)];simp[strCells,hi]
theorem vO (s:ByteArray)(w:World):Calls Tryz.prog 248 #[.string s] w λe w'=>e=.returned (.bool (nZ s))/\Below w.heap.size w w':=by
 go_enter Tryz.func248,Tryz.ntmps248;go_wp2_with (go_at_call 158;refine (Da _ _ _ _ words (xG w words 9 J5 (by decide)) s).mono ?_;rintro e w' ⟨rfl,rfl⟩);go_ret;exact ⟨rfl,ae⟩
theorem D9 (s:ByteArray)(w:World):Calls Tryz.prog 228 #[.string s] w λe w'=>e=.returned (.bool (nY s))/\Below w.heap.size w w':=by
 go_enter Tryz.func228,Tryz.ntmps228;go_wp2_with (go_at_call 158;refine (Da _ _ _ _ rE (xG w rE 9 Cy (by decide)) s).mono ?_;rintro e w' ⟨rfl,rfl⟩);go_ret;exact ⟨rfl,ae⟩
theorem wS: ∀l:List UInt8,Lib.indexByte l 46=if dL l<l.length then (dL l:Int) else -1
 | []=>rfl
 |c :: l=>by
  have ih:=wS l;rw[Lib.indexByte,dL];by_cases h:c=46
  ·subst h;simp
  ·have hb:(c==46)=false:=by simpa using h
   rw[hb,ih,if_neg h];by_cases hl:dL l<l.length
   ·have e:(((dL l:Nat):Int)== -1)=false:=by simp
    simp[hl,e]
   ·simp[hl]
theorem ve (s:ByteArray):qW s=dL s.data.toList:=by rw[qW,ByteArray.toList_eq]
theorem Iu (s:ByteArray):s.data.toList.length=s.size:=rfl
theorem zD (s:ByteArray)(c:Int)(w:World):
  Calls Tryz.prog 260 #[.string s,.int .u8 c] w λe w'=>e=.returned (.int .i64 (Lib.indexByte s.data.toList c.toNat.toUInt8))/\w=w':=by
 go_enter Tryz.func260,Tryz.ntmps260;go_wp2;rw[run_callFunc_extern Tryz.func264 (by kernel_rfl) (by kernel_rfl) (by kernel_rfl) (e:=Extern.BytealgIndexByte.indexByte) (by kernel_rfl),Lib.run_indexByteString];simp only[Result.andThen];rw[Oper.upon_value];go_wp2;go_ret;exact ⟨rfl,rfl⟩
theorem zC (s:ByteArray)(w:World):
  Calls Tryz.prog 259 #[.string s,.string ⟨#[46]⟩] w λe w'=>e=.returned (.int .i64 (Lib.indexByte s.data.toList 46))/\w=w':=by
 go_enter Tryz.func259,Tryz.ntmps259;go_wp2_with (go_at_call 260;refine (zD _ _ _).mono ?_;rintro e w' ⟨rfl,rfl⟩)
 ·have h:([46]==s.toList)=true:=by assumption
  go_ret;refine ⟨aj ?_,rfl⟩;rw[ByteArray.toList_eq]at h;rw[<-eq_of_beq h];rfl
 ·go_ret;exact ⟨aj rfl,rfl⟩
theorem AR (s:ByteArray)(w:World)(h:¬qW s<s.size):
  Calls Tryz.prog 258 #[.string s,.string ⟨#[46]⟩] w λe w'=>e=.returned (.tuple #[.string s,.string ⟨#[]⟩,.bool false])/\Below w.heap.size w w':=by
 have hix:Lib.indexByte s.data.toList 46= -1:=by rw[wS,Iu,<-ve,if_neg h]
 have HX:=hide hix;clear hix;go_enter Tryz.func258,Tryz.ntmps258;go_wp2_with (go_at_call 259;refine (zC _ _).mono ?_;rintro e w' ⟨rfl,rfl⟩;rw[HX.out])
 go_ret3
 exact ⟨rfl,Below.refl _ _⟩
theorem Di (s:ByteArray)(w:World)(hs:Str s)(d:Nat)(hd:qW s=d)(h:d<s.size):
  Calls Tryz.prog 258 #[.string s,.string ⟨#[46]⟩] w λe w'=>e=.returned (.tuple #[.string (s.extract 0 d),.string (s.extract (d+1) s.size),.bool true])/\Below w.heap.size w w':=by
 have hix:Lib.indexByte s.data.toList 46=(d:Int):=by rw[wS,Iu,<-ve,hd,if_pos h]
 have HX:=hide hix;clear hix hd;unfold Str at hs;have c1:(0:Int)<= ↑d:=by omega
 have c2:(↑d:Int)<= ↑s.size:=by omega
 have c3:(0:Int)<= ↑d+1:=by omega
 have c4:(↑d+1:Int)<= ↑s.size:=by omega
 have c5:((d:Int)+1).toNat=d+1:=by omega
 have c6:IntKind.i64.wrap ((d:Int)+1)=(d:Int)+1:=IntWalk.i64_in _ (by omega);go_enter Tryz.func258,Tryz.ntmps258;go_wp2_with (go_at_call 259;refine (zC _ _).mono ?_;rintro e w' ⟨rfl,rfl⟩;rw[HX.out]);go_quiet (fail);go_wp2
 go_ret3
 exact ⟨rfl,below_drewN (Below.refl _ _) _⟩
theorem Lf (s:ByteArray)(w:World)(h:¬qW s<s.size):
  Calls Tryz.prog 256 #[.string s,.string ⟨#[46]⟩] w λe w'=>e=.returned (.tuple #[.string s,.string ⟨#[]⟩,.bool false])/\Below w.heap.size w w':=by
 have H:=hide h;clear h;go_enter Tryz.func256,Tryz.ntmps256;go_wp2_with (go_at_call 258;refine (AR s _ H.out).mono ?_;rintro e w1 ⟨rfl,hb1⟩)
 go_ret3
 exact ⟨rfl,hb1⟩
theorem Oq (s:ByteArray)(w:World)(hs:Str s)(d:Nat)(hd:qW s=d)(h:d<s.size):
  Calls Tryz.prog 256 #[.string s,.string ⟨#[46]⟩] w λe w'=>e=.returned (.tuple #[.string (s.extract 0 d),.string (s.extract (d+1) s.size),.bool true])/\Below w.heap.size w w':=by
 have H:=hide hd;clear hd;go_enter Tryz.func256,Tryz.ntmps256;go_wp2_with (go_at_call 258;refine (Di s _ hs d H.out h).mono ?_;rintro e w1 ⟨rfl,hb1⟩)
 go_ret3
 exact ⟨rfl,hb1⟩
theorem ou {s:ByteArray}(hs:Str s)(a b:Nat):Str (s.extract a b):=by
 unfold Str at hs⊢;have:(s.extract a b).size<=s.size:=by simp[ByteArray.size_extract];omega
 omega
theorem Fj (s:ByteArray)(hs:Str s)(w:World):
  Calls Tryz.prog 252 #[.string s] w λe w'=>e=.returned (.bool (fU s))/\Below w.heap.size w w':=by
 by_cases h:qW s<s.size
 ·obtain ⟨d,hd⟩: ∃d,qW s=d:=⟨_,rfl⟩;have hq:fU s=(bH (s.extract 0 d)&&bH (s.extract (d+1) s.size)):=by rw[fU,if_pos h,hd]
  rw[hd]at h;have HD:=hide hd;have HQ:=hide hq;clear hq hd;have S1:=ou hs 0 d;have S2:=ou hs (d+1) s.size;obtain ⟨p,hp⟩: ∃p,p=s.extract 0 d:=⟨_,rfl⟩;obtain ⟨q,hq⟩: ∃q,q=s.extract (d+1) s.size:=⟨_,rfl⟩;go_enter Tryz.func252,Tryz.ntmps252;go_wp2_with fail;refine (Oq s _ hs d HD.out h).mono ?_;rintro e w1 ⟨rfl,hb1⟩;rw[<-hp]at S1⊢;rw[<-hq]at S2⊢;have HP:Hid (fU s=(bH p&&bH q)):=hide (by rw[hp,hq];exact HQ.out);clear hp hq HD HQ;go_wp2_with fail;refine (nI p S1 _).mono ?_;rintro e w2 ⟨rfl,hb2⟩;have hbb:=aa hb1 hb2;clear hb1 hb2;cases hn:bH p
  ·go_wp2;go_ret;exact ⟨au (by rw[HP.out,hn];rfl),hbb⟩
  ·go_wp2_with fail;refine (nI q S2 _).mono ?_;rintro e w3 ⟨rfl,hb3⟩;have hb4:=aa hbb hb3;clear hbb hb3;go_wp2;go_ret;exact ⟨au (by rw[HP.out,hn];rfl),hb4⟩
 ·have hq:fU s=bH s:=by rw[fU,if_neg h]
  have HQ:=hide hq;have HD:=hide h;clear hq h;go_enter Tryz.func252,Tryz.ntmps252;go_wp2_with fail;refine (Lf s _ HD.out).mono ?_;rintro e w1 ⟨rfl,hb1⟩;go_wp2_with fail;refine (nI s hs _).mono ?_;rintro e w2 ⟨rfl,hb2⟩;have hbb:=aa hb1 hb2;clear hb1 hb2;cases hn:bH s
  ·go_wp2;go_ret;exact ⟨au (by rw[HQ.out,hn]),hbb⟩
  ·go_wp2;go_ret;exact ⟨au (by rw[HQ.out,hn]),hbb⟩
theorem Ec {s:ByteArray}{k:Nat}(hk:k<s.size)(hc:dY s k≠46)(h:dL s.data.toList=k+dL (s.data.toList.drop k)):dL s.data.toList=(k+1)+dL (s.data.toList.drop (k+1)):=by
 have hl:k<s.data.toList.length:=hk;rw[h,List.drop_eq_getElem_cons hl,dL,if_neg]
 ·omega
 ·intro e;apply hc;rw[dY,List.getD,List.getElem?_eq_getElem hl];simp only[Option.getD_some,e];rfl
theorem CQ {s:ByteArray}{k:Nat}(hk:k<s.size)(hc:dY s k=46)(h:dL s.data.toList=k+dL (s.data.toList.drop k)):dL s.data.toList=k:=by
 have hl:k<s.data.toList.length:=hk;rw[h,List.drop_eq_getElem_cons hl,dL,if_pos]
 ·rfl
 ·rw[dY,List.getD,List.getElem?_eq_getElem hl]at hc;simp only[Option.getD_some]at hc;exact UInt8.toNat_inj.1 hc
theorem M0 (s:ByteArray)(hs:Str s)(w:World):
  Calls Tryz.prog 249 #[.string s] w λe w'=>e=.returned (.bool (fU s))/\w=w':=by
 have hs':=hs;unfold Str at hs;go_enter Tryz.func249,Tryz.ntmps249;go_wp2
 go_loop [3] (λi=> ∃k:Nat,k<=s.size/\i=.int .i64 k/\dL s.data.toList=k+dL (s.data.toList.drop k)) (λi=>s.size-(intOf i).toNat)
 case atStart=>exact ⟨0,Nat.zero_le _,rfl,by simp⟩
 case round=>
  obtain ⟨k,hk,rfl,heq⟩:=hrel;have HE:=hide heq;clear heq;by_cases hlt:k<s.size
  ·have hbt:=pE s k hlt;cases hz:((s[k]'hlt).toNat==46)
   ·have HN:Hid (dL s.data.toList=(k+1)+dL (s.data.toList.drop (k+1))):=hide (Ec hlt (by rw[hbt];simpa using hz) HE.out);have q1:(((s[k]'hlt).toNat:Int)==46)=false:=by simp at hz⊢;omega
    clear hbt hz;go_wp2
    go_round
    case rel=>exact ⟨k+1,by omega,by go_num,HN.out⟩
    case measure=>simp[intOf];omega
   ·have hd:qW s=k:=by rw[ve];exact CQ hlt (by rw[hbt];simpa using hz) HE.out
    have HQ:Hid (fU s=(bH (s.extract 0 k)&&bH (s.extract (k+1) s.size))):=hide (by rw[fU,hd,if_pos hlt]);have q1:(((s[k]'hlt).toNat:Int)==46)=true:=by simp at hz⊢;omega
    have S1:=ou hs' 0 k;have S2:=ou hs' (k+1) s.size;have k1:(k:Int)+1<=(s.size:Int):=by omega
    have k2:((k:Int)+1).toNat=k+1:=by omega
    clear hbt hz hd;cases hn:bH (s.extract 0 k)
    ·go_wp2_with (go_at_call 152;refine (gI _ S1 _).mono ?_;rintro e w' ⟨rfl,rfl⟩);go_ret;exact ⟨au (by rw[HQ.out,hn];rfl),rfl⟩
    ·go_wp2_with fail;refine (gI _ S1 _).mono ?_;rintro e w' ⟨rfl,rfl⟩;go_wp2_with fail;refine (gI _ S2 _).mono ?_;rintro e w' ⟨rfl,rfl⟩;go_wp2;go_ret;exact ⟨au (by rw[HQ.out,hn];rfl),rfl⟩
  ·have HQ:Hid (fU s=bH s):=hide (by rw[fU,if_neg];rw[ve,HE.out];omega);go_wp2_with (go_at_call 152;refine (gI _ hs' _).mono ?_;rintro e w' ⟨rfl,rfl⟩);go_ret;exact ⟨au HQ.out.symm,rfl⟩
open Go.ChangeShapes Go.WideShapes Go.ChangeAt Go.RowKit Go.WideElems
section
variable {H:Type}{enc:TypeId×Value->H}{P:Program}
theorem AV {f:Func}{s:ChangeSpec}{apart fresh handsOn again:Bool}{W W':World}{args:Array Value}{v:Value}{ds gs:List (DataW H)}{before pa pv:List MemPlace}(hW:DataW.Whole enc P f.params.toList s.vars apart W args.toList ds gs before)(hres: ∀(b:Nat) (sp:Nat->Bool) (hd:Bool),DataW.TrodAll enc P W' b sp hd f.resultTypes.toList (v.resultList f.resultTypes.size) (s.fn H (ds++gs)).results [])(hargs: ∀sp:Nat->Bool,(∀p∈before,sp p.block=true)->DataW.TrodAll enc P W' 0 sp true f.params.toList args.toList (s.fn H (ds++gs)).args pa)(hvars: ∀sp:Nat->Bool,(∀p∈before,sp p.block=true)->DataW.TrodVars enc P W' sp s.vars (s.fn H (ds++gs)).vars pv)(hps:before=pa++pv)(hb:Below W.heap.size W W')(hok: ∀(j:Nat) (t:TypeId) (r:Value),f.resultTypes[j]?=some t->(v.resultList f.resultTypes.size)[j]?=some r->Value.okWide P W' .any 0 t r):
  s.post enc P f apart fresh handsOn again W args v W':=by
 have hlt: ∀p∈before,p.block<W.heap.size:=λp hp=>hW.lt p hp;have hold: ∀p∈before,(λb=>decide (b<W.heap.size)) p.block=true:=λp hp=>by simpa using hlt p hp
 refine ⟨ds,gs,before,[],pa,pv,hW,hres _ _ _,hargs _ hold,hvars _ hold,World.keptBut_mono (λp hp=>⟨hp,?_⟩) (hb.frame (· ∈before)),λ_=>?_⟩
 ·rw[hps,List.mem_append]at hp;exact Or.inr hp
 ·obtain ⟨_,_,_,_,_,hz,hn⟩:=hW;refine ⟨hok,_,_,([]++pa)++pv,⟨[]++pa,pv,trodAll_append (hargs _ (λ_ _=>rfl)) (hres _ _ _),hvars _ (λ_ _=>rfl),rfl,?_,?_⟩,?_⟩
  ·intro b off hp;have hin:MemPlace.cell b off∈before:=by rw[hps];simpa using hp
   rw[hb.frozen (hlt _ hin)];exact hz b off hin
  ·intro ha;have:=hn ha;rw[hps]at this;simpa using this
  ·intro p hp _;rw[hps];simpa using hp
end
abbrev ER:List (String×DataW Unit):=[("warehouse/token.words",Rows.laid_warehouse_token_words)]
theorem RF:Tryz.prog.globalNamed "warehouse/token.words" =some 0:=by kernel_rfl
theorem Sc:(Tryz.prog.globals[0]?).map (·.type)=some 22:=by kernel_rfl
theorem Li (os:Os)(args:Array Value):laidMetH Tryz.prog ER ((World.doorLaid Tryz.prog 14 os).forCall (λ_ _=>0) ⟨#[],args,[]⟩).memory:=
 laidMetH_of_parts3 (fuel:=8) (laidMet_of_run' 8 (by kernel_rfl) (by kernel_rfl)) (by kernel_rfl) (by kernel_rfl)
theorem jT {s:ByteArray}{l:List UInt8}(h:s.data.toList=l):s=⟨⟨l⟩⟩:=by
 obtain ⟨⟨d⟩⟩:=s;simp only at h;rw[h]
theorem Bl {W:World}(h:laidMetH Tryz.prog ER W):Words W:=by
 rw[MakeChecks.laidMetH_plain _ _ _ (by kernel_rfl)]at h;obtain ⟨ps,⟨g0,t0,cs0,f0,p0,q0,hg0,ht0,hv0,hd0,_,_⟩,_,_⟩:=h;obtain rfl:=Option.some.inj (RF.symm.trans hg0);obtain rfl:=Option.some.inj (Sc.symm.trans ht0);rcases Go.Deep.open_slice Tryz.underlying22 hd0 with ⟨_,hx⟩|⟨a,len,cap,m,n,D,Pl,hcs,hb,hl,hm,hmm,hx,hi⟩
 ·simp[Rows.laid_warehouse_token_words]at hx
 have hcell:W.cell? ⟨0,0,none⟩=some (.slice (some a) len cap):=by
  have:=World.var?_cell hg0 hv0 0;rw[Array.eq_one_of_toList hcs]at this;simpa using this
 have hD:=(Prod.mk.inj hx).1;simp only[Rows.laid_warehouse_token_words,DataW.slice.injEq]at hD;have hD1:=hD.1;have hlen:len=8:=by have:=congrArg List.length hD1;simpa using this.symm
 subst hlen;have c1:Tryz.prog.cellsOf 9=1:=by kernel_rfl
 have hmax:cap<=9223372036854775807:=by unfold maxLen at hm;omega
 have Ki:8<=m:=by rw[hmm];split <;> omega
 have hS: ∀i,i<8-> ∃s:ByteArray,W.cell? (a.add i)=some (.string s)/\D i=.lit (.string s.data.toList):=λi vC=>by
  obtain ⟨cs',h1,h2⟩:=hi i (by omega);obtain ⟨s,rfl,e2,_⟩:=DataW.trod_string Tryz.underlying9 h2;obtain ⟨_,_,hcell⟩:=World.cells?_some h1;have h0:=hcell 0 (by rw[c1];omega);rw[c1,Nat.mul_one]at h0;refine ⟨s,?_,(Prod.mk.inj e2).1⟩;have:(a.add i).add 0=a.add i:=by unfold Addr.add;split <;> simp_all
  rw[this]at h0;simpa using h0
 obtain ⟨f,hf⟩:=Go.Deep.choose_lt hS;have hsp:a.spot=none:=by
  have:=World.cell?_spot (hf 0 (by omega)).1;simpa[Addr.add] using this
 obtain ⟨b,off,spot⟩:=a;obtain rfl:spot=none:=hsp;have hblk:b<W.heap.size:=by
  have:=lt_of_cell (hf 0 (by omega)).1;simpa[Addr.add] using this
 have hgl:0<W.heap.size:=lt_of_cell hcell;have hw: ∀i (h:i<8),f i=words[i]'(by simpa[words] using h):=by
  have e:=hD1;simp only[List.range,List.range.loop,List.map_cons,List.map_nil,List.cons.injEq]at e;obtain ⟨e0,e1,e2,e3,e4,e5,e6,e7,_⟩:=e;intro i h;have:i=0\/i=1\/i=2\/i=3\/i=4\/i=5\/i=6\/i=7:=by omega
  rcases this with rfl|rfl|rfl|rfl|rfl|rfl|rfl|rfl
  ·have q:=(hf 0 (by omega)).2;rw[<-e0]at q;simp at q;exact jT q.symm
  ·have q:=(hf 1 (by omega)).2;rw[<-e1]at q;simp at q;exact jT q.symm
  ·have q:=(hf 2 (by omega)).2;rw[<-e2]at q;simp at q;exact jT q.symm
  ·have q:=(hf 3 (by omega)).2;rw[<-e3]at q;simp at q;exact jT q.symm
  ·have q:=(hf 4 (by omega)).2;rw[<-e4]at q;simp at q;exact jT q.symm
  ·have q:=(hf 5 (by omega)).2;rw[<-e5]at q;simp at q;exact jT q.symm
  ·have q:=(hf 6 (by omega)).2;rw[<-e6]at q;simp at q;exact jT q.symm
  ·have q:=(hf 7 (by omega)).2;rw[<-e7]at q;simp at q;exact jT q.symm
 refine ⟨some ⟨b,off,none⟩,8,cap,hcell,⟨rfl,hl,hmax,(λh=>by cases h),λ_=>⟨b,off,rfl,hblk,λi hi'=>?_⟩⟩,hgl⟩;have vC:i<8:=hi';refine ⟨[.string (words[i]'hi')],⟨rfl,?_⟩,λj hj=>?_⟩
 ·have:i=0\/i=1\/i=2\/i=3\/i=4\/i=5\/i=6\/i=7:=by omega
  rcases this with rfl|rfl|rfl|rfl|rfl|rfl|rfl|rfl <;> simp[words,ByteArray.size]
 ·obtain rfl:j=0:=by simpa using hj
  have h1:=(hf i vC).1;rw[hw i vC,dM]at h1;show W.cell? ⟨b,off+i*1+0,none⟩=_;rw[show off+i*1+0=off+i by omega];exact h1
theorem zL:DU Tryz.prog 33 (List Int):=Ff Tryz.underlying33 (by kernel_rfl) (by decide) (JK Tryz.underlying3)
theorem own:ownKnob Tryz.prog.godebug=none:=by kernel_rfl
theorem BF {α:Type}[Rep α]{t:TypeId}(hop:DU Tryz.prog t (List α)){H:Type}{enc:TypeId×Value->H}{W:World}{A:Option Addr}{n c:Nat}{d:DataW H}{ps:List MemPlace}(h:DataW.Trod enc Tryz.prog W 0 (λ_=>true) true t (.slice A n c) d ps): ∃xs:List α,In W A n c xs:=by
 obtain ⟨fu,hf⟩:=h;obtain ⟨xs,A',n',c',hl,hs⟩:=hop H enc W _ _ _ _ _ hf;have hl':[Value.slice A n c]=[Value.slice A' n' c']:=hl;injection hl' with hl' _;injection hl' with e1 e2 e3;subst e1 e2 e3;exact ⟨xs,hs⟩
end Go.Proofs.YtggejcekmehocaaGreatDoor
