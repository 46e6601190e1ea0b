/-
  Names with a dot, reserved words: strings.Cut at one byte, schema.IsQualified, token.Reserved, and the reference's. strings.Cut at ".", schema.IsQualified and warehouseref5.IsQualified: both return isQual.
-/
import Derived.Lib.Strings
import Derived.Lib.Slices
import Derived.Lib.Walk
import Derived.Lib.Bytealg
import Derived.Test.YtopjjlmfilgngaaGreatDoorGad
import Derived.Test.YtopjjlmfilgngaaGreatDoorGaa
namespace Go.Proofs.YtopjjlmfilgngaaGreatDoor
set_option maxHeartbeats 1000000
set_option maxRecDepth 100000
open Go.RowKit
set_option linter.unusedSimpArgs false
set_option linter.unusedVariables false
theorem ry (x:ByteArray)(l:List ByteArray)(s:ByteArray):jA (x :: l) s=(x.toList==s.toList || jA l s):=rfl
theorem Dw (w:World)(A:Option Addr)(n c:Nat)(xs:List ByteArray)(hx:In w A n c xs)(name:ByteArray):
  Calls Tryz.prog 133 #[.slice A n c,.string name] w λe w'=>e=.returned (.bool (jA xs name))/\w=w':=by
 have h63:=hx.le;go_enter Tryz.func133,Tryz.ntmps133;go_wp2
 go_loop [5] (λi=> ∃k:Nat,k<=n/\i=.int .i64 k/\jA xs name=jA (xs.drop k) name) (λi=>n-(intOf i).toNat)
 case atStart=>exact ⟨0,Nat.zero_le _,rfl,rfl⟩
 case round=>
  obtain ⟨k,hk,rfl,heq⟩:=hrel;have HE:=hide heq;clear heq;by_cases hlt':k<n
  ·obtain ⟨b,off,x,rfl,hB,HX,e0,e1⟩:=hx.str hlt';cases hz:(x.toList==name.toList)
   ·go_wp2
    go_round
    case rel=>exact ⟨k+1,by omega,by go_num,by rw[HE.out,HX.out,ry,hz,Bool.false_or]⟩
    case measure=>simp[intOf];omega
   ·go_wp2;go_ret;exact ⟨ay (by rw[HE.out,HX.out,ry,hz,Bool.true_or]),rfl⟩
  ·go_wp2;go_ret;exact ⟨ay (by rw[HE.out,aI hx.len (by omega)];rfl),rfl⟩
def vC (name:ByteArray):Nat->List ByteArray->Int
 | _,[]=> -1
 |k,x :: l=>if name.toList==x.toList then k else vC name (k+1) l
theorem CL (name:ByteArray): ∀(l:List ByteArray) (k:Nat),decide (0<=vC name k l)=jA l name
 | [],k=>rfl
 |x :: l,k=>by
  rw[vC,ry,show (x.toList==name.toList)=(name.toList==x.toList) from Bool.beq_comm];cases h:(name.toList==x.toList)
  ·simp only[Bool.false_eq_true,if_false,Bool.false_or];exact CL name l (k+1)
  ·simp
theorem Le (w:World)(A:Option Addr)(n c:Nat)(xs:List ByteArray)(hx:In w A n c xs)(name:ByteArray):
  Calls Tryz.prog 183 #[.slice A n c,.string name] w λe w'=>e=.returned (.int .i64 (vC name 0 xs))/\w=w':=by
 have h63:=hx.le;go_enter Tryz.func183,Tryz.ntmps183;go_wp2
 go_loop [8] (λi=> ∃k:Nat,k<=n/\i=.int .i64 k/\vC name 0 xs=vC name k (xs.drop k)) (λi=>n-(intOf i).toNat)
 case atStart=>exact ⟨0,Nat.zero_le _,rfl,rfl⟩
 case round=>
  obtain ⟨k,hk,rfl,heq⟩:=hrel;have HE:=hide heq;clear heq;by_cases hlt':k<n
  ·obtain ⟨b,off,x,rfl,hB,HX,e0,e1⟩:=hx.str hlt';cases hz:(name.toList==x.toList)
   ·go_wp2
    go_round
    case rel=>exact ⟨k+1,by omega,by go_num,by rw[HE.out,HX.out,vC,if_neg (by simp[hz])]⟩
    case measure=>simp[intOf];omega
   ·go_wp2;go_ret;exact ⟨ax (by rw[HE.out,HX.out,vC,if_pos hz]),rfl⟩
  ·go_wp2;go_ret;exact ⟨ax (by rw[HE.out,aI hx.len (by omega),vC]),rfl⟩
theorem ze (w:World)(A:Option Addr)(n c:Nat)(xs:List ByteArray)(hx:In w A n c xs)(name:ByteArray):
  Calls Tryz.prog 140 #[.slice A n c,.string name] w λe w'=>e=.returned (.bool (jA xs name))/\w=w':=by
 go_enter Tryz.func140,Tryz.ntmps140;have HS:=hide (CL name xs 0);go_wp2_with (go_at_call 183;refine (Le _ _ _ _ xs hx name).mono ?_;rintro e w' ⟨rfl,rfl⟩);go_ret;exact ⟨ay HS.out,rfl⟩
def Words (w:World):Prop:= ∃A n c,w.cell? ⟨0,0,none⟩=some (.slice A n c)/\In w A n c words/\0<w.heap.size
theorem Words.below {w w':World}(h:Words w)(hb:Below w.heap.size w w'):Words w':=by
 obtain ⟨A,n,c,h1,h2,h3⟩:=h;exact ⟨A,n,c,ah hb h3 h1,h2.below hb,Nat.lt_of_lt_of_le h3 hb.size⟩
theorem qp (s:ByteArray)(w:World)(hw:Words w):Calls Tryz.prog 259 #[.string s] w λe w'=>e=.returned (.bool (nD s))/\w=w':=by
 obtain ⟨A,n,c,h1,h2,h3⟩:=hw;go_enter Tryz.func259,Tryz.ntmps259;go_wp2_with (go_at_call 140;refine (ze _ _ _ _ words h2 s).mono ?_;rintro e w' ⟨rfl,rfl⟩);go_ret;exact ⟨rfl,rfl⟩
theorem QW {w:World}{g n:Nat}{xs:List ByteArray}(hn:xs.length=n)(h63:n<=9223372036854775807)(hs: ∀x∈xs,Str x)(hg:g<w.heap.size)(hc: ∀i,(h:i<xs.length)->w.cell? ⟨g,i,none⟩=some (.string xs[i])):In w (some ⟨g,0,none⟩) n n xs:=
 ⟨hn,Nat.le_refl _,h63,(λh=>by cases h),λ_=>⟨g,0,rfl,hg,λi hi=>⟨_,⟨rfl,hs _ (List.getElem_mem _)⟩,λj hj=>by
  have hj0:j=0:=by simp at hj;exact hj
  subst hj0;have:=hc i hi;simpa[Rep.size] using this⟩⟩⟩
theorem Lr: ∀x∈words,Str x:=by intro x hx;simp only[words,List.mem_cons,List.mem_nil_iff,or_false]at hx;rcases hx with rfl|rfl|rfl|rfl|rfl|rfl|rfl|rfl <;> (unfold Str;simp[ByteArray.size])
theorem Dk: ∀x∈qW,Str x:=by intro x hx;simp only[qW,List.mem_cons,List.mem_nil_iff,or_false]at hx;rcases hx with rfl|rfl|rfl|rfl|rfl <;> (unfold Str;simp[ByteArray.size])
def strCells (l:List ByteArray):Array Value:=(l.map Value.string).toArray
theorem xg (w:World)(xs:List ByteArray)(ty:TypeId)(hs: ∀x∈xs,Str x)(h:xs.length<=9223372036854775807):In (w.alloc (.cells (strCells xs) ty)) (some ⟨w.heap.size,0,none⟩) xs.length xs.length xs:=
 QW rfl h hs (by simp) λi hi=>by
  rw[cell_of_row _ _ _ _ _ _ (heap_alloc_new w _)];simp[strCells,hi]
theorem vw (s:ByteArray)(w:World):Calls Tryz.prog 221 #[.string s] w λe w'=>e=.returned (.bool (nD s))/\Below w.heap.size w w':=by
 go_enter Tryz.func221,Tryz.ntmps221;go_wp2_with (go_at_call 133;refine (Dw _ _ _ _ words (xg w words 9 Lr (by decide)) s).mono ?_;rintro e w' ⟨rfl,rfl⟩);go_ret;exact ⟨rfl,ae⟩
theorem EP (s:ByteArray)(w:World):Calls Tryz.prog 194 #[.string s] w λe w'=>e=.returned (.bool (nC s))/\Below w.heap.size w w':=by
 go_enter Tryz.func194,Tryz.ntmps194;go_wp2_with (go_at_call 133;refine (Dw _ _ _ _ qW (xg w qW 9 Dk (by decide)) s).mono ?_;rintro e w' ⟨rfl,rfl⟩);go_ret;exact ⟨rfl,ae⟩
theorem ww: ∀l:List UInt8,Lib.indexByte l 46=if eD l<l.length then (eD l:Int) else -1
 | []=>rfl
 |c :: l=>by
  have ih:=ww l;rw[Lib.indexByte,eD];by_cases h:c=46
  ·subst h;simp
  ·have hb:(c==46)=false:=by simpa using h
   rw[hb,ih,if_neg h];by_cases hl:eD l<l.length
   ·have e:(((eD l:Nat):Int)== -1)=false:=by simp
    simp[hl,e]
   ·simp[hl]
theorem uP (s:ByteArray):qJ s=eD s.data.toList:=by rw[qJ,ByteArray.toList_eq]
theorem Jo (s:ByteArray):s.data.toList.length=s.size:=rfl
theorem zx (s:ByteArray)(c:Int)(w:World):
  Calls Tryz.prog 265 #[.string s,.int .u8 c] w λe w'=>e=.returned (.int .i64 (Lib.indexByte s.data.toList c.toNat.toUInt8))/\w=w':=by
 go_enter Tryz.func265,Tryz.ntmps265;go_wp2;rw[run_callFunc_extern Tryz.func269 (by kernel_rfl) (by kernel_rfl) (by kernel_rfl) (e:=Extern.BytealgIndexByte.indexByte) (by kernel_rfl),Lib.run_indexByteString];simp only[Result.andThen];rw[Oper.upon_value];go_wp2;go_ret;exact ⟨rfl,rfl⟩
theorem zw (s:ByteArray)(w:World):
  Calls Tryz.prog 264 #[.string s,.string ⟨#[46]⟩] w λe w'=>e=.returned (.int .i64 (Lib.indexByte s.data.toList 46))/\w=w':=by
 go_enter Tryz.func264,Tryz.ntmps264;go_wp2_with (go_at_call 265;refine (zx _ _ _).mono ?_;rintro e w' ⟨rfl,rfl⟩)
 ·have h:([46]==s.toList)=true:=by assumption
  go_ret;refine ⟨ax ?_,rfl⟩;rw[ByteArray.toList_eq]at h;rw[<-eq_of_beq h];rfl
 ·go_ret;exact ⟨ax rfl,rfl⟩
theorem Bv (s:ByteArray)(w:World)(h:¬qJ s<s.size):
  Calls Tryz.prog 263 #[.string s,.string ⟨#[46]⟩] w λe w'=>e=.returned (.tuple #[.string s,.string ⟨#[]⟩,.bool false])/\Below w.heap.size w w':=by
 have hix:Lib.indexByte s.data.toList 46= -1:=by rw[ww,Jo,<-uP,if_neg h]
 have HX:=hide hix;clear hix;go_enter Tryz.func263,Tryz.ntmps263;go_wp2_with (go_at_call 264;refine (zw _ _).mono ?_;rintro e w' ⟨rfl,rfl⟩;rw[HX.out])
 go_ret3
 exact ⟨rfl,Below.refl _ _⟩
theorem DL (s:ByteArray)(w:World)(hs:Str s)(d:Nat)(hd:qJ s=d)(h:d<s.size):
  Calls Tryz.prog 263 #[.string s,.string ⟨#[46]⟩] w λe w'=>e=.returned (.tuple #[.string (s.extract 0 d),.string (s.extract (d+1) s.size),.bool true])/\Below w.heap.size w w':=by
 have hix:Lib.indexByte s.data.toList 46=(d:Int):=by rw[ww,Jo,<-uP,hd,if_pos h]
 have HX:=hide hix;clear hix hd;unfold Str at hs;have c1:(0:Int)<= ↑d:=by omega
 have c2:(↑d:Int)<= ↑s.size:=by omega
 have c3:(0:Int)<= ↑d+1:=by omega
 have c4:(↑d+1:Int)<= ↑s.size:=by omega
 have c5:((d:Int)+1).toNat=d+1:=by omega
 have c6:IntKind.i64.wrap ((d:Int)+1)=(d:Int)+1:=IntWalk.i64_in _ (by omega);go_enter Tryz.func263,Tryz.ntmps263;go_wp2_with (go_at_call 264;refine (zw _ _).mono ?_;rintro e w' ⟨rfl,rfl⟩;rw[HX.out]);go_quiet (fail);go_wp2
 go_ret3
 exact ⟨rfl,below_drewN (Below.refl _ _) _⟩
theorem MX (s:ByteArray)(w:World)(h:¬qJ s<s.size):
  Calls Tryz.prog 262 #[.string s,.string ⟨#[46]⟩] w λe w'=>e=.returned (.tuple #[.string s,.string ⟨#[]⟩,.bool false])/\Below w.heap.size w w':=by
 have H:=hide h;clear h;go_enter Tryz.func262,Tryz.ntmps262;go_wp2_with (go_at_call 263;refine (Bv s _ H.out).mono ?_;rintro e w1 ⟨rfl,hb1⟩)
 go_ret3
 exact ⟨rfl,hb1⟩
theorem Qe (s:ByteArray)(w:World)(hs:Str s)(d:Nat)(hd:qJ s=d)(h:d<s.size):
  Calls Tryz.prog 262 #[.string s,.string ⟨#[46]⟩] w λe w'=>e=.returned (.tuple #[.string (s.extract 0 d),.string (s.extract (d+1) s.size),.bool true])/\Below w.heap.size w w':=by
 have H:=hide hd;clear hd;go_enter Tryz.func262,Tryz.ntmps262;go_wp2_with (go_at_call 263;refine (DL s _ hs d H.out h).mono ?_;rintro e w1 ⟨rfl,hb1⟩)
 go_ret3
 exact ⟨rfl,hb1⟩
theorem nM {s:ByteArray}(hs:Str s)(a b:Nat):Str (s.extract a b):=by
 unfold Str at hs⊢;have:(s.extract a b).size<=s.size:=by simp[ByteArray.size_extract];omega
 omega
theorem F5 (s:ByteArray)(hs:Str s)(w:World):
  Calls Tryz.prog 260 #[.string s] w λe w'=>e=.returned (.bool (gN s))/\Below w.heap.size w w':=by
 by_cases h:qJ s<s.size
 ·obtain ⟨d,hd⟩: ∃d,qJ s=d:=⟨_,rfl⟩;have hq:gN s=(bV (s.extract 0 d)&&bV (s.extract (d+1) s.size)):=by rw[gN,if_pos h,hd]
  rw[hd]at h;have HD:=hide hd;have HQ:=hide hq;clear hq hd;have S1:=nM hs 0 d;have S2:=nM hs (d+1) s.size;obtain ⟨p,hp⟩: ∃p,p=s.extract 0 d:=⟨_,rfl⟩;obtain ⟨q,hq⟩: ∃q,q=s.extract (d+1) s.size:=⟨_,rfl⟩;go_enter Tryz.func260,Tryz.ntmps260;go_wp2_with fail;refine (Qe s _ hs d HD.out h).mono ?_;rintro e w1 ⟨rfl,hb1⟩;rw[<-hp]at S1⊢;rw[<-hq]at S2⊢;have HP:Hid (gN s=(bV p&&bV q)):=hide (by rw[hp,hq];exact HQ.out);clear hp hq HD HQ;go_wp2_with fail;refine (mK p S1 _).mono ?_;rintro e w2 ⟨rfl,hb2⟩;have hbb:=aa hb1 hb2;clear hb1 hb2;cases hn:bV p
  ·go_wp2;go_ret;exact ⟨ay (by rw[HP.out,hn];rfl),hbb⟩
  ·go_wp2_with fail;refine (mK q S2 _).mono ?_;rintro e w3 ⟨rfl,hb3⟩;have hb4:=aa hbb hb3;clear hbb hb3;go_wp2;go_ret;exact ⟨ay (by rw[HP.out,hn];rfl),hb4⟩
 ·have hq:gN s=bV s:=by rw[gN,if_neg h]
  have HQ:=hide hq;have HD:=hide h;clear hq h;go_enter Tryz.func260,Tryz.ntmps260;go_wp2_with fail;refine (MX s _ HD.out).mono ?_;rintro e w1 ⟨rfl,hb1⟩;go_wp2_with fail;refine (mK s hs _).mono ?_;rintro e w2 ⟨rfl,hb2⟩;have hbb:=aa hb1 hb2;clear hb1 hb2;cases hn:bV s
  ·go_wp2;go_ret;exact ⟨ay (by rw[HQ.out,hn]),hbb⟩
  ·go_wp2;go_ret;exact ⟨ay (by rw[HQ.out,hn]),hbb⟩
theorem EW {s:ByteArray}{k:Nat}(hk:k<s.size)(hc:eY s k≠46)(h:eD s.data.toList=k+eD (s.data.toList.drop k)):eD s.data.toList=(k+1)+eD (s.data.toList.drop (k+1)):=by
 have hl:k<s.data.toList.length:=hk;rw[h,List.drop_eq_getElem_cons hl,eD,if_neg]
 ·omega
 ·intro e;apply hc;rw[eY,List.getD,List.getElem?_eq_getElem hl];simp only[Option.getD_some,e];rfl
theorem Dr {s:ByteArray}{k:Nat}(hk:k<s.size)(hc:eY s k=46)(h:eD s.data.toList=k+eD (s.data.toList.drop k)):eD s.data.toList=k:=by
 have hl:k<s.data.toList.length:=hk;rw[h,List.drop_eq_getElem_cons hl,eD,if_pos]
 ·rfl
 ·rw[eY,List.getD,List.getElem?_eq_getElem hl]at hc;simp only[Option.getD_some]at hc;exact UInt8.toNat_inj.1 hc
theorem OA (s:ByteArray)(hs:Str s)(w:World):
  Calls Tryz.prog 222 #[.string s] w λe w'=>e=.returned (.bool (gN s))/\w=w':=by
 have hs':=hs;unfold Str at hs;go_enter Tryz.func222,Tryz.ntmps222;go_wp2
 go_loop [3] (λi=> ∃k:Nat,k<=s.size/\i=.int .i64 k/\eD s.data.toList=k+eD (s.data.toList.drop k)) (λi=>s.size-(intOf i).toNat)
 case atStart=>exact ⟨0,Nat.zero_le _,rfl,by simp⟩
 case round=>
  obtain ⟨k,hk,rfl,heq⟩:=hrel;have HE:=hide heq;clear heq;by_cases hlt:k<s.size
  ·have hbt:=oI s k hlt;cases hz:((s[k]'hlt).toNat==46)
   ·have HN:Hid (eD s.data.toList=(k+1)+eD (s.data.toList.drop (k+1))):=hide (EW hlt (by rw[hbt];simpa using hz) HE.out);have q1:(((s[k]'hlt).toNat:Int)==46)=false:=by simp at hz⊢;omega
    clear hbt hz;go_wp2
    go_round
    case rel=>exact ⟨k+1,by omega,by go_num,HN.out⟩
    case measure=>simp[intOf];omega
   ·have hd:qJ s=k:=by rw[uP];exact Dr hlt (by rw[hbt];simpa using hz) HE.out
    have HQ:Hid (gN s=(bV (s.extract 0 k)&&bV (s.extract (k+1) s.size))):=hide (by rw[gN,hd,if_pos hlt]);have q1:(((s[k]'hlt).toNat:Int)==46)=true:=by simp at hz⊢;omega
    have S1:=nM hs' 0 k;have S2:=nM hs' (k+1) s.size;have k1:(k:Int)+1<=(s.size:Int):=by omega
    have k2:((k:Int)+1).toNat=k+1:=by omega
    clear hbt hz hd;cases hn:bV (s.extract 0 k)
    ·go_wp2_with (go_at_call 127;refine (il _ S1 _).mono ?_;rintro e w' ⟨rfl,rfl⟩);go_ret;exact ⟨ay (by rw[HQ.out,hn];rfl),rfl⟩
    ·go_wp2_with fail;refine (il _ S1 _).mono ?_;rintro e w' ⟨rfl,rfl⟩;go_wp2_with fail;refine (il _ S2 _).mono ?_;rintro e w' ⟨rfl,rfl⟩;go_wp2;go_ret;exact ⟨ay (by rw[HQ.out,hn];rfl),rfl⟩
  ·have HQ:Hid (gN s=bV s):=hide (by rw[gN,if_neg];rw[uP,HE.out];omega);go_wp2_with (go_at_call 127;refine (il _ hs' _).mono ?_;rintro e w' ⟨rfl,rfl⟩);go_ret;exact ⟨ay HQ.out.symm,rfl⟩
end Go.Proofs.YtopjjlmfilgngaaGreatDoor
