/-
  Names with a dot, reserved words: strings.Cut at one byte, schema.IsQualified, token.Reserved, and the reference's. strings.Cut at ".", schema.IsQualified and warehouseref5.IsQualified: both return isQual.
-/
import Derived.Lib.Strings
import Derived.Lib.Slices
import Derived.Lib.Walk
import Derived.Lib.Bytealg
import Derived.Test.YtopjjlmfilgngaaGreatDoorGad
import Derived.Test.YtopjjlmfilgngaaGreatDoorGaa
namespace Go.Proofs.YtopjjlmfilgngaaGreatDoor
set_option maxHeartbeats 1000000
set_option maxRecDepth 100000
open Go.RowKit
set_option linter.unusedSimpArgs false
set_option linter.unusedVariables false
theorem vI (x:ByteArray)(l:List ByteArray)(s:ByteArray):gP (x :: l) s=(x.toList==s.toList || gP l s):=rfl
def nH (name:ByteArray):Nat->List ByteArray->Int
 | _,[]=> -1
 |k,x :: l=>if name.toList==x.toList then k else nH name (k+1) l
theorem tN (name:ByteArray): ∀(l:List ByteArray) (k:Nat),decide (0<=nH name k l)=gP l name
 | [],k=>rfl
 |x :: l,k=>by
  rw[nH,vI,show (x.toList==name.toList)=(name.toList==x.toList) from Bool.beq_comm];cases h:(name.toList==x.toList)
  ·simp only[Bool.false_eq_true,if_false,Bool.false_or];exact tN name l (k+1)
  ·simp
theorem zX (w:World)(A:Option Addr)(n c:Nat)(xs:List ByteArray)(hx:In w A n c xs)(name:ByteArray):
  Calls Tryz.prog 183 #[.slice A n c,.string name] w λe w'=>e=.returned (.int .i64 (nH name 0 xs))/\w=w':=by
 have h63:=hx.le;go_enter Tryz.func183,Tryz.ntmps183;go_wp2
 go_loop [8] (λi=> ∃k:Nat,k<=n/\i=.int .i64 k/\nH name 0 xs=nH name k (xs.drop k)) (λi=>n-(intOf i).toNat)
 case atStart=>exact ⟨0,Nat.zero_le _,rfl,rfl⟩
 case round=>
  obtain ⟨k,hk,rfl,heq⟩:=hrel;have HE:=hide heq;clear heq;by_cases hlt':k<n
  ·obtain ⟨b,off,x,rfl,hB,HX,e0,e1⟩:=hx.str hlt';cases hz:(name.toList==x.toList)
   ·go_wp2
    go_round
    case rel=>exact ⟨k+1,by omega,by go_num,by rw[HE.out,HX.out,nH,if_neg (by simp[hz])]⟩
    case measure=>simp[intOf];omega
   ·go_wp2;go_ret;exact ⟨ai (by rw[HE.out,HX.out,nH,if_pos hz]),rfl⟩
  ·go_wp2;go_ret;exact ⟨ai (by rw[HE.out,aM hx.len (by omega),nH]),rfl⟩
theorem qo (w:World)(A:Option Addr)(n c:Nat)(xs:List ByteArray)(hx:In w A n c xs)(name:ByteArray):
  Calls Tryz.prog 140 #[.slice A n c,.string name] w λe w'=>e=.returned (.bool (gP xs name))/\w=w':=by
 go_enter Tryz.func140,Tryz.ntmps140;have HS:=hide (tN name xs 0);go_wp2_with (go_at_call 183;refine (zX _ _ _ _ xs hx name).mono ?_;rintro e w' ⟨rfl,rfl⟩);go_ret;exact ⟨ak HS.out,rfl⟩
def Words (w:World):Prop:= ∃A n c,w.cell? ⟨0,0,none⟩=some (.slice A n c)/\In w A n c words/\0<w.heap.size
theorem Words.below {w w':World}(h:Words w)(hb:Below w.heap.size w w'):Words w':=by
 obtain ⟨A,n,c,h1,h2,h3⟩:=h;exact ⟨A,n,c,ah hb h3 h1,h2.below hb,Nat.lt_of_lt_of_le h3 hb.size⟩
theorem jX (s:ByteArray)(w:World)(hw:Words w):Calls Tryz.prog 259 #[.string s] w λe w'=>e=.returned (.bool (qD s))/\w=w':=by
 obtain ⟨A,n,c,h1,h2,h3⟩:=hw;go_enter Tryz.func259,Tryz.ntmps259;go_wp2_with (go_at_call 140;refine (qo _ _ _ _ words h2 s).mono ?_;rintro e w' ⟨rfl,rfl⟩);go_ret;exact ⟨rfl,rfl⟩
theorem nX: ∀l:List UInt8,Lib.indexByte l 46=if iP l<l.length then (iP l:Int) else -1
 | []=>rfl
 |c :: l=>by
  have ih:=nX l;rw[Lib.indexByte,iP];by_cases h:c=46
  ·subst h;simp
  ·have hb:(c==46)=false:=by simpa using h
   rw[hb,ih,if_neg h];by_cases hl:iP l<l.length
   ·have e:(((iP l:Nat):Int)== -1)=false:=by simp
    simp[hl,e]
   ·simp[hl]
theorem vg (s:ByteArray):kH s=iP s.data.toList:=by rw[kH,ByteArray.toList_eq]
theorem yE (s:ByteArray):s.data.toList.length=s.size:=rfl
theorem qF (s:ByteArray)(c:Int)(w:World):
  Calls Tryz.prog 265 #[.string s,.int .u8 c] w λe w'=>e=.returned (.int .i64 (Lib.indexByte s.data.toList c.toNat.toUInt8))/\w=w':=by
 go_enter Tryz.func265,Tryz.ntmps265;go_wp2;rw[run_callFunc_extern Tryz.func269 (by kernel_rfl) (by kernel_rfl) (by kernel_rfl) (e:=Extern.BytealgIndexByte.indexByte) (by kernel_rfl),Lib.run_indexByteString];simp only[Result.andThen];rw[Oper.upon_value];go_wp2;go_ret;exact ⟨rfl,rfl⟩
theorem qE (s:ByteArray)(w:World):
  Calls Tryz.prog 264 #[.string s,.string ⟨#[46]⟩] w λe w'=>e=.returned (.int .i64 (Lib.indexByte s.data.toList 46))/\w=w':=by
 go_enter Tryz.func264,Tryz.ntmps264;go_wp2_with (go_at_call 265;refine (qF _ _ _).mono ?_;rintro e w' ⟨rfl,rfl⟩)
 ·have h:([46]==s.toList)=true:=by assumption
  go_ret;refine ⟨ai ?_,rfl⟩;rw[ByteArray.toList_eq]at h;rw[<-eq_of_beq h];rfl
 ·go_ret;exact ⟨ai rfl,rfl⟩
theorem rV (s:ByteArray)(w:World)(h:¬kH s<s.size):
  Calls Tryz.prog 263 #[.string s,.string ⟨#[46]⟩] w λe w'=>e=.returned (.tuple #[.string s,.string ⟨#[]⟩,.bool false])/\Below w.heap.size w w':=by
 have hix:Lib.indexByte s.data.toList 46= -1:=by rw[nX,yE,<-vg,if_neg h]
 have HX:=hide hix;clear hix;go_enter Tryz.func263,Tryz.ntmps263;go_wp2_with (go_at_call 264;refine (qE _ _).mono ?_;rintro e w' ⟨rfl,rfl⟩;rw[HX.out])
 go_ret3
 exact ⟨rfl,Below.refl _ _⟩
theorem uE (s:ByteArray)(w:World)(hs:Str s)(d:Nat)(hd:kH s=d)(h:d<s.size):
  Calls Tryz.prog 263 #[.string s,.string ⟨#[46]⟩] w λe w'=>e=.returned (.tuple #[.string (s.extract 0 d),.string (s.extract (d+1) s.size),.bool true])/\Below w.heap.size w w':=by
 have hix:Lib.indexByte s.data.toList 46=(d:Int):=by rw[nX,yE,<-vg,hd,if_pos h]
 have HX:=hide hix;clear hix hd;unfold Str at hs;have c1:(0:Int)<= ↑d:=by omega
 have c2:(↑d:Int)<= ↑s.size:=by omega
 have c3:(0:Int)<= ↑d+1:=by omega
 have c4:(↑d+1:Int)<= ↑s.size:=by omega
 have c5:((d:Int)+1).toNat=d+1:=by omega
 have c6:IntKind.i64.wrap ((d:Int)+1)=(d:Int)+1:=IntWalk.i64_in _ (by omega);go_enter Tryz.func263,Tryz.ntmps263;go_wp2_with (go_at_call 264;refine (qE _ _).mono ?_;rintro e w' ⟨rfl,rfl⟩;rw[HX.out]);go_quiet (fail);go_wp2
 go_ret3
 exact ⟨rfl,below_drewN (Below.refl _ _) _⟩
theorem Bo (s:ByteArray)(w:World)(h:¬kH s<s.size):
  Calls Tryz.prog 262 #[.string s,.string ⟨#[46]⟩] w λe w'=>e=.returned (.tuple #[.string s,.string ⟨#[]⟩,.bool false])/\Below w.heap.size w w':=by
 have H:=hide h;clear h;go_enter Tryz.func262,Tryz.ntmps262;go_wp2_with (go_at_call 263;refine (rV s _ H.out).mono ?_;rintro e w1 ⟨rfl,hb1⟩)
 go_ret3
 exact ⟨rfl,hb1⟩
theorem DZ (s:ByteArray)(w:World)(hs:Str s)(d:Nat)(hd:kH s=d)(h:d<s.size):
  Calls Tryz.prog 262 #[.string s,.string ⟨#[46]⟩] w λe w'=>e=.returned (.tuple #[.string (s.extract 0 d),.string (s.extract (d+1) s.size),.bool true])/\Below w.heap.size w w':=by
 have H:=hide hd;clear hd;go_enter Tryz.func262,Tryz.ntmps262;go_wp2_with (go_at_call 263;refine (uE s _ hs d H.out h).mono ?_;rintro e w1 ⟨rfl,hb1⟩)
 go_ret3
 exact ⟨rfl,hb1⟩
theorem oV {s:ByteArray}(hs:Str s)(a b:Nat):Str (s.extract a b):=by
 unfold Str at hs⊢;have:(s.extract a b).size<=s.size:=by simp[ByteArray.size_extract];omega
 omega
theorem wz (s:ByteArray)(hs:Str s)(w:World):
  Calls Tryz.prog 260 #[.string s] w λe w'=>e=.returned (.bool (iF s))/\Below w.heap.size w w':=by
 by_cases h:kH s<s.size
 ·obtain ⟨d,hd⟩: ∃d,kH s=d:=⟨_,rfl⟩;have hq:iF s=(bQ (s.extract 0 d)&&bQ (s.extract (d+1) s.size)):=by rw[iF,if_pos h,hd]
  rw[hd]at h;have HD:=hide hd;have HQ:=hide hq;clear hq hd;have S1:=oV hs 0 d;have S2:=oV hs (d+1) s.size;obtain ⟨p,hp⟩: ∃p,p=s.extract 0 d:=⟨_,rfl⟩;obtain ⟨q,hq⟩: ∃q,q=s.extract (d+1) s.size:=⟨_,rfl⟩;go_enter Tryz.func260,Tryz.ntmps260;go_wp2_with fail;refine (DZ s _ hs d HD.out h).mono ?_;rintro e w1 ⟨rfl,hb1⟩;rw[<-hp]at S1⊢;rw[<-hq]at S2⊢;have HP:Hid (iF s=(bQ p&&bQ q)):=hide (by rw[hp,hq];exact HQ.out);clear hp hq HD HQ;go_wp2_with fail;refine (iE p S1 _).mono ?_;rintro e w2 ⟨rfl,hb2⟩;have hbb:=aa hb1 hb2;clear hb1 hb2;cases hn:bQ p
  ·go_wp2;go_ret;exact ⟨ak (by rw[HP.out,hn];rfl),hbb⟩
  ·go_wp2_with fail;refine (iE q S2 _).mono ?_;rintro e w3 ⟨rfl,hb3⟩;have hb4:=aa hbb hb3;clear hbb hb3;go_wp2;go_ret;exact ⟨ak (by rw[HP.out,hn];rfl),hb4⟩
 ·have hq:iF s=bQ s:=by rw[iF,if_neg h]
  have HQ:=hide hq;have HD:=hide h;clear hq h;go_enter Tryz.func260,Tryz.ntmps260;go_wp2_with fail;refine (Bo s _ HD.out).mono ?_;rintro e w1 ⟨rfl,hb1⟩;go_wp2_with fail;refine (iE s hs _).mono ?_;rintro e w2 ⟨rfl,hb2⟩;have hbb:=aa hb1 hb2;clear hb1 hb2;cases hn:bQ s
  ·go_wp2;go_ret;exact ⟨ak (by rw[HQ.out,hn]),hbb⟩
  ·go_wp2;go_ret;exact ⟨ak (by rw[HQ.out,hn]),hbb⟩
end Go.Proofs.YtopjjlmfilgngaaGreatDoor
