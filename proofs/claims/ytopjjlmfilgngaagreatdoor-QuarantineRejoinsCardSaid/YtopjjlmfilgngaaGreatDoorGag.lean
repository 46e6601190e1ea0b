/-
  Names with a dot, reserved words: strings.Cut at one byte, schema.IsQualified, token.Reserved, and the reference's. strings.Cut at ".", schema.IsQualified and warehouseref5.IsQualified: both return isQual.
-/
import Derived.Lib.Strings
import Derived.Lib.Slices
import Derived.Lib.Walk
import Derived.Lib.Bytealg
import Derived.Test.YtopjjlmfilgngaaGreatDoorGad
import Derived.Test.YtopjjlmfilgngaaGreatDoorGaa
namespace Go.Proofs.YtopjjlmfilgngaaGreatDoor
set_option maxHeartbeats 1000000
set_option maxRecDepth 100000
open Go.RowKit
set_option linter.unusedSimpArgs false
set_option linter.unusedVariables false
theorem yT (x:ByteArray)(l:List ByteArray)(s:ByteArray):iJ (x :: l) s=(x.toList==s.toList || iJ l s):=rfl
def pX (name:ByteArray):Nat->List ByteArray->Int
 | _,[]=> -1
 |k,x :: l=>if name.toList==x.toList then k else pX name (k+1) l
theorem wI (name:ByteArray): ∀(l:List ByteArray) (k:Nat),decide (0<=pX name k l)=iJ l name
 | [],k=>rfl
 |x :: l,k=>by
  rw[pX,yT,show (x.toList==name.toList)=(name.toList==x.toList) from Bool.beq_comm];cases h:(name.toList==x.toList)
  ·simp only[Bool.false_eq_true,if_false,Bool.false_or];exact wI name l (k+1)
  ·simp
theorem DV (w:World)(A:Option Addr)(n c:Nat)(xs:List ByteArray)(hx:In w A n c xs)(name:ByteArray):
  Calls Tryz.prog 183 #[.slice A n c,.string name] w λe w'=>e=.returned (.int .i64 (pX name 0 xs))/\w=w':=by
 have h63:=hx.le;go_enter Tryz.func183,Tryz.ntmps183;go_wp2
 go_loop [8] (λi=> ∃k:Nat,k<=n/\i=.int .i64 k/\pX name 0 xs=pX name k (xs.drop k)) (λi=>n-(intOf i).toNat)
 case atStart=>exact ⟨0,Nat.zero_le _,rfl,rfl⟩
 case round=>
  obtain ⟨k,hk,rfl,heq⟩:=hrel;have HE:=hide heq;clear heq;by_cases hlt':k<n
  ·obtain ⟨b,off,x,rfl,hB,HX,e0,e1⟩:=hx.str hlt';cases hz:(name.toList==x.toList)
   ·go_wp2
    go_round
    case rel=>exact ⟨k+1,by omega,by go_num,by rw[HE.out,HX.out,pX,if_neg (by simp[hz])]⟩
    case measure=>simp[intOf];omega
   ·go_wp2;go_ret;exact ⟨ai (by rw[HE.out,HX.out,pX,if_pos hz]),rfl⟩
  ·go_wp2;go_ret;exact ⟨ai (by rw[HE.out,aD hx.len (by omega),pX]),rfl⟩
theorem sZ (w:World)(A:Option Addr)(n c:Nat)(xs:List ByteArray)(hx:In w A n c xs)(name:ByteArray):
  Calls Tryz.prog 140 #[.slice A n c,.string name] w λe w'=>e=.returned (.bool (iJ xs name))/\w=w':=by
 go_enter Tryz.func140,Tryz.ntmps140;have HS:=hide (wI name xs 0);go_wp2_with (go_at_call 183;refine (DV _ _ _ _ xs hx name).mono ?_;rintro e w' ⟨rfl,rfl⟩);go_ret;exact ⟨ay HS.out,rfl⟩
def Words (w:World):Prop:= ∃A n c,w.cell? ⟨0,0,none⟩=some (.slice A n c)/\In w A n c words/\0<w.heap.size
theorem Words.below {w w':World}(h:Words w)(hb:Below w.heap.size w w'):Words w':=by
 obtain ⟨A,n,c,h1,h2,h3⟩:=h;exact ⟨A,n,c,aj hb h3 h1,h2.below hb,Nat.lt_of_lt_of_le h3 hb.size⟩
theorem kZ (s:ByteArray)(w:World)(hw:Words w):Calls Tryz.prog 259 #[.string s] w λe w'=>e=.returned (.bool (tK s))/\w=w':=by
 obtain ⟨A,n,c,h1,h2,h3⟩:=hw;go_enter Tryz.func259,Tryz.ntmps259;go_wp2_with (go_at_call 140;refine (sZ _ _ _ _ words h2 s).mono ?_;rintro e w' ⟨rfl,rfl⟩);go_ret;exact ⟨rfl,rfl⟩
theorem qy: ∀l:List UInt8,Lib.indexByte l 46=if jA l<l.length then (jA l:Int) else -1
 | []=>rfl
 |c :: l=>by
  have ih:=qy l;rw[Lib.indexByte,jA];by_cases h:c=46
  ·subst h;simp
  ·have hb:(c==46)=false:=by simpa using h
   rw[hb,ih,if_neg h];by_cases hl:jA l<l.length
   ·have e:(((jA l:Nat):Int)== -1)=false:=by simp
    simp[hl,e]
   ·simp[hl]
theorem yB (s:ByteArray):lW s=jA s.data.toList:=by rw[lW,ByteArray.toList_eq]
theorem Ch (s:ByteArray):s.data.toList.length=s.size:=rfl
theorem tN (s:ByteArray)(c:Int)(w:World):
  Calls Tryz.prog 265 #[.string s,.int .u8 c] w λe w'=>e=.returned (.int .i64 (Lib.indexByte s.data.toList c.toNat.toUInt8))/\w=w':=by
 go_enter Tryz.func265,Tryz.ntmps265;go_wp2;rw[run_callFunc_extern Tryz.func269 (by kernel_rfl) (by kernel_rfl) (by kernel_rfl) (e:=Extern.BytealgIndexByte.indexByte) (by kernel_rfl),Lib.run_indexByteString];simp only[Result.andThen];rw[Oper.upon_value];go_wp2;go_ret;exact ⟨rfl,rfl⟩
theorem tL (s:ByteArray)(w:World):
  Calls Tryz.prog 264 #[.string s,.string ⟨#[46]⟩] w λe w'=>e=.returned (.int .i64 (Lib.indexByte s.data.toList 46))/\w=w':=by
 go_enter Tryz.func264,Tryz.ntmps264;go_wp2_with (go_at_call 265;refine (tN _ _ _).mono ?_;rintro e w' ⟨rfl,rfl⟩)
 ·have h:([46]==s.toList)=true:=by assumption
  go_ret;refine ⟨ai ?_,rfl⟩;rw[ByteArray.toList_eq]at h;rw[<-eq_of_beq h];rfl
 ·go_ret;exact ⟨ai rfl,rfl⟩
theorem uZ (s:ByteArray)(w:World)(h:¬lW s<s.size):
  Calls Tryz.prog 263 #[.string s,.string ⟨#[46]⟩] w λe w'=>e=.returned (.tuple #[.string s,.string ⟨#[]⟩,.bool false])/\Below w.heap.size w w':=by
 have hix:Lib.indexByte s.data.toList 46= -1:=by rw[qy,Ch,<-yB,if_neg h]
 have HX:=hide hix;clear hix;go_enter Tryz.func263,Tryz.ntmps263;go_wp2_with (go_at_call 264;refine (tL _ _).mono ?_;rintro e w' ⟨rfl,rfl⟩;rw[HX.out])
 go_ret3
 exact ⟨rfl,Below.refl _ _⟩
theorem xw (s:ByteArray)(w:World)(hs:Str s)(d:Nat)(hd:lW s=d)(h:d<s.size):
  Calls Tryz.prog 263 #[.string s,.string ⟨#[46]⟩] w λe w'=>e=.returned (.tuple #[.string (s.extract 0 d),.string (s.extract (d+1) s.size),.bool true])/\Below w.heap.size w w':=by
 have hix:Lib.indexByte s.data.toList 46=(d:Int):=by rw[qy,Ch,<-yB,hd,if_pos h]
 have HX:=hide hix;clear hix hd;unfold Str at hs;have c1:(0:Int)<= ↑d:=by omega
 have c2:(↑d:Int)<= ↑s.size:=by omega
 have c3:(0:Int)<= ↑d+1:=by omega
 have c4:(↑d+1:Int)<= ↑s.size:=by omega
 have c5:((d:Int)+1).toNat=d+1:=by omega
 have c6:IntKind.i64.wrap ((d:Int)+1)=(d:Int)+1:=IntWalk.i64_in _ (by omega);go_enter Tryz.func263,Tryz.ntmps263;go_wp2_with (go_at_call 264;refine (tL _ _).mono ?_;rintro e w' ⟨rfl,rfl⟩;rw[HX.out]);go_quiet (fail);go_wp2
 go_ret3
 exact ⟨rfl,below_drewN (Below.refl _ _) _⟩
theorem ET (s:ByteArray)(w:World)(h:¬lW s<s.size):
  Calls Tryz.prog 262 #[.string s,.string ⟨#[46]⟩] w λe w'=>e=.returned (.tuple #[.string s,.string ⟨#[]⟩,.bool false])/\Below w.heap.size w w':=by
 have H:=hide h;clear h;go_enter Tryz.func262,Tryz.ntmps262;go_wp2_with (go_at_call 263;refine (uZ s _ H.out).mono ?_;rintro e w1 ⟨rfl,hb1⟩)
 go_ret3
 exact ⟨rfl,hb1⟩
theorem IQ (s:ByteArray)(w:World)(hs:Str s)(d:Nat)(hd:lW s=d)(h:d<s.size):
  Calls Tryz.prog 262 #[.string s,.string ⟨#[46]⟩] w λe w'=>e=.returned (.tuple #[.string (s.extract 0 d),.string (s.extract (d+1) s.size),.bool true])/\Below w.heap.size w w':=by
 have H:=hide hd;clear hd;go_enter Tryz.func262,Tryz.ntmps262;go_wp2_with (go_at_call 263;refine (xw s _ hs d H.out h).mono ?_;rintro e w1 ⟨rfl,hb1⟩)
 go_ret3
 exact ⟨rfl,hb1⟩
theorem rz {s:ByteArray}(hs:Str s)(a b:Nat):Str (s.extract a b):=by
 unfold Str at hs⊢;have:(s.extract a b).size<=s.size:=by simp[ByteArray.size_extract];omega
 omega
theorem zD (s:ByteArray)(hs:Str s)(w:World):
  Calls Tryz.prog 260 #[.string s] w λe w'=>e=.returned (.bool (jk s))/\Below w.heap.size w w':=by
 by_cases h:lW s<s.size
 ·obtain ⟨d,hd⟩: ∃d,lW s=d:=⟨_,rfl⟩;have hq:jk s=(cu (s.extract 0 d)&&cu (s.extract (d+1) s.size)):=by rw[jk,if_pos h,hd]
  rw[hd]at h;have HD:=hide hd;have HQ:=hide hq;clear hq hd;have S1:=rz hs 0 d;have S2:=rz hs (d+1) s.size;obtain ⟨p,hp⟩: ∃p,p=s.extract 0 d:=⟨_,rfl⟩;obtain ⟨q,hq⟩: ∃q,q=s.extract (d+1) s.size:=⟨_,rfl⟩;go_enter Tryz.func260,Tryz.ntmps260;go_wp2_with fail;refine (IQ s _ hs d HD.out h).mono ?_;rintro e w1 ⟨rfl,hb1⟩;rw[<-hp]at S1⊢;rw[<-hq]at S2⊢;have HP:Hid (jk s=(cu p&&cu q)):=hide (by rw[hp,hq];exact HQ.out);clear hp hq HD HQ;go_wp2_with fail;refine (ji p S1 _).mono ?_;rintro e w2 ⟨rfl,hb2⟩;have hbb:=aa hb1 hb2;clear hb1 hb2;cases hn:cu p
  ·go_wp2;go_ret;exact ⟨ay (by rw[HP.out,hn];rfl),hbb⟩
  ·go_wp2_with fail;refine (ji q S2 _).mono ?_;rintro e w3 ⟨rfl,hb3⟩;have hb4:=aa hbb hb3;clear hbb hb3;go_wp2;go_ret;exact ⟨ay (by rw[HP.out,hn];rfl),hb4⟩
 ·have hq:jk s=cu s:=by rw[jk,if_neg h]
  have HQ:=hide hq;have HD:=hide h;clear hq h;go_enter Tryz.func260,Tryz.ntmps260;go_wp2_with fail;refine (ET s _ HD.out).mono ?_;rintro e w1 ⟨rfl,hb1⟩;go_wp2_with fail;refine (ji s hs _).mono ?_;rintro e w2 ⟨rfl,hb2⟩;have hbb:=aa hb1 hb2;clear hb1 hb2;cases hn:cu s
  ·go_wp2;go_ret;exact ⟨ay (by rw[HQ.out,hn]),hbb⟩
  ·go_wp2;go_ret;exact ⟨ay (by rw[HQ.out,hn]),hbb⟩
end Go.Proofs.YtopjjlmfilgngaaGreatDoor
