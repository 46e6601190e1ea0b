/-
  Names with a dot, reserved words: strings.Cut at one byte, schema.IsQualified, token.Reserved, and the reference's. strings.Cut at ".", schema.IsQualified and warehouseref5.IsQualified: both return isQual. What the tied rows of chapter 9 share: what the listed variable gives the walks; the arguments' readings; the end of a call that changes nothing below its own blocks.
-/
import Derived.Lib.Strings
import Derived.Lib.Slices
import Derived.Lib.Walk
import Derived.Lib.Bytealg
import Derived.Test.YtggejcekmehocaaGreatDoorTie
import Derived.WalkKit
import Derived.ProofKit
import Derived.OpenShut
import Derived.Below
import Derived.ChangeSame
import Derived.Carry
import Derived.LaidMore
import Derived.Stop.Joined
import Derived.SevenTiedAt
import Derived.Test.YtggejcekmehocaaGreatDoorGad
import Derived.Test.YtggejcekmehocaaGreatDoorGaa
import Derived.Test.YtggejcekmehocaaGreatDoorGae
namespace Go.Proofs.YtggejcekmehocaaGreatDoor
set_option maxHeartbeats 1000000
set_option maxRecDepth 100000
open Go.RowKit
set_option linter.unusedSimpArgs false
set_option linter.unusedVariables false
theorem hasStr_cons (x:ByteArray)(l:List ByteArray)(s:ByteArray):hasStr (x :: l) s=(x.toList==s.toList || hasStr l s):=rfl
def strIx (name:ByteArray):Nat->List ByteArray->Int
 | _,[]=> -1
 |k,x :: l=>if name.toList==x.toList then k else strIx name (k+1) l
theorem strIx_has (name:ByteArray): ∀(l:List ByteArray) (k:Nat),decide (0<=strIx name k l)=hasStr l name
 | [],k=>rfl
 |x :: l,k=>by
  rw[strIx,hasStr_cons,show (x.toList==name.toList)=(name.toList==x.toList) from Bool.beq_comm]
  cases h:(name.toList==x.toList)
  ·simp only[Bool.false_eq_true,if_false,Bool.false_or];exact strIx_has name l (k+1)
  ·simp
theorem strIx_any (w:World)(A:Option Addr)(n c:Nat)(xs:List ByteArray)(hx:In w A n c xs)(name:ByteArray):
  Calls Tryz.prog 163 #[.slice A n c,.string name] w λe w'=>e=.returned (.int .i64 (strIx name 0 xs))/\w=w':=by
 have h63:=hx.le
 go_enter Tryz.func163,Tryz.ntmps163
 go_wp2
 go_loop [8] (λi=> ∃k:Nat,k<=n/\i=.int .i64 k/\strIx name 0 xs=strIx name k (xs.drop k)) (λi=>n-(intOf i).toNat)
 case atStart=>exact ⟨0,Nat.zero_le _,rfl,rfl⟩
 case round=>
  obtain ⟨k,hk,rfl,heq⟩:=hrel
  have HE:=hide heq
  clear heq
  by_cases hlt':k<n
  ·obtain ⟨b,off,x,rfl,hB,HX,e0,e1⟩:=hx.str hlt'
   cases hz:(name.toList==x.toList)
   ·go_wp2
    go_round
    case rel=>exact ⟨k+1,by omega,by go_num,by rw[HE.out,HX.out,strIx,if_neg (by simp[hz])]⟩
    case measure=>simp[intOf];omega
   ·go_wp2
    go_ret
    exact ⟨ret_int (by rw[HE.out,HX.out,strIx,if_pos hz]),rfl⟩
  ·go_wp2
   go_ret
   exact ⟨ret_int (by rw[HE.out,drop_end hx.len (by omega),strIx]),rfl⟩
theorem hasStr_any (w:World)(A:Option Addr)(n c:Nat)(xs:List ByteArray)(hx:In w A n c xs)(name:ByteArray):
  Calls Tryz.prog 126 #[.slice A n c,.string name] w λe w'=>e=.returned (.bool (hasStr xs name))/\w=w':=by
 go_enter Tryz.func126,Tryz.ntmps126
 have HS:=hide (strIx_has name xs 0)
 go_wp2_with (go_at_call 163;refine (strIx_any _ _ _ _ xs hx name).mono ?_;rintro e w' ⟨rfl,rfl⟩)
 go_ret
 exact ⟨ret_bool HS.out,rfl⟩
def Words (w:World):Prop:= ∃A n c,w.cell? ⟨0,0,none⟩=some (.slice A n c)/\In w A n c words/\0<w.heap.size
theorem Words.below {w w':World}(h:Words w)(hb:Below w.heap.size w w'):Words w':=by
 obtain ⟨A,n,c,h1,h2,h3⟩:=h
 exact ⟨A,n,c,bat hb h3 h1,h2.below hb,Nat.lt_of_lt_of_le h3 hb.size⟩
theorem reserved_any (s:ByteArray)(w:World)(hw:Words w):Calls Tryz.prog 251 #[.string s] w λe w'=>e=.returned (.bool (isRes s))/\w=w':=by
 obtain ⟨A,n,c,h1,h2,h3⟩:=hw
 go_enter Tryz.func251,Tryz.ntmps251
 go_wp2_with (go_at_call 126;refine (hasStr_any _ _ _ _ words h2 s).mono ?_;rintro e w' ⟨rfl,rfl⟩)
 go_ret
 exact ⟨rfl,rfl⟩
theorem dot_index: ∀l:List UInt8,Lib.indexByte l 46=if dotFrom l<l.length then (dotFrom l:Int) else -1
 | []=>rfl
 |c :: l=>by
  have ih:=dot_index l
  rw[Lib.indexByte,dotFrom]
  by_cases h:c=46
  ·subst h;simp
  ·have hb:(c==46)=false:=by simpa using h
   rw[hb,ih,if_neg h]
   by_cases hl:dotFrom l<l.length
   ·have e:(((dotFrom l:Nat):Int)== -1)=false:=by simp
    simp[hl,e]
   ·simp[hl]
theorem dotAt_eq (s:ByteArray):dotAt s=dotFrom s.data.toList:=by rw[dotAt,ByteArray.toList_eq]
theorem dot_len (s:ByteArray):s.data.toList.length=s.size:=rfl
theorem lite_indexByte (s:ByteArray)(c:Int)(w:World):
  Calls Tryz.prog 260 #[.string s,.int .u8 c] w λe w'=>e=.returned (.int .i64 (Lib.indexByte s.data.toList c.toNat.toUInt8))/\w=w':=by
 go_enter Tryz.func260,Tryz.ntmps260
 go_wp2
 rw[run_callFunc_extern Tryz.func264 (by kernel_rfl) (by kernel_rfl) (by kernel_rfl) (e:=Extern.BytealgIndexByte.indexByte) (by kernel_rfl),Lib.run_indexByteString]
 simp only[Result.andThen]
 rw[Oper.upon_value]
 go_wp2
 go_ret
 exact ⟨rfl,rfl⟩
theorem lite_index (s:ByteArray)(w:World):
  Calls Tryz.prog 259 #[.string s,.string ⟨#[46]⟩] w λe w'=>e=.returned (.int .i64 (Lib.indexByte s.data.toList 46))/\w=w':=by
 go_enter Tryz.func259,Tryz.ntmps259
 go_wp2_with (go_at_call 260;refine (lite_indexByte _ _ _).mono ?_;rintro e w' ⟨rfl,rfl⟩)
 ·have h:([46]==s.toList)=true:=by assumption
  go_ret
  refine ⟨ret_int ?_,rfl⟩
  rw[ByteArray.toList_eq]at h
  rw[<-eq_of_beq h]
  rfl
 ·go_ret
  exact ⟨ret_int rfl,rfl⟩
theorem lite_cut_miss (s:ByteArray)(w:World)(h:¬dotAt s<s.size):
  Calls Tryz.prog 258 #[.string s,.string ⟨#[46]⟩] w λe w'=>e=.returned (.tuple #[.string s,.string ⟨#[]⟩,.bool false])/\Below w.heap.size w w':=by
 have hix:Lib.indexByte s.data.toList 46= -1:=by rw[dot_index,dot_len,<-dotAt_eq,if_neg h]
 have HX:=hide hix
 clear hix
 go_enter Tryz.func258,Tryz.ntmps258
 go_wp2_with (go_at_call 259;refine (lite_index _ _).mono ?_;rintro e w' ⟨rfl,rfl⟩;rw[HX.out])
 go_ret3
 exact ⟨rfl,Below.refl _ _⟩
theorem lite_cut_hit (s:ByteArray)(w:World)(hs:Str s)(d:Nat)(hd:dotAt s=d)(h:d<s.size):
  Calls Tryz.prog 258 #[.string s,.string ⟨#[46]⟩] w λe w'=>e=.returned (.tuple #[.string (s.extract 0 d),.string (s.extract (d+1) s.size),.bool true])/\Below w.heap.size w w':=by
 have hix:Lib.indexByte s.data.toList 46=(d:Int):=by rw[dot_index,dot_len,<-dotAt_eq,hd,if_pos h]
 have HX:=hide hix
 clear hix hd
 unfold Str at hs
 have c1:(0:Int)<= ↑d:=by omega
 have c2:(↑d:Int)<= ↑s.size:=by omega
 have c3:(0:Int)<= ↑d+1:=by omega
 have c4:(↑d+1:Int)<= ↑s.size:=by omega
 have c5:((d:Int)+1).toNat=d+1:=by omega
 have c6:IntKind.i64.wrap ((d:Int)+1)=(d:Int)+1:=IntWalk.i64_in _ (by omega)
 go_enter Tryz.func258,Tryz.ntmps258
 go_wp2_with (go_at_call 259;refine (lite_index _ _).mono ?_;rintro e w' ⟨rfl,rfl⟩;rw[HX.out])
 go_quiet (fail)
 go_wp2
 go_ret3
 exact ⟨rfl,below_drewN (Below.refl _ _) _⟩
theorem cut_miss (s:ByteArray)(w:World)(h:¬dotAt s<s.size):
  Calls Tryz.prog 256 #[.string s,.string ⟨#[46]⟩] w λe w'=>e=.returned (.tuple #[.string s,.string ⟨#[]⟩,.bool false])/\Below w.heap.size w w':=by
 have H:=hide h
 clear h
 go_enter Tryz.func256,Tryz.ntmps256
 go_wp2_with (go_at_call 258;refine (lite_cut_miss s _ H.out).mono ?_;rintro e w1 ⟨rfl,hb1⟩)
 go_ret3
 exact ⟨rfl,hb1⟩
theorem cut_hit (s:ByteArray)(w:World)(hs:Str s)(d:Nat)(hd:dotAt s=d)(h:d<s.size):
  Calls Tryz.prog 256 #[.string s,.string ⟨#[46]⟩] w λe w'=>e=.returned (.tuple #[.string (s.extract 0 d),.string (s.extract (d+1) s.size),.bool true])/\Below w.heap.size w w':=by
 have H:=hide hd
 clear hd
 go_enter Tryz.func256,Tryz.ntmps256
 go_wp2_with (go_at_call 258;refine (lite_cut_hit s _ hs d H.out h).mono ?_;rintro e w1 ⟨rfl,hb1⟩)
 go_ret3
 exact ⟨rfl,hb1⟩
theorem str_extract {s:ByteArray}(hs:Str s)(a b:Nat):Str (s.extract a b):=by
 unfold Str at hs⊢
 have:(s.extract a b).size<=s.size:=by simp[ByteArray.size_extract];omega
 omega
theorem qual_any (s:ByteArray)(hs:Str s)(w:World):
  Calls Tryz.prog 252 #[.string s] w λe w'=>e=.returned (.bool (isQual s))/\Below w.heap.size w w':=by
 by_cases h:dotAt s<s.size
 ·obtain ⟨d,hd⟩: ∃d,dotAt s=d:=⟨_,rfl⟩
  have hq:isQual s=(isName (s.extract 0 d)&&isName (s.extract (d+1) s.size)):=by rw[isQual,if_pos h,hd]
  rw[hd]at h
  have HD:=hide hd
  have HQ:=hide hq
  clear hq hd
  have S1:=str_extract hs 0 d
  have S2:=str_extract hs (d+1) s.size
  obtain ⟨p,hp⟩: ∃p,p=s.extract 0 d:=⟨_,rfl⟩
  obtain ⟨q,hq⟩: ∃q,q=s.extract (d+1) s.size:=⟨_,rfl⟩
  go_enter Tryz.func252,Tryz.ntmps252
  go_wp2_with fail
  refine (cut_hit s _ hs d HD.out h).mono ?_
  rintro e w1 ⟨rfl,hb1⟩
  rw[<-hp]at S1⊢
  rw[<-hq]at S2⊢
  have HP:Hid (isQual s=(isName p&&isName q)):=hide (by rw[hp,hq];exact HQ.out)
  clear hp hq HD HQ
  go_wp2_with fail
  refine (isName_any p S1 _).mono ?_
  rintro e w2 ⟨rfl,hb2⟩
  have hbb:=below_trans hb1 hb2
  clear hb1 hb2
  cases hn:isName p
  ·go_wp2
   go_ret
   exact ⟨ret_bool (by rw[HP.out,hn];rfl),hbb⟩
  ·go_wp2_with fail
   refine (isName_any q S2 _).mono ?_
   rintro e w3 ⟨rfl,hb3⟩
   have hb4:=below_trans hbb hb3
   clear hbb hb3
   go_wp2
   go_ret
   exact ⟨ret_bool (by rw[HP.out,hn];rfl),hb4⟩
 ·have hq:isQual s=isName s:=by rw[isQual,if_neg h]
  have HQ:=hide hq
  have HD:=hide h
  clear hq h
  go_enter Tryz.func252,Tryz.ntmps252
  go_wp2_with fail
  refine (cut_miss s _ HD.out).mono ?_
  rintro e w1 ⟨rfl,hb1⟩
  go_wp2_with fail
  refine (isName_any s hs _).mono ?_
  rintro e w2 ⟨rfl,hb2⟩
  have hbb:=below_trans hb1 hb2
  clear hb1 hb2
  cases hn:isName s
  ·go_wp2
   go_ret
   exact ⟨ret_bool (by rw[HQ.out,hn]),hbb⟩
  ·go_wp2
   go_ret
   exact ⟨ret_bool (by rw[HQ.out,hn]),hbb⟩
open Go.ChangeShapes Go.WideShapes Go.ChangeAt Go.RowKit Go.WideElems
section
variable {H:Type}{enc:TypeId×Value->H}{P:Program}
theorem post_of_under {f:Func}{s:ChangeSpec}{apart fresh handsOn again:Bool}{W W':World}{args:Array Value}{v:Value}{ds gs:List (DataW H)}{before pa pv:List MemPlace}(hW:DataW.Whole enc P f.params.toList s.vars apart W args.toList ds gs before)(hres: ∀(b:Nat) (sp:Nat->Bool) (hd:Bool),DataW.TrodAll enc P W' b sp hd f.resultTypes.toList (v.resultList f.resultTypes.size) (s.fn H (ds++gs)).results [])(hargs: ∀sp:Nat->Bool,(∀p∈before,sp p.block=true)->DataW.TrodAll enc P W' 0 sp true f.params.toList args.toList (s.fn H (ds++gs)).args pa)(hvars: ∀sp:Nat->Bool,(∀p∈before,sp p.block=true)->DataW.TrodVars enc P W' sp s.vars (s.fn H (ds++gs)).vars pv)(hps:before=pa++pv)(hb:Below W.heap.size W W')(hok: ∀(j:Nat) (t:TypeId) (r:Value),f.resultTypes[j]?=some t->(v.resultList f.resultTypes.size)[j]?=some r->Value.okWide P W' .any 0 t r):
  s.post enc P f apart fresh handsOn again W args v W':=by
 have hlt: ∀p∈before,p.block<W.heap.size:=λp hp=>hW.lt p hp
 have hold: ∀p∈before,(λb=>decide (b<W.heap.size)) p.block=true:=λp hp=>by simpa using hlt p hp
 refine ⟨ds,gs,before,[],pa,pv,hW,hres _ _ _,hargs _ hold,hvars _ hold,World.keptBut_mono (λp hp=>⟨hp,?_⟩) (hb.frame (· ∈before)),λ_=>?_⟩
 ·rw[hps,List.mem_append]at hp
  exact Or.inr hp
 ·obtain ⟨_,_,_,_,_,hz,hn⟩:=hW
  refine ⟨hok,_,_,([]++pa)++pv,⟨[]++pa,pv,trodAll_append (hargs _ (λ_ _=>rfl)) (hres _ _ _),hvars _ (λ_ _=>rfl),rfl,?_,?_⟩,?_⟩
  ·intro b off hp
   have hin:MemPlace.cell b off∈before:=by rw[hps];simpa using hp
   rw[hb.frozen (hlt _ hin)]
   exact hz b off hin
  ·intro ha
   have:=hn ha
   rw[hps]at this
   simpa using this
  ·intro p hp _
   rw[hps]
   simpa using hp
end
abbrev laidW:List (String×DataW Unit):=[("warehouse/token.words",Rows.laid_warehouse_token_words)]
theorem gWords:Tryz.prog.globalNamed "warehouse/token.words" =some 0:=by kernel_rfl
theorem tWords:(Tryz.prog.globals[0]?).map (·.type)=some 22:=by kernel_rfl
theorem door_met (os:Os)(args:Array Value):laidMetH Tryz.prog laidW ((World.doorLaid Tryz.prog 14 os).forCall (λ_ _=>0) ⟨#[],args,[]⟩).memory:=
 laidMetH_of_parts3 (fuel:=8) (laidMet_of_run' 8 (by kernel_rfl) (by kernel_rfl)) (by kernel_rfl) (by kernel_rfl)
theorem bytes_ofT {s:ByteArray}{l:List UInt8}(h:s.data.toList=l):s=⟨⟨l⟩⟩:=by
 obtain ⟨⟨d⟩⟩:=s
 simp only at h
 rw[h]
theorem words_of_laid {W:World}(h:laidMetH Tryz.prog laidW W):Words W:=by
 rw[MakeChecks.laidMetH_plain _ _ _ (by kernel_rfl)]at h
 obtain ⟨ps,⟨g0,t0,cs0,f0,p0,q0,hg0,ht0,hv0,hd0,_,_⟩,_,_⟩:=h
 obtain rfl:=Option.some.inj (gWords.symm.trans hg0)
 obtain rfl:=Option.some.inj (tWords.symm.trans ht0)
 rcases Go.Deep.open_slice Tryz.underlying22 hd0 with ⟨_,hx⟩|⟨a,len,cap,m,n,D,Pl,hcs,hb,hl,hm,hmm,hx,hi⟩
 ·simp[Rows.laid_warehouse_token_words]at hx
 have hcell:W.cell? ⟨0,0,none⟩=some (.slice (some a) len cap):=by
  have:=World.var?_cell hg0 hv0 0
  rw[Array.eq_one_of_toList hcs]at this
  simpa using this
 have hD:=(Prod.mk.inj hx).1
 simp only[Rows.laid_warehouse_token_words,DataW.slice.injEq]at hD
 have hD1:=hD.1
 have hlen:len=8:=by have:=congrArg List.length hD1;simpa using this.symm
 subst hlen
 have c1:Tryz.prog.cellsOf 9=1:=by kernel_rfl
 have hmax:cap<=9223372036854775807:=by unfold maxLen at hm;omega
 have hm8:8<=m:=by rw[hmm];split <;> omega
 have hS: ∀i,i<8-> ∃s:ByteArray,W.cell? (a.add i)=some (.string s)/\D i=.lit (.string s.data.toList):=λi hi8=>by
  obtain ⟨cs',h1,h2⟩:=hi i (by omega)
  obtain ⟨s,rfl,e2,_⟩:=DataW.trod_string Tryz.underlying9 h2
  obtain ⟨_,_,hcell⟩:=World.cells?_some h1
  have h0:=hcell 0 (by rw[c1];omega)
  rw[c1,Nat.mul_one]at h0
  refine ⟨s,?_,(Prod.mk.inj e2).1⟩
  have:(a.add i).add 0=a.add i:=by unfold Addr.add;split <;> simp_all
  rw[this]at h0
  simpa using h0
 obtain ⟨f,hf⟩:=Go.Deep.choose_lt hS
 have hsp:a.spot=none:=by
  have:=World.cell?_spot (hf 0 (by omega)).1
  simpa[Addr.add] using this
 obtain ⟨b,off,spot⟩:=a
 obtain rfl:spot=none:=hsp
 have hblk:b<W.heap.size:=by
  have:=lt_of_cell (hf 0 (by omega)).1
  simpa[Addr.add] using this
 have hgl:0<W.heap.size:=lt_of_cell hcell
 have hw: ∀i (h:i<8),f i=words[i]'(by simpa[words] using h):=by
  have e:=hD1
  simp only[List.range,List.range.loop,List.map_cons,List.map_nil,List.cons.injEq]at e
  obtain ⟨e0,e1,e2,e3,e4,e5,e6,e7,_⟩:=e
  intro i h
  have:i=0\/i=1\/i=2\/i=3\/i=4\/i=5\/i=6\/i=7:=by omega
  rcases this with rfl|rfl|rfl|rfl|rfl|rfl|rfl|rfl
  ·have q:=(hf 0 (by omega)).2;rw[<-e0]at q;simp at q;exact bytes_ofT q.symm
  ·have q:=(hf 1 (by omega)).2;rw[<-e1]at q;simp at q;exact bytes_ofT q.symm
  ·have q:=(hf 2 (by omega)).2;rw[<-e2]at q;simp at q;exact bytes_ofT q.symm
  ·have q:=(hf 3 (by omega)).2;rw[<-e3]at q;simp at q;exact bytes_ofT q.symm
  ·have q:=(hf 4 (by omega)).2;rw[<-e4]at q;simp at q;exact bytes_ofT q.symm
  ·have q:=(hf 5 (by omega)).2;rw[<-e5]at q;simp at q;exact bytes_ofT q.symm
  ·have q:=(hf 6 (by omega)).2;rw[<-e6]at q;simp at q;exact bytes_ofT q.symm
  ·have q:=(hf 7 (by omega)).2;rw[<-e7]at q;simp at q;exact bytes_ofT q.symm
 refine ⟨some ⟨b,off,none⟩,8,cap,hcell,⟨rfl,hl,hmax,(λh=>by cases h),λ_=>⟨b,off,rfl,hblk,λi hi'=>?_⟩⟩,hgl⟩
 have hi8:i<8:=hi'
 refine ⟨[.string (words[i]'hi')],⟨rfl,?_⟩,λj hj=>?_⟩
 ·have:i=0\/i=1\/i=2\/i=3\/i=4\/i=5\/i=6\/i=7:=by omega
  rcases this with rfl|rfl|rfl|rfl|rfl|rfl|rfl|rfl <;> simp[words,ByteArray.size]
 ·obtain rfl:j=0:=by simpa using hj
  have h1:=(hf i hi8).1
  rw[hw i hi8,add_at]at h1
  show W.cell? ⟨b,off+i*1+0,none⟩=_
  rw[show off+i*1+0=off+i by omega]
  exact h1
theorem opens_ints:Opens Tryz.prog 33 (List Int):=opens_slice Tryz.underlying33 (by kernel_rfl) (by decide) (opens_int Tryz.underlying3)
theorem own:ownKnob Tryz.prog.godebug=none:=by kernel_rfl
theorem in_of_arg {α:Type}[Rep α]{t:TypeId}(hop:Opens Tryz.prog t (List α)){H:Type}{enc:TypeId×Value->H}{W:World}{A:Option Addr}{n c:Nat}{d:DataW H}{ps:List MemPlace}(h:DataW.Trod enc Tryz.prog W 0 (λ_=>true) true t (.slice A n c) d ps): ∃xs:List α,In W A n c xs:=by
 obtain ⟨fu,hf⟩:=h
 obtain ⟨xs,A',n',c',hl,hs⟩:=hop H enc W _ _ _ _ _ hf
 have hl':[Value.slice A n c]=[Value.slice A' n' c']:=hl
 injection hl' with hl' _
 injection hl' with e1 e2 e3
 subst e1 e2 e3
 exact ⟨xs,hs⟩
end Go.Proofs.YtggejcekmehocaaGreatDoor
