/-
  Names with a dot, reserved words: strings.Cut at one byte, schema.IsQualified, token.Reserved, and the reference's. strings.Cut at ".", schema.IsQualified and warehouseref5.IsQualified: both return isQual.
-/
import Derived.Lib.Slices
import Derived.Lib.Walk
import Derived.Lib.Bytealg
import Derived.Test.YthnelebakkggjaaGreatDoorGad
namespace Go.Proofs.YthnelebakkggjaaGreatDoor
set_option maxHeartbeats 1000000
set_option maxRecDepth 100000
open Go.RowKit
set_option linter.unusedSimpArgs false
set_option linter.unusedVariables false
theorem tq (x:ByteArray)(l:List ByteArray)(s:ByteArray):mD (x::l) s=(x.toList==s.toList || mD l s):=rfl
theorem BO (w:World)(A:Option Addr)(n c:Nat)(xs:List ByteArray)(d:In w A n c xs)(name:ByteArray):
  Calls Tryz.prog 138 #[.slice A n c,.string name] w λe w'=>e=.returned (.bool (mD xs name))/\w=w':=by
 have p:=d.le;go_enter Tryz.func138,Tryz.ntmps138;go_wp2
 go_loop [5] (λi=> ∃k:Nat,k<=n/\i=.int .i64 k/\mD xs name=mD (xs.drop k) name) (λi=>n-(intOf i).toNat)
 case atStart=>exact⟨0,Nat.zero_le _,rfl,rfl⟩
 case round=>
  obtain⟨k,r,rfl,g⟩:=hrel;have a:=Hm g;clear g;by_cases j:k<n
  ·obtain⟨b,off,x,rfl,q,f,l,m⟩:=d.str j;cases h:(x.toList==name.toList)
   ·go_wp2
    go_round
    case rel=>exact⟨k+1,Ho,by go_num,by rw[a.o,f.o,tq,h,Bool.false_or]⟩
    case measure=>simp[intOf];omega
   ·go_wp2;go_ret;exact⟨eU (by rw[a.o,f.o,tq,h,Bool.true_or]),rfl⟩
  ·go_wp2;go_ret;exact⟨eU (by rw[a.o,fG d.len Ho];rfl),rfl⟩
def vZ (name:ByteArray):Nat->List ByteArray->Int
 | _,[]=> -1
 |k,x::l=>if name.toList==x.toList then k else vZ name (k+1) l
theorem Bn (name:ByteArray): ∀(l:List ByteArray) (k:Nat),decide (0<=vZ name k l)=mD l name
 | [],k=>rfl
 |x::l,k=>by
  rw[vZ,tq,show(x.toList==name.toList)=(name.toList==x.toList) from Bool.beq_comm];cases h:(name.toList==x.toList)
  ·simp only[Bool.false_eq_true,if_false,Bool.false_or];exact Bn name l (k+1)
  ·simp
theorem Ii (w:World)(A:Option Addr)(n c:Nat)(xs:List ByteArray)(d:In w A n c xs)(name:ByteArray):
  Calls Tryz.prog 121 #[.slice A n c,.string name] w λe w'=>e=.returned (.int .i64 (vZ name 0 xs))/\w=w':=by
 have p:=d.le;go_enter Tryz.func121,Tryz.ntmps121;go_wp2
 go_loop [8] (λi=> ∃k:Nat,k<=n/\i=.int .i64 k/\vZ name 0 xs=vZ name k (xs.drop k)) (λi=>n-(intOf i).toNat)
 case atStart=>exact⟨0,Nat.zero_le _,rfl,rfl⟩
 case round=>
  obtain⟨k,r,rfl,g⟩:=hrel;have a:=Hm g;clear g;by_cases j:k<n
  ·obtain⟨b,off,x,rfl,q,f,l,m⟩:=d.str j;cases h:(name.toList==x.toList)
   ·go_wp2
    go_round
    case rel=>exact⟨k+1,Ho,by go_num,by rw[a.o,f.o,vZ,if_neg (by simp[h])]⟩
    case measure=>simp[intOf];omega
   ·go_wp2;go_ret;exact⟨eQ (by rw[a.o,f.o,vZ,if_pos h]),rfl⟩
  ·go_wp2;go_ret;exact⟨eQ (by rw[a.o,fG d.len Ho,vZ]),rfl⟩
theorem yO (w:World)(A:Option Addr)(n c:Nat)(xs:List ByteArray)(b:In w A n c xs)(name:ByteArray):
  Calls Tryz.prog 87 #[.slice A n c,.string name] w λe w'=>e=.returned (.bool (mD xs name))/\w=w':=by
 go_enter Tryz.func87,Tryz.ntmps87;have a:=Hm (Bn name xs 0);go_wp2_with (go_at_call 121;refine(Ii _ _ _ _ xs b name).mono ?_;rintro e w' ⟨rfl,rfl⟩);go_ret;exact⟨eU a.o,rfl⟩
def Words (w:World):Prop:= ∃A n c,w.cell? ⟨0,0,none⟩=some (.slice A n c)/\In w A n c words/\0<w.heap.size
theorem Words.b {w w':World}(h:Words w)(hb:Below w.heap.size w w'):Words w':=by
 obtain⟨A,n,c,d,e,a⟩:=h;exact⟨A,n,c,eG hb a d,e.b hb,Nat.lt_of_lt_of_le a hb.size⟩
theorem si (s:ByteArray)(w:World)(hw:Words w):Calls Tryz.prog 206 #[.string s] w λe w'=>e=.returned (.bool (qA s))/\w=w':=by
 obtain⟨A,n,c,b,a,d⟩:=hw;go_enter Tryz.func206,Tryz.ntmps206;go_wp2_with (go_at_call 87;refine(yO _ _ _ _ words a s).mono ?_;rintro e w' ⟨rfl,rfl⟩);go_ret;exact⟨rfl,rfl⟩
theorem KW {w:World}{g n:Nat}{xs:List ByteArray}(f:xs.length=n)(b:n<=9223372036854775807)(hs: ∀x∈xs,Str x)(d:g<w.heap.size)(c: ∀i,(h:i<xs.length)->w.cell? ⟨g,i,none⟩=some (.string xs[i])):In w (some ⟨g,0,none⟩) n n xs:=
 ⟨f,Nat.le_refl _,b,(λh=>by cases h),λ_=>⟨g,0,rfl,d,λi hi=>⟨_,⟨rfl,hs _ (List.getElem_mem _)⟩,λj a=>by
  have e:j=0:=by simp at a;exact a
  subst e;have:=c i hi;simpa[Rep.size] using this⟩⟩⟩
theorem Im: ∀x∈words,Str x:=by intro x a;simp only[words,List.mem_cons,List.mem_nil_iff,or_false]at a;rcases a with rfl|rfl|rfl|rfl|rfl|rfl|rfl|rfl<;>(unfold Str;simp[ByteArray.size])
theorem Bz: ∀x∈sO,Str x:=by intro x a;simp only[sO,List.mem_cons,List.mem_nil_iff,or_false]at a;rcases a with rfl|rfl|rfl|rfl|rfl<;>(unfold Str;simp[ByteArray.size])
def strCells (l:List ByteArray):Array Value:=(l.map Value.string).toArray
theorem xA (w:World)(xs:List ByteArray)(ty:TypeId)(hs: ∀x∈xs,Str x)(h:xs.length<=9223372036854775807):In (w.alloc (.cells (strCells xs) ty)) (some ⟨w.heap.size,0,none⟩) xs.length xs.length xs:=
 KW rfl h hs II λi hi=>by
  rw[cell_of_row _ _ _ _ _ _ (heap_alloc_new w _)];simp[strCells,hi]
theorem vV (s:ByteArray)(w:World):Calls Tryz.prog 196 #[.string s] w λe w'=>e=.returned (.bool (qA s))/\Below w.heap.size w w':=by
 go_enter Tryz.func196,Tryz.ntmps196;go_wp2_with (go_at_call 138;refine(BO _ _ _ _ words (xA w words 9 Im (by decide)) s).mono ?_;rintro e w' ⟨rfl,rfl⟩);go_ret;exact⟨rfl,eB⟩
theorem Cv (s:ByteArray)(w:World):Calls Tryz.prog 183 #[.string s] w λe w'=>e=.returned (.bool (qy s))/\Below w.heap.size w w':=by
 go_enter Tryz.func183,Tryz.ntmps183;go_wp2_with (go_at_call 138;refine(BO _ _ _ _ sO (xA w sO 9 Bz (by decide)) s).mono ?_;rintro e w' ⟨rfl,rfl⟩);go_ret;exact⟨rfl,eB⟩
theorem wP: ∀l:List UInt8,Lib.indexByte l 46=if jr l<l.length then(jr l:Int) else -1
 | []=>rfl
 |c::l=>by
  have b:=wP l;rw[Lib.indexByte,jr];by_cases h:c=46
  ·subst h;simp
  ·have hb:(c==46)=false:=by simpa using h
   rw[hb,b,if_neg h];by_cases a:jr l<l.length
   ·have e:(((jr l:Nat):Int)== -1)=false:=by simp
    simp[a,e]
   ·simp[a]
theorem vH (s:ByteArray):sJ s=jr s.data.toList:=by rw[sJ,ByteArray.toList_eq]
theorem FZ (s:ByteArray):s.data.toList.length=s.size:=rfl
theorem yX (s:ByteArray)(c:Int)(w:World):
  Calls Tryz.prog 216 #[.string s,.int .u8 c] w λe w'=>e=.returned (.int .i64 (Lib.indexByte s.data.toList c.toNat.toUInt8))/\w=w':=by
 go_enter Tryz.func216,Tryz.ntmps216;go_wp2;rw[run_callFunc_extern Tryz.func220 (by kernel_rfl) (by kernel_rfl) (by kernel_rfl) (e:=Extern.BytealgIndexByte.indexByte) (by kernel_rfl),Lib.run_indexByteString];simp only[Result.andThen];rw[Oper.upon_value];go_wp2;go_ret;exact⟨rfl,rfl⟩
theorem yU (s:ByteArray)(w:World):
  Calls Tryz.prog 215 #[.string s,.string ⟨#[46]⟩] w λe w'=>e=.returned (.int .i64 (Lib.indexByte s.data.toList 46))/\w=w':=by
 go_enter Tryz.func215,Tryz.ntmps215;go_wp2_with (go_at_call 216;refine(yX _ _ _).mono ?_;rintro e w' ⟨rfl,rfl⟩)
 ·have h:([46]==s.toList)=true:=by assumption
  go_ret;refine⟨eQ ?_,rfl⟩;rw[ByteArray.toList_eq]at h;rw[<-eq_of_beq h];rfl
 ·go_ret;exact⟨eQ rfl,rfl⟩
theorem zY (s:ByteArray)(w:World)(h:¬sJ s<s.size):
  Calls Tryz.prog 214 #[.string s,.string ⟨#[46]⟩] w λe w'=>e=.returned (.tuple #[.string s,.string ⟨#[]⟩,.bool false])/\Below w.heap.size w w':=by
 have a:Lib.indexByte s.data.toList 46= -1:=by rw[wP,FZ,<-vH,if_neg h]
 have b:=Hm a;clear a;go_enter Tryz.func214,Tryz.ntmps214;go_wp2_with (go_at_call 215;refine(yU _ _).mono ?_;rintro e w' ⟨rfl,rfl⟩;rw[b.o])
 go_ret3
 exact⟨rfl,IJ⟩
theorem BV (s:ByteArray)(w:World)(hs:Str s)(d:Nat)(hd:sJ s=d)(h:d<s.size):
  Calls Tryz.prog 214 #[.string s,.string ⟨#[46]⟩] w λe w'=>e=.returned (.tuple #[.string (s.extract 0 d),.string (s.extract (d+1) s.size),.bool true])/\Below w.heap.size w w':=by
 have a:Lib.indexByte s.data.toList 46=(d:Int):=by rw[wP,FZ,<-vH,hd,if_pos h]
 have b:=Hm a;clear a hd;unfold Str at hs;have c1:(0:Int)<= ↑d:=by omega
 have c2:(↑d:Int)<= ↑s.size:=by omega
 have c3:(0:Int)<= ↑d+1:=by omega
 have c4:(↑d+1:Int)<= ↑s.size:=by omega
 have c:((d:Int)+1).toNat=d+1:=by omega
 have f:IntKind.i64.wrap ((d:Int)+1)=(d:Int)+1:=IntWalk.i64_in _ Ho;go_enter Tryz.func214,Tryz.ntmps214;go_wp2_with (go_at_call 215;refine(yU _ _).mono ?_;rintro e w' ⟨rfl,rfl⟩;rw[b.o]);go_quiet (fail);go_wp2
 go_ret3
 exact⟨rfl,below_drewN IJ _⟩
theorem IL (s:ByteArray)(w:World)(h:¬sJ s<s.size):
  Calls Tryz.prog 212 #[.string s,.string ⟨#[46]⟩] w λe w'=>e=.returned (.tuple #[.string s,.string ⟨#[]⟩,.bool false])/\Below w.heap.size w w':=by
 have H:=Hm h;clear h;go_enter Tryz.func212,Tryz.ntmps212;go_wp2_with (go_at_call 214;refine(zY s _ H.o).mono ?_;rintro e b ⟨rfl,a⟩)
 go_ret3
 exact⟨rfl,a⟩
theorem Kb (s:ByteArray)(w:World)(hs:Str s)(d:Nat)(hd:sJ s=d)(h:d<s.size):
  Calls Tryz.prog 212 #[.string s,.string ⟨#[46]⟩] w λe w'=>e=.returned (.tuple #[.string (s.extract 0 d),.string (s.extract (d+1) s.size),.bool true])/\Below w.heap.size w w':=by
 have H:=Hm hd;clear hd;go_enter Tryz.func212,Tryz.ntmps212;go_wp2_with (go_at_call 214;refine(BV s _ hs d H.o h).mono ?_;rintro e b ⟨rfl,a⟩)
 go_ret3
 exact⟨rfl,a⟩
theorem qG {s:ByteArray}(hs:Str s)(a b:Nat):Str (s.extract a b):=by
 unfold Str at hs⊢;have:(s.extract a b).size<=s.size:=by simp[ByteArray.size_extract];omega
 omega
theorem DL (s:ByteArray)(hs:Str s)(w:World):
  Calls Tryz.prog 207 #[.string s] w λe w'=>e=.returned (.bool (kP s))/\Below w.heap.size w w':=by
 by_cases h:sJ s<s.size
 ·obtain⟨d,hd⟩: ∃d,sJ s=d:=⟨_,rfl⟩;have a:kP s=(ik (s.extract 0 d)&&ik (s.extract (d+1) s.size)):=by rw[kP,if_pos h,hd]
  rw[hd]at h;have j:=Hm hd;have c:=Hm a;clear a hd;have m:=qG hs 0 d;have n:=qG hs (d+1) s.size;obtain⟨p,k⟩: ∃p,p=s.extract 0 d:=⟨_,rfl⟩;obtain⟨q,a⟩: ∃q,q=s.extract (d+1) s.size:=⟨_,rfl⟩;go_enter Tryz.func207,Tryz.ntmps207;go_wp2_with fail;refine(Kb s _ hs d j.o h).mono ?_;rintro e u ⟨rfl,f⟩;rw[<-k]at m⊢;rw[<-a]at n⊢;have l:Hl (kP s=(ik p&&ik q)):=Hm (by rw[k,a];exact c.o);clear k a j c;go_wp2_with fail;refine(qf p m _).mono ?_;rintro e v ⟨rfl,g⟩;have b:=eu f g;clear f g;cases i:ik p
  ·go_wp2;go_ret;exact⟨eU (by rw[l.o,i];rfl),b⟩
  ·go_wp2_with fail;refine(qf q n _).mono ?_;rintro e x ⟨rfl,r⟩;have t:=eu b r;clear b r;go_wp2;go_ret;exact⟨eU (by rw[l.o,i];rfl),t⟩
 ·have a:kP s=ik s:=by rw[kP,if_neg h]
  have c:=Hm a;have j:=Hm h;clear a h;go_enter Tryz.func207,Tryz.ntmps207;go_wp2_with fail;refine(IL s _ j.o).mono ?_;rintro e u ⟨rfl,f⟩;go_wp2_with fail;refine(qf s hs _).mono ?_;rintro e v ⟨rfl,g⟩;have b:=eu f g;clear f g;cases i:ik s
  ·go_wp2;go_ret;exact⟨eU (by rw[c.o,i]),b⟩
  ·go_wp2;go_ret;exact⟨eU (by rw[c.o,i]),b⟩
theorem CB {s:ByteArray}{k:Nat}(c:k<s.size)(b:jG s k≠46)(h:jr s.data.toList=k+jr (s.data.toList.drop k)):jr s.data.toList=(k+1)+jr (s.data.toList.drop (k+1)):=by
 have a:k<s.data.toList.length:=c;rw[h,List.drop_eq_getElem_cons a,jr,if_neg]
 ·omega
 ·intro e;apply b;rw[jG,List.getD,List.getElem?_eq_getElem a];simp only[Option.getD_some,e];rfl
theorem BH {s:ByteArray}{k:Nat}(c:k<s.size)(a:jG s k=46)(h:jr s.data.toList=k+jr (s.data.toList.drop k)):jr s.data.toList=k:=by
 have b:k<s.data.toList.length:=c;rw[h,List.drop_eq_getElem_cons b,jr,if_pos]
 ·rfl
 ·rw[jG,List.getD,List.getElem?_eq_getElem b]at a;simp only[Option.getD_some]at a;exact UInt8.toNat_inj.1 a
theorem Jz (s:ByteArray)(hs:Str s)(w:World):
  Calls Tryz.prog 197 #[.string s] w λe w'=>e=.returned (.bool (kP s))/\w=w':=by
 have g:=hs;unfold Str at hs;go_enter Tryz.func197,Tryz.ntmps197;go_wp2
 go_loop [3] (λi=> ∃k:Nat,k<=s.size/\i=.int .i64 k/\jr s.data.toList=k+jr (s.data.toList.drop k)) (λi=>s.size-(intOf i).toNat)
 case atStart=>exact⟨0,Nat.zero_le _,rfl,by simp⟩
 case round=>
  obtain⟨k,q,rfl,j⟩:=hrel;have f:=Hm j;clear j;by_cases a:k<s.size
  ·have d:=qV s k a;cases b:((s[k]'a).toNat==46)
   ·have m:Hl (jr s.data.toList=(k+1)+jr (s.data.toList.drop (k+1))):=Hm (CB a (by rw[d];simpa using b) f.o);have p:(((s[k]'a).toNat:Int)==46)=false:=by simp at b⊢;omega
    clear d b;go_wp2
    go_round
    case rel=>exact⟨k+1,Ho,by go_num,m.o⟩
    case measure=>simp[intOf];omega
   ·have hd:sJ s=k:=by rw[vH];exact BH a (by rw[d];simpa using b) f.o
    have c:Hl (kP s=(ik (s.extract 0 k)&&ik (s.extract (k+1) s.size))):=Hm (by rw[kP,hd,if_pos a]);have p:(((s[k]'a).toNat:Int)==46)=true:=by simp at b⊢;omega
    have h:=qG g 0 k;have n:=qG g (k+1) s.size;have r:(k:Int)+1<=(s.size:Int):=by omega
    have t:((k:Int)+1).toNat=k+1:=by omega
    clear d b hd;cases l:ik (s.extract 0 k)
    ·go_wp2_with (go_at_call 132;refine(kY _ h _).mono ?_;rintro e w' ⟨rfl,rfl⟩);go_ret;exact⟨eU (by rw[c.o,l];rfl),rfl⟩
    ·go_wp2_with fail;refine(kY _ h _).mono ?_;rintro e w' ⟨rfl,rfl⟩;go_wp2_with fail;refine(kY _ n _).mono ?_;rintro e w' ⟨rfl,rfl⟩;go_wp2;go_ret;exact⟨eU (by rw[c.o,l];rfl),rfl⟩
  ·have c:Hl (kP s=ik s):=Hm (by rw[kP,if_neg];rw[vH,f.o];omega);go_wp2_with (go_at_call 132;refine(kY _ g _).mono ?_;rintro e w' ⟨rfl,rfl⟩);go_ret;exact⟨eU c.o.symm,rfl⟩
end Go.Proofs.YthnelebakkggjaaGreatDoor
