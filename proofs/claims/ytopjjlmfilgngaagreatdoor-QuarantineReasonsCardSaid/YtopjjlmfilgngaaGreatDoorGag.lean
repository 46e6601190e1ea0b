/-
  Names with a dot, reserved words: strings.Cut at one byte, schema.IsQualified, token.Reserved, and the reference's. strings.Cut at ".", schema.IsQualified and warehouseref5.IsQualified: both return isQual.
-/
import Derived.Lib.Slices
import Derived.Lib.Walk
import Derived.Lib.Bytealg
import Derived.Test.YtopjjlmfilgngaaGreatDoorGad
namespace Go.Proofs.YtopjjlmfilgngaaGreatDoor
set_option maxHeartbeats 1000000
set_option maxRecDepth 100000
open Go.RowKit
set_option linter.unusedSimpArgs false
set_option linter.unusedVariables false
theorem tQ (x:ByteArray)(l:List ByteArray)(s:ByteArray):mG (x::l) s=(x.toList==s.toList || mG l s):=rfl
theorem CL (w:World)(A:Option Addr)(n c:Nat)(xs:List ByteArray)(d:In w A n c xs)(name:ByteArray):
  Calls Tryz.prog 133 #[.slice A n c,.string name] w λe w'=>e=.returned (.bool (mG xs name))/\w=w':=by
 have p:=d.le;go_enter Tryz.func133,Tryz.ntmps133;go_wp2
 go_loop [5] (λi=> ∃k:Nat,k<=n/\i=.int .i64 k/\mG xs name=mG (xs.drop k) name) (λi=>n-(intOf i).toNat)
 case atStart=>exact⟨0,Nat.zero_le _,rfl,rfl⟩
 case round=>
  obtain⟨k,r,rfl,g⟩:=hrel;have a:=Hm g;clear g;by_cases j:k<n
  ·obtain⟨b,off,x,rfl,q,f,l,m⟩:=d.str j;cases h:(x.toList==name.toList)
   ·go_wp2
    go_round
    case rel=>exact⟨k+1,by omega,by go_num,by rw[a.o,f.o,tQ,h,Bool.false_or]⟩
    case measure=>simp[intOf];omega
   ·go_wp2;go_ret;exact⟨gp (by rw[a.o,f.o,tQ,h,Bool.true_or]),rfl⟩
  ·go_wp2;go_ret;exact⟨gp (by rw[a.o,gG d.len (by omega)];rfl),rfl⟩
def wM (name:ByteArray):Nat->List ByteArray->Int
 | _,[]=> -1
 |k,x::l=>if name.toList==x.toList then k else wM name (k+1) l
theorem Ci (name:ByteArray): ∀(l:List ByteArray) (k:Nat),decide (0<=wM name k l)=mG l name
 | [],k=>rfl
 |x::l,k=>by
  rw[wM,tQ,show(x.toList==name.toList)=(name.toList==x.toList) from Bool.beq_comm];cases h:(name.toList==x.toList)
  ·simp only[Bool.false_eq_true,if_false,Bool.false_or];exact Ci name l (k+1)
  ·simp
theorem JE (w:World)(A:Option Addr)(n c:Nat)(xs:List ByteArray)(d:In w A n c xs)(name:ByteArray):
  Calls Tryz.prog 183 #[.slice A n c,.string name] w λe w'=>e=.returned (.int .i64 (wM name 0 xs))/\w=w':=by
 have p:=d.le;go_enter Tryz.func183,Tryz.ntmps183;go_wp2
 go_loop [8] (λi=> ∃k:Nat,k<=n/\i=.int .i64 k/\wM name 0 xs=wM name k (xs.drop k)) (λi=>n-(intOf i).toNat)
 case atStart=>exact⟨0,Nat.zero_le _,rfl,rfl⟩
 case round=>
  obtain⟨k,r,rfl,g⟩:=hrel;have a:=Hm g;clear g;by_cases j:k<n
  ·obtain⟨b,off,x,rfl,q,f,l,m⟩:=d.str j;cases h:(name.toList==x.toList)
   ·go_wp2
    go_round
    case rel=>exact⟨k+1,by omega,by go_num,by rw[a.o,f.o,wM,if_neg (by simp[h])]⟩
    case measure=>simp[intOf];omega
   ·go_wp2;go_ret;exact⟨fV (by rw[a.o,f.o,wM,if_pos h]),rfl⟩
  ·go_wp2;go_ret;exact⟨fV (by rw[a.o,gG d.len (by omega),wM]),rfl⟩
theorem zf (w:World)(A:Option Addr)(n c:Nat)(xs:List ByteArray)(b:In w A n c xs)(name:ByteArray):
  Calls Tryz.prog 140 #[.slice A n c,.string name] w λe w'=>e=.returned (.bool (mG xs name))/\w=w':=by
 go_enter Tryz.func140,Tryz.ntmps140;have a:=Hm (Ci name xs 0);go_wp2_with (go_at_call 183;refine(JE _ _ _ _ xs b name).mono ?_;rintro e w' ⟨rfl,rfl⟩);go_ret;exact⟨gp a.o,rfl⟩
def Words (w:World):Prop:= ∃A n c,w.cell? ⟨0,0,none⟩=some (.slice A n c)/\In w A n c words/\0<w.heap.size
theorem Words.below {w w':World}(h:Words w)(hb:Below w.heap.size w w'):Words w':=by
 obtain⟨A,n,c,b,d,a⟩:=h;exact⟨A,n,c,fO hb a b,d.below hb,Nat.lt_of_lt_of_le a hb.size⟩
theorem sM (s:ByteArray)(w:World)(hw:Words w):Calls Tryz.prog 259 #[.string s] w λe w'=>e=.returned (.bool (qw s))/\w=w':=by
 obtain⟨A,n,c,b,a,d⟩:=hw;go_enter Tryz.func259,Tryz.ntmps259;go_wp2_with (go_at_call 140;refine(zf _ _ _ _ words a s).mono ?_;rintro e w' ⟨rfl,rfl⟩);go_ret;exact⟨rfl,rfl⟩
theorem Nw {w:World}{g n:Nat}{xs:List ByteArray}(f:xs.length=n)(b:n<=9223372036854775807)(hs: ∀x∈xs,Str x)(d:g<w.heap.size)(c: ∀i,(h:i<xs.length)->w.cell? ⟨g,i,none⟩=some (.string xs[i])):In w (some ⟨g,0,none⟩) n n xs:=
 ⟨f,Nat.le_refl _,b,(λh=>by cases h),λ_=>⟨g,0,rfl,d,λi hi=>⟨_,⟨rfl,hs _ (List.getElem_mem _)⟩,λj a=>by
  have e:j=0:=by simp at a;exact a
  subst e;have:=c i hi;simpa[Rep.size] using this⟩⟩⟩
theorem JN: ∀x∈words,Str x:=by intro x a;simp only[words,List.mem_cons,List.mem_nil_iff,or_false]at a;rcases a with rfl|rfl|rfl|rfl|rfl|rfl|rfl|rfl<;>(unfold Str;simp[ByteArray.size])
theorem Ct: ∀x∈tJ,Str x:=by intro x a;simp only[tJ,List.mem_cons,List.mem_nil_iff,or_false]at a;rcases a with rfl|rfl|rfl|rfl|rfl<;>(unfold Str;simp[ByteArray.size])
def strCells (l:List ByteArray):Array Value:=(l.map Value.string).toArray
theorem xO (w:World)(xs:List ByteArray)(ty:TypeId)(hs: ∀x∈xs,Str x)(h:xs.length<=9223372036854775807):In (w.alloc (.cells (strCells xs) ty)) (some ⟨w.heap.size,0,none⟩) xs.length xs.length xs:=
 Nw rfl h hs (by simp) λi hi=>by
  rw[cell_of_row _ _ _ _ _ _ (heap_alloc_new w _)];simp[strCells,hi]
theorem wJ (s:ByteArray)(w:World):Calls Tryz.prog 221 #[.string s] w λe w'=>e=.returned (.bool (qw s))/\Below w.heap.size w w':=by
 go_enter Tryz.func221,Tryz.ntmps221;go_wp2_with (go_at_call 133;refine(CL _ _ _ _ words (xO w words 9 JN (by decide)) s).mono ?_;rintro e w' ⟨rfl,rfl⟩);go_ret;exact⟨rfl,fI⟩
theorem DK (s:ByteArray)(w:World):Calls Tryz.prog 194 #[.string s] w λe w'=>e=.returned (.bool (qp s))/\Below w.heap.size w w':=by
 go_enter Tryz.func194,Tryz.ntmps194;go_wp2_with (go_at_call 133;refine(CL _ _ _ _ tJ (xO w tJ 9 Ct (by decide)) s).mono ?_;rintro e w' ⟨rfl,rfl⟩);go_ret;exact⟨rfl,fI⟩
theorem xh: ∀l:List UInt8,Lib.indexByte l 46=if jM l<l.length then(jM l:Int) else -1
 | []=>rfl
 |c::l=>by
  have b:=xh l;rw[Lib.indexByte,jM];by_cases h:c=46
  ·subst h;simp
  ·have hb:(c==46)=false:=by simpa using h
   rw[hb,b,if_neg h];by_cases a:jM l<l.length
   ·have e:(((jM l:Nat):Int)== -1)=false:=by simp
    simp[a,e]
   ·simp[a]
theorem wm (s:ByteArray):sZ s=jM s.data.toList:=by rw[sZ,ByteArray.toList_eq]
theorem Hq (s:ByteArray):s.data.toList.length=s.size:=rfl
theorem zn (s:ByteArray)(c:Int)(w:World):
  Calls Tryz.prog 265 #[.string s,.int .u8 c] w λe w'=>e=.returned (.int .i64 (Lib.indexByte s.data.toList c.toNat.toUInt8))/\w=w':=by
 go_enter Tryz.func265,Tryz.ntmps265;go_wp2;rw[run_callFunc_extern Tryz.func269 (by kernel_rfl) (by kernel_rfl) (by kernel_rfl) (e:=Extern.BytealgIndexByte.indexByte) (by kernel_rfl),Lib.run_indexByteString];simp only[Result.andThen];rw[Oper.upon_value];go_wp2;go_ret;exact⟨rfl,rfl⟩
theorem zm (s:ByteArray)(w:World):
  Calls Tryz.prog 264 #[.string s,.string ⟨#[46]⟩] w λe w'=>e=.returned (.int .i64 (Lib.indexByte s.data.toList 46))/\w=w':=by
 go_enter Tryz.func264,Tryz.ntmps264;go_wp2_with (go_at_call 265;refine(zn _ _ _).mono ?_;rintro e w' ⟨rfl,rfl⟩)
 ·have h:([46]==s.toList)=true:=by assumption
  go_ret;refine⟨fV ?_,rfl⟩;rw[ByteArray.toList_eq]at h;rw[<-eq_of_beq h];rfl
 ·go_ret;exact⟨fV rfl,rfl⟩
theorem AP (s:ByteArray)(w:World)(h:¬sZ s<s.size):
  Calls Tryz.prog 263 #[.string s,.string ⟨#[46]⟩] w λe w'=>e=.returned (.tuple #[.string s,.string ⟨#[]⟩,.bool false])/\Below w.heap.size w w':=by
 have a:Lib.indexByte s.data.toList 46= -1:=by rw[xh,Hq,<-wm,if_neg h]
 have b:=Hm a;clear a;go_enter Tryz.func263,Tryz.ntmps263;go_wp2_with (go_at_call 264;refine(zm _ _).mono ?_;rintro e w' ⟨rfl,rfl⟩;rw[b.o])
 go_ret3
 exact⟨rfl,Below.refl _ _⟩
theorem CZ (s:ByteArray)(w:World)(hs:Str s)(d:Nat)(hd:sZ s=d)(h:d<s.size):
  Calls Tryz.prog 263 #[.string s,.string ⟨#[46]⟩] w λe w'=>e=.returned (.tuple #[.string (s.extract 0 d),.string (s.extract (d+1) s.size),.bool true])/\Below w.heap.size w w':=by
 have a:Lib.indexByte s.data.toList 46=(d:Int):=by rw[xh,Hq,<-wm,hd,if_pos h]
 have b:=Hm a;clear a hd;unfold Str at hs;have c1:(0:Int)<= ↑d:=by omega
 have c2:(↑d:Int)<= ↑s.size:=by omega
 have c3:(0:Int)<= ↑d+1:=by omega
 have c4:(↑d+1:Int)<= ↑s.size:=by omega
 have c:((d:Int)+1).toNat=d+1:=by omega
 have f:IntKind.i64.wrap ((d:Int)+1)=(d:Int)+1:=IntWalk.i64_in _ (by omega);go_enter Tryz.func263,Tryz.ntmps263;go_wp2_with (go_at_call 264;refine(zm _ _).mono ?_;rintro e w' ⟨rfl,rfl⟩;rw[b.o]);go_quiet (fail);go_wp2
 go_ret3
 exact⟨rfl,below_drewN (Below.refl _ _) _⟩
theorem Kt (s:ByteArray)(w:World)(h:¬sZ s<s.size):
  Calls Tryz.prog 262 #[.string s,.string ⟨#[46]⟩] w λe w'=>e=.returned (.tuple #[.string s,.string ⟨#[]⟩,.bool false])/\Below w.heap.size w w':=by
 have H:=Hm h;clear h;go_enter Tryz.func262,Tryz.ntmps262;go_wp2_with (go_at_call 263;refine(AP s _ H.o).mono ?_;rintro e b ⟨rfl,a⟩)
 go_ret3
 exact⟨rfl,a⟩
theorem MM (s:ByteArray)(w:World)(hs:Str s)(d:Nat)(hd:sZ s=d)(h:d<s.size):
  Calls Tryz.prog 262 #[.string s,.string ⟨#[46]⟩] w λe w'=>e=.returned (.tuple #[.string (s.extract 0 d),.string (s.extract (d+1) s.size),.bool true])/\Below w.heap.size w w':=by
 have H:=Hm hd;clear hd;go_enter Tryz.func262,Tryz.ntmps262;go_wp2_with (go_at_call 263;refine(CZ s _ hs d H.o h).mono ?_;rintro e b ⟨rfl,a⟩)
 go_ret3
 exact⟨rfl,a⟩
theorem qH {s:ByteArray}(hs:Str s)(a b:Nat):Str (s.extract a b):=by
 unfold Str at hs⊢;have:(s.extract a b).size<=s.size:=by simp[ByteArray.size_extract];omega
 omega
theorem EO (s:ByteArray)(hs:Str s)(w:World):
  Calls Tryz.prog 260 #[.string s] w λe w'=>e=.returned (.bool (kS s))/\Below w.heap.size w w':=by
 by_cases h:sZ s<s.size
 ·obtain⟨d,hd⟩: ∃d,sZ s=d:=⟨_,rfl⟩;have a:kS s=(iY (s.extract 0 d)&&iY (s.extract (d+1) s.size)):=by rw[kS,if_pos h,hd]
  rw[hd]at h;have j:=Hm hd;have c:=Hm a;clear a hd;have m:=qH hs 0 d;have n:=qH hs (d+1) s.size;obtain⟨p,k⟩: ∃p,p=s.extract 0 d:=⟨_,rfl⟩;obtain⟨q,a⟩: ∃q,q=s.extract (d+1) s.size:=⟨_,rfl⟩;go_enter Tryz.func260,Tryz.ntmps260;go_wp2_with fail;refine(MM s _ hs d j.o h).mono ?_;rintro e u ⟨rfl,f⟩;rw[<-k]at m⊢;rw[<-a]at n⊢;have l:Hl (kS s=(iY p&&iY q)):=Hm (by rw[k,a];exact c.o);clear k a j c;go_wp2_with fail;refine(qa p m _).mono ?_;rintro e v ⟨rfl,g⟩;have b:=fH f g;clear f g;cases i:iY p
  ·go_wp2;go_ret;exact⟨gp (by rw[l.o,i];rfl),b⟩
  ·go_wp2_with fail;refine(qa q n _).mono ?_;rintro e x ⟨rfl,r⟩;have t:=fH b r;clear b r;go_wp2;go_ret;exact⟨gp (by rw[l.o,i];rfl),t⟩
 ·have a:kS s=iY s:=by rw[kS,if_neg h]
  have c:=Hm a;have j:=Hm h;clear a h;go_enter Tryz.func260,Tryz.ntmps260;go_wp2_with fail;refine(Kt s _ j.o).mono ?_;rintro e u ⟨rfl,f⟩;go_wp2_with fail;refine(qa s hs _).mono ?_;rintro e v ⟨rfl,g⟩;have b:=fH f g;clear f g;cases i:iY s
  ·go_wp2;go_ret;exact⟨gp (by rw[c.o,i]),b⟩
  ·go_wp2;go_ret;exact⟨gp (by rw[c.o,i]),b⟩
theorem DZ {s:ByteArray}{k:Nat}(c:k<s.size)(b:jW s k≠46)(h:jM s.data.toList=k+jM (s.data.toList.drop k)):jM s.data.toList=(k+1)+jM (s.data.toList.drop (k+1)):=by
 have a:k<s.data.toList.length:=c;rw[h,List.drop_eq_getElem_cons a,jM,if_neg]
 ·omega
 ·intro e;apply b;rw[jW,List.getD,List.getElem?_eq_getElem a];simp only[Option.getD_some,e];rfl
theorem Cz {s:ByteArray}{k:Nat}(c:k<s.size)(a:jW s k=46)(h:jM s.data.toList=k+jM (s.data.toList.drop k)):jM s.data.toList=k:=by
 have b:k<s.data.toList.length:=c;rw[h,List.drop_eq_getElem_cons b,jM,if_pos]
 ·rfl
 ·rw[jW,List.getD,List.getElem?_eq_getElem b]at a;simp only[Option.getD_some]at a;exact UInt8.toNat_inj.1 a
theorem LU (s:ByteArray)(hs:Str s)(w:World):
  Calls Tryz.prog 222 #[.string s] w λe w'=>e=.returned (.bool (kS s))/\w=w':=by
 have g:=hs;unfold Str at hs;go_enter Tryz.func222,Tryz.ntmps222;go_wp2
 go_loop [3] (λi=> ∃k:Nat,k<=s.size/\i=.int .i64 k/\jM s.data.toList=k+jM (s.data.toList.drop k)) (λi=>s.size-(intOf i).toNat)
 case atStart=>exact⟨0,Nat.zero_le _,rfl,by simp⟩
 case round=>
  obtain⟨k,q,rfl,j⟩:=hrel;have f:=Hm j;clear j;by_cases a:k<s.size
  ·have d:=qW s k a;cases b:((s[k]'a).toNat==46)
   ·have m:Hl (jM s.data.toList=(k+1)+jM (s.data.toList.drop (k+1))):=Hm (DZ a (by rw[d];simpa using b) f.o);have p:(((s[k]'a).toNat:Int)==46)=false:=by simp at b⊢;omega
    clear d b;go_wp2
    go_round
    case rel=>exact⟨k+1,by omega,by go_num,m.o⟩
    case measure=>simp[intOf];omega
   ·have hd:sZ s=k:=by rw[wm];exact Cz a (by rw[d];simpa using b) f.o
    have c:Hl (kS s=(iY (s.extract 0 k)&&iY (s.extract (k+1) s.size))):=Hm (by rw[kS,hd,if_pos a]);have p:(((s[k]'a).toNat:Int)==46)=true:=by simp at b⊢;omega
    have h:=qH g 0 k;have n:=qH g (k+1) s.size;have r:(k:Int)+1<=(s.size:Int):=by omega
    have t:((k:Int)+1).toNat=k+1:=by omega
    clear d b hd;cases l:iY (s.extract 0 k)
    ·go_wp2_with (go_at_call 127;refine(lg _ h _).mono ?_;rintro e w' ⟨rfl,rfl⟩);go_ret;exact⟨gp (by rw[c.o,l];rfl),rfl⟩
    ·go_wp2_with fail;refine(lg _ h _).mono ?_;rintro e w' ⟨rfl,rfl⟩;go_wp2_with fail;refine(lg _ n _).mono ?_;rintro e w' ⟨rfl,rfl⟩;go_wp2;go_ret;exact⟨gp (by rw[c.o,l];rfl),rfl⟩
  ·have c:Hl (kS s=iY s):=Hm (by rw[kS,if_neg];rw[wm,f.o];omega);go_wp2_with (go_at_call 127;refine(lg _ g _).mono ?_;rintro e w' ⟨rfl,rfl⟩);go_ret;exact⟨gp c.o.symm,rfl⟩
end Go.Proofs.YtopjjlmfilgngaaGreatDoor
