/-
  value.word, value.Encode: the bytes of a row.
-/
import Derived.Lib.AppendStr
import Derived.Laws.IdiomStrings
import Derived.Test.YtopjjlmfilgngaaGreatDoorGai
import Derived.Test.YtopjjlmfilgngaaGreatDoorGrp
namespace Go.Proofs.YtopjjlmfilgngaaGreatDoor
set_option maxHeartbeats 2000000
set_option maxRecDepth 100000
open Go.RowKit
set_option linter.unusedSimpArgs false
set_option linter.unusedVariables false
instance:Rep UInt8 where
 size:=1
 rd _ _ cs b:=cs=[.int .u8 b.toNat]
 len h:=by rw[h];rfl
 keep _ h:=h
 mono _ h:=h
instance:One UInt8:=⟨by rintro w S cs a rfl u hu;simp at hu;subst hu;rfl⟩
theorem sM:(Tryz.prog.info? 5).map (λi=>(i.zero,i.size,i.bytes))=some (some (.int .u8 0),1,1):=by kernel_rfl
theorem dQ:Elem Tryz.prog 120 5 1 1:=jR _ Tryz.underlying120 sM rfl (by decide)
abbrev OB (B:Nat)(w:World)(v:Value)(bs:List UInt8):Prop:=OL 5 B (λ_=>False) [] w v bs
def u8 (n:Int):UInt8:=UInt8.ofNat (n % 256).toNat
def fO (n:Int):List UInt8:=[u8 (n / 16777216),u8 (n / 65536),u8 (n / 256),u8 n]
theorem yh (n:Int):((u8 n).toNat:Int)=n % 256:=by
 have h0:0<=n % 256:=Int.emod_nonneg _ (by decide);have h1:n % 256<256:=Int.emod_lt_of_pos _ (by decide);rw[u8,UInt8.toNat_ofNat'];omega
theorem bU {n m:Int}(h:m=n % 256):Value.int .u8 m=.int .u8 ((u8 n).toNat:Int):=by rw[yh,h]
theorem Cells.bytes {w:World}{S:Nat->Prop}: ∀{bs:List UInt8} {cs:List Value},cs=bs.map (λb=>Value.int .u8 b.toNat)->Cells w S cs bs
 | [],cs,h=>h
 |b :: bs,cs,h=>⟨[.int .u8 b.toNat],bs.map (λb=>Value.int .u8 b.toNat),by rw[h];rfl,rfl,Cells.bytes rfl⟩
theorem wP (W:World)(B:Nat)(v:Value)(bs:List UInt8)(hO:OB B W v bs)(n:Int)(h0:0<=n)(h1:n<4294967296)(hl:bs.length<=1048576):
  Calls Tryz.prog 88 #[v,.int .i64 n] W λe w'=>(∃v',e=.returned v'/\OB B w' v' (bs++fO n))/\W.grownBy w' v.ownBlock/\Below B W w':=by
 have HO:=hide hO;have HC:=hide (Cells.bytes (w:=W.alloc (.cells #[.int .u8 (n / 16777216),.int .u8 (n / 65536 % 256),.int .u8 (n / 256 % 256),.int .u8 (n % 256)] 5)) (S:=BS B (λ_=>False) [] (W.alloc (.cells #[.int .u8 (n / 16777216),.int .u8 (n / 65536 % 256),.int .u8 (n / 256 % 256),.int .u8 (n % 256)] 5))) (bs:=fO n) (cs:=[.int .u8 (n / 16777216),.int .u8 (n / 65536 % 256),.int .u8 (n / 256 % 256),.int .u8 (n % 256)]) (by
  simp only[fO,List.map_cons,List.map_nil];rw[bU (n:=n / 16777216) (by omega),bU (n:=n / 65536) rfl,bU (n:=n / 256) rfl,bU (n:=n) rfl]))
 have Hz:=hide (oz W #[.int .u8 (n / 16777216),.int .u8 (n / 65536 % 256),.int .u8 (n / 256 % 256),.int .u8 (n % 256)] 5 1 4 rfl);have yX:=hide (hO.below (ae (o:=.cells #[.int .u8 (n / 16777216),.int .u8 (n / 65536 % 256),.int .u8 (n / 256 % 256),.int .u8 (n % 256)] 5)));have hm1:bs.length+4<=maxLen:=by simp only[maxLen];omega
 have hm2:(bs.length+4)*1<=140737488355328:=by omega
 go_enter Tryz.func88,Tryz.ntmps88;go_wp2_with (at_builtin;refine jD _ rfl _ _ _ rfl dQ (by simp) yX.out rfl (some ⟨W.heap.size,0,none⟩) 4 4 _ (fO n) rfl (λh=>by cases h) Hz.out HC.out rfl hm1 hm2 ?_;intro v1 w9 lW eH mi gX);have uS:=hide lW;have FI:=hide ((Below.grows (ae (w:=W)) v.ownBlock).trans mi);have lI:=hide (((ae (w:=W)).mono HO.out.base).trans eH);clear lW eH mi gX;go_wp2;go_ret;exact ⟨⟨_,rfl,uS.out⟩,FI.out,lI.out⟩
end Go.Proofs.YtopjjlmfilgngaaGreatDoor
