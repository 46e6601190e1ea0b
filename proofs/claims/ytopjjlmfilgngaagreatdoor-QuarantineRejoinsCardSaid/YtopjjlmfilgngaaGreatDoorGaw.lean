/-
  check.Explain for unique checks. (Printed by gen_exp0.py.) Plain law: what the closed example of chapter 28 gives. No program is in sight.
-/
import Derived.Deep.DrawnRows
import Derived.Deep.DeepCutAuto
import Derived.Test.YtopjjlmfilgngaaGreatDoorGav
import Derived.Test.YtopjjlmfilgngaaGreatDoorGad
import Derived.Test.YtopjjlmfilgngaaGreatDoorGaa
import Derived.Test.YtopjjlmfilgngaaGreatDoorGai
import Derived.Test.YtopjjlmfilgngaaGreatDoorGaj
import Derived.Test.YtopjjlmfilgngaaGreatDoorGau
namespace Go.Proofs.YtopjjlmfilgngaaGreatDoor
open Go.RowKit Go.Maps
set_option linter.unusedSimpArgs false
set_option linter.unusedVariables false
attribute [local go_sem ↓] Go.wp_at_zero Go.wp_at_succ
instance:One (List Val):=⟨by rintro w S cs a ⟨A,n,c,rfl,_⟩ u hu;simp at hu;subst hu;rfl⟩
structure RsnAt (w:World) (g:Nat) (nm:ByteArray) (A:Option Addr) (n c:Nat) (v:Value):Prop where
 c0:w.cell? ⟨g,0,none⟩=some (.string nm)
 c1:w.cell? ⟨g,1,none⟩=some (.slice A n c)
 c2:w.cell? ⟨g,2,none⟩=some v
 fz:w.frozen? ⟨g,2,none⟩=false
 ty:bi w 78 g
theorem RsnAt.lt {w:World}{g:Nat}{nm:ByteArray}{A:Option Addr}{n c:Nat}{v:Value}(h:RsnAt w g nm A n c v):g<w.heap.size:=lt_of_cell h.c0
theorem RsnAt.below {w w':World}{g:Nat}{nm:ByteArray}{A:Option Addr}{n c:Nat}{v:Value}(h:RsnAt w g nm A n c v)(hb:Below w.heap.size w w'):RsnAt w' g nm A n c v:=
 ⟨aj hb h.lt h.c0,aj hb h.lt h.c1,aj hb h.lt h.c2,((aP hb).2 g 2 h.lt).trans h.fz,h.ty.below hb⟩
theorem RsnAt.grown {w w':World}{g:Nat}{nm:ByteArray}{A:Option Addr}{n c:Nat}{v:Value}(h:RsnAt w g nm A n c v){row:Option Nat}(hg:w.grownBy w' row)(hr:some g≠row):RsnAt w' g nm A n c v:=by
 have hb:=hg.block g h.lt hr;refine ⟨(World.cell?_of_block (a:=⟨g,0,none⟩) hb).trans h.c0,(World.cell?_of_block (a:=⟨g,1,none⟩) hb).trans h.c1,(World.cell?_of_block (a:=⟨g,2,none⟩) hb).trans h.c2,?_,?_⟩
 ·obtain ⟨c,hc⟩:=h.ty;exact frozen_of_row w' g 2 c _ (hb.trans hc)
 ·obtain ⟨c,hc⟩:=h.ty;exact ⟨c,hb.trans hc⟩
def kA:ByteArray:=⟨#[97]⟩
def kB:ByteArray:=⟨#[98]⟩
def iV (n:Int):Val:=⟨2,n,⟨#[]⟩⟩
def xm:List Col:=[⟨kA,2,false⟩,⟨kB,2,false⟩]
end Go.Proofs.YtopjjlmfilgngaaGreatDoor
