/-
  bag.Normalize; partition.Join.
-/
import Derived.Test.YtopjjlmfilgngaaGreatDoorSrtK
import Derived.Test.YtopjjlmfilgngaaGreatDoorGar
import Derived.Test.YtopjjlmfilgngaaGreatDoorGad
import Derived.Test.YtopjjlmfilgngaaGreatDoorGaj
namespace Go.Proofs.YtopjjlmfilgngaaGreatDoor
open Go.RowKit
set_option linter.unusedSimpArgs false
set_option linter.unusedVariables false
theorem SrcAt.alloc {w:World}{o:Obj}{size n:Nat}{A:Option Addr}{cs:List Value}(h:Src w size A n cs):Src (w.alloc o) size A n cs:=⟨h.1,λh0=>by
 obtain ⟨b',o',e,hc⟩:=h.2 h0;exact ⟨b',o',e,λj u hu=>aj ae (lt_of_cell (hc j u hu)) (hc j u hu)⟩⟩
end Go.Proofs.YtopjjlmfilgngaaGreatDoor
