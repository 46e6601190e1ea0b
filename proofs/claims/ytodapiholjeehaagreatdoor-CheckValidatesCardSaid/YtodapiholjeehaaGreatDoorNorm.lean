/-
  bag.Normalize; partition.Join.
-/
import Derived.Test.YtodapiholjeehaaGreatDoorSrtK
import Derived.Test.YtodapiholjeehaaGreatDoorGal
import Derived.Test.YtodapiholjeehaaGreatDoorGab
import Derived.Test.YtodapiholjeehaaGreatDoorGah
namespace Go.Proofs.YtodapiholjeehaaGreatDoor
open Go.RowKit
set_option linter.unusedSimpArgs false
set_option linter.unusedVariables false
theorem SrcAt.alloc {w : World} {o : Obj} {size n : Nat} {A : Option Addr} {cs : List Value} (h : Src w size A n cs) : Src (w.alloc o) size A n cs := ⟨h.1, fun h0 => by
  obtain ⟨b', o', e, hc⟩ := h.2 h0
  exact ⟨b', o', e, fun j u hu => bat below_alloc (lt_of_cell (hc j u hu)) (hc j u hu)⟩⟩
end Go.Proofs.YtodapiholjeehaaGreatDoor
