/-
  warehouseref9.Eval: it returns evalS.
-/
import Derived.Test.YtodapiholjeehaaGreatDoorGan
import Derived.Test.YtodapiholjeehaaGreatDoorGah
import Derived.Test.YtodapiholjeehaaGreatDoorGab
import Derived.Test.YtodapiholjeehaaGreatDoorGaa
import Derived.Test.YtodapiholjeehaaGreatDoorTypR
namespace Go.Proofs.YtodapiholjeehaaGreatDoor
open Go.RowKit
set_option linter.unusedSimpArgs false
set_option linter.unusedVariables false
theorem cols_i64_of {w : World} {A : Option Addr} {n c : Nat} {cols : List Col} (h : In w A n c cols) : ∀ x ∈ cols, I64 x.kind := by
  intro x hx
  obtain ⟨i, hi, rfl⟩ := List.mem_iff_getElem.1 hx
  have hn : i < n := by rw [← h.len]; exact hi
  obtain ⟨b, off, y, _, _, HY, _, _, _, hok⟩ := h.col hn
  have := (drop_get HY.out).1
  rw [List.getElem?_eq_getElem hi] at this
  injection this with this
  rw [this]; exact hok.2
end Go.Proofs.YtodapiholjeehaaGreatDoor
