/-
  Plain: the checks that chapter 29's laws make. No program is in sight.
-/
import Derived.Test.YtopjjlmfilgngaaGreatDoorGat
import Derived.Test.YtopjjlmfilgngaaGreatDoorGao
namespace Go.Proofs.YtopjjlmfilgngaaGreatDoor
set_option linter.unusedSimpArgs false
set_option linter.unusedVariables false
def nV:ByteArray:=⟨#[118]⟩
def RP:ByteArray:=⟨#[105,100]⟩
def gW:ByteArray:=⟨#[110,97,109,101]⟩
def fA:List Col:=[Vq false,N8 true,⟨nV,2,true⟩]
theorem yo: ∀x∈fA,x.good:=by
 intro x hx;simp only[fA,List.mem_cons,List.not_mem_nil,or_false]at hx;rcases hx with rfl|rfl|rfl <;> refine ⟨Ld ?_ ?_ ?_,?_,?_⟩ <;> decide
end Go.Proofs.YtopjjlmfilgngaaGreatDoor
