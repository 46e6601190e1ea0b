/-
  Plain laws of chapter 30: the checks that its laws make; one waiver more; all rows again. No program is in sight. Plain: chapter 30's closed example. No program is in sight.
-/
import Derived.Test.YtopjjlmfilgngaaGreatDoorGaq
import Derived.Test.YtopjjlmfilgngaaGreatDoorGar
import Derived.Test.YtopjjlmfilgngaaGreatDoorGan
import Derived.Test.YtopjjlmfilgngaaGreatDoorGap
import Derived.Test.YtopjjlmfilgngaaGreatDoorInsI
import Derived.Test.YtopjjlmfilgngaaGreatDoorGav
namespace Go.Proofs.YtopjjlmfilgngaaGreatDoor
set_option linter.unusedSimpArgs false
set_option linter.unusedVariables false
def nR:ByteArray:=⟨#[114]⟩
def nO:ByteArray:=⟨#[111]⟩
section
variable {rows aG:List Ent}{ks ko:List (List ByteArray)}{cs:List Chk}{ws:List Wvr}
end
def zC:Chk:=⟨⟨#[117]⟩,nR,0,[⟨#[97]⟩],⟨#[]⟩,[],0,0,[],0,0,0,0,0⟩
def zD:Chk:=⟨⟨#[103]⟩,nR,2,[⟨#[98]⟩],⟨#[]⟩,[],0,5,[],0,0,0,0,0⟩
def uA:List Ent:=[⟨[iV 1,iV 1],1⟩,⟨[iV 1,iV 2],1⟩,⟨[iV 2,iV 9],3⟩]
def Gd:Rel:=⟨nR,uz,[],uA⟩
def Cg:List Wvr:=[⟨⟨#[117]⟩,[iV 1,iV 2]⟩,⟨⟨#[117]⟩,[iV 2,iV 9]⟩]
def oh:Int×List Ent×List Quar:=xA Gd [zC,zD] [] Cg []
theorem EE:oh.1=0/\oh.2.1.length=1/\(oh.2.1.getD 0 default).row.length=2/\((oh.2.1.getD 0 default).row.getD 1 default).num=2/\oh.2.2.length=2/\
  (oh.2.2.getD 0 default).relation.toList=[114]/\(oh.2.2.getD 0 default).checks.length=1/\((oh.2.2.getD 0 default).checks.getD 0 ⟨#[]⟩).toList=[117]/\
  (oh.2.2.getD 1 default).count=3/\(oh.2.2.getD 1 default).checks.length=1/\((oh.2.2.getD 1 default).checks.getD 0 ⟨#[]⟩).toList=[103]:=by decide+kernel
end Go.Proofs.YtopjjlmfilgngaaGreatDoor
