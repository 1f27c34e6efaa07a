/- What a pattern that came in is: a pattern in memory, of any numbers. -/
import Derived.Deep.Slices
import Derived.Test.YtadjdkickjjieaaGreatDoorY43
import Derived.Test.YtadjdkickjjieaaGreatDoorY04
import Derived.ProofKit
namespace Go.Proofs.YtadjdkickjjieaaGreatDoor
set_option linter.unusedVariables false
set_option linter.unusedSimpArgs false
set_option maxRecDepth 100000
open Go.RowKit Go.Deep
theorem KdsIn.mk {w:World}:∀{l:List Nd} {g f:Nat},(∀i (h:i<l.length),∃vs:List Value,(∀j,j<5->w.cell? ⟨g,f+i*5+j,none⟩=vs[j]?)/\NdIn w l[i] vs)->KdsIn w l g f
 | [],_,_,_=>trivial
 | k::r,g,f,h=>by
  refine ⟨?_,KdsIn.mk λi hi=>?_⟩
  .obtain ⟨vs,h1,h2⟩:=h 0 (by simp)
   exact ⟨vs,λj hj=>by have:=h1 j hj;rwa [Nat.zero_mul,Nat.add_zero]at this,h2⟩
  .obtain ⟨vs,h1,h2⟩:=h (i+1) (by simpa using hi)
   refine ⟨vs,λj hj=>?_,h2⟩;have:=h1 j hj;rwa [show f+(i+1)*5+j=f+5+i*5+j by omega]at this
section
variable {H:Type} {enc:TypeId×Value->H} {w:World} {base:Nat} {spare:Nat->Bool} {held:Bool} {fuel:Nat}
instance zNt:Inhabited Nd:=⟨.mk 0 [] [] 0 0⟩
end
end Go.Proofs.YtadjdkickjjieaaGreatDoor
