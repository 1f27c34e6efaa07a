/- Walks. -/
import Derived.Test.YtdmoogjddmdmbaaGreatDoorV28
import Derived.Test.YtdmoogjddmdmbaaGreatDoorV47
set_option maxRecDepth 100000
set_option maxHeartbeats 16000000
set_option linter.unusedVariables false
set_option linter.unusedSimpArgs false
namespace Go.Proofs.YtdmoogjddmdmbaaGreatDoor
open Go.RowKit
section
set_option linter.unusedVariables false
set_option linter.unusedSimpArgs false
open Go.RowKit
theorem ZZ {l:List Kn} {i j:Nat} (hj:j<l.length) (hi:i<j) (h:(l[i]'(by omega)).nm=l[j].nm):zH l=true:=by
 unfold zH;rw[List.any_eq_true];refine ⟨j,List.mem_range.2 hj,?_⟩;rw[List.any_eq_true];refine ⟨l[i]'(by omega),?_,?_⟩
 .rw[List.mem_take_iff_getElem];exact ⟨i,by omega,rfl⟩
 .rw[decide_eq_true_eq,List.getElem?_eq_getElem hj,h];rfl
theorem Fz {l:List Kn} (h:∀i j (hj:j<l.length) (hi:i<j),(l[i]'(by omega)).nm≠l[j].nm):zH l=false:=by
 rw[Bool.eq_false_iff];intro e;unfold zH at e;rw[List.any_eq_true]at e;obtain ⟨j,hj,e⟩:=e;have hj:=List.mem_range.1 hj;rw[List.any_eq_true]at e;obtain ⟨o,ho,e⟩:=e;rw[List.mem_take_iff_getElem]at ho;obtain ⟨i,hi,rfl⟩:=ho;rw[decide_eq_true_eq,List.getElem?_eq_getElem hj]at e;exact h i j hj (by omega) (Option.some.inj e)
theorem eL:bl (kU 0)=[107,105,110,100,48]/\bl (kU 1)=[107,105,110,100,49]/\bl (kU 2)=[107,105,110,100,50]:=⟨by kernel_rfl,by kernel_rfl,by kernel_rfl⟩
theorem NW {i j:Nat} (hi:i<3) (hj:j<3) (h:kU i=kU j):i=j:=by
 have h:=congrArg bl h
 match i,j,hi,hj with
 | 0,0,_,_ | 1,1,_,_ | 2,2,_,_=>rfl
 | 0,1,_,_ | 1,0,_,_=>rw[eL.1,eL.2.1]at h;exact absurd h (by decide)
 | 0,2,_,_ | 2,0,_,_=>rw[eL.1,eL.2.2]at h;exact absurd h (by decide)
 | 1,2,_,_ | 2,1,_,_=>rw[eL.2.1,eL.2.2]at h;exact absurd h (by decide)
theorem R0 {i:Nat} (hi:i<3):uN (bl (kU i))=true:=by
 match i,hi with
 | 0,_=>rw[eL.1];decide
 | 1,_=>rw[eL.2.1];decide
 | 2,_=>rw[eL.2.2];decide
theorem C8 {j:Nat} (hj:j<6):bk (iG j)=0/\aK (iG j)<=10/\1<=bw (iG j)/\aN (iG j)<=256:=by
 match j,hj with
 | 0,_ | 1,_ | 2,_ | 3,_ | 4,_ | 5,_=>decide
theorem ZP.good {i:Nat} {k:Kn} (hi:i<3) (h:ZP i k):G3 k:=by
 obtain ⟨h1,⟨j,hj,h2⟩,⟨a1,a2⟩,⟨b1,b2⟩,hw⟩:=h;obtain ⟨s1,s2,s3,s4⟩:=C8 hj;refine ⟨by rw[h1];exact R0 hi,by rw[h2];exact s1,by rw[h2];exact s2,?_⟩
 unfold zG;rw[h2];rcases hw with ⟨hw,hn⟩ | ⟨hw,pE,mV⟩ | ⟨hw,pE,mV⟩
 .rw[hw];simp[s3,s4,a1,a2,b1,sH];omega
 .rw[hw];simp[s3,s4,a1,a2,b1,sH];exact ⟨by omega,by decide,by omega,by omega⟩
 .rw[hw];simp[s3,s4,a1,a2,b1,sH];exact ⟨by omega,by decide,by omega,by omega⟩
end
end Go.Proofs.YtdmoogjddmdmbaaGreatDoor
