/- Walks. -/
import Derived.Test.YtdmoogjddmdmbaaGreatDoorX32
import Derived.Test.YtdmoogjddmdmbaaGreatDoorX45
set_option maxRecDepth 100000
set_option maxHeartbeats 16000000
set_option linter.unusedVariables false
set_option linter.unusedSimpArgs false
namespace Go.Proofs.YtdmoogjddmdmbaaGreatDoor
open Go.RowKit
theorem ZZ{l:List Kn}{i j:Nat}(hj:j<l.length)(hi:i<j)(h:(l[i]'Y).nm=l[j].nm):zi l=true:=by
 unfold zi;rw[List.any_eq_true];refine ⟨j,List.mem_range.2 hj,?_⟩;rw[List.any_eq_true];refine ⟨l[i]'Y,?_,?_⟩
 .rw[List.mem_take_iff_getElem];exact ⟨i,Y,rfl⟩
 .rw[decide_eq_true_eq,List.getElem?_eq_getElem hj,h];rfl
theorem E1{l:List Kn}(h:∀i j (hj:j<l.length) (hi:i<j),(l[i]'Y).nm≠l[j].nm):zi l=false:=by
 rw[Bool.eq_false_iff];intro e;unfold zi at e;rw[List.any_eq_true]at e;obtain ⟨j,hj,e⟩:=e;have hj:=List.mem_range.1 hj;rw[List.any_eq_true]at e;obtain ⟨o,ho,e⟩:=e;rw[List.mem_take_iff_getElem]at ho;obtain ⟨i,hi,rfl⟩:=ho;rw[decide_eq_true_eq,List.getElem?_eq_getElem hj]at e;exact h i j hj Y (Option.some.inj e)
theorem eJ:bl (kQ 0)=[107,105,110,100,48]/\bl (kQ 1)=[107,105,110,100,49]/\bl (kQ 2)=[107,105,110,100,50]:=⟨κ,κ,κ⟩
theorem Nt{i j:Nat}(hi:i<3)(hj:j<3)(h:kQ i=kQ j):i=j:=by
 have h:=congrArg bl h
 match i,j,hi,hj with
 |0,0,_,_|1,1,_,_|2,2,_,_=>rfl
 |0,1,_,_|1,0,_,_=>rw[eJ.1,eJ.2.1]at h;exact absurd h O
 |0,2,_,_|2,0,_,_=>rw[eJ.1,eJ.2.2]at h;exact absurd h O
 |1,2,_,_|2,1,_,_=>rw[eJ.2.1,eJ.2.2]at h;exact absurd h O
theorem RM{i:Nat}(hi:i<3):uP (bl (kQ i))=true:=by
 match i,hi with
 |0,_=>rw[eJ.1];decide
 |1,_=>rw[eJ.2.1];decide
 |2,_=>rw[eJ.2.2];decide
theorem Cr{j:Nat}(hj:j<6):aR (lX j)=0/\aW (lX j)<=10/\1<=bI (lX j)/\bj (lX j)<=256:=by
 match j,hj with
 |0,_|1,_|2,_|3,_|4,_|5,_=>decide
theorem ZL.good{i:Nat}{k:Kn}(hi:i<3)(h:ZL i k):MT k:=by
 obtain ⟨h1,⟨j,hj,h2⟩,⟨a1,a2⟩,⟨b1,b2⟩,hw⟩:=h;obtain ⟨s1,s2,s3,s4⟩:=Cr hj;refine ⟨by rw[h1];exact RM hi,by rw[h2];exact s1,by rw[h2];exact s2,?_⟩
 unfold zh;rw[h2];rcases hw with ⟨hw,hn⟩|⟨hw,uq,mX⟩|⟨hw,uq,mX⟩
 .rw[hw];simp[s3,s4,a1,a2,b1,sV];omega
 .rw[hw];simp[s3,s4,a1,a2,b1,sV];exact ⟨Y,O,Y,Y⟩
 .rw[hw];simp[s3,s4,a1,a2,b1,sV];exact ⟨Y,O,Y,Y⟩
end Go.Proofs.YtdmoogjddmdmbaaGreatDoor
