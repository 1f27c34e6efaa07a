/- Plain: the kinds that the maker makes are good; libraries of them, turned and with one twice. -/
import Derived.Test.YtljgapfmgegifaaGreatDoorY25
import Derived.Test.YtljgapfmgegifaaGreatDoorY31
namespace Go.Proofs.YtljgapfmgegifaaGreatDoor
set_option linter.unusedVariables false
set_option linter.unusedSimpArgs false
set_option maxRecDepth 100000
open Go.RowKit
theorem LaA.dup {ks:List Kn} {er:Int} {ms:List Mc} (h:LaA ks er ms) (h1:1<=ks.length) (h2:ks.length<=32) (hg:∀k∈ks,GoodK k) (hd:dupF ks=true):er=7:=by
 rcases h with ⟨h,-⟩ | ⟨-,⟨i,hi,-,⟨m,hm⟩,hne⟩ | ⟨-,-,h⟩⟩
 .omega
 .exact absurd (hm.ok (hg _ (List.getElem_mem hi))) hne
 .rw[h,hd];rfl
theorem LaA.none {er:Int} {ms:List Mc} (h:LaA [] er ms):er=3:=by
 rcases h with ⟨-,h⟩ | ⟨h,-⟩
 .exact h
 .simp at h
theorem dupF_true {l:List Kn} {i j:Nat} (hj:j<l.length) (hi:i<j) (h:(l[i]'(by omega)).nm=l[j].nm):dupF l=true:=by
 unfold dupF;rw[List.any_eq_true];refine ⟨j,List.mem_range.2 hj,?_⟩;rw[List.any_eq_true];refine ⟨l[i]'(by omega),?_,?_⟩
 .rw[List.mem_take_iff_getElem];exact ⟨i,by omega,rfl⟩
 .rw[decide_eq_true_eq,List.getElem?_eq_getElem hj,h];rfl
theorem dupF_false {l:List Kn} (h:∀i j (hj:j<l.length) (hi:i<j),(l[i]'(by omega)).nm≠l[j].nm):dupF l=false:=by
 rw[Bool.eq_false_iff];intro e;unfold dupF at e;rw[List.any_eq_true]at e;obtain ⟨j,hj,e⟩:=e;have hj:=List.mem_range.1 hj;rw[List.any_eq_true]at e;obtain ⟨o,ho,e⟩:=e;rw[List.mem_take_iff_getElem]at ho;obtain ⟨i,hi,rfl⟩:=ho;rw[decide_eq_true_eq,List.getElem?_eq_getElem hj]at e;exact h i j hj (by omega) (Option.some.inj e)
theorem kdNm_bl:bl (kdNm 0)=[107,105,110,100,48]/\bl (kdNm 1)=[107,105,110,100,49]/\bl (kdNm 2)=[107,105,110,100,50]:=⟨by kernel_rfl,by kernel_rfl,by kernel_rfl⟩
theorem kdNm_inj {i j:Nat} (hi:i<3) (hj:j<3) (h:kdNm i=kdNm j):i=j:=by
 have h:=congrArg bl h
 match i,j,hi,hj with
 | 0,0,_,_ | 1,1,_,_ | 2,2,_,_=>rfl
 | 0,1,_,_ | 1,0,_,_=>rw[kdNm_bl.1,kdNm_bl.2.1]at h;exact absurd h (by decide)
 | 0,2,_,_ | 2,0,_,_=>rw[kdNm_bl.1,kdNm_bl.2.2]at h;exact absurd h (by decide)
 | 1,2,_,_ | 2,1,_,_=>rw[kdNm_bl.2.1,kdNm_bl.2.2]at h;exact absurd h (by decide)
theorem nm_good {i:Nat} (hi:i<3):nmOK (bl (kdNm i))=true:=by
 match i,hi with
 | 0,_=>rw[kdNm_bl.1];decide
 | 1,_=>rw[kdNm_bl.2.1];decide
 | 2,_=>rw[kdNm_bl.2.2];decide
theorem shN_good {j:Nat} (hj:j<6):validF (shN j)=0/\posF (shN j)<=10/\1<=shortF (shN j)/\longF (shN j)<=256:=by
 match j,hj with
 | 0,_ | 1,_ | 2,_ | 3,_ | 4,_ | 5,_=>decide
theorem KdK.good {i:Nat} {k:Kn} (hi:i<3) (h:KdK i k):GoodK k:=by
 obtain ⟨h1,⟨j,hj,h2⟩,⟨a1,a2⟩,⟨b1,b2⟩,hw⟩:=h;obtain ⟨s1,s2,s3,s4⟩:=shN_good hj;refine ⟨by rw[h1];exact nm_good hi,by rw[h2];exact s1,by rw[h2];exact s2,?_⟩
 unfold LcOK;rw[h2];rcases hw with ⟨hw,hn⟩ | ⟨hw,hn1,hn2⟩ | ⟨hw,hn1,hn2⟩
 .rw[hw];simp[s3,s4,a1,a2,b1,wdOK];omega
 .rw[hw];simp[s3,s4,a1,a2,b1,wdOK];exact ⟨by omega,by decide,by omega,by omega⟩
 .rw[hw];simp[s3,s4,a1,a2,b1,wdOK];exact ⟨by omega,by decide,by omega,by omega⟩
end Go.Proofs.YtljgapfmgegifaaGreatDoor
