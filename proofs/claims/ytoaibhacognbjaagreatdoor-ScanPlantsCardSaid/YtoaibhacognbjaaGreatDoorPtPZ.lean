/- A token between spaces is one of the matches of a plain library. No program in sight. -/
import Derived.Test.YtoaibhacognbjaaGreatDoorY49d
import Derived.Test.YtoaibhacognbjaaGreatDoorY31
import Derived.Test.YtoaibhacognbjaaGreatDoorY03
import Derived.Test.YtoaibhacognbjaaGreatDoorY02
import Derived.Test.YtoaibhacognbjaaGreatDoorY01
import Derived.Test.YtoaibhacognbjaaGreatDoorY30
import Derived.Test.YtoaibhacognbjaaGreatDoorY28
import Derived.Test.YtoaibhacognbjaaGreatDoorY23
import Derived.Test.YtoaibhacognbjaaGreatDoorY22
import Derived.Test.YtoaibhacognbjaaGreatDoorY21
import Derived.Test.YtoaibhacognbjaaGreatDoorY16
import Derived.Test.YtoaibhacognbjaaGreatDoorY14
import Derived.Test.YtoaibhacognbjaaGreatDoorY12
import Derived.Test.YtoaibhacognbjaaGreatDoorY10
import Derived.Test.YtoaibhacognbjaaGreatDoorY08
import Derived.Test.YtoaibhacognbjaaGreatDoorY07
import Derived.Test.YtoaibhacognbjaaGreatDoorY06
import Derived.Test.YtoaibhacognbjaaGreatDoorY04
import Derived.Test.YtoaibhacognbjaaGreatDoorY05
import Derived.Test.YtoaibhacognbjaaGreatDoorY09
import Derived.Test.YtoaibhacognbjaaGreatDoorY11
import Derived.Test.YtoaibhacognbjaaGreatDoorY13
import Derived.Test.YtoaibhacognbjaaGreatDoorY15
import Derived.Test.YtoaibhacognbjaaGreatDoorY20
import Derived.Test.YtoaibhacognbjaaGreatDoorY17
import Derived.Test.YtoaibhacognbjaaGreatDoorY19
import Derived.Test.YtoaibhacognbjaaGreatDoorY18
import Derived.Test.YtoaibhacognbjaaGreatDoorY24
import Derived.Test.YtoaibhacognbjaaGreatDoorY27
import Derived.Test.YtoaibhacognbjaaGreatDoorY25
import Derived.Test.YtoaibhacognbjaaGreatDoorY26
import Derived.Test.YtoaibhacognbjaaGreatDoorY29
import Derived.Test.YtoaibhacognbjaaGreatDoorY32
import Derived.Test.YtoaibhacognbjaaGreatDoorY33
import Derived.Test.YtoaibhacognbjaaGreatDoorY40
import Derived.Test.YtoaibhacognbjaaGreatDoorY45
import Derived.Test.YtoaibhacognbjaaGreatDoorY44
import Derived.Test.YtoaibhacognbjaaGreatDoorY43
import Derived.Test.YtoaibhacognbjaaGreatDoorY42
import Derived.Test.YtoaibhacognbjaaGreatDoorY49
namespace Go.Proofs.YtoaibhacognbjaaGreatDoor
set_option linter.unusedVariables false
set_option linter.unusedSimpArgs false
set_option maxRecDepth 100000
open Go.RowKit
theorem sh_tok (j:Nat) (hj:j<2):¬langN (shN j) []:=by
 have hj2:j=0∨j=1:=by omega
 intro h;have hS:∀(k:Nd) (r:List Nd),(∀w,langN k w→w≠[])→¬langS (k::r) []:=by
  intro k r hk hl;rw[langS]at hl;obtain ⟨u,v,e,h1,-⟩:=hl;exact hk u h1 (List.append_eq_nil_iff.1 e.symm).1
 have hB:∀rs kids mn mx,∀w,langN (.mk 1 rs kids mn mx) w→w≠[]:=by
  intro rs kids mn mx w hw e;subst e;rw[langN]at hw;obtain ⟨c,e,-⟩:=hw
  cases e
 rcases hj2 with rfl | rfl
 ·have h:langN (.mk 2 [] [byN 116,byN 107,tiN [(48,57)] 2 4] 0 0) []:=h;rw[langN]at h;exact hS _ _ (hB _ _ _ _) h
 ·have h:langN (.mk 2 [] [byN 107,byN 45,tiN [(48,57),(97,102)] 3 6] 0 0) []:=h;rw[langN]at h;exact hS _ _ (hB _ _ _ _) h
theorem plants_plain {js:List Nat} {ms:List Mc} {A tok B:List Nat} {o:List Mt} (hj:∀j∈js,j<2) (hl:js.length≤2) (h1:LaA (plK 0 js) 0 ms) (p:o.Perm (allK (plF (plK 0 js) ms (A++32::(tok++32::B))) (plK 0 js).length 0)) (n:Nat) (hn:n<js.length) (ht:langN (shN js[n]) tok) :
  tok≠[]∧(⟨n,A.length+1,A.length+1+tok.length⟩:Mt)∈o:=by
 have hk:∀q∈plK 0 js,∃j,j<2∧q.pat=shN j∧q.wh=true:=fun q hq=>(plK_mem hq hl hj).2;have hn':n<(plK 0 js).length:=by rw[plK_len];exact hn
 have ht0:tok≠[]:=by rintro rfl;exact sh_tok _ (hj _ (List.getElem_mem hn)) ht
 refine ⟨ht0,p.symm.subset (allK_mem.2 ⟨⟨Nat.zero_le _,by show n<_;omega⟩,?_⟩)⟩
 obtain ⟨m,e,n32,-,l⟩:=plF_no h1 hk n hn';have hp:(plK 0 js)[n].pat=shN js[n]:=by rw[plK_get js 0 n hn' hn]
 show (A.length+1,A.length+1+tok.length)∈plF (plK 0 js) ms _ n;rw[e,chA_sep n32 (by decide),chA_sep n32 (by decide),chA_whole ((l tok).2 (hp▸ht)) ht0,List.mem_append]
 right
 unfold shiftL;refine List.mem_map.2 ⟨(0,tok.length),List.mem_append.2 (.inl (by simp)),?_⟩
 show (0+(A.length+1),tok.length+(A.length+1))=_;rw[Nat.zero_add,Nat.add_comm tok.length]
end Go.Proofs.YtoaibhacognbjaaGreatDoor
