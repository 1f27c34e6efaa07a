/- Kinds in memory. -/
import Derived.Test.YtljgapfmgegifaaGreatDoorY27
import Derived.Test.YtljgapfmgegifaaGreatDoorY14
namespace Go.Proofs.YtljgapfmgegifaaGreatDoor
set_option linter.unusedVariables false
set_option linter.unusedSimpArgs false
set_option maxRecDepth 100000
open Go.RowKit
def KnV (b:Nat) (w:World) (v:Value):Prop:=∃g f n c,∃U:Nat->KC,v = .slice (some ⟨g,f,none⟩) n c/\1<=n/\n<=1000/\b<g/\g<w.heap.size/\
 (∀j,j<n->∀i,i<11->w.cell? ⟨g,f+j*11+i,none⟩=(U j).cs[i]?)/\∀j,j<n->Pat b w 4 18 (U j).pat
theorem KnV.of_OR {b B:Nat} {w:World} {v:Value} {o:List KC} (h:OR 34 11 KC.cs B v o w) (hB:b<B) (h1:o≠[]) (h2:o.length<=1000) (hp:∀u∈o,Pat b w 4 18 u.pat):KnV b w v:=by
 obtain ⟨A,c,rfl,hle,h3 | ⟨g,rfl,hBg,hg,hc⟩⟩:=h.cells encKC
 .exact absurd h3 h1
 .cases o with
  | nil=>exact absurd rfl h1
  | cons u0 r=>
   refine ⟨g,0,_,c,λj=>(u0::r)[j]?.getD u0,rfl,by simp,h2,by omega,hg,λj hj i hi=>?_,λj hj=>?_⟩
   .rw[Nat.zero_add,(hc j hj i hi).1];show _=(((u0::r)[j]?.getD u0).cs)[i]?;rw[List.getElem?_eq_getElem hj];rfl
   .show Pat b w 4 18 (((u0::r)[j]?.getD u0).pat);rw[List.getElem?_eq_getElem hj];exact hp _ (List.getElem_mem hj)
end Go.Proofs.YtljgapfmgegifaaGreatDoor
