/- Walks. -/
import Derived.Test.YtdmoogjddmdmbaaGreatDoorV40
import Derived.Test.YtdmoogjddmdmbaaGreatDoorV04
import Derived.Test.YtdmoogjddmdmbaaGreatDoorV25
import Derived.Test.YtdmoogjddmdmbaaGreatDoorV28
import Derived.Test.YtdmoogjddmdmbaaGreatDoorV08
import Derived.Test.YtdmoogjddmdmbaaGreatDoorV41
set_option maxRecDepth 100000
set_option maxHeartbeats 16000000
set_option linter.unusedVariables false
set_option linter.unusedSimpArgs false
namespace Go.Proofs.YtdmoogjddmdmbaaGreatDoor
open Go.RowKit
section
set_option linter.unusedVariables false
set_option linter.unusedSimpArgs false
open Go.RowKit
def OSw (B:Nat) (v:Value) (ss:List ByteArray) (w:World):Prop:=w.ownsRow B 9 1 v ss.length (ss.map Value.string)
theorem sa {P:Program} {w:World} (base:Nat) (t ty e:TypeId) (i:TypeInfo) (size:Nat) (ht:P.underlying t=some (.slice e)) (hi:P.info? e=some i) (c:Nat)
  (v:Value) (n:Nat) (xs:List Value) (hown:w.ownsRow base e size v n xs) :
  (Builtin.append_ #[t,t] ty #[v, .slice none 0 c]).run P w = .ok v w:=by
 rcases hown.2 with ⟨rfl,rfl⟩ | ⟨g,cap,cur,rfl,_,_,Bu,_⟩
 .simp[Builtin.append_,run_underlying ht,sizeOf,typeInfo,hi,Builtin.lenOf,Builtin.firstCells]
 .simp[Builtin.append_,run_underlying ht,sizeOf,typeInfo,hi,Builtin.lenOf,Builtin.firstCells,Bu,storeCells]
theorem Iq {e:TypeId} {B b:Nat} {v:Value} {l:List UInt8} {w W:World} (h:OB 5 B v l w) (hb:b<B) (hl:l.length<=900000) (hs:af b w W):∃A c,v = .slice A l.length c/\Th W A l.length c (l.map UInt8.toNat):=by
 have h9:=h;rcases h.2 with ⟨h1,h0⟩ | ⟨g,cap,cur,rfl,hB,hg,hle,hm,-⟩
 .have h0':l=[]:=List.length_eq_zero_iff.1 h0;refine ⟨none,0,by rw[h1,h0],⟨⟨none,0,by simp,⟨by simp[h0],by decide⟩, .inl (by rw[h0'];rfl)⟩, .inl ⟨rfl,rfl⟩,by simp,hl,λb hb=>by rw[h0']at hb;cases hb⟩⟩
 .refine ⟨_,_,rfl,⟨⟨_,cap,by rw[List.length_map],⟨by rw[List.length_map];exact hle,by unfold maxLen at hm;omega⟩, .inr ⟨g,0,rfl,Nat.lt_of_lt_of_le (Array.getElem?_eq_some_iff.1 hg).1 hs.1,λi hi=>?_⟩⟩, .inr ⟨g,0,rfl⟩,by simp,hl,λb hb=>?_⟩⟩
  .have ez:i<l.length:=by simpa using hi
   rw[Nat.zero_add,hs.cell (by omega) (Array.getElem?_eq_some_iff.1 hg).1,World.ownsRow.cellAt h9 i (by simpa using ez)]
   simp[ez]
  .obtain ⟨y,-,rfl⟩:=List.mem_map.1 hb;exact y.toNat_lt
end
end Go.Proofs.YtdmoogjddmdmbaaGreatDoor
