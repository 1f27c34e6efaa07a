/- Walks. -/
import Derived.Test.YtdmoogjddmdmbaaGreatDoorX25
import Derived.Test.YtdmoogjddmdmbaaGreatDoorX05
import Derived.Test.YtdmoogjddmdmbaaGreatDoorX18
import Derived.Test.YtdmoogjddmdmbaaGreatDoorX32
import Derived.Test.YtdmoogjddmdmbaaGreatDoorX07
import Derived.Test.YtdmoogjddmdmbaaGreatDoorX41
set_option maxRecDepth 100000
set_option maxHeartbeats 16000000
set_option linter.unusedVariables false
set_option linter.unusedSimpArgs false
namespace Go.Proofs.YtdmoogjddmdmbaaGreatDoor
open Go.RowKit
def OSw(B:Nat)(v:Value)(ss:List ByteArray)(w:World):Prop:=w.ownsRow B 9 1 v ss.length (ss.map Value.string)
theorem Hq{e:TypeId}{B b:Nat}{v:Value}{l:List UInt8}{w W:World}(h:OB 5 B v l w)(hb:b<B)(hl:l.length<=900000)(hs:ai b w W):∃A c,v=.slice A l.length c/\YE W A l.length c (l.map UInt8.toNat):=by
 have h9:=h;rcases h.2 with ⟨h1,h0⟩|⟨g,cap,cur,rfl,hB,hg,hle,hm,-⟩
 .have h0':l=[]:=List.length_eq_zero_iff.1 h0;refine ⟨none,0,by rw[h1,h0],⟨⟨none,0,ξ,⟨by simp[h0],O⟩,.inl (by rw[h0'];rfl)⟩,.inl ⟨rfl,rfl⟩,ξ,hl,λb hb=>by rw[h0']at hb;cases hb⟩⟩
 .refine ⟨_,_,rfl,⟨⟨_,cap,by rw[List.length_map],⟨by rw[List.length_map];exact hle,by unfold maxLen at hm;omega⟩,.inr ⟨g,0,rfl,Nat.lt_of_lt_of_le (γ hg).1 hs.1,λi hi=>?_⟩⟩,.inr ⟨g,0,rfl⟩,ξ,hl,λb hb=>?_⟩⟩
  .have eS:i<l.length:=by simpa using hi
   rw[Nat.zero_add,hs.cell Y (γ hg).1,World.ownsRow.cellAt h9 i (by simpa using eS)]
   simp[eS]
  .obtain ⟨y,-,rfl⟩:=List.mem_map.1 hb;exact y.toNat_lt
end Go.Proofs.YtdmoogjddmdmbaaGreatDoor
