/- Walks. -/
import Derived.Laws.AppendOwnNone
import Derived.Test.YthamegenljmgmaaGreatDoorY03
set_option maxRecDepth 100000
set_option maxHeartbeats 16000000
set_option linter.unusedVariables false
set_option linter.unusedSimpArgs false
namespace Go.Proofs.YthamegenljmgmaaGreatDoor
open Go.RowKit
theorem PA{P:Program}{T e:TypeId}{i0:TypeInfo}(ht:P.underlying T=some (.slice e))(hi:P.info? e=some i0)(dY:i0.zero=some (.int .u8 0))(dh:i0.size=1)(cT:i0.bytes=1)
  {w:World} {ops:Array Oper} {rest:List Oper} {o:Oper} {a:Act} {Q:Exit->Act->World->Prop} (s x:Operand) (v:Value) (l r:List UInt8) (g cap:Nat) (B:Nat)
  (tE:o.guard=none) (ho:o.op=.call { callee:=.builtin .append,args:=#[s,x],argTypes:=#[T,T] })
  (hs:a.eval s=v) (hx:a.eval x=.slice (Z g 0) r.length cap) (ao:OB e B v l w) (hc:∀j (h:j<r.length),w.cell? (Z g j)=some (.int .u8 r[j].toNat)) (hl:l.length+r.length<1000000000) (hB:B<=w)
  (h:∀v' w1,OB e B v' (l++r) w1->Below B w w1->wpList P ops Q rest (a.put o.dst v') w1) :
  wpList P ops Q (o::rest) a w:=by
 refine wpList_append_own _ tE s x T ho B e i0 (.int .u8 0) 1 1 ht hi dY dh cT rfl O v l.length _ hs ao (Z g 0) r.length cap (r.map λc=>Value.int .u8 c.toNat) hx H ?_ (wY r) ?_ ?_ hB ?_
 .intro j u hj;rw[Addr.add_lit,Nat.zero_add];rw[List.getElem?_map]at hj;obtain ⟨y,hy,rfl⟩:=Option.map_eq_some_iff.1 hj;obtain ⟨hU,rfl⟩:=List.getElem?_eq_some_iff.1 hy;exact hc j hU
 .unfold maxLen;omega
 .omega
 .intro v' w1 ai hg _;exact h v' w1 (by simpa [OB] using ai) ((Below.refl B w).grown hg hB (λk hk=>(ao.lt k hk).1))
end Go.Proofs.YthamegenljmgmaaGreatDoor
