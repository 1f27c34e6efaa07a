/- Walks. -/
import Derived.Laws.AppendOwnNone
import Derived.Test.YtdmoogjddmdmbaaGreatDoorX04
set_option maxRecDepth 100000
set_option maxHeartbeats 16000000
set_option linter.unusedVariables false
set_option linter.unusedSimpArgs false
namespace Go.Proofs.YtdmoogjddmdmbaaGreatDoor
open Go.RowKit
theorem FH{P:Program}{T e:TypeId}{i0:TypeInfo}(ht:P.underlying T=some (.slice e))(hi:P.info? e=some i0)(hz0:i0.zero=some (.int .u8 0))(hz1:i0.size=1)(hz2:i0.bytes=1)
  {w:World} {ops:Array Oper} {rest:List Oper} {o:Oper} {a:Act} {Q:Exit->Act->World->Prop} (s x:Operand) (v:Value) (l r:List UInt8) (g cap:Nat) (B:Nat)
  (og:o.guard=none) (ho:o.op=.call { callee:=.builtin .append,args:=#[s,x],argTypes:=#[T,T] })
  (hs:a.eval s=v) (hx:a.eval x=.slice (some ⟨g,0,none⟩) r.length cap) (hown:OB e B v l w) (hc:∀j (h:j<r.length),w.cell? ⟨g,j,none⟩=some (.int .u8 r[j].toNat)) (hl:l.length+r.length<1000000000) (hB:B<=w.heap.size)
  (h:∀v' w1,OB e B v' (l++r) w1->Below B w w1->wpList P ops Q rest (a.put o.dst v') w1) :
  wpList P ops Q (o::rest) a w:=by
 refine wpList_append_own _ og s x T ho B e i0 (.int .u8 0) 1 1 ht hi hz0 hz1 hz2 rfl O v l.length _ hs hown ⟨g,0,none⟩ r.length cap (r.map λc=>Value.int .u8 c.toNat) hx ξ ?_ (vZ r) ?_ ?_ hB ?_
 .intro j u hj;rw[Addr.add_lit,Nat.zero_add];rw[List.getElem?_map]at hj;obtain ⟨y,hy,rfl⟩:=Option.map_eq_some_iff.1 hj;obtain ⟨oh,rfl⟩:=List.getElem?_eq_some_iff.1 hy;exact hc j oh
 .unfold maxLen;omega
 .omega
 .intro v' w1 hown1 hg _;exact h v' w1 (by simpa [OB] using hown1) ((Below.refl B w).grown hg hB (λk hk=>(hown.lt k hk).1))
theorem tN{P:Program}{T e:TypeId}{i0:TypeInfo}(ht:P.underlying T=some (.slice e))(hi:P.info? e=some i0)(hz0:i0.zero=some (.int .u8 0))(hz1:i0.size=1)(hz2:i0.bytes=1)
  {w:World} {ops:Array Oper} {rest:List Oper} {o:Oper} {a:Act} {Q:Exit->Act->World->Prop} (s x:Operand) (v y:Value) (l r:List UInt8) (B B2:Nat)
  (og:o.guard=none) (ho:o.op=.call { callee:=.builtin .append,args:=#[s,x],argTypes:=#[T,T] })
  (hs:a.eval s=v) (hx:a.eval x=y) (hown:OB e B v l w) (hy:OB e B2 y r w) (hl:l.length+r.length<1000000000) (hB:B<=w.heap.size)
  (h:∀v' w1,OB e B v' (l++r) w1->Below B w w1->wpList P ops Q rest (a.put o.dst v') w1) :
  wpList P ops Q (o::rest) a w:=by
 rcases hy.2 with ⟨rfl,h0⟩|⟨g,cap,cur,rfl,-,-,-⟩
 .obtain rfl:r=[]:=List.length_eq_zero_iff.1 h0;refine wpList_append_own_none og s x T ho B e i0 1 ht hi v l.length _ hs hown hx ?_;exact h v w (by simpa using hown) υ
 .refine FH ht hi hz0 hz1 hz2 s x v l r g cap B og ho hs hx hown (λj hj=>?_) hl hB h;have:=World.ownsRow.cellAt hy j (by simpa using hj)
  rw[this];simp[hj]
theorem KV{P:Program}{T e u:TypeId}{i0:TypeInfo}(ht:P.underlying T=some (.slice e))(hu:P.underlying u=some .string)(hi:P.info? e=some i0)(hz0:i0.zero=some (.int .u8 0))(hz1:i0.size=1)(hz2:i0.bytes=1)
  {w:World} {ops:Array Oper} {rest:List Oper} {o:Oper} {a:Act} {Q:Exit->Act->World->Prop} (s x:Operand) (v:Value) (l:List UInt8) (t:ByteArray) (B:Nat)
  (og:o.guard=none) (ho:o.op=.call { callee:=.builtin .append,args:=#[s,x],argTypes:=#[T,u] })
  (hs:a.eval s=v) (hx:a.eval x=.string t) (hown:OB e B v l w) (hl:l.length+t.size<1000000000) (hB:B<=w.heap.size)
  (h:∀v' w1,OB e B v' (l++bl t) w1->Below B w w1->wpList P ops Q rest (a.put o.dst v') w1) :
  wpList P ops Q (o::rest) a w:=by
 refine Lib.wpList_append_own_string w og s x T u ho B e i0 ht hu hi hz0 hz1 hz2 v l.length _ hs hown t hx (by unfold maxLen;omega) Y hB ?_
 intro v' w1 hown1 hg _;refine h v' w1 ?_ ((Below.refl B w).grown hg hB (λk hk=>(hown.lt k hk).1));show w1.ownsRow B e 1 v' (l++bl t).length ((l++bl t).map λc=>Value.int .u8 c.toNat);rw[List.length_append,aE,List.map_append];exact hown1
theorem agY{w:World}{e g B:Nat}{cs:List Value}(h:w.heap[g]?=some (.cells cs.toArray e (0,0)))(hB:B<=g)(hc:cs.length<=100):w.ownsRow B e 1 (.slice (some ⟨g,0,none⟩) cs.length cs.length) cs.length cs:=
 ⟨ξ,.inr ⟨g,cs.length,cs.toArray,rfl,hB,h,I,by unfold maxLen;omega,ξ,ξ⟩⟩
theorem OB.mono{e:TypeId}{B B':Nat}{v:Value}{l:List UInt8}{w:World}(h:OB e B v l w)(hB:B'<=B):OB e B' v l w:=by
 refine ⟨h.1,?_⟩;rcases h.2 with h1|⟨g,cap,cur,h1,h2,rest⟩
 .exact .inl h1
 .exact .inr ⟨g,cap,cur,h1,Nat.le_trans hB h2,rest⟩
theorem KW{w:World}{g:Nat}{cs:Array Value}{e:TypeId}{z:Nat×Nat}(h:w.heap[g]?=some (.cells cs e z)):∀j u,cs.toList[j]?=some u->w.cell? ((⟨g,0,none⟩:Addr).add j)=some u:=by
 intro j u hu;rw[Addr.add_lit,cell_of_row _ _ _ _ _ _ h];simpa using hu
theorem OB.below{e:TypeId}{B:Nat}{v:Value}{l:List UInt8}{w w1:World}(h:OB e B v l w)(hb:Below w.heap.size w w1):OB e B v l w1:=by
 refine ⟨h.1,?_⟩;rcases h.2 with h1|⟨g,cap,cur,h1,h2,hg,rest⟩
 .exact .inl h1
 .exact .inr ⟨g,cap,cur,h1,h2,(hb.block g (γ hg).1).trans hg,rest⟩
end Go.Proofs.YtdmoogjddmdmbaaGreatDoor
