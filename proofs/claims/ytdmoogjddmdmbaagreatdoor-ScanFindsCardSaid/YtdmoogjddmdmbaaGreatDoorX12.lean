/- Walks. -/
import Derived.Laws.AppendOwnNone
import Derived.RangeFuncRecord
import Derived.Test.YtdmoogjddmdmbaaGreatDoorX04
set_option maxRecDepth 100000
set_option maxHeartbeats 16000000
set_option linter.unusedVariables false
set_option linter.unusedSimpArgs false
namespace Go.Proofs.YtdmoogjddmdmbaaGreatDoor
open Go.RowKit
structure kz {α:Type} (enc:α->List Value) (n:Nat):Prop where
 pos:0<n
 len:∀x,(enc x).length=n
 one:∀x,∀u∈enc x,u.oneCell'=true
def bF{α:Type}(enc:α->List Value)(o:List α):List Value:=(o.map enc).flatten
section
variable {α:Type} {enc:α->List Value} {n:Nat}
theorem iL(E:kz enc n)(o:List α):(bF enc o).length=o.length*n:=by
 induction o with
 |nil=>simp[bF]
 |cons a r ih=>simp only[bF,List.map_cons,List.flatten_cons,List.length_append,List.length_cons,E.len]at ih|-;rw[ih,Nat.succ_mul];omega
theorem CT(E:kz enc n)(o:List α):∀u∈bF enc o,u.oneCell'=true:=by
 intro u hu;simp only[bF,List.mem_flatten,List.mem_map]at hu;obtain ⟨_,⟨r,-,rfl⟩,hu⟩:=hu;exact E.one r u hu
theorem bU(o p:List α):bF enc (o++p)=bF enc o++bF enc p:=by simp[bF]
theorem bz(x:α):bF enc [x]=enc x:=by simp[bF]
theorem qx(E:kz enc n):∀(o:List α) (i c:Nat) (h:i<o.length),c<n->(bF enc o)[i*n+c]?=(enc o[i])[c]?
 |a::r,0,c,_,hc=>by
  rw[Nat.zero_mul,Nat.zero_add];show (enc a++bF enc r)[c]?=_;rw[List.getElem?_append_left (by rw[E.len];exact hc)];rfl
 |a::r,i+1,c,h,hc=>by
  show (enc a++bF enc r)[(i+1)*n+c]?=_;have h1:=E.len a;rw[List.getElem?_append_right (by rw[h1,Nat.succ_mul];omega),h1,show (i+1)*n+c-n=i*n+c by rw[Nat.succ_mul];omega,qx E r i c (by simpa using h) hc]
  rfl
def OR(e:TypeId)(n:Nat)(enc:α->List Value)(B:Nat)(v:Value)(o:List α)(w:World):Prop:=w.ownsRow B e n v o.length (bF enc o)
theorem OR.km(e:TypeId)(B:Nat)(w:World):OR e n enc B (.slice none 0 0) [] w:=World.ownsRow_nil _ _ _ _
theorem OR.keep{e:TypeId}{B:Nat}{v:Value}{o:List α}{w w1:World}(h:OR e n enc B v o w)(hk:∀k,v.ownBlock=some k->w1.heap[k]?=w.heap[k]?):OR e n enc B v o w1:=by
 refine ⟨h.1,?_⟩;rcases h.2 with h1|⟨g,cap,cur,h1,h2,h3,rest⟩
 .exact .inl h1
 .exact .inr ⟨g,cap,cur,h1,h2,(hk g (by rw[h1];rfl)).trans h3,rest⟩
theorem OR.later{e:TypeId}{B:Nat}{v:Value}{o:List α}{w w1:World}(h:OR e n enc B v o w)(hb:Below w.heap.size w w1):OR e n enc B v o w1:=
 h.keep λk hk=>hb.block k (World.ownsRow.lt h k hk).2
theorem OR.mono{e:TypeId}{B B':Nat}{v:Value}{o:List α}{w:World}(h:OR e n enc B v o w)(hB:B'<=B):OR e n enc B' v o w:=by
 refine ⟨h.1,?_⟩;rcases h.2 with h1|⟨g,cap,cur,h1,h2,rest⟩
 .exact .inl h1
 .exact .inr ⟨g,cap,cur,h1,Nat.le_trans hB h2,rest⟩
theorem OR.cells(E:kz enc n){e:TypeId}{B:Nat}{v:Value}{o:List α}{w:World}(h:OR e n enc B v o w):
  ∃A c,v=.slice A o.length c/\o.length<=c/\(o=[]\/∃g,A=some ⟨g,0,none⟩/\B<=g/\g<w.heap.size/\∀i (hi:i<o.length),∀j<n,w.cell? ⟨g,i*n+j,none⟩=(enc o[i])[j]?/\w.frozen? ⟨g,i*n+j,none⟩=false):=by
 have h':=h;rcases h.2 with ⟨h1,h0⟩|⟨g,cap,cur,rfl,hB,hg,hle,rp,aui,ht⟩
 .exact ⟨none,0,by rw[h1,h0],Y,.inl (List.length_eq_zero_iff.1 h0)⟩
 .refine ⟨_,_,rfl,hle,.inr ⟨g,rfl,hB,(γ hg).1,λi hi j hj=>⟨?_,by simp[World.frozen?,hg]⟩⟩⟩
  have hlt:i*n+j<o.length*n:=by
   have:(i+1)*n<=o.length*n:=Nat.mul_le_mul_right n hi;rw[Nat.succ_mul]at this;omega
  rw[cell_of_row w g _ _ _ _ hg,<-qx E o i j hi hj,<-ht,List.getElem?_take,if_pos hlt];simp
theorem Ha(E:kz enc n){P:Program}{T e:TypeId}{i0:TypeInfo}{z:Value}{jo:Nat}(ht:P.underlying T=some (.slice e))(hi:P.info? e=some i0)(hz0:i0.zero=some z)(hz1:i0.size=n)(hz2:i0.bytes=jo)(Lj:z.cells.size=n)(dV:jo<=1000)
  {w:World} {ops:Array Oper} {rest:List Oper} {op:Oper} {a:Act} {Q:Exit->Act->World->Prop} (s x:Operand) (v:Value) (c:Nat) (o:List α) (r:α) (cs:Array Value) (B:Nat)
  (og:op.guard=none) (ho:op.op=.call { callee:=.builtin .append,args:=#[s,x],argTypes:=#[T,T] })
  (hs:a.eval s=v) (hx:a.eval x=.slice (some ⟨w.heap.size,0,none⟩) 1 c) (hcs:cs=(enc r).toArray) (hown:OR e n enc B v o w) (hl:o.length<=1000000) (hB:B<=w.heap.size)
  (h:∀v' w1,OR e n enc B v' (o++[r]) w1->Below B w w1->wpList P ops Q rest (a.put op.dst v') w1) :
  wpList P ops Q (op::rest) a (w.alloc (.cells cs e)):=by
 subst hcs;refine wpList_append_own _ og s x T ho B e i0 z n jo ht hi hz0 hz1 hz2 Lj E.pos v o.length _ hs (World.ownsRow.alloc hown _) ⟨w.heap.size,0,none⟩ 1 c (enc r) hx (by rw[E.len];omega) ?_ (E.one r) (by unfold maxLen;omega) ?_ ψ ?_
 .intro j u hj;rw[Addr.add_lit,Nat.zero_add,World.cell?_alloc_mark];simpa using hj
 .have:(o.length+1)*jo<=(o.length+1)*1000:=Nat.mul_le_mul_left _ dV;omega
 .intro v' w1 hown1 hg _;refine h v' w1 ?_ (((Below.refl B w).alloc hB (.cells (enc r).toArray e)).grown hg ψ (λk hk=>(World.ownsRow.lt hown k hk).1));show w1.ownsRow B e n v' (o++[r]).length (bF enc (o++[r]));rw[bU,bz,List.length_append];exact hown1
theorem MG(E:kz enc n){P:Program}{T e:TypeId}{i0:TypeInfo}{z:Value}{jo:Nat}(ht:P.underlying T=some (.slice e))(hi:P.info? e=some i0)(hz0:i0.zero=some z)(hz1:i0.size=n)(hz2:i0.bytes=jo)(Lj:z.cells.size=n)(dV:jo<=1000)
  {w:World} {ops:Array Oper} {rest:List Oper} {op:Oper} {a:Act} {Q:Exit->Act->World->Prop} (s x:Operand) (v:Value) (g f c:Nat) (o p:List α) (B:Nat)
  (og:op.guard=none) (ho:op.op=.call { callee:=.builtin .append,args:=#[s,x],argTypes:=#[T,T] })
  (hs:a.eval s=v) (hx:a.eval x=.slice (some ⟨g,f,none⟩) p.length c) (hown:OR e n enc B v o w) (hc:∀i (hi:i<p.length),∀j<n,w.cell? ⟨g,f+i*n+j,none⟩=(enc p[i])[j]?) (hl:o.length<=1000000) (vO:p.length<=1000000) (hB:B<=w.heap.size)
  (h:∀v' w1,OR e n enc B v' (o++p) w1->Below B w w1->wpList P ops Q rest (a.put op.dst v') w1) :
  wpList P ops Q (op::rest) a w:=by
 refine wpList_append_own _ og s x T ho B e i0 z n jo ht hi hz0 hz1 hz2 Lj E.pos v o.length _ hs hown ⟨g,f,none⟩ p.length c (bF enc p) hx (iL E p) ?_ (CT E p) (by unfold maxLen;omega) ?_ hB ?_
 .intro j u hj;have oh:j<p.length*n:=by rw[<-iL E p];exact (List.getElem?_eq_some_iff.1 hj).1
  have hn:=E.pos;have hq:j / n<p.length:=Nat.div_lt_of_lt_mul (by rw[Nat.mul_comm];exact oh)
  have hr:=Nat.mod_lt j hn;have hjj:j=j / n*n+j % n:=by rw[Nat.mul_comm];exact (Nat.div_add_mod j n).symm
  rw[Addr.add_lit,hjj,<-Nat.add_assoc,hc _ hq _ hr,<-qx E p _ _ hq hr,<-hjj];exact hj
 .have:(o.length+p.length)*jo<=(o.length+p.length)*1000:=Nat.mul_le_mul_left _ dV;omega
 .intro v' w1 hown1 hg _;refine h v' w1 ?_ ((Below.refl B w).grown hg hB (λk hk=>(World.ownsRow.lt hown k hk).1));show w1.ownsRow B e n v' (o++p).length (bF enc (o++p));rw[bU,List.length_append];exact hown1
theorem OR.empty(e:TypeId)(w:World):OR e n enc w.heap.size (.slice (some ⟨w.heap.size,0,none⟩) 0 0) [] (w.alloc (.cells #[] e)):=by
 refine ⟨by simp[bF],.inr ⟨w.heap.size,0,#[],rfl,I,World.alloc_heap_new w _,I,Nat.zero_le _,ξ,by simp[bF]⟩⟩
theorem Xx(E:kz enc n){P:Program}{T e:TypeId}{i0:TypeInfo}{z:Value}{jo:Nat}(ht:P.underlying T=some (.slice e))(hi:P.info? e=some i0)(hz0:i0.zero=some z)(hz1:i0.size=n)(hz2:i0.bytes=jo)(Lj:z.cells.size=n)(dV:jo<=1000)
  {w:World} {ops:Array Oper} {rest:List Oper} {op:Oper} {a:Act} {Q:Exit->Act->World->Prop} (s x:Operand) (v:Value) (ad:Addr) (c:Nat) (o p:List α) (B:Nat)
  (og:op.guard=none) (ho:op.op=.call { callee:=.builtin .append,args:=#[s,x],argTypes:=#[T,T] })
  (hs:a.eval s=v) (hx:a.eval x=.slice (some ad) p.length c) (hown:OR e n enc B v o w) (hc:∀i (hi:i<p.length),∀j<n,w.cell? (ad.add (i*n+j))=(enc p[i])[j]?) (hl:o.length<=1000000) (vO:p.length<=1000000) (hB:B<=w.heap.size)
  (h:∀v' w1,OR e n enc B v' (o++p) w1->Below B w w1->wpList P ops Q rest (a.put op.dst v') w1) :
  wpList P ops Q (op::rest) a w:=by
 refine wpList_append_own _ og s x T ho B e i0 z n jo ht hi hz0 hz1 hz2 Lj E.pos v o.length _ hs hown ad p.length c (bF enc p) hx (iL E p) ?_ (CT E p) (by unfold maxLen;omega) ?_ hB ?_
 .intro j u hj;have oh:j<p.length*n:=by rw[<-iL E p];exact (List.getElem?_eq_some_iff.1 hj).1
  have hn:=E.pos;have hq:j / n<p.length:=Nat.div_lt_of_lt_mul (by rw[Nat.mul_comm];exact oh)
  have hr:=Nat.mod_lt j hn;have hjj:j=j / n*n+j % n:=by rw[Nat.mul_comm];exact (Nat.div_add_mod j n).symm
  rw[hjj,hc _ hq _ hr,<-qx E p _ _ hq hr,<-hjj];exact hj
 .have:(o.length+p.length)*jo<=(o.length+p.length)*1000:=Nat.mul_le_mul_left _ dV;omega
 .intro v' w1 hown1 hg _;refine h v' w1 ?_ ((Below.refl B w).grown hg hB (λk hk=>(World.ownsRow.lt hown k hk).1));show w1.ownsRow B e n v' (o++p).length (bF enc (o++p));rw[bU,List.length_append];exact hown1
end
structure KC where
 nm:ByteArray
 op:Int
 a1:Option Addr
 n1:Nat
 c1:Nat
 a2:Option Addr
 n2:Nat
 c2:Nat
 mn:Int
 mx:Int
 wh:Bool
 ck:Int
 en:Int
 a3:Option Addr
 n3:Nat
 c3:Nat
 nr:Int
def KC.pat(u:KC):List Value:=[.int .i64 u.op,.slice u.a1 u.n1 u.c1,.slice u.a2 u.n2 u.c2,.int .i64 u.mn,.int .i64 u.mx]
def KC.cs(u:KC):List Value:=[.string u.nm,.int .i64 u.op,.slice u.a1 u.n1 u.c1,.slice u.a2 u.n2 u.c2,.int .i64 u.mn,.int .i64 u.mx,.bool u.wh,.int .i64 u.ck,.int .i64 u.en,.slice u.a3 u.n3 u.c3,.int .i64 u.nr]
theorem Cg:kz KC.cs 11:=⟨O,λ_=>rfl,λx u hu=>by
 simp only[KC.cs,List.mem_cons,List.not_mem_nil,or_false]at hu;rcases hu with rfl|rfl|rfl|rfl|rfl|rfl|rfl|rfl|rfl|rfl|rfl <;> rfl⟩
end Go.Proofs.YtdmoogjddmdmbaaGreatDoor
