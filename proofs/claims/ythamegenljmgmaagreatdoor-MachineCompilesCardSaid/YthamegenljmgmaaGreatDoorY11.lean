/- Walks. -/
import Derived.Laws.AppendOwnNone
import Derived.RangeFuncRecord
import Derived.Test.YthamegenljmgmaaGreatDoorY03
set_option maxRecDepth 100000
set_option maxHeartbeats 16000000
set_option linter.unusedVariables false
set_option linter.unusedSimpArgs false
namespace Go.Proofs.YthamegenljmgmaaGreatDoor
open Go.RowKit
structure p4 {α:Type} (enc:α->List Value) (n:Nat):Prop where
 pos:0<n
 len:∀x,(enc x).length=n
 one:∀x,∀u∈enc x,u.oneCell'=true
def a8{α:Type}(enc:α->List Value)(o:List α):List Value:=(o.map enc).flatten
section
variable {α:Type} {enc:α->List Value} {n:Nat}
theorem jV(E:p4 enc n)(o:List α):(a8 enc o).length=o.length*n:=by
 induction o with
 |nil=>simp[a8]
 |cons a r ih=>simp only[a8,List.map_cons,List.flatten_cons,List.length_append,List.length_cons,E.len]at ih|-;rw[ih,Nat.succ_mul];omega
theorem CP(E:p4 enc n)(o:List α):∀u∈a8 enc o,u.oneCell'=true:=by
 intro u hu;simp only[a8,List.mem_flatten,List.mem_map]at hu;obtain ⟨_,⟨r,-,rfl⟩,hu⟩:=hu;exact E.one r u hu
theorem bV(o p:List α):a8 enc (o++p)=a8 enc o++a8 enc p:=by simp[a8]
theorem bF(x:α):a8 enc [x]=enc x:=by simp[a8]
theorem rF(E:p4 enc n):∀(o:List α) (i c:Nat) (h:i<o.length),c<n->(a8 enc o)[i*n+c]?=(enc o[i])[c]?
 |a::r,0,c,_,hc=>by
  rw[Nat.zero_mul,Nat.zero_add];show (enc a++a8 enc r)[c]?=_;rw[List.getElem?_append_left (by rw[E.len];exact hc)];rfl
 |a::r,i+1,c,h,hc=>by
  show (enc a++a8 enc r)[(i+1)*n+c]?=_;have h1:=E.len a;rw[List.getElem?_append_right (by rw[h1,Nat.succ_mul];omega),h1,show (i+1)*n+c-n=i*n+c by rw[Nat.succ_mul];omega,rF E r i c (by simpa using h) hc]
  rfl
def OR(e:TypeId)(n:Nat)(enc:α->List Value)(B:Nat)(v:Value)(o:List α)(w:World):Prop:=w.ownsRow B e n v o.length (a8 enc o)
theorem OR.iG(e:TypeId)(B:Nat)(w:World):OR e n enc B () [] w:=World.ownsRow_nil _ _ _ _
theorem OR.keep{e:TypeId}{B:Nat}{v:Value}{o:List α}{w w1:World}(h:OR e n enc B v o w)(hk:∀k,v.ownBlock=some k->w1.heap[k]?=w.heap[k]?):OR e n enc B v o w1:=by
 refine ⟨h.1,?_⟩;rcases h.2 with h1|⟨g,cap,cur,h1,h2,h3,rest⟩
 .exact .inl h1
 .exact .inr ⟨g,cap,cur,h1,h2,(hk g (by rw[h1];rfl)).t h3,rest⟩
theorem OR.later{e:TypeId}{B:Nat}{v:Value}{o:List α}{w w1:World}(h:OR e n enc B v o w)(hb:Below w w w1):OR e n enc B v o w1:=
 h.keep λk hk=>hb.block k (World.ownsRow.lt h k hk).2
theorem OR.mono{e:TypeId}{B B':Nat}{v:Value}{o:List α}{w:World}(h:OR e n enc B v o w)(hB:B'<=B):OR e n enc B' v o w:=by
 refine ⟨h.1,?_⟩;rcases h.2 with h1|⟨g,cap,cur,h1,h2,rest⟩
 .exact .inl h1
 .exact .inr ⟨g,cap,cur,h1,Nat.le_trans hB h2,rest⟩
theorem OR.cells(E:p4 enc n){e:TypeId}{B:Nat}{v:Value}{o:List α}{w:World}(h:OR e n enc B v o w):
  ∃A c,v=.slice A o.length c/\o.length<=c/\(o=[]\/∃g,A=some ⟨g,0,none⟩/\B<=g/\g<w.heap.size/\∀i (hi:i<o.length),∀j<n,w.cell? (Z g (i*n+j))=(enc o[i])[j]?/\w.frozen? (Z g (i*n+j))=false):=by
 have h':=h;rcases h.2 with ⟨h1,h0⟩|⟨g,cap,cur,rfl,hB,hg,hle,adR,atz,ht⟩
 .exact ⟨none,0,by rw[h1,h0],U,.inl (List.length_eq_zero_iff.1 h0)⟩
 .refine ⟨_,_,rfl,hle,.inr ⟨g,rfl,hB,(γ hg).1,λi hi j hj=>⟨?_,by simp[World.frozen?,hg]⟩⟩⟩
  have aB:i*n+j<o.length*n:=by
   have:(i+1)*n<=o.length*n:=Nat.mul_le_mul_right n hi;rw[Nat.succ_mul]at this;omega
  rw[cell_of_row w g _ _ _ _ hg,<-rF E o i j hi hj,<-ht,List.getElem?_take,if_pos aB];simp
theorem GZ(E:p4 enc n){P:Program}{T e:TypeId}{i0:TypeInfo}{z:Value}{qM:Nat}(ht:P.underlying T=some (.slice e))(hi:P.info? e=some i0)(dY:i0.zero=some z)(dh:i0.size=n)(cT:i0.bytes=qM)(Uy:z.cells.size=n)(jl:qM<=1000)
  {w:World} {ops:Array Oper} {rest:List Oper} {op:Oper} {a:Act} {Q:Exit->Act->World->Prop} (s x:Operand) (v:Value) (c:Nat) (o:List α) (r:α) (cs:Array Value) (B:Nat)
  (tE:op.guard=none) (ho:op.op=.call { callee:=.builtin .append,args:=#[s,x],argTypes:=#[T,T] })
  (hs:a.eval s=v) (hx:a.eval x=.slice (Z w 0) 1 c) (bH:cs=(enc r).toArray) (ao:OR e n enc B v o w) (hl:o.length<=1000000) (hB:B<=w)
  (h:∀v' w1,OR e n enc B v' (o++[r]) w1->Below B w w1->wpList P ops Q rest (a.put op.dst v') w1) :
  wpList P ops Q (op::rest) a (w.alloc (.cells cs e)):=by
 subst bH;refine wpList_append_own _ tE s x T ho B e i0 z n qM ht hi dY dh cT Uy E.pos v o.length _ hs (World.ownsRow.alloc ao _) (Z w 0) 1 c (enc r) hx (by rw[E.len];omega) ?_ (E.one r) (by unfold maxLen;omega) ?_ ψ ?_
 .intro j u hj;rw[Addr.add_lit,Nat.zero_add,World.cell?_alloc_mark];simpa using hj
 .have:(o.length+1)*qM<=(o.length+1)*1000:=Nat.mul_le_mul_left _ jl;omega
 .intro v' w1 ai hg _;refine h v' w1 ?_ (((Below.refl B w).alloc hB (.cells (enc r).toArray e)).grown hg ψ (λk hk=>(World.ownsRow.lt ao k hk).1));show w1.ownsRow B e n v' (o++[r]).length (a8 enc (o++[r]));rw[bV,bF,List.length_append];exact ai
theorem adS(E:p4 enc n){P:Program}{T e:TypeId}{i0:TypeInfo}{z:Value}{qM:Nat}(ht:P.underlying T=some (.slice e))(hi:P.info? e=some i0)(dY:i0.zero=some z)(dh:i0.size=n)(cT:i0.bytes=qM)(Uy:z.cells.size=n)(jl:qM<=1000)
  {w:World} {ops:Array Oper} {rest:List Oper} {op:Oper} {a:Act} {Q:Exit->Act->World->Prop} (s x:Operand) (v:Value) (g f c:Nat) (o p:List α) (B:Nat)
  (tE:op.guard=none) (ho:op.op=.call { callee:=.builtin .append,args:=#[s,x],argTypes:=#[T,T] })
  (hs:a.eval s=v) (hx:a.eval x=.slice (Z g f) p.length c) (ao:OR e n enc B v o w) (hc:∀i (hi:i<p.length),∀j<n,w.cell? (Z g (f+i*n+j))=(enc p[i])[j]?) (hl:o.length<=1000000) (wI:p.length<=1000000) (hB:B<=w)
  (h:∀v' w1,OR e n enc B v' (o++p) w1->Below B w w1->wpList P ops Q rest (a.put op.dst v') w1) :
  wpList P ops Q (op::rest) a w:=by
 refine wpList_append_own _ tE s x T ho B e i0 z n qM ht hi dY dh cT Uy E.pos v o.length _ hs ao (Z g f) p.length c (a8 enc p) hx (jV E p) ?_ (CP E p) (by unfold maxLen;omega) ?_ hB ?_
 .intro j u hj;have hU:j<p.length*n:=by rw[<-jV E p];exact (List.getElem?_eq_some_iff.1 hj).1
  have hn:=E.pos;have hq:j / n<p.length:=Nat.div_lt_of_lt_mul (by rw[Nat.mul_comm];exact hU)
  have hr:=Nat.mod_lt j hn;have hjj:j=j / n*n+j % n:=by rw[Nat.mul_comm];exact (Nat.div_add_mod j n).symm
  rw[Addr.add_lit,hjj,<-Nat.add_assoc,hc _ hq _ hr,<-rF E p _ _ hq hr,<-hjj];exact hj
 .have:(o.length+p.length)*qM<=(o.length+p.length)*1000:=Nat.mul_le_mul_left _ jl;omega
 .intro v' w1 ai hg _;refine h v' w1 ?_ ((Below.refl B w).grown hg hB (λk hk=>(World.ownsRow.lt ao k hk).1));show w1.ownsRow B e n v' (o++p).length (a8 enc (o++p));rw[bV,List.length_append];exact ai
theorem OR.empty(e:TypeId)(w:World):OR e n enc w (.slice (Z w 0) 0 0) [] (w.alloc (.cells #[] e)):=by
 refine ⟨by simp[a8],.inr ⟨w.heap.size,0,#[],rfl,V,World.alloc_heap_new w _,V,Nat.zero_le _,H,by simp[a8]⟩⟩
theorem V9(E:p4 enc n){P:Program}{T e:TypeId}{i0:TypeInfo}{z:Value}{qM:Nat}(ht:P.underlying T=some (.slice e))(hi:P.info? e=some i0)(dY:i0.zero=some z)(dh:i0.size=n)(cT:i0.bytes=qM)(Uy:z.cells.size=n)(jl:qM<=1000)
  {w:World} {ops:Array Oper} {rest:List Oper} {op:Oper} {a:Act} {Q:Exit->Act->World->Prop} (s x:Operand) (v:Value) (ad:Addr) (c:Nat) (o p:List α) (B:Nat)
  (tE:op.guard=none) (ho:op.op=.call { callee:=.builtin .append,args:=#[s,x],argTypes:=#[T,T] })
  (hs:a.eval s=v) (hx:a.eval x=.slice (some ad) p.length c) (ao:OR e n enc B v o w) (hc:∀i (hi:i<p.length),∀j<n,w.cell? (ad.add (i*n+j))=(enc p[i])[j]?) (hl:o.length<=1000000) (wI:p.length<=1000000) (hB:B<=w)
  (h:∀v' w1,OR e n enc B v' (o++p) w1->Below B w w1->wpList P ops Q rest (a.put op.dst v') w1) :
  wpList P ops Q (op::rest) a w:=by
 refine wpList_append_own _ tE s x T ho B e i0 z n qM ht hi dY dh cT Uy E.pos v o.length _ hs ao ad p.length c (a8 enc p) hx (jV E p) ?_ (CP E p) (by unfold maxLen;omega) ?_ hB ?_
 .intro j u hj;have hU:j<p.length*n:=by rw[<-jV E p];exact (List.getElem?_eq_some_iff.1 hj).1
  have hn:=E.pos;have hq:j / n<p.length:=Nat.div_lt_of_lt_mul (by rw[Nat.mul_comm];exact hU)
  have hr:=Nat.mod_lt j hn;have hjj:j=j / n*n+j % n:=by rw[Nat.mul_comm];exact (Nat.div_add_mod j n).symm
  rw[hjj,hc _ hq _ hr,<-rF E p _ _ hq hr,<-hjj];exact hj
 .have:(o.length+p.length)*qM<=(o.length+p.length)*1000:=Nat.mul_le_mul_left _ jl;omega
 .intro v' w1 ai hg _;refine h v' w1 ?_ ((Below.refl B w).grown hg hB (λk hk=>(World.ownsRow.lt ao k hk).1));show w1.ownsRow B e n v' (o++p).length (a8 enc (o++p));rw[bV,List.length_append];exact ai
end
end Go.Proofs.YthamegenljmgmaaGreatDoor
