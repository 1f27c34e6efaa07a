/- Walks. -/
import Derived.Test.YthamegenljmgmaaGreatDoorY10
import Derived.Test.YthamegenljmgmaaGreatDoorY11
set_option maxRecDepth 100000
set_option maxHeartbeats 16000000
set_option linter.unusedVariables false
set_option linter.unusedSimpArgs false
namespace Go.Proofs.YthamegenljmgmaaGreatDoor
open Go.RowKit
def gZ(v:Value)(rows:List Value):List Nat:=aq v++rows.flatMap aq
structure RR {α:Type} (T1 T2 k:Nat) (enc:α->List Value) (B:Nat) (v:Value) (ll:List (List α)) (rows:List Value) (w:World):Prop where
 nd:(gZ v rows).Nodup
 out:w.ownsRow B T1 1 v ll.length rows
 row:∀i (h:i<ll.length),∃u,rows[i]?=some u/\OR T2 k enc B u ll[i] w
section
variable {α:Type} {T1 T2 k:Nat} {enc:α->List Value} {B:Nat} {v:Value} {ll:List (List α)} {rows:List Value} {w:World}
theorem RR.len(h:RR T1 T2 k enc B v ll rows w):rows.length=ll.length:=by have:=h.out.1;omega
theorem RR.iG(T1 T2 k:Nat)(enc:α->List Value)(B:Nat)(w:World):RR T1 T2 k enc B () [] [] w:=⟨by simp[gZ,aq,Value.ownBlock],World.ownsRow_nil _ _ _ _,λi h=>absurd h (Nat.not_lt_zero i)⟩
theorem RR.jL(h:RR T1 T2 k enc B v ll rows w){u:Value}(hu:u∈rows):∃i,∃(hi:i<ll.length),rows[i]?=some u/\OR T2 k enc B u ll[i] w:=by
 obtain ⟨i,hi,rfl⟩:=List.getElem_of_mem hu;have hl:=h.len;obtain ⟨u,h1,h2⟩:=h.row i U;rw[List.getElem?_eq_getElem hi,Option.some.injEq]at h1;subst h1;exact ⟨i,U,List.getElem?_eq_getElem hi,h2⟩
theorem RR.lt(h:RR T1 T2 k enc B v ll rows w):∀g∈gZ v rows,B<=g/\g<w.heap.size:=by
 intro g hg;unfold gZ at hg;rcases List.mem_append.1 hg with hg|hg
 .exact h.out.lt g (af.1 hg)
 .obtain ⟨u,hu,VH⟩:=List.mem_flatMap.1 hg;obtain ⟨i,hi,-,h2⟩:=h.jL hu;exact World.ownsRow.lt h2 g (af.1 VH)
theorem RR.same{w':World}(h:RR T1 T2 k enc B v ll rows w)(hk:∀g∈gZ v rows,w'.heap[g]?=w.heap[g]?):RR T1 T2 k enc B v ll rows w':=by
 refine ⟨h.nd,ar h.out λg hg=>hk g (by simp[gZ,af,hg]),λi hi=>?_⟩
 obtain ⟨u,h1,h2⟩:=h.row i hi;exact ⟨u,h1,h2.keep λg hg=>hk g (by
  unfold gZ;exact List.mem_append_right _ (List.mem_flatMap.2 ⟨u,List.mem_of_getElem? h1,af.2 hg⟩))⟩
theorem RR.form(h:RR T1 T2 k enc B v ll rows w)(h0:0<ll.length):∃g c,v=.slice (Z g 0) ll.length c/\g<w.heap.size/\(ll.length<=c/\c<=9223372036854775807)/\(∀i (hi:i<ll.length),∃u,rows[i]?=some u/\w.cell? (Z g i)=some u)/\∀i,w.frozen? (Z g i)=false:=by
 have hl:=h.len;rcases h.out.2 with ⟨-,h1⟩|⟨g,cap,cur,rfl,hB,hg,hle,hm,bH,ht⟩
 .omega
 .refine ⟨g,cap,rfl,(γ hg).1,⟨hle,by unfold maxLen at hm;omega⟩,λi hi=>?_,λi=>by simp[World.frozen?,hg]⟩
  obtain ⟨u,h1,-⟩:=h.row i hi;refine ⟨u,h1,?_⟩;have:=h.out.cellAt i U;rw[this];exact h1
theorem RR.add{w1:World}(h:RR T1 T2 k enc B v ll rows w){p:Nat}(hp:p<ll.length)(l:List α){u u':Value}(hv:rows[p]?=some u)(ao:OR T2 k enc B u' (ll[p]++l) w1)(hg:w.grownBy w1 u.ownBlock)
  (hf:u'.ownBlock=u.ownBlock\/∃g,u'.ownBlock=some g/\w.heap.size<=g) {gf cf:Nat} (OK:v=.slice (Z gf 0) ll.length cf) :
  RR T1 T2 k enc B v (ll.set p (ll[p]++l)) (rows.set p u') (w1.setCell (Z gf p) u')/\ab (gZ v rows) (gZ v (rows.set p u')) w (w1.setCell (Z gf p) u'):=by
 have aB:=h.lt;have aY:=h.nd;unfold gZ at aY;rw[List.nodup_append]at aY;obtain ⟨n5,n6,n7⟩:=aY;have PU:∀g,u.ownBlock=some g->g∈rows.flatMap aq:=λg hg=>List.mem_flatMap.2 ⟨u,List.mem_of_getElem? hv,af.2 hg⟩;have rK:gf∈aq v:=af.2 (by rw[OK];rfl)
 obtain ⟨s1,s2⟩:=xU n6 hv hf (λk hk=>(aB k (by unfold gZ;simp only[List.mem_append];exact .inr hk)).2)
 have Bm:=hg.size;have pH:∀k,k<w.heap.size->k≠gf->u.ownBlock≠some k->(w1.setCell (Z gf p) u').heap[k]?=w.heap[k]?:=λk hk h1 h2=>by
  rw[Below.heap_setCell _ _ _ _ h1];exact hg.block k hk λe=>h2 e.symm
 have Uz:u.ownBlock≠some gf:=λe=>n7 gf rK gf (PU gf e) rfl;have UA:u'.ownBlock≠some gf:=by
  rcases hf with hf|⟨g,hf,dZ⟩
  .rw[hf];exact Uz
  .rw[hf];intro e;injection e with e;have:=(aB gf (by unfold gZ;simp[rK])).2;omega
 have jC:ab (gZ v rows) (gZ v (rows.set p u')) w (w1.setCell (Z gf p) u'):=by
  refine ⟨hg.os,hg.tape,hg.output,by simp[World.setCell];exact Bm,λk hk hn=>pH k hk (λe=>hn ?_) (λe=>hn ?_),λk hk=>?_⟩
  .subst e;unfold gZ;simp[rK]
  .unfold gZ;simp only[List.mem_append];exact .inr (PU k e)
  .unfold gZ at hk|-;simp only[List.mem_append]at hk|-;rcases hk with hk|hk
   .exact .inl (.inl hk)
   .exact (s2 k hk).imp .inr id
 have KX:w1.ownsRow B T1 1 v ll.length rows:=ar h.out λg qu=>hg.block g (h.out.lt g qu).2 λe=>n7 g (af.2 qu) g (PU g e.symm) rfl;subst OK;have fw:=(KX.stored p u').1;refine ⟨⟨?_,?_,λi hi=>?_⟩,jC⟩
 .unfold gZ;rw[List.nodup_append];refine ⟨n5,s1,λx hx y hy=>?_⟩;rcases s2 y hy with hm|hm
  .exact n7 x hx y hm
  .have:=(aB x (by unfold gZ;simp[hx])).2;omega
 .rw[List.length_set];exact fw
 .rw[List.length_set]at hi;by_cases ZE:i=p
  .subst ZE;refine ⟨u',by rw[List.getElem?_set_self (by have:=(List.getElem?_eq_some_iff.1 hv).1;exact this)],?_⟩
   rw[List.getElem_set_self];exact ao.keep λg qu=>Below.heap_setCell _ _ _ _ λe=>UA (by rw[qu];show some g=some gf;rw[show g=gf from e])
  .obtain ⟨x,u1,u2⟩:=h.row i hi;refine ⟨x,by rw[List.getElem?_set_ne U];exact u1,?_⟩
   rw[List.getElem_set_ne U];have hu:∀g,x.ownBlock=some g->g∈rows.flatMap aq:=λg hg=>List.mem_flatMap.2 ⟨x,List.mem_of_getElem? u1,af.2 hg⟩;exact u2.keep λg qu=>pH g (World.ownsRow.lt u2 g qu).2 (λe=>n7 gf rK g (hu g qu) e.symm) (uI n6 u1 hv ZE g qu)
theorem aT.aq{v' v:Value}{N:Nat}(hf:aT v' v N):∀g,g∈aq v'->g∈aq v\/N<=g:=λg hg=>by
 rcases hf with hf|⟨g',hf,h2⟩
 .left;unfold Go.Proofs.YthamegenljmgmaaGreatDoor.aq at hg|-;rw[<-hf];exact hg
 .right
  have:=af.1 hg;rw[hf]at this;injection this with this;omega
theorem zA(v:Value):(aq v).Nodup:=by unfold aq; cases v.ownBlock <;> simp
theorem oE(rows:List Value):(rows++[Value.slice none 0 0]).flatMap aq=rows.flatMap aq:=by simp[aq,Value.ownBlock]
theorem RR.push{w1:World}(h:RR T1 T2 k enc B v ll rows w){v':Value}(ao:w1.ownsRow B T1 1 v' (ll.length+1) (rows++[.slice none 0 0]))(hr:∀g∈rows.flatMap aq,w1.heap[g]?=w.heap[g]?)(hf:aT v' v w):
  RR T1 T2 k enc B v' (ll++[[]]) (rows++[.slice none 0 0]) w1:=by
 have aB:=h.lt;have aY:=h.nd;unfold gZ at aY;rw[List.nodup_append]at aY;obtain ⟨n5,n6,n7⟩:=aY;refine ⟨?_,by rw[List.length_append];exact ao,λi hi=>?_⟩
 .unfold gZ;rw[oE,List.nodup_append];refine ⟨zA _,n6,λx hx' y hy e=>?_⟩;subst e;rcases hf.aq x hx' with h1|h1
  .exact n7 x h1 x hy rfl
  .have:=(aB x (by unfold gZ;exact List.mem_append_right _ hy)).2;omega
 .have hl:=h.len;by_cases ek:i<ll.length
  .obtain ⟨x,u1,u2⟩:=h.row i ek;refine ⟨x,by rw[List.getElem?_append_left U];exact u1,?_⟩
   rw[List.getElem_append_left ek];exact u2.keep λg qu=>hr g (List.mem_flatMap.2 ⟨x,List.mem_of_getElem? u1,af.2 qu⟩)
  .have nY:i=ll.length:=by rw[List.length_append]at hi;simp at hi;omega
   subst nY;refine ⟨.slice none 0 0,by rw[List.getElem?_append_right U,hl];simp,?_⟩
   rw[List.getElem_append_right V];simp only[Nat.sub_self,List.getElem_cons_zero];exact OR.iG _ _ _
end
end Go.Proofs.YthamegenljmgmaaGreatDoor
