/- Walks. -/
import Derived.Test.YtdmoogjddmdmbaaGreatDoorX13
import Derived.Test.YtdmoogjddmdmbaaGreatDoorX11
import Derived.Test.YtdmoogjddmdmbaaGreatDoorX19
import Derived.Test.YtdmoogjddmdmbaaGreatDoorX01
import Derived.Shelf.Slices.Turned
set_option maxRecDepth 100000
set_option maxHeartbeats 16000000
set_option linter.unusedVariables false
set_option linter.unusedSimpArgs false
namespace Go.Proofs.YtdmoogjddmdmbaaGreatDoor
open Go.RowKit
section
open Go.Maps (Keyed)
theorem dk{w:World}{B k n:Nat}{e:TypeId}{v:Value}{xs:List Value}(h:w.ownsRow B e k v n xs):∀g,v.ownBlock=some g->∃cs m,w.heap[g]?=some (.cells cs e m):=λg hg=>by
 rcases h.2 with ⟨h1,-⟩|⟨g',cap,cur,h1,-,xk,-⟩
 .subst h1;simp[Value.ownBlock]at hg
 .subst h1;simp[Value.ownBlock]at hg;subst hg;exact ⟨_,_,xk⟩
theorem rz{w:World}{B B' k k' n n':Nat}{e e':TypeId}{v u:Value}{xs ys:List Value}(h:w.ownsRow B e k v n xs)(h':w.ownsRow B' e' k' u n' ys)(he:e≠e'):∀g,v.ownBlock=some g->u.ownBlock≠some g:=λg hg hu=>by
 obtain ⟨cs,m,h1⟩:=dk h g hg;obtain ⟨cs',m',h2⟩:=dk h' g hu;rw[h1]at h2;injection h2 with h2;injection h2 with _ h3 _;exact he h3
theorem ET{w:World}{B k n:Nat}{e e':TypeId}{v:Value}{xs:List Value}(h:w.ownsRow B e k v n xs){N:Nat}{cs:Array Value}{m:Nat×Nat}(hN:w.heap[N]?=some (.cells cs e' m))(he:e≠e'):v.ownBlock≠some N:=λhv=>by
 obtain ⟨cs',m',h1⟩:=dk h N hv;rw[hN]at h1;injection h1 with h1;injection h1 with _ h3 _;exact he h3.symm
def lG(N:Nat)(vE vA:Value):List Nat:=N::(blk vE++blk vA)
theorem bp{N:Nat}{vE vA:Value}{k:Nat}:k∈lG N vE vA↔k=N\/vE.ownBlock=some k\/vA.ownBlock=some k:=by
 unfold lG;simp only[List.mem_cons,List.mem_append,aI]
structure iI (B N:Nat) (fx:List Nat) (vE vA:Value) (gv:List Value) (rs:List (List Ed)) (bL:List Bool) (w:World):Prop where
 hN:w.heap[N]?=some (.cells #[vE,vA] 93 (0,0))
 bN:B<=N
 own:w.ownsRow B 187 1 vE rs.length gv
 QM:∀i (h:i<rs.length),∃v,gv[i]?=some v/\eb w v rs[i]/\aL (lG N vE vA) v/\aL fx v/\∀g,v.ownBlock=some g->B<=g/\g<w.heap.size
 acc:OR 4 1 bC B vA bL w
 out:∀k∈lG N vE vA,k∉fx
section
variable {B N:Nat} {fx fx':List Nat} {vE vA:Value} {gv:List Value} {rs:List (List Ed)} {bL:List Bool} {w w':World}
theorem iI.lt(h:iI B N fx vE vA gv rs bL w):∀k∈lG N vE vA,B<=k/\k<w.heap.size:=λk hk=>by
 rcases bp.1 hk with rfl|hk|hk
 .exact ⟨h.bN,(γ h.hN).1⟩
 .exact h.own.lt k hk
 .exact World.ownsRow.lt h.acc k hk
theorem iI.keep(h:iI B N fx vE vA gv rs bL w)(hk:aj fx fx' w w'):iI B N fx' vE vA gv rs bL w':=by
 have hlt:=h.lt;have hb:∀k∈lG N vE vA,w'.heap[k]?=w.heap[k]?:=λk hm=>hk.blk k (hlt k hm).2 (h.out k hm);refine ⟨(hb N (bp.2 (.inl rfl))).trans h.hN,h.bN,aG h.own λg hg=>hb g (bp.2 (.inr (.inl hg))),λi hi=>?_,OR.keep h.acc λg hg=>hb g (bp.2 (.inr (.inr hg))),λk hm hx=>(hk.new k hx).elim (h.out k hm) λhz=>by have:=(hlt k hm).2;omega⟩
 obtain ⟨v,h1,h2,h3,h4,h5⟩:=h.QM i hi;exact ⟨v,h1,h2.keep h4 hk,h3,oT h4 (λg hg=>(h5 g hg).2) hk,λg hg=>⟨(h5 g hg).1,Nat.lt_of_lt_of_le (h5 g hg).2 hk.size⟩⟩
theorem iI.later(h:iI B N fx vE vA gv rs bL w)(hb:Below w.heap.size w w'):iI B N fx vE vA gv rs bL w':=h.keep (aj.aa hb)
theorem iN{v v':Value}{n k:Nat}(hf:di v' v n)(h:v'.ownBlock=some k):v.ownBlock=some k\/n<=k:=by
 rcases hf with hf|⟨g,hf,h2⟩
 .exact .inl (hf▸h)
 .rw[hf]at h;injection h with h;exact .inr (h▸h2)
theorem iI.put(h:iI B N fx vE vA gv rs bL w)(MF:∀k∈fx,k<w.heap.size)(hk:aj (lG N vE vA) [] w w'){px rW:Value}{gv':List Value}{rs':List (List Ed)}{IX:List Bool}
  (hN:w'.heap[N]?=some (.cells #[px,rW] 93 (0,0))) (hE:w'.ownsRow B 187 1 px rs'.length gv') (hA:OR 4 1 bC B rW IX w') (fE:di px vE w.heap.size) (fA:di rW vA w.heap.size)
  (hr:∀i (hi:i<rs'.length),∃v,gv'[i]?=some v/\eb w v rs'[i]/\aL (lG N vE vA) v/\aL fx v/\∀g,v.ownBlock=some g->B<=g/\g<w.heap.size) :
  iI B N fx px rW gv' rs' IX w'/\aj (lG N vE vA) (lG N px rW) w w':=by
 have lO:∀k∈lG N px rW,k∈lG N vE vA\/w.heap.size<=k:=λk hm=>by
  rcases bp.1 hm with rfl|hm|hm
  .exact .inl (bp.2 (.inl rfl))
  .exact (iN fE hm).imp (λh=>bp.2 (.inr (.inl h))) id
  .exact (iN fA hm).imp (λh=>bp.2 (.inr (.inr h))) id
 have bX:aj (lG N vE vA) (lG N px rW) w w':=⟨hk.os,hk.tape,hk.output,hk.size,hk.blk,lO⟩;refine ⟨⟨hN,h.bN,hE,λi hi=>?_,hA,λk hm hx=>(lO k hm).elim (λh1=>h.out k h1 hx) λh1=>by have:=MF k hx;omega⟩,bX⟩
 obtain ⟨v,h1,h2,h3,h4,h5⟩:=hr i hi;exact ⟨v,h1,h2.keep h3 bX,oT h3 (λg hg=>(h5 g hg).2) bX,h4,λg hg=>⟨(h5 g hg).1,Nat.lt_of_lt_of_le (h5 g hg).2 hk.size⟩⟩
theorem iI.Rw(h:iI B N fx vE vA gv rs bL w):∀i (hi:i<rs.length),∃v,gv[i]?=some v/\eb w v rs[i]/\aL (lG N vE vA) v/\aL fx v/\∀g,v.ownBlock=some g->B<=g/\g<w.heap.size:=h.QM
theorem iI.GQ(h:iI B N fx vE vA gv rs bL w){v:Value}{r:List Ed}(hv:eb w v r)(ho:aL (lG N vE vA) v)(hx:aL fx v)(hl:∀g,v.ownBlock=some g->B<=g/\g<w.heap.size):
  ∀i (hi:i<(rs++[r]).length),∃u,(gv++[v])[i]?=some u/\eb w u (rs++[r])[i]/\aL (lG N vE vA) u/\aL fx u/\∀g,u.ownBlock=some g->B<=g/\g<w.heap.size:=λi hi=>by
 have dR:gv.length=rs.length:=by have:=h.own.1;omega
 by_cases hlt:i<rs.length
 .obtain ⟨u,h1,h2,h3,h4,h5⟩:=h.QM i hlt;refine ⟨u,by rw[List.getElem?_append_left Y];exact h1,?_,h3,h4,h5⟩
  rw[List.getElem_append_left hlt];exact h2
 .have rJ:i=rs.length:=by simp at hi;omega
  subst rJ;refine ⟨v,by rw[List.getElem?_append_right Y,dR];simp,?_,ho,hx,hl⟩
  rw[List.getElem_append_right I];simpa using hv
theorem iI.aj8{w1:World}(h:iI B N fx vE vA gv rs bL w)(hg:w1.heap[N]?=w.heap[N]?)(v:Value):(w1.setCell ⟨N,0,none⟩ v).heap[N]?=some (.cells #[v,vA] 93 (0,0)):=by
 have:=aS (hg.trans h.hN) 0 v;simpa using this
theorem iI.aj9{w1:World}(h:iI B N fx vE vA gv rs bL w)(hg:w1.heap[N]?=w.heap[N]?)(v:Value):(w1.setCell ⟨N,1,none⟩ v).heap[N]?=some (.cells #[vE,v] 93 (0,0)):=by
 have:=aS (hg.trans h.hN) 1 v;simpa using this
theorem iI.Zc(h:iI B N fx vE vA gv rs bL w):vE.ownBlock≠some N:=ET h.own h.hN O
theorem iI.neA(h:iI B N fx vE vA gv rs bL w):vA.ownBlock≠some N:=ET (show w.ownsRow _ _ _ _ _ _ from h.acc) h.hN O
theorem iI.Xc(h:iI B N fx vE vA gv rs bL w):∀g,vE.ownBlock=some g->vA.ownBlock≠some g:=rz h.own (show w.ownsRow _ _ _ _ _ _ from h.acc) O
theorem iI.lQ{w1:World}(h:iI B N fx vE vA gv rs bL w)(MF:∀k∈fx,k<w.heap.size){v:Value}{r:List Ed}(hv:eb w v r)(ho:aL (lG N vE vA) v)(hx:aL fx v)(hl:∀g,v.ownBlock=some g->B<=g/\g<w.heap.size)
  {px:Value} (hown:w1.ownsRow B 187 1 px (rs.length+1) (gv++[v])) (hg:w.grownBy w1 vE.ownBlock) (hf:di px vE w.heap.size) :
  iI B N fx px vA (gv++[v]) (rs++[r]) bL (w1.setCell ⟨N,0,none⟩ px)/\aj (lG N vE vA) (lG N px vA) w (w1.setCell ⟨N,0,none⟩ px):=by
 have hlt:=h.lt;have Xd:=(hlt N (bp.2 (.inl rfl))).2;have hz:=hg.size;have bo:∀k,k≠N->(w1.setCell ⟨N,0,none⟩ px).heap[k]?=w1.heap[k]?:=λk hk=>Below.heap_setCell _ _ _ _ hk;have dS:aj (lG N vE vA) [] w w1:=ql hg λg hg=>bp.2 (.inr (.inl hg));have hk:aj (lG N vE vA) [] w (w1.setCell ⟨N,0,none⟩ px):=dS.tr ⟨rfl,rfl,rfl,by simp[World.setCell],λk _ hn=>bo k (λe=>hn (bp.2 (.inl e))),λk hk=>by cases hk⟩
 have vY:w1.heap[N]?=w.heap[N]?:=hg.block N Xd (λe=>h.Zc e.symm);have e1:(w1.setCell ⟨N,0,none⟩ px).ownsRow B 187 1 px (rs++[r]).length (gv++[v]):=by
  rw[List.length_append];refine aG hown λg ij=>bo g ?_;rintro rfl;rcases iN hf ij with h1|h1
  .exact h.Zc h1
  .omega
 have e2:OR 4 1 bC B vA bL (w1.setCell ⟨N,0,none⟩ px):=OR.keep h.acc λg ij=>(bo g (by rintro rfl;exact h.neA ij)).trans (hg.block g (hlt g (bp.2 (.inr (.inr ij)))).2 λe=>h.Xc g e.symm ij)
 exact h.put MF hk (h.aj8 vY px) e1 e2 hf (.inl rfl) (h.GQ hv ho hx hl)
theorem iI.aiB{w1:World}(h:iI B N fx vE vA gv rs bL w)(MF:∀k∈fx,k<w.heap.size){a:Bool}
  {rW:Value} (hown:OR 4 1 bC B rW (bL++[a]) w1) (hg:w.grownBy w1 vA.ownBlock) (hf:di rW vA w.heap.size) :
  iI B N fx vE rW gv rs (bL++[a]) (w1.setCell ⟨N,1,none⟩ rW)/\aj (lG N vE vA) (lG N vE rW) w (w1.setCell ⟨N,1,none⟩ rW):=by
 have hlt:=h.lt;have Xd:=(hlt N (bp.2 (.inl rfl))).2;have hz:=hg.size;have bo:∀k,k≠N->(w1.setCell ⟨N,1,none⟩ rW).heap[k]?=w1.heap[k]?:=λk hk=>Below.heap_setCell _ _ _ _ hk;have dS:aj (lG N vE vA) [] w w1:=ql hg λg hg=>bp.2 (.inr (.inr hg));have hk:aj (lG N vE vA) [] w (w1.setCell ⟨N,1,none⟩ rW):=dS.tr ⟨rfl,rfl,rfl,by simp[World.setCell],λk _ hn=>bo k (λe=>hn (bp.2 (.inl e))),λk hk=>by cases hk⟩
 have vY:w1.heap[N]?=w.heap[N]?:=hg.block N Xd (λe=>h.neA e.symm);have e1:(w1.setCell ⟨N,1,none⟩ rW).ownsRow B 187 1 vE rs.length gv:=aG h.own λg ij=>(bo g (by rintro rfl;exact h.Zc ij)).trans (hg.block g (hlt g (bp.2 (.inr (.inl ij)))).2 λe=>h.Xc g ij e.symm)
 have e2:OR 4 1 bC B rW (bL++[a]) (w1.setCell ⟨N,1,none⟩ rW):=OR.keep hown λg ij=>bo g (by
  rintro rfl;rcases iN hf ij with h1|h1
  .exact h.neA h1
  .omega)
 exact h.put MF hk (h.aj9 vY rW) e1 e2 (.inl rfl) hf h.Rw
theorem iI.ab2(h:iI B N fx vE vA gv rs bL w):gH w (.agg #[vE,vA]) ⟨rs,bL⟩:=by
 refine ⟨vE,vA,rfl,?_,eO.gq h.acc⟩;have dR:gv.length=rs.length:=by have:=h.own.1;omega
 rcases h.own.2 with ⟨h1,h2⟩|⟨g,cap,cur,h1,-,hg,hle,hm,hcs,ht⟩
 .exact ⟨none,0,by rw[h1,h2],⟨by show rs.length<=0;omega,O⟩,.inl (List.length_eq_zero_iff.1 h2)⟩
 .refine ⟨_,cap,h1,⟨Y,by unfold maxLen at hm;omega⟩,.inr ⟨g,0,rfl,(γ hg).1,λi hi=>?_⟩⟩
  obtain ⟨v,e1,e2,-⟩:=h.QM i hi;refine ⟨v,?_,e2⟩;subst h1;have:=h.own.cellAt i (by rw[Nat.mul_one];exact hi)
  rw[Nat.zero_add,this,e1]
end
theorem iI.low{B N:Nat}{fx:List Nat}{vE vA:Value}{gv:List Value}{rs:List (List Ed)}{bL:List Bool}{w w':World}{L L':List Nat}(h:iI B N fx vE vA gv rs bL w)(hk:aj L L' w w')(hL:∀k∈L,k<B):iI B N fx vE vA gv rs bL w':=by
 have hlt:=h.lt;have hb:∀k∈lG N vE vA,w'.heap[k]?=w.heap[k]?:=λk hm=>hk.blk k (hlt k hm).2 λhl=>by have:=hL k hl;have:=(hlt k hm).1;omega
 refine ⟨(hb N (bp.2 (.inl rfl))).trans h.hN,h.bN,aG h.own λg hg=>hb g (bp.2 (.inr (.inl hg))),λi hi=>?_,OR.keep h.acc λg hg=>hb g (bp.2 (.inr (.inr hg))),h.out⟩;obtain ⟨v,h1,h2,h3,h4,h5⟩:=h.QM i hi;exact ⟨v,h1,h2.keep (λg hg hl=>by have:=hL g hl;have:=(h5 g hg).1;omega) hk,h3,h4,λg hg=>⟨(h5 g hg).1,Nat.lt_of_lt_of_le (h5 g hg).2 hk.size⟩⟩
def iB(B:Nat)(w:World)(v:Value)(m:Mc):Prop:=∀w',aj (List.range B) [] w w'->gH w' v m
theorem iB.mc{B:Nat}{w:World}{v:Value}{m:Mc}(h:iB B w v m):gH w v m:=h w ⟨rfl,rfl,rfl,I,λ_ _ _=>rfl,λk hk=>by cases hk⟩
theorem iB.mono{B B':Nat}{w:World}{v:Value}{m:Mc}(h:iB B w v m)(hB:B'<=B):iB B' w v m:=λw' hk=>
 h w' ⟨hk.os,hk.tape,hk.output,hk.size,λk h1 hn=>hk.blk k h1 λhm=>hn (List.mem_range.2 (by have:=List.mem_range.1 hm;omega)),λk hk=>by cases hk⟩
theorem iB.keep{B:Nat}{w w':World}{v:Value}{m:Mc}{L L':List Nat}(h:iB B w v m)(hk:aj L L' w w')(hL:∀k∈L,k<B):iB B w' v m:=λw2 bX=>
 h w2 ⟨bX.os.trans hk.os,bX.tape.trans hk.tape,bX.output.trans hk.output,Nat.le_trans hk.size bX.size,λk h1 hn=>(bX.blk k (Nat.lt_of_lt_of_le h1 hk.size) hn).trans (hk.blk k h1 λhm=>hn (List.mem_range.2 (hL k hm))),λk hk=>by cases hk⟩
theorem iB.later{B:Nat}{w w':World}{v:Value}{m:Mc}(h:iB B w v m)(hb:Below w.heap.size w w'):iB B w' v m:=h.keep (aj.aa (fp:=[]) hb) (λk hk=>by cases hk)
theorem iI.up{B N:Nat}{fx:List Nat}{vE vA:Value}{gv:List Value}{rs:List (List Ed)}{bL:List Bool}{w:World}(h:iI B N fx vE vA gv rs bL w):iB B w (.agg #[vE,vA]) ⟨rs,bL⟩:=λ_ hk=>(h.low hk λ_ hk=>List.mem_range.1 hk).ab2
theorem OR.setAt{α:Type}{enc:α->List Value}{n:Nat}(E:kz enc n){e:TypeId}{B g c:Nat}{o:List α}{w:World}(h:OR e n enc B (.slice (some ⟨g,0,none⟩) o.length c) o w)(k j:Nat)(hk:k<o.length)(hj:j<n)(x:α)(u:Value)(hx:enc x=(enc o[k]).set j u):
  OR e n enc B (.slice (some ⟨g,0,none⟩) o.length c) (o.set k x) (w.setCell ⟨g,k*n+j,none⟩ u):=by
 have h1:w.ownsRow B e n (.slice (some ⟨g,0,none⟩) o.length c) o.length (bF enc o):=h;have h2:=(h1.stored (k*n+j) u).1;have ho:o=o.take k++([o[k]]++o.drop (k+1)):=by
  rw[List.singleton_append,<-List.drop_eq_getElem_cons hk,List.take_append_drop]
 have hs:o.set k x=o.take k++([x]++o.drop (k+1)):=by
  rw[List.set_eq_take_append_cons_drop,if_pos hk,List.singleton_append]
 have hA:(bF enc (o.take k)).length=k*n:=by rw[iL E,List.length_take,Nat.min_eq_left (Nat.le_of_lt hk)]
 have h3:(bF enc o).set (k*n+j) u=bF enc (o.set k x):=by
  rw[hs]
  conv=>lhs;rw[ho]
  rw[bU,bU,bz,bU,bU,bz,List.set_append_right _ _ (by rw[hA];omega),hA,show k*n+j-k*n=j by omega,List.set_append_left _ _ (by rw[E.len];exact hj),hx]
 show World.ownsRow _ _ _ _ _ _ _;rw[List.length_set,<-h3];exact h2
end
section
open Go.Maps (Keyed)
theorem Cn{α:Type}(p:α->Prop)[DecidablePred p]:∀(l:List α),(∃x∈l,p x)->∃k,∃h:k<l.length,p l[k]/\∀j,(hj:j<k)->¬p (l[j]'Y)
 | [],h=>by obtain ⟨x,hx,-⟩:=h;cases hx
 |a::l,h=>by
  by_cases ha:p a
  .exact ⟨0,ξ,ha,λj hj=>absurd hj (Nat.not_lt_zero _)⟩
  .obtain ⟨k,hk,h1,h2⟩:=Cn p l (by
    obtain ⟨x,hx,hp⟩:=h;rcases List.mem_cons.1 hx with rfl|hx
    .exact absurd hp ha
    .exact ⟨x,hx,hp⟩)
   refine ⟨k+1,by simpa using hk,by simpa using h1,λj hj=>?_⟩
   cases j with
   |zero=>simpa using ha
   |succ j=>simpa using h2 j Y
theorem Jo(B g n c cl:Nat)(cs:List (Option Nat))(w:World)(h:OR 3 1 yI B (.slice (some ⟨g,0,none⟩) n c) cs w)(hn:cs.length=n)(pX:n<=1000000)(hex:∃s,s<n/\cw cs s=some cl):
  Calls Tryz.prog 172 #[.slice (some ⟨g,0,none⟩) n c,.int .i64 (cl:Int)] w λe w'=>∃s:Nat,e=.returned (.int .i64 (s:Int))/\w'=w/\s<n/\cw cs s=some cl:=by
 have hz:∀j,j<n->(cs.map F6).getD j 0=F6 (cw cs j):=λj hj=>by
  unfold cw;simp only[List.getD_eq_getElem?_getD,List.getElem?_map,List.getElem?_eq_getElem (show j<cs.length by omega),Option.map_some,Option.getD_some]
 have hcell:∀j,j<(cs.map F6).length->w.cell? ⟨g,0+j,none⟩=some (.int .i64 ((cs.map F6).getD j 0)):=λj hj=>by
  rw[List.length_map]at hj;rw[Nat.zero_add,hz j Y];exact (h.uk j hj).1
 refine (Tryz.slices_Index_int g 0 n c (cs.map F6) (cl:Int) w ψ Y hcell).mono ?_;rintro e w' ⟨rfl,rfl⟩;obtain ⟨s,hs,hsc⟩:=hex;obtain ⟨k,hk,h1,h2⟩:=Cn (λx=>x=some cl) cs ⟨cs[s]'Y,List.getElem_mem _,by
  have:=hsc;unfold cw at this;rwa [List.getElem?_eq_getElem (by omega:s<cs.length),Option.getD_some]at this⟩
 have rY:cw cs k=some cl:=by unfold cw;rw[List.getElem?_eq_getElem hk,h1];rfl
 refine ⟨k,?_,rfl,Y,rY⟩;rw[Lib.idxOf_hit (cs.map F6) n k (cl:Int) Y ψ (by rw[hz k Y,rY];rfl) λj hj=>?_]
 rw[hz j Y];intro hc;have h3:=h2 j hj;have hjc:cw cs j=cs[j]'Y:=by unfold cw;rw[List.getElem?_eq_getElem (by omega:j<cs.length)];rfl
 rw[hjc]at hc
 cases hq:cs[j]'Y with
 |none=>rw[hq]at hc;have h9:(-1:Int)=(cl:Int):=hc;omega
 |some y=>
  rw[hq]at hc;have h9:(y:Int)=(cl:Int):=hc;have h8:y=cl:=Y;subst h8;exact h3 hq
def su(F:Lit->Option Value)(c:Nat->Option Nat)(st:List Nat):Prop:=∀cl:Nat,F (.int .i64 (cl:Int))=if some cl∈st.map c then some (.int .i64 ((cG c st cl:Nat):Int)) else none
theorem su.first{c:Nat->Option Nat}{c0:Nat}(h:c 0=some c0):su (jQ (λ_=>none) (.int .i64 (c0:Int)) (some (.int .i64 0))) c [0]:=λcl=>by
 unfold jQ;by_cases e:cl=c0
 .subst e;rw[if_pos (by simp[Lit.sameKey]),if_pos (by simp[h])]
  simp[cG,h]
 .rw[if_neg (by simp[Lit.sameKey];omega),if_neg (by simp[h];omega)]
theorem su.put{F:Lit->Option Value}{c:Nat->Option Nat}{st:List Nat}(h:su F c st){cl s:Nat}(hn:¬some cl∈st.map c)(hc:c s=some cl)(x:Int)(hx:x=(st.length:Int)):su (jQ F (.int .i64 (cl:Int)) (some (.int .i64 x))) c (st++[s]):=λy=>by
 subst hx;unfold jQ;by_cases e:y=cl
 .subst e;rw[if_pos (by simp[Lit.sameKey]),if_pos (by simp[hc]),Co hn hc]
 .rw[if_neg (by simp[Lit.sameKey];omega),h y]
  by_cases hy:some y∈st.map c
  .rw[if_pos hy,if_pos (by rw[List.map_append];exact List.mem_append_left _ hy),xQ s hy]
  .rw[if_neg hy,if_neg];intro hm;rw[List.map_append,List.mem_append]at hm;rcases hm with hm|hm
   .exact hy hm
   .simp[hc]at hm;exact e hm
theorem wR{P:Program}(w:World){ops:Array Oper}{rest:List Oper}{o:Oper}{a:Act}{Q:Exit->Act->World->Prop}
  (hg:o.guard=none) (m x v:Operand) (t:TypeId) (ke:o.op=Op.insert t m x v) (k e:TypeId) (K:Keyed P k) (ht:P.underlying t=some (.map k e)) (b n:Nat) (f:Lit->Option Value)
  (hm:a.eval m=.map (some b)) (h:MV P k b n f w) (hn:n<maxLen) (key val:Value) (kl:Lit) (hx:a.eval x=key) (hv:a.eval v=val) (ju:keyOf P k key=some kl) (aU:WideAt.IsKeyLit kl)
  (hK:∀w',MV P k b (n+1) (jQ f kl (some val)) w'->w.grownBy w' (some b)->wpList P ops Q rest (a.put o.dst undef) w') :
  wpList P ops Q (o::rest) a w:=by
 refine wpList_plain hg λK' hK'=>?_;obtain ⟨w',LJ,r1,r2⟩:=h.put K ht hn ju aU val;unfold Oper.wp;simp[execOp,ke,hm,hx,hv,LJ,Result.andThen];exact hK' _ _ (hK w' r1 r2)
theorem GN{P:Program}{k e:TypeId}{b n B q n':Nat}{f:Lit->Option Value}{w:World}{v:Value}{xs:List Value}(h:MV P k b n f w)(ho:w.ownsRow B e q v n' xs):v.ownBlock≠some b:=λhv=>by
 obtain ⟨D,⟨es,c,h1,-⟩,-⟩:=h;obtain ⟨cs,md,h2⟩:=dk ho b hv;rw[h1]at h2;injection h2 with h2
 cases h2
theorem iI.sub{B N:Nat}{fx fx':List Nat}{vE vA:Value}{gv:List Value}{rs:List (List Ed)}{bL:List Bool}{w:World}(h:iI B N fx vE vA gv rs bL w)(hs:∀k∈fx',k∈fx):iI B N fx' vE vA gv rs bL w:=
 h.keep ⟨rfl,rfl,rfl,I,λ_ _ _=>rfl,λk hk=>.inl (hs k hk)⟩
structure xR (m:Mc) (c:Nat->Option Nat) (B N mb i:Nat) (bl:List Nat) (rs:List (List Ed)) (bL:List Bool) (vE vA:Value) (gv:List Value) (p:List Ed) (t:Nat) (st:List Nat) (F:Lit->Option Value) (kT:Value) (w:World):Prop where
 ma:iI B N (mb::(blk kT++bl)) vE vA gv rs bL w
 mv:MV Tryz.prog 3 mb st.length F w
 bm:B<=mb
 say:su F c st
 own:w.ownsRow B 3 1 kT st.length (bV st)
 le:zo m c st i rs p t
 ac:bL=(st.take i).map λs=>(m.ac[s]?).getD false
section
variable {m:Mc} {c:Nat->Option Nat} {B N mb i:Nat} {bl:List Nat} {rs:List (List Ed)} {bL:List Bool} {vE vA:Value} {gv:List Value} {p:List Ed} {t:Nat} {st:List Nat} {F:Lit->Option Value} {kT:Value} {w w':World}
theorem xR.later(h:xR m c B N mb i bl rs bL vE vA gv p t st F kT w)(hb:Below w.heap.size w w'):xR m c B N mb i bl rs bL vE vA gv p t st F kT w':=
 ⟨h.ma.later hb,h.mv.kept (hb.block _ h.mv.lt),h.bm,h.say,bw h.own hb,h.le,h.ac⟩
theorem xR.adi(h:xR m c B N mb i [] rs bL vE vA gv p t st F kT w)(hb:Below w.heap.size w w')(lv:Value)(hl:∀g,lv.ownBlock=some g->w.heap.size<=g):xR m c B N mb i (blk lv) rs bL vE vA gv p t st F kT w':=
 ⟨h.ma.keep ⟨hb.os,hb.tape,hb.output,hb.size,λk hk _=>hb.block k hk,λk hk=>by
  rcases List.mem_cons.1 hk with rfl|hk
  .exact .inl ξ
  .rcases List.mem_append.1 hk with hk|hk
   .exact .inl (by simp[hk])
   .exact .inr (hl k (aI.1 hk))⟩,h.mv.kept (hb.block _ h.mv.lt),h.bm,h.say,bw h.own hb,h.le,h.ac⟩
theorem xR.Xb{lv:Value}{g:Nat}{a:Addr}(h:xR m c B N mb i (blk lv) rs bL vE vA gv p t st F kT w)(hg:lv.ownBlock=some g)(ha:a.block=g)(hcs:∃cs md,w.heap[g]?=some (.cells cs 195 md))(x:Value){p':List Ed}(hp:zo m c st i rs p' t):xR m c B N mb i (blk lv) rs bL vE vA gv p' t st F kT (w.setCell a x):=by
 have bo:∀k,k≠g->(w.setCell a x).heap[k]?=w.heap[k]?:=λk hk=>Below.heap_setCell _ _ _ _ (by rw[ha];exact hk)
 obtain ⟨cs,md,hcs⟩:=hcs;have hm:g≠mb:=by
  rintro rfl;obtain ⟨D,⟨es,c,h1,-⟩,-⟩:=h.mv;rw[hcs]at h1;injection h1 with h1
  cases h1
 have dR:=(γ hcs).1;refine ⟨h.ma.keep ⟨rfl,rfl,rfl,by simp[World.setCell],λk _ hn=>bo k (λe=>hn (by simp[aI,e,hg])),λk hk=>.inl hk⟩,h.mv.kept (bo mb (Ne.symm hm)),h.bm,h.say,aG h.own λq hq=>bo q ?_,hp,h.ac⟩
 rintro rfl;exact ET h.own hcs O hq
theorem xR.meet{w1 w2 w3:World}{lv uZ:Value}{F':Lit->Option Value}{st':List Nat}(h:xR m c B N mb i (blk lv) rs bL vE vA gv p t st F kT w)(fH:w.grownBy w1 (some mb))(mo:MV Tryz.prog 3 mb st'.length F' w1)
  (aJ:Below w1.heap.size w1 w2) (sN:w2.grownBy w3 kT.ownBlock) (ho3:w3.ownsRow B 3 1 uZ st'.length (bV st')) (qH:di uZ kT w2.heap.size) (Dc:∀g,lv.ownBlock=some g->g<w.heap.size)
  (Kp:su F' c st') {p':List Ed} (hle:zo m c st' i rs p' t) (tV:st'.take i=st.take i):xR m c B N mb i (blk lv) rs bL vE vA gv p' t st' F' uZ w3:=by
 have hne:=GN h.mv h.own;have z1:=fH.size;have z2:=aJ.size;have z3:=sN.size;have Pf:=h.mv.lt;have hk:aj (mb::(blk kT++blk lv)) (mb::(blk uZ++blk lv)) w w3:=by
  refine ⟨sN.os.trans (aJ.os.trans fH.os),sN.tape.trans (aJ.tape.trans fH.tape),sN.output.trans (aJ.output.trans fH.output),Y,λk hk hn=>?_,λk hk=>?_⟩
  .exact (sN.block k Y (λe=>hn (by simp[aI,e.symm]))).trans ((aJ.block k Y).trans (fH.block k hk (λe=>hn (by injection e with e;simp[e]))))
  .rcases List.mem_cons.1 hk with rfl|hk
   .exact .inl ξ
   .rcases List.mem_append.1 hk with hk|hk
    .exact (iN qH (aI.1 hk)).imp (λh=>by simp[aI,h]) (λh=>Y)
    .exact .inl (by simp[hk])
 exact ⟨h.ma.keep hk,mo.kept ((sN.block mb Y (λe=>hne e.symm)).trans (aJ.block mb Y)),h.bm,Kp,ho3,hle,by rw[tV];exact h.ac⟩
end
def IZ(m m':Mc):Prop:=((br m 0/\Canon m'/\∀w,dG m' w 0=dG m w 0)\/(¬br m 0/\m'=⟨[[]],[false]⟩))/\m'.ed.length<=m.ed.length/\sF m'
def Nh(m:Mc)(w:World)(e:Ending)(w':World):Prop:=∃rv m',e=.returned rv/\iB w.heap.size w' rv m'/\Below w.heap.size w w'/\IZ m m'
end
section
open Go.Maps (Keyed)
theorem Ru(f:Nat->Nat)(J:List Ed)(k:Nat)(h:k<J.length):(dE f (J.take k)++J.drop k).set k ⟨J[k].lo,J[k].hi,f J[k].to⟩=dE f (J.take (k+1))++J.drop (k+1):=by
 have hl:(dE f (J.take k)).length=k:=by rw[qk,List.length_take];omega
 rw[List.set_append_right _ _ Y,hl,Nat.sub_self,List.drop_eq_getElem_cons h,List.set_cons_zero,List.take_succ_eq_append_getElem h,j0,List.append_assoc]
 rfl
theorem Ni(f:Nat->Nat)(J:List Ed)(k:Nat)(h:k<J.length):∃h2,(dE f (J.take k)++J.drop k)[k]'h2=J[k]:=by
 have hl:(dE f (J.take k)).length=k:=by rw[qk,List.length_take];omega
 refine ⟨by rw[List.length_append,hl,List.length_drop];omega,?_⟩
 rw[List.getElem_append_right Y];simp[hl]
theorem GP(f:Nat->Nat)(J:List Ed)(k:Nat)(h:k<=J.length):(dE f (J.take k)++J.drop k).length=J.length:=by
 rw[List.length_append,qk,List.length_take,List.length_drop];omega
theorem xR.Rv{m:Mc}{c:Nat->Option Nat}{B N mb i:Nat}{rs:List (List Ed)}{bL:List Bool}{vE vA px rW lv:Value}{gv:List Value}{p:List Ed}{t:Nat}{st:List Nat}{F:Lit->Option Value}{kT:Value}{w w':World}{B1 s:Nat}{a:Bool}
  (h:xR m c B N mb i (blk lv) rs bL vE vA gv p t st F kT w) (Q6:B<=B1) (Dc:OR 195 3 j8 B1 lv (dE (cG c st) p) w) (hk:aj (lG N vE vA) [] w w')
  (hN:w'.heap[N]?=some (.cells #[px,rW] 93 (0,0))) (hE:w'.ownsRow B 187 1 px (rs.length+1) (gv++[lv])) (hA:OR 4 1 bC B rW (bL++[a]) w') (fE:di px vE w.heap.size) (fA:di rW vA w.heap.size)
  (hit:i<=t) (hs:st[i]?=some s) (hp:p=b7 c (bE m s)) (ha:a=(m.ac[s]?).getD false) :
  xR m c B N mb (i+1) [] (rs++[dE (cG c st) p]) (bL++[a]) px rW (gv++[lv]) [] (oK t (dE (cG c st) p)) st F kT w':=by
 have hout:aL (lG N vE vA) lv:=λg hg hm=>h.ma.out g hm (by simp[aI,hg])
 have hx:aL (mb::(blk kT++[])) lv:=λg hg hm=>by
  rcases List.mem_cons.1 hm with rfl|hm
  .exact GN h.mv (show w.ownsRow _ _ _ _ _ _ from Dc) hg
  .rw[List.append_nil]at hm;exact rz (show w.ownsRow _ _ _ _ _ _ from Dc) h.own O g hg (aI.1 hm)
 have hl:∀g,lv.ownBlock=some g->B<=g/\g<w.heap.size:=λg hg=>⟨Nat.le_trans Q6 (World.ownsRow.lt Dc g hg).1,(World.ownsRow.lt Dc g hg).2⟩;have hmk:=h.ma.sub (fx':=mb::(blk kT++[])) (λk hk=>by
  rw[List.append_nil]at hk;rcases List.mem_cons.1 hk with rfl|hk
  .simp
  .simp[hk])
 have hmm:mb∉lG N vE vA:=λhm=>hmk.out mb hm ξ;have hvm:∀k∈blk kT,k∉lG N vE vA:=λk hk hm=>hmk.out k hm (by simp[hk])
 obtain ⟨q1,q2⟩:=hmk.put (rs':=rs++[dE (cG c st) p]) (λk hk=>by
  rw[List.append_nil]at hk;rcases List.mem_cons.1 hk with rfl|hk
  .exact h.mv.lt
  .exact (h.own.lt k (aI.1 hk)).2) hk hN (by rw[List.length_append];exact hE) hA fE fA (hmk.GQ (eb.gq Dc) hout hx hl)
 refine ⟨q1,h.mv.kept (hk.blk mb h.mv.lt hmm),h.bm,h.say,aG h.own λg hg=>hk.blk g (h.own.lt g hg).2 (hvm g (aI.2 hg)),h.le.row hit hs hp,?_⟩;rw[h.ac,ha,List.take_add_one,hs,List.map_append];rfl
structure Cp (m:Mc) (c:Nat->Option Nat) (N mb i BL:Nat) (rs:List (List Ed)) (bL:List Bool) (vE vA:Value) (gv:List Value) (J:List Ed) (t:Nat) (st:List Nat) (lv:Value) (w1:World) (kp k:Nat) (st':List Nat) (F:Lit->Option Value) (kT:Value) (wr:World):Prop where
 le:xR m c w1.heap.size N mb i (blk lv) rs bL vE vA gv (J.take kp) t st' F kT wr
 row:OR 195 3 j8 BL lv (dE (cG c st') (J.take k)++J.drop k) wr
 pre:∃more,st'=st++more
 bl:Below w1.heap.size w1 wr
 hB:w1.heap.size<=BL
section
variable {m:Mc} {c:Nat->Option Nat} {N mb i BL:Nat} {rs:List (List Ed)} {bL:List Bool} {vE vA:Value} {gv:List Value} {J:List Ed} {t:Nat} {st:List Nat} {lv:Value} {w1:World} {kp k:Nat} {st':List Nat} {F:Lit->Option Value} {kT:Value} {wr wr':World}
theorem Cp.later(h:Cp m c N mb i BL rs bL vE vA gv J t st lv w1 kp k st' F kT wr)(hb:Below wr.heap.size wr wr'):Cp m c N mb i BL rs bL vE vA gv J t st lv w1 kp k st' F kT wr':=
 ⟨h.le.later hb,h.row.later hb,h.pre,h.bl.trans (hb.mono h.bl.size),h.hB⟩
theorem Cp.old(h:Cp m c N mb i BL rs bL vE vA gv J t st lv w1 k k st' F kT wr)(hk:k<J.length)(he:some J[k].to∈st'.map c):Cp m c N mb i BL rs bL vE vA gv J t st lv w1 (k+1) k st' F kT wr:=
 ⟨⟨h.le.ma,h.le.mv,h.le.bm,h.le.say,h.le.own,by rw[List.take_succ_eq_append_getElem hk];exact h.le.le.old J[k] he,h.le.ac⟩,h.row,h.pre,h.bl,h.hB⟩
theorem Cp.new{w2 w3 wm:World}{s2:Nat}{uZ:Value}(h:Cp m c N mb i BL rs bL vE vA gv J t st lv w1 k k st' F kT wr)(hk:k<J.length)(wF:wr.grownBy wm (some mb))(mo:MV Tryz.prog 3 mb (st'.length+1) (jQ F (.int .i64 (J[k].to:Int)) (some (.int .i64 (st'.length:Int)))) wm)
  (aJ:Below wm.heap.size wm w2) (sN:w2.grownBy w3 kT.ownBlock) (ho3:w3.ownsRow w1.heap.size 3 1 uZ (st'.length+1) (bV st'++[.int .i64 (s2:Int)])) (qH:di uZ kT w2.heap.size) (hne:¬some J[k].to∈st'.map c) (hs:s2<m.ed.length) (hc:c s2=some J[k].to) :
  Cp m c N mb i BL rs bL vE vA gv J t st lv w1 (k+1) k (st'++[s2]) (jQ F (.int .i64 (J[k].to:Int)) (some (.int .i64 (st'.length:Int)))) uZ w3/\cG c (st'++[s2]) J[k].to=st'.length:=by
 obtain ⟨q1,q2⟩:=h.le.le.new J[k] s2 hne hs hc;have hr:w3.ownsRow w1.heap.size 3 1 uZ (st'++[s2]).length (bV (st'++[s2])):=by rw[jO,List.length_append];exact ho3
 have hrow:wr.ownsRow _ _ _ _ _ _:=h.row;have Dc:∀g,lv.ownBlock=some g->g<wr.heap.size:=λg hg=>(World.ownsRow.lt h.row g hg).2;have z1:=wF.size;have z2:=aJ.size;have z3:=sN.size;have zb:=h.bl.size;have hle:=h.le.meet wF (st':=st'++[s2]) (by rw[List.length_append];exact mo) aJ sN hr qH Dc (h.le.say.put hne hc _ rfl) (by rw[<-List.take_succ_eq_append_getElem hk]at q1;exact q1) (List.take_append_of_le_length h.le.le.il)
 refine ⟨⟨hle,?_,?_,?_,h.hB⟩,q2⟩
 .rw[u6 s2 h.le.le.ptg];refine OR.keep h.row λg hg=>(sN.block g (by have:=Dc g hg;omega) λe=>rz hrow h.le.own O g hg e.symm).trans ((aJ.block g (by have:=Dc g hg;omega)).trans (wF.block g (Dc g hg) λe=>GN h.le.mv hrow (by rw[hg,e])))
 .obtain ⟨more,e⟩:=h.pre;exact ⟨more++[s2],by rw[e,List.append_assoc]⟩
 .exact ((h.bl.grown wF zb (λq hq=>by injection hq with hq;have:=h.le.bm;omega)).trans (aJ.mono Y)).grown sN Y (λq hq=>(h.le.own.lt q hq).1)
theorem Cp.put{gl cc:Nat}(h:Cp m c N mb i BL rs bL vE vA gv J t st (.slice (some ⟨gl,0,none⟩) J.length cc) w1 (k+1) k st' F kT wr)(hk:k<J.length){x:Int}(hx:x=(cG c st' J[k].to:Int)):
  Cp m c N mb i BL rs bL vE vA gv J t st (.slice (some ⟨gl,0,none⟩) J.length cc) w1 (k+1) (k+1) st' F kT (wr.setCell ⟨gl,k*3+2,none⟩ (.int .i64 x)):=by
 subst hx;have hrow:wr.ownsRow _ _ _ _ _ _:=h.row;have dR:=(hrow.lt gl rfl).1;have hl:=GP (cG c st') J k (Nat.le_of_lt hk);obtain ⟨bX,hat⟩:=Ni (cG c st') J k hk;refine ⟨h.le.Xb (g:=gl) rfl rfl (dk hrow gl rfl) _ h.le.le,?_,h.pre,h.bl.sc gl (k*3+2) (Nat.le_trans h.hB dR) _,h.hB⟩;have h1:=h.row;rw[<-Ru _ _ _ hk];have h2:OR 195 3 j8 BL (.slice (some ⟨gl,0,none⟩) (dE (cG c st') (J.take k)++J.drop k).length cc) (dE (cG c st') (J.take k)++J.drop k) wr:=by rw[hl];exact h1
 have h3:=h2.setAt xP k 2 bX O ⟨J[k].lo,J[k].hi,cG c st' J[k].to⟩ (.int .i64 (cG c st' J[k].to:Int)) (by rw[hat];rfl)
 rw[hl]at h3;exact h3
theorem Cp.cells{gl cc:Nat}(h:Cp m c N mb i BL rs bL vE vA gv J t st (.slice (some ⟨gl,0,none⟩) J.length cc) w1 kp k st' F kT wr)(hk:k<J.length):
  (wr.cell? ⟨gl,k*3,none⟩=some (.int .u8 (J[k].lo:Int))/\wr.cell? ⟨gl,k*3+1,none⟩=some (.int .u8 (J[k].hi:Int))/\wr.cell? ⟨gl,k*3+2,none⟩=some (.int .i64 (J[k].to:Int)))/\wr.frozen? ⟨gl,k*3+2,none⟩=false/\gl<wr.heap.size:=by
 obtain ⟨bX,hat⟩:=Ni (cG c st') J k hk;obtain ⟨A,c',e,-,eH⟩:=h.row.cells xP;obtain ⟨g',hA,-,hg,mI⟩:=eH.resolve_left (by intro e2;rw[e2]at bX;cases bX)
 injection e with e1 _ _;rw[hA]at e1;injection e1 with e1;injection e1 with e1;subst e1;have h0:=(mI k bX 0 O).1;have h1:=(mI k bX 1 O).1;obtain ⟨h2,f2⟩:=mI k bX 2 O;rw[hat]at h0 h1 h2;exact ⟨⟨h0,h1,h2⟩,f2,hg⟩
theorem xR.begin{lv:Value}{w':World}{kT:Value}(h:xR m c w1.heap.size N mb i [] rs bL vE vA gv [] t st F kT wr)(hb:Below wr.heap.size wr w')(gO:Below w1.heap.size w1 wr)(ho:OR 195 3 j8 wr.heap.size lv J w'):Cp m c N mb i wr.heap.size rs bL vE vA gv J t st lv w1 0 0 st F kT w':=
 ⟨h.adi hb lv λg hg=>(World.ownsRow.lt ho g hg).1,by simpa [dE] using ho,⟨[],ξ⟩,gO.trans (hb.mono gO.size),gO.size⟩
end
end
section
open Go.Maps (Keyed)
theorem Rz{cs:List (Option Nat)}{m:Mc}(h:ui m (cw cs))(h1:1<=m.ed.length)(hc:cw cs 0=none):¬br m 0:=(h.dH 0 Y).1 hc
theorem Nk:sF ⟨[[]],[false]⟩:=⟨λr hr e he=>(by simp at hr;subst hr;cases he),λr hr=>(by simp at hr;subst hr;simp),ξ⟩
theorem Ge:(Tryz.prog.info? 187).map (λi=>(i.zero,i.size,i.bytes))=some (some (.slice none 0 0),1,24):=κ
theorem tD{w:World}{B n c:Nat}{e:TypeId}{xs:List Value}{A:Option Addr}(h:w.ownsRow B e 1 (.slice A n c) n xs)(hn:0<n):∃g,A=some ⟨g,0,none⟩/\B<=g/\g<w.heap.size/\∀i,i<n->w.cell? ⟨g,i,none⟩=xs[i]?:=by
 rcases h.2 with ⟨h1,h2⟩|⟨g,cap,cur,h1,hB,hg,-⟩
 .exfalso;injection h1 with h1 h1';omega
 .injection h1 with h1 _ h3;subst h1;exact ⟨g,rfl,hB,(γ hg).1,λi hi=>World.ownsRow.cellAt h i Y⟩
def RA(M gs zp cst i s ge fe n ce yN cr g3 cc:Nat)(Ar:Option Addr)(J:List Ed)(W:World):Nat->Nat->Value->World->Prop
 |c,0,x,w=>x=.pointer (some ⟨M,0,none⟩)
 |c,1,x,w=>x=.slice (some ⟨ge,fe,none⟩) n ce
 |c,2,x,w=>x=.slice (some ⟨gs,0,none⟩) zp cst
 |c,3,x,w=>x=.int .i64 (i:Int)
 |c,4,x,w=>x=.pointer (some ⟨gs,i,none⟩)
 |c,5,x,w=>x=.int .i64 (s:Int)
 |c,6,x,w=>x=.pointer (some ⟨ge,fe+s,none⟩)
 |c,7,x,w=>x=.slice Ar yN cr
 |c,8,x,w=>x=.slice (some ⟨g3,0,none⟩) n cc
 |c,9,x,w=>1<=c->∃A c',x=.slice A J.length c'/\OR 195 3 j8 W.heap.size x J w
 |_,_,_,_=>True
def ik(N M gs zp cst i s ga fa n ca nj cj cE cA B0:Nat)(AE AV Aj:Option Addr)(gv av:List Value)(a:Bool)(W:World):Nat->Nat->Value->World->Prop
 |c,0,x,w=>x=.pointer (some ⟨N,0,none⟩)
 |c,1,x,w=>x=.slice AE i cE
 |c,2,x,w=>x=.slice Aj nj cj
 |c,3,x,w=>∃g,x=.slice (some ⟨g,0,none⟩) 1 1/\W.heap.size<=g/\g<w.heap.size/\w.cell? ⟨g,0,none⟩=some (.slice Aj nj cj)
 |c,4,x,w=>1<=c->∃A c',x=.slice A (i+1) c'/\w.ownsRow B0 187 1 x (i+1) (gv++[.slice Aj nj cj])/\di x (.slice AE i cE) W.heap.size
 |c,5,x,w=>x=.pointer (some ⟨N,1,none⟩)
 |c,6,x,w=>x=.slice AV i cA
 |c,7,x,w=>x=.pointer (some ⟨M,1,none⟩)
 |c,8,x,w=>x=.slice (some ⟨ga,fa,none⟩) n ca
 |c,9,x,w=>x=.slice (some ⟨gs,0,none⟩) zp cst
 |c,10,x,w=>x=.int .i64 (i:Int)
 |c,11,x,w=>x=.pointer (some ⟨gs,i,none⟩)
 |c,12,x,w=>x=.int .i64 (s:Int)
 |c,13,x,w=>x=.pointer (some ⟨ga,fa+s,none⟩)
 |c,14,x,w=>x=.bool a
 |c,15,x,w=>∃g,x=.slice (some ⟨g,0,none⟩) 1 1/\W.heap.size<=g/\g<w.heap.size/\w.cell? ⟨g,0,none⟩=some (.bool a)
 |c,16,x,w=>2<=c->∃A c',x=.slice A (i+1) c'/\w.ownsRow B0 4 1 x (i+1) (av++[.bool a])/\di x (.slice AV i cA) W.heap.size
 |c,17,x,w=>x=.pointer (some ⟨N,0,none⟩)
 |c,18,x,w=>3<=c->∃A c',w.ownsRow B0 187 1 (.slice A (i+1) c') (i+1) (gv++[.slice Aj nj cj])/\di (.slice A (i+1) c') (.slice AE i cE) W.heap.size/\w.heap[N]?=some (.cells #[.slice A (i+1) c',.slice AV i cA] 93 (0,0))
 |c,19,x,w=>x=.pointer (some ⟨N,1,none⟩)
 |_,_,_,_=>True
section
variable {N M gs zp cst i s ga fa n ca nj cj cE cA B0:Nat} {AE AV Aj:Option Addr} {gv av:List Value} {a:Bool} {W u u':World}
theorem vh(hb:Below u.heap.size u u'){c j:Nat}{x:Value}(h:ik N M gs zp cst i s ga fa n ca nj cj cE cA B0 AE AV Aj gv av a W c j x u):ik N M gs zp cst i s ga fa n ca nj cj cE cA B0 AE AV Aj gv av a W c j x u':=by
 match j with
 |0|1|2|5|6|7|8|9|10|11|12|13|14|17|19=>exact h
 |3|15=>
  obtain ⟨g,e,h1,hg,h0⟩:=h;exact ⟨g,e,h1,Nat.lt_of_lt_of_le hg hb.size,(hb.cl g 0 hg).trans h0⟩
 |4|16=>
  intro hc;obtain ⟨A,c',e,ho,hf⟩:=h hc;exact ⟨A,c',e,bw ho hb,hf⟩
 |18=>
  intro hc;obtain ⟨A,c',ho,hf,hr⟩:=h hc;exact ⟨A,c',bw ho hb,hf,(hb.block _ (γ hr).1).trans hr⟩
 |_+20=>exact trivial
theorem EU(hg:u.grownBy u' (Value.slice AE i cE).ownBlock)(hv:∀g,(Value.slice AE i cE).ownBlock=some g->g<W.heap.size)(j:Nat)(x:Value)(hj:j≠4)(h:ik N M gs zp cst i s ga fa n ca nj cj cE cA B0 AE AV Aj gv av a W 0 j x u):ik N M gs zp cst i s ga fa n ca nj cj cE cA B0 AE AV Aj gv av a W 1 j x u':=by
 match j with
 |0|1|2|5|6|7|8|9|10|11|12|13|14|17|19=>exact h
 |3|15=>exact RC hg hv h
 |4=>exact absurd rfl hj
 |16|18=>exact λhc=>Y
 |_+20=>exact trivial
theorem EW(hg:u.grownBy u' (Value.slice AV i cA).ownBlock)(hv:∀g,(Value.slice AV i cA).ownBlock=some g->g<W.heap.size)(hd:∀g,(Value.slice AV i cA).ownBlock=some g->(Value.slice AE i cE).ownBlock≠some g)(j:Nat)(x:Value)(hj:j≠16)(h:ik N M gs zp cst i s ga fa n ca nj cj cE cA B0 AE AV Aj gv av a W 1 j x u):ik N M gs zp cst i s ga fa n ca nj cj cE cA B0 AE AV Aj gv av a W 2 j x u':=by
 match j with
 |0|1|2|5|6|7|8|9|10|11|12|13|14|17|19=>exact h
 |3|15=>exact RC hg hv h
 |4=>
  intro _;obtain ⟨A,c',e,ho,hf⟩:=h O;refine ⟨A,c',e,aG ho λg ij=>hg.block g (ho.lt g ij).2 (λe2=>?_),hf⟩;rcases hf with hf|⟨g',hf,h2⟩
  .rw[hf]at ij;exact hd g e2.symm ij
  .rw[hf]at ij;injection ij with ij;have:=hv g e2.symm;omega
 |16=>exact absurd rfl hj
 |18=>exact λhc=>Y
 |_+20=>exact trivial
theorem EX(hs:N<W.heap.size)(hsS:(Value.slice AE i cE).ownBlock≠some N)(hsF:(Value.slice AV i cA).ownBlock≠some N)(v:Value)(j:Nat)(x:Value)(hj:j≠18)(h:ik N M gs zp cst i s ga fa n ca nj cj cE cA B0 AE AV Aj gv av a W 2 j x u):ik N M gs zp cst i s ga fa n ca nj cj cE cA B0 AE AV Aj gv av a W 3 j x (u.setCell ⟨N,0,none⟩ v):=by
 have bo:∀k,k≠N->(u.setCell ⟨N,0,none⟩ v).heap[k]?=u.heap[k]?:=λk hk=>Below.heap_setCell _ _ _ _ hk
 match j with
 |0|1|2|5|6|7|8|9|10|11|12|13|14|17|19=>exact h
 |3|15=>
  obtain ⟨g,e,h1,h2,h3⟩:=h;exact ⟨g,e,h1,by simpa [World.setCell] using h2,(χ g 0 (bo g Y)).trans h3⟩
 |4=>
  intro _;obtain ⟨A,c',e,ho,hf⟩:=h O;refine ⟨A,c',e,aG ho λg ij=>bo g (λe2=>?_),hf⟩;subst e2;rcases hf with hf|⟨g',hf,h2⟩
  .rw[hf]at ij;exact hsS ij
  .rw[hf]at ij;injection ij with ij;omega
 |16=>
  intro _;obtain ⟨A,c',e,ho,hf⟩:=h O;refine ⟨A,c',e,aG ho λg ij=>bo g (λe2=>?_),hf⟩;subst e2;rcases hf with hf|⟨g',hf,h2⟩
  .rw[hf]at ij;exact hsF ij
  .rw[hf]at ij;injection ij with ij;omega
 |18=>exact absurd rfl hj
 |_+20=>exact trivial
end
theorem Nl(v:Value)(m:Mc)(w:World)(hm:gH w v m)(hv:pC m)(j9:sF m)(h1:1<=m.ed.length)
  (hal:∀W,Below w.heap.size w W->Calls Tryz.prog 170 #[v] W (LM m m.ed.length W)):Calls Tryz.prog 139 #[v] w (Nh m w):=by
 obtain ⟨ve,va,rfl,he,ha⟩:=hm;obtain ⟨Ae,ce,rfl,qI,Ht⟩:=he.form;obtain ⟨Aa,ca,rfl,DF,UE⟩:=ha.form;obtain ⟨n,hn⟩:=ν m.ed.length;have pg:m.ac.length=n:=by rw[hv.len,hn]
 have Dd:=j9.n;rw[pg]at ha DF;rw[hn]at he qI h1 Dd;rw[hn,pg]at hal;have HAL:=Z hal;have HE:=Z he;have HA:=Z ha;have HV:=Z hv;have Kb:=Z j9;have HN:=Z (H hn pg);have KS:=Z h1;have K:Keyed Tryz.prog 3:=Maps.int_keyed Tryz.underlying3;have hz:∀w,(zeroValue 3).run Tryz.prog w=.ok (.int .i64 0) w:=λ_=>κ;have hmm:=@run_makeMap Tryz.prog;obtain ⟨ie,rJ,he0,he1,TD⟩:=info_parts Ge;obtain ⟨ib,oL,hb0,hb1,aJ⟩:=info_parts mY;obtain ⟨ii,Y7,Gf,tv,pJ⟩:=info_parts gp;rw[pg,hn];clear hal he ha hv j9 hn pg
 go_enter Tryz.func139,Tryz.ntmps139
 go_wp2_with fail;refine (HAL.out _ ?hb0).mono ?_
 case hb0=>exact ((Below.refl w w).alloc I _).alloc ξ _
 rintro e w1 ⟨rv,cs,rfl,hown1,hb1,Dp,adj,adk⟩;have wS:((w.alloc (.cells #[.slice Ae n ce,.slice Aa n ca] 93)).alloc (.cells #[.slice none 0 0,.slice none 0 0] 93)).heap.size=w.heap.size+2:=ξ;rw[wS]at hown1 hb1;have adl:w1.heap[w.heap.size]?=some (.cells #[.slice Ae n ce,.slice Aa n ca] 93 (0,0)):=(hb1.block _ Y).trans ((aB _ _ _ ξ).trans (heap_alloc_new w _));have Bz:w1.heap[w.heap.size+1]?=some (.cells #[.slice none 0 0,.slice none 0 0] 93 (0,0)):=(hb1.block _ Y).trans (by simpa using heap_alloc_new (w.alloc (.cells #[.slice Ae n ce,.slice Aa n ca] 93)) (.cells #[.slice none 0 0,.slice none 0 0] 93))
 have hz1:=hb1.size;rw[wS]at hz1;have LR:Below w.heap.size w w1:=(((Below.refl w w).alloc I _).alloc ξ _).trans (hb1.mono Y);obtain ⟨Ac,cc,rfl,mI,-⟩:∃A c,rv=.slice A n c/\n<=c/\True:=by
  obtain ⟨A,c,e,h,-⟩:=hown1.cells F7;exact ⟨A,c,by rw[e,Dp],Y,trivial⟩
 obtain ⟨g3,rfl⟩:∃g,Ac=some ⟨g,0,none⟩:=by
  obtain ⟨A,c,e,-,eH⟩:=hown1.cells F7;obtain ⟨g,hA,-⟩:=eH.resolve_left (by rintro rfl;simp at Dp;omega)
  injection e with e1 _ _;exact ⟨g,by rw[e1,hA]⟩
 obtain ⟨Qt,-⟩:=hown1.uk 0 Y;have sN:=hown1.lt1;have hd0:decide (0<n)=true:=τ;have HC:=Z hown1;have aX:=Z LR;have Y8:=Z adl;have IG:=Z Bz;have mJ:=Z (H Dp (H adj adk));have lx1:w.heap.size+1<w1.heap.size:=Y;have lx2:w.heap.size+1<w1.heap.size+1:=Y;obtain ⟨r0,r1⟩:w1.cell? ⟨w.heap.size+1,0,none⟩=some (.slice none 0 0)/\w1.cell? ⟨w.heap.size+1,1,none⟩=some (.slice none 0 0):=by constructor <;> (rw[cell_of_row _ _ _ _ _ _ Bz]; rfl)
 have fr0:w1.frozen? ⟨w.heap.size+1,0,none⟩=false:=by simp[World.frozen?,Bz]
 have fr1:w1.frozen? ⟨w.heap.size+1,1,none⟩=false:=by simp[World.frozen?,Bz]
 clear hown1 hb1 wS adl Bz LR Dp adj adk
 cases lW:cw cs 0 with
 |none=>
  rw[lW]at Qt;have Qu:w1.cell? ⟨g3,0,none⟩=some (.int .i64 (-1)):=Qt;have LD:=Z lW;clear Qt lW;go_wp2_with fail;refine az λWf bY=>?_;refine bodyPost_ret (v:=.agg #[.slice (some ⟨w1.heap.size,0,none⟩) 1 1,.slice (some ⟨w1.heap.size+1,0,none⟩) 1 1]) (by rw[bY];simp[results,Tryz.results139,go_sem,r0,r1,lx1,lx2];try rfl) rfl ?_
  have yP:Wf.heap[w1.heap.size]?=some (.cells #[.slice none 0 0] 187 (0,0)):=by
   rw[bY,aB _ _ _ (by simp[World.setCell])]
   have h1:=heap_alloc_new ((w1.setCell ⟨w.heap.size+1,0,none⟩ (.slice (some ⟨w1.heap.size,0,none⟩) 1 1)).setCell ⟨w.heap.size+1,1,none⟩ (.slice (some ⟨w1.heap.size+1,0,none⟩) 1 1)) (.cells #[.slice none 0 0] 187);simpa [World.setCell] using h1
  have fH:Wf.heap[w1.heap.size+1]?=some (.cells #[.bool false] 4 (0,0)):=by
   rw[bY];have h1:=heap_alloc_new (((w1.setCell ⟨w.heap.size+1,0,none⟩ (.slice (some ⟨w1.heap.size,0,none⟩) 1 1)).setCell ⟨w.heap.size+1,1,none⟩ (.slice (some ⟨w1.heap.size+1,0,none⟩) 1 1)).alloc (.cells #[.slice none 0 0] 187)) (.cells #[.bool false] 4);simpa [World.setCell] using h1
  have pN:Below w.heap.size w Wf:=by
   rw[bY];exact (((aX.out.sc (w.heap.size+1) 0 (by show w.heap.size<=w.heap.size+1;omega) _).sc (w.heap.size+1) 1 (by show w.heap.size<=w.heap.size+1;omega) _).alloc (by simp[World.setCell];omega) _).alloc (by simp[World.setCell];omega) _
  have Xe:=aX.out.size;have lK:iB w.heap.size Wf (.agg #[.slice (some ⟨w1.heap.size,0,none⟩) 1 1,.slice (some ⟨w1.heap.size+1,0,none⟩) 1 1]) ⟨[[]],[false]⟩:=λW' hk=>by
   have adm:=(hk.blk w1.heap.size (γ yP).1 (λh=>by have:=List.mem_range.1 h;omega)).trans yP
   have adn:=(hk.blk (w1.heap.size+1) (γ fH).1 (λh=>by have:=List.mem_range.1 h;omega)).trans fH
   refine ⟨_,_,rfl,⟨_,_,rfl,⟨ξ,ξ⟩,.inr ⟨w1.heap.size,0,rfl,(γ adm).1,λi hi=>?_⟩⟩,⟨_,_,rfl,⟨ξ,ξ⟩,.inr ⟨w1.heap.size+1,0,rfl,(γ adn).1,λi hi=>?_⟩⟩⟩
   .simp at hi;subst hi;exact ⟨_,by rw[cell_of_row _ _ _ _ _ _ adm];rfl,⟨none,0,rfl,⟨ξ,ξ⟩,.inl rfl⟩⟩
   .simp at hi;subst hi;rw[cell_of_row _ _ _ _ _ _ adn];rfl
  refine ⟨_,⟨[[]],[false]⟩,rfl,lK,pN,.inr ⟨Rz mJ.out.2.1 (by rw[HN.out.1];exact KS.out) LD.out,rfl⟩,by simp;have:=KS.out;have:=HN.out.1;omega,Nk⟩
 |some c0=>
  rw[lW]at Qt;have Qu:w1.cell? ⟨g3,0,none⟩=some (.int .i64 (c0:Int)):=Qt;have ow:decide ((c0:Int)<0)=false:=θ;have LD:=Z lW;have ati:c0<n:=mJ.out.2.2 0 c0 lW;have Ua:keyOf Tryz.prog 3 (.int .i64 (c0:Int))=some (.int .i64 (c0:Int)):=Maps.keyOf_int_mk Tryz.underlying3 (WalkArith.wf_i64 Y);have ado:=MV.made Tryz.prog 3;clear Qt lW;go_wp2_with (refine wR _ rfl _ _ _ 213 rfl 3 3 K Tryz.underlying213 w1.heap.size 0 (λ_=>none) rfl (ado _) O _ _ (.int .i64 (c0:Int)) rfl rfl Ua trivial ?_);intro w2 adp mg;have adq:(w1.alloc (.map #[] 0)).heap.size=w1.heap.size+1:=ξ;have hz2:=mg.size;rw[adq]at hz2;have aJ:Below w1.heap.size w1 w2:=((Below.refl _ w1).alloc I (.map #[] 0)).grown mg Y (λq hq=>by injection hq with hq;omega)
  have adr:=Z adp;have dr:=Z aJ;clear adp mg aJ adq ado;go_wp2_with fail;refine dB λW hW=>?_;have eY:Below w2.heap.size w2 W:=by rw[hW];exact (υ.alloc I _).alloc ξ _
  have rL:W.heap.size=w2.heap.size+2:=by rw[hW];simp
  have Nn:OR 3 1 yI w2.heap.size (.slice (some ⟨w2.heap.size,0,none⟩) 1 1) [some 0] W:=by rw[hW];exact OR.later (qU w2 1 Y) (υ.alloc ξ _)
  have Vm:W.heap[w2.heap.size+1]?=some (.cells #[.slice none 0 0,.slice none 0 0] 93 (0,0)):=by rw[hW];simpa using heap_alloc_new (w2.alloc _) (.cells #[.slice none 0 0,.slice none 0 0] 93)
  have Pf:=adr.out.lt;have I7:xR m (cw cs) w1.heap.size (w2.heap.size+1) w1.heap.size 0 [] [] [] (.slice none 0 0) (.slice none 0 0) [] [] 0 [0] (jQ (λ_=>none) (.int .i64 (c0:Int)) (some (.int .i64 0))) (.slice (some ⟨w2.heap.size,0,none⟩) 1 1) W:=by
   refine ⟨⟨Vm,Y,World.ownsRow_nil _ _ _ _,λi hi=>(by cases hi),OR.km _ _ _,λk hk hx=>?_⟩,adr.out.kept (eY.block _ Pf),I,su.first LD.out,?_,zo.start (by rw[LD.out];simp) (by rw[HN.out.1];exact KS.out),rfl⟩
   .have h1:k=w2.heap.size+1:=by rcases bp.1 hk with h|h|h;exact h;cases h;cases h
    rcases List.mem_cons.1 hx with h|h
    .omega
    .simp[blk,Value.ownBlock]at h;omega
   .have:=(OR.mono Nn (show w1.heap.size<=w2.heap.size by omega))
    exact this
  have HL0:=Z I7;have b8:=Z (dr.out.trans (eY.mono Y));clear hW eY Nn Vm I7 Qu LD ow Ua hd0;go_wp2_with fail;go_loopw [7,5] (λiv kT wr=>∃(i:Nat) (st:List Nat) (rs:List (List Ed)) (bL:List Bool) (vE vA:Value) (gv:List Value) (t:Nat) (F:Lit->Option Value),iv=.int .i64 (i:Int)/\i<=n/\Hid (xR m (cw cs) w1.heap.size (w2.heap.size+1) w1.heap.size i [] rs bL vE vA gv [] t st F kT wr)/\Hid (Below w1.heap.size w1 wr)) (λiv _ _=>n - (intOf iv).toNat)
  case atStart=>exact ⟨0,[0],[],[],_,_,[],0,_,rfl,Nat.zero_le _,HL0,b8⟩
  case round=>
   obtain ⟨i,st,rs,bL,vE,vA,gv,t,F,rfl,cY,HL,HB⟩:=hrel;have eW:=HL.out.le.il;have ads:=HL.out.le.nodup;rw[HN.out.1]at ads;obtain ⟨As,cst,rfl,akc,-⟩:=ar HL.out.own;obtain ⟨zp,RD⟩:∃x,st.length=x:=⟨_,rfl⟩;rw[RD]at eW ads akc;have Np:=Z RD;rw[RD]at HL|-;clear RD;have hwr:=HB.out.size;by_cases hlt:i<zp
   .have hd:decide ((i:Int)<(zp:Int))=true:=τ;have hdi:decide (i<zp)=true:=decide_eq_true hlt;obtain ⟨s,hs⟩:∃s,st[i]?=some s:=⟨_,List.getElem?_eq_getElem (show i<st.length by rw[Np.out];exact hlt)⟩
    obtain ⟨Jp,-⟩:=HL.out.le.lv s (List.mem_of_getElem? hs);have tj:s<n:=by rw[HN.out.1]at Jp;exact Jp
    have hown:=HL.out.own;rw[Np.out]at hown;obtain ⟨gs,rfl,adt,lgs,Zw⟩:=tD hown Y;have xst:wr.cell? ⟨gs,i,none⟩=some (.int .i64 (s:Int)):=by rw[Zw i hlt];unfold bV;rw[List.getElem?_map,hs];rfl
    have aY:Below w.heap.size w wr:=aX.out.trans (HB.out.mono aX.out.size);obtain ⟨ge,fe,rv0,rfl,-,F9,adu,LU⟩:=HE.out.at_ Jp;obtain ⟨ga,fa,rfl,-,Kh,wT⟩:=HA.out.at_ (show s<m.ac.length by rw[HN.out.2];exact tj)
    have adv:=(χ ge (fe+s) (aY.block ge F9)).trans adu;have Xf:=(χ ga (fa+s) (aY.block ga Kh)).trans wT;have vM:=LU.later aY;obtain ⟨row,hrow⟩:∃r,m.ed[s]=r:=⟨_,rfl⟩;obtain ⟨a,haa⟩:∃b,m.ac[s]'(by rw[HN.out.2];exact tj)=b:=⟨_,rfl⟩
    rw[hrow]at vM;rw[haa]at Xf;have jF:row∈m.ed:=by rw[<-hrow];exact List.getElem_mem Jp
    have hrM:bE m s=row:=by unfold bE;rw[List.getElem?_eq_getElem Jp,hrow];rfl
    have haM:(m.ac[s]?).getD false=a:=by rw[List.getElem?_eq_getElem (by rw[HN.out.2];exact tj),haa];rfl
    have Y2:=um (cls:=cw cs) (HV.out.pd row jF) (Kb.out.jo row jF);have Y3:=Z (show ∀e∈row,e.to<cs.length from λe he=>by rw[mJ.out.1,<-HN.out.1];exact HV.out.to row jF e he)
    have po:=Z (Kb.out.jo row jF);obtain ⟨J,hJ⟩:=ν (b7 (cw cs) row);have hJl:=Nat.le_trans (qX (cw cs) row) (Kb.out.rl row jF);rw[hJ]at Y2 hJl;have Qv:=Z (show ∀e∈J,∃f,f<n/\cw cs f=some e.to from λe he=>by
     obtain ⟨-,-,f,hf,h3⟩:=Y2 e he;exact ⟨f.to,by rw[<-HN.out.1];exact HV.out.to row jF f hf,h3⟩)
    have HJE:=Z hJ;have lA:=Kb.out.rl row jF;obtain ⟨Ar,cr,AA,-⟩:=vM.form;obtain ⟨yN,xq⟩:∃n,row.length=n:=⟨_,rfl⟩;rw[xq]at AA lA;have Y4:=Z xq;subst AA;have LV:eb wr (.slice Ar yN cr) row:=vM;have hM:=(HB.out.block w.heap.size Y).trans Y8.out;obtain ⟨xm0,xm1⟩:wr.cell? ⟨w.heap.size,0,none⟩=some (.slice (some ⟨ge,fe,none⟩) n ce)/\wr.cell? ⟨w.heap.size,1,none⟩=some (.slice (some ⟨ga,fa,none⟩) n ca):=by constructor <;> (rw[cell_of_row _ _ _ _ _ _ hM]; rfl)
    have Kc:=aY.size;have lM:w.heap.size<wr.heap.size:=(γ hM).1;have lge:ge<wr.heap.size:=Y;have lga:ga<wr.heap.size:=Y;have HED:=Z LV;have BB:=Z ((wC.gq HC.out).later (HB.out.mono I));have hit:i<=t:=by have:=HL.out.le.top;have h9:t+1=st.length:=this;have:=Np.out;omega
    have HS:=Z (H hs (H hrM (H haM hit)));have HXA:=Z (H xm1 Xf);have HGA:=Z (H Kh adt);obtain ⟨W,D9⟩:∃W:World,W=wr:=⟨_,rfl⟩;subst D9;have jH:Below W.heap.size W W.drew:=υ.drew;clear Jp hown Zw aY F9 Kh adu wT vM LU LV hrow haa jF hrM haM Y2 hJ xq hM hs adt hit xm1 Xf;go_wp2_with fail;refine aQ 10 [9] (RA w.heap.size gs zp cst i s ge fe n ce yN cr g3 cc Ar J W) (λ_ w'=>Below W.heap.size W w') κ κ κ κ κ κ O jH ?_ ?_
    .simp only[eK,eL];refine ag.pure O ?_ (ag.pure O ?_ (ag.pure O ?_ (ag.pure O ?_ (ag.pure O ?_ (ag.pure O ?_ (ag.pure O ?_ (ag.pure O ?_ (ag.pure O ?_ (ag.ur 0 rfl ?_ (ag.nil))))))))))
     all_goals first | (with_reducible intro v wz c dy hS hE K hK;simp only[ay,Act.put,gU,gV,gW,Nat.zero_add,Nat.reduceAdd,eK,eL]at hK|-) | (intro v wz hS hE K hK;simp only[ay,Act.put,gU,gV,gW,Nat.zero_add,Nat.reduceAdd,eK,eL]at hK|-)
     .exact ζ
     .have e0:v 0=_:=hE.1 rfl;rw[e0]at hK|-;have c1:=(hS.cl w.heap.size 0 lM).trans xm0;have l1:w.heap.size<wz.heap.size:=by have:=hS.size;omega
      exact ζ
     .exact ζ
     .exact ζ
     .have e2:v 2=_:=hE.1 rfl;have e3:v 3=_:=hE.2.1 rfl;rw[e2,e3]at hK|-;exact ζ
     .have e4:v 4=_:=hE.1 rfl;rw[e4]at hK|-;have c1:=(hS.cl gs i lgs).trans xst;have l1:gs<wz.heap.size:=by have:=hS.size;omega
      exact ζ
     .have e1:v 1=_:=hE.1 rfl;have e5:v 5=_:=hE.2.1 rfl;rw[e1,e5]at hK|-;exact ζ
     .have e6:v 6=_:=hE.1 rfl;rw[e6]at hK|-;have c1:=(hS.cl ge (fe+s) lge).trans adv;have l1:ge<wz.heap.size:=by have:=hS.size;omega
      exact ζ
     .exact ζ
     .have e7:v 7=_:=hE.1 rfl;have e8:v 8=_:=hE.2.1 rfl;rw[e7,e8]at hK|-;have aK:=uo (.slice Ar yN cr) (.slice (some ⟨g3,0,none⟩) n cc) row cs wz (HED.out.later hS) (BB.out.later hS) Y3.out po.out (by rw[Y4.out];omega)
      have HC:=Z aK;have HX:=Z hS;clear hS hE aK;go_wp2_with fail;refine HC.out.mono ?_;rintro e wy ⟨jv,rfl,ho,hb⟩;obtain ⟨Aj,cj,rfl,-⟩:=(eb.gq ho).form;have LW:=Z (HX.out.trans (hb.mono HX.out.size));have HJ:=Z (ho.mono HX.out.size);rw[HJE.out]at HJ|-;clear ho hb;go_wp2_with fail;refine hK.out _ _ (λj z hj h=>?_) LW.out (λ_=>⟨Aj,cj,rfl,HJ.out⟩)
      match j with
      |0|1|2|3|4|5|6|7|8=>exact h
      |9=>exact absurd rfl hj
      |_+10=>exact trivial
    .intro v wz hS hF;have e0:v 0=_:=hF 0 O;have e1:v 1=_:=hF 1 O;have e2:v 2=_:=hF 2 O;have e3:v 3=_:=hF 3 O;have e4:v 4=_:=hF 4 O;have e5:v 5=_:=hF 5 O;have e6:v 6=_:=hF 6 O;have e7:v 7=_:=hF 7 O;have e8:v 8=_:=hF 8 O;have E9:=hF 9 O;simp only[ay,Act.put,gU,gV,gW,Nat.zero_add,Nat.reduceAdd,eK,eL,List.drop_succ_cons,List.drop_zero,e0,e1,e2,e3,e4,e5,e6,e7,e8];clear hF e0 e1 e2 e3 e4 e5 e6 e7 e8;obtain ⟨Aj,cj,e9,ZF⟩:=E9 I;rw[e9]at ZF|-;have nW:=HL.out.begin hS HB.out ZF;obtain ⟨nj,hnj⟩:∃n,J.length=n:=⟨_,rfl⟩;rw[hnj]at nW hJl|-;have I5:=Z nW;have Xg:=Z hnj;obtain ⟨BL,hBL⟩:∃B,W.heap.size=B:=⟨_,rfl⟩;rw[hBL]at I5;clear hS ZF nW hnj e9 E9 adv xst xm0 HL HB jH HED BB Y3 po;go_wp2_with fail;go_loopw [46,5] (λkv kT wr=>∃(k:Nat) (st':List Nat) (F':Lit->Option Value),kv=.int .i64 (k:Int)/\k<=nj/\Hid (Cp m (cw cs) (w2.heap.size+1) w1.heap.size i BL rs bL vE vA gv J t st (.slice Aj nj cj) w1 k k st' F' kT wr)) (λkv _ _=>nj - (intOf kv).toNat)
     case atStart=>exact ⟨0,st,F,rfl,Nat.zero_le _,I5⟩
     case round=>
      obtain ⟨k,st',F',rfl,hk,HK⟩:=hrel;have Ub:=HK.out.le.le.nodup;rw[HN.out.1]at Ub;have Xh:=HK.out.bl.size;obtain ⟨As2,RF,rfl,adw,-⟩:=ar HK.out.le.own;obtain ⟨zP,yQ⟩:∃x,st'.length=x:=⟨_,rfl⟩;have bh:=HK.out.le.own;rw[yQ]at bh adw Ub HK|-;have HOW:=Z bh;have ZU:=Z yQ;clear yQ bh;by_cases rf:k<nj
      .have kc:decide ((k:Int)<(nj:Int))=true:=τ;have bS:decide (k<nj)=true:=decide_eq_true rf;have Xi:k<J.length:=by rw[Xg.out];exact rf
       obtain ⟨gl,rfl⟩:∃g,Aj=some ⟨g,0,none⟩:=by
        obtain ⟨A,c,e,-,eH⟩:=HK.out.row.cells xP;obtain ⟨g,hA,-⟩:=eH.resolve_left (by intro e2;have:=GP (cG (cw cs) st') J k Y;rw[e2]at this;simp at this;omega)
        injection e with e1 _ _;exact ⟨g,by rw[e1,hA]⟩
       have HKJ:Hid (Cp m (cw cs) (w2.heap.size+1) w1.heap.size i BL rs bL vE vA gv J t st (.slice (some ⟨gl,0,none⟩) J.length cj) w1 k k st' F' (.slice As2 zP RF) wr):=by rw[Xg.out];exact HK
       obtain ⟨⟨e0,e1,e2⟩,ef,lgl⟩:=HKJ.out.cells Xi;obtain ⟨q,hq⟩:∃e,J[k]=e:=⟨_,rfl⟩;have ZV:q∈J:=by rw[<-hq];exact List.getElem_mem Xi
       obtain ⟨f0,Xj,GH⟩:=Qv.out q ZV;have hqc:=mJ.out.2.2 _ _ GH;obtain ⟨lo,hi,cl⟩:=q;rw[hq]at e0 e1 e2;simp only at e0 e1 e2 GH hqc;have hb0:Below wr.heap.size wr (wr.alloc (.cells #[.int .u8 (lo:Int),.int .u8 (hi:Int),.int .i64 (cl:Int)] 195)):=υ.alloc I _;have hK1:=HKJ.out.later hb0;have ju:keyOf Tryz.prog 3 (.int .i64 (cl:Int))=some (.int .i64 (cl:Int)):=Maps.keyOf_int_mk Tryz.underlying3 (WalkArith.wf_i64 Y);have hmv:=hK1.le.mv;have LY:=hK1.le.say cl;have aki:gl≠wr.heap.size:=Y;have HQ:=Z hq;by_cases Jq:some cl∈st'.map (cw cs)
       .rw[if_pos Jq]at LY;have rU:(Instr.lookup 213 (.map (some w1.heap.size)) (.int .i64 (cl:Int)) true).run Tryz.prog (wr.alloc (.cells #[.int .u8 (lo:Int),.int .u8 (hi:Int),.int .i64 (cl:Int)] 195))=.ok (.tuple #[.int .i64 ((cG (cw cs) st' cl:Nat):Int),.bool true]) (wr.alloc (.cells #[.int .u8 (lo:Int),.int .u8 (hi:Int),.int .i64 (cl:Int)] 195)):=by
         have h1:=hmv.look_ok K Tryz.underlying213 hz ju trivial;rw[LY]at h1;exact h1
        obtain ⟨x,hx⟩:=ν (cG (cw cs) st' cl);rw[hx]at rU;have ja:Below (wr.setCell ⟨gl,k*3+2,none⟩ (.int .i64 (x:Int))).heap.size (wr.setCell ⟨gl,k*3+2,none⟩ (.int .i64 (x:Int))) ((wr.setCell ⟨gl,k*3+2,none⟩ (.int .i64 (x:Int))).alloc (.cells #[.int .u8 (lo:Int),.int .u8 (hi:Int),.int .i64 (cl:Int)] 195)):=υ.alloc I _;have hK3:=((HKJ.out.old Xi (by rw[hq];exact Jq)).put Xi (x:=(x:Int)) (by rw[hq,<-hx])).later ja
        rw[Xg.out]at hK3;have HK3:=Z hK3;clear hK1 hmv LY Jq hx hK3 ja hq ZV GH Xj hb0 HKJ;go_wp2_with fail;go_roundw
        case rel=>exact ⟨k+1,st',F',by go_num,Y,HK3⟩
        case measure=>exact μ
       .rw[if_neg Jq]at LY;have rU:(Instr.lookup 213 (.map (some w1.heap.size)) (.int .i64 (cl:Int)) true).run Tryz.prog (wr.alloc (.cells #[.int .u8 (lo:Int),.int .u8 (hi:Int),.int .i64 (cl:Int)] 195))=.ok (.tuple #[.int .i64 0,.bool false]) (wr.alloc (.cells #[.int .u8 (lo:Int),.int .u8 (hi:Int),.int .i64 (cl:Int)] 195)):=by
         have h1:=hmv.look_ok K Tryz.underlying213 hz ju trivial;rw[LY]at h1;exact h1
        have HMV:=Z hmv;have ZW:=Z hK1;have HNI:=Z Jq;have HEX:=Z (show ∃s,s<n/\cw cs s=some cl from ⟨f0,Xj,GH⟩);have akk:st'.length<maxLen:=by unfold maxLen;have:=ZU.out;omega
        have adz:MV Tryz.prog 3 w1.heap.size zP F' (wr.alloc (.cells #[.int .u8 (lo:Int),.int .u8 (hi:Int),.int .i64 (cl:Int)] 195)):=by rw[<-ZU.out];exact hmv
        have adA:=Z adz;have Uc:=World.ownsRow.alloc HOW.out (.cells #[.int .u8 (lo:Int),.int .u8 (hi:Int),.int .i64 (cl:Int)] 195);have ZH:=Z Uc;have atp:w1.heap.size<wr.heap.size:=HKJ.out.le.mv.lt;clear hK1 hmv adz LY Jq hq ZV GH Xj hb0 Uc akk;go_wp2_with (at_mapUpdate;refine oD _ rfl _ _ _ 213 rfl 3 3 K Tryz.underlying213 w1.heap.size zP F' rfl adA.out (by unfold maxLen;omega) _ _ _ rfl rfl ju trivial ?_)
        intro wm adB wF;have hzm:=wF.size;have wS:(wr.alloc (.cells #[.int .u8 (lo:Int),.int .u8 (hi:Int),.int .i64 (cl:Int)] 195)).heap.size=wr.heap.size+1:=ξ;rw[wS]at hzm;have hec:wm.cell? ⟨wr.heap.size,2,none⟩=some (.int .i64 (cl:Int)):=(χ wr.heap.size 2 (wF.block _ ξ (λe=>by injection e with e;have e':wr.heap.size=w1.heap.size:=e;omega))).trans (by rw[cell_of_row _ _ _ _ _ _ (heap_alloc_new wr _)];rfl)
        have Ud:wm.ownsRow w1.heap.size 3 1 (.slice As2 zP RF) zP (bV st'):=aG ZH.out λg hg=>wF.block g (ZH.out.lt g hg).2 λe=>GN adA.out ZH.out (by rw[hg,e])
        have hbm:Below w1.heap.size w1 wm:=ZW.out.bl.grown wF ZW.out.bl.size (λq hq=>by injection hq with hq;omega)
        have Dj:=Jo _ g3 n cc cl cs wm (OR.later HC.out hbm) mJ.out.1 Y HEX.out;have HIX:=Z Dj;have HGM:=Z (H adB wF);have HOM:=Z Ud;clear Dj adB wF Ud hbm wS;go_wp2_with fail;refine HIX.out.mono ?_;rintro e wy ⟨s2,rfl,Mm,akl,akm⟩;rw[Mm];clear Mm;have cZ:=World.ownsRow.alloc HOM.out (.cells #[.int .i64 (s2:Int)] 3);have iY:∀j u,([.int .i64 (s2:Int)]:List Value)[j]?=some u->(wm.alloc (.cells #[.int .i64 (s2:Int)] 3)).cell? ((⟨wm.heap.size,0,none⟩:Addr).add j)=some u:=λj u hj=>by
         match j,hj with
         |0,hj=>simp at hj;rw[<-hj,Addr.add_lit,cell_of_row _ _ _ _ _ _ (heap_alloc_new wm _)];rfl
        have dA:w1.heap.size<=(wm.alloc (.cells #[.int .i64 (s2:Int)] 3)).heap.size:=ψ;have xS:=Z (show Below wm.heap.size wm (wm.alloc (.cells #[.int .i64 (s2:Int)] 3)) from υ.alloc I _);go_wp2_with (at_builtin;refine cQ rfl _ _ 22 rfl w1.heap.size 3 ii _ 1 8 Tryz.underlying22 Y7 Gf tv pJ rfl O _ zP (bV st') rfl cZ ⟨wm.heap.size,0,none⟩ 1 1 [.int .i64 (s2:Int)] rfl rfl iY (by intro u hu;simp at hu;subst hu;rfl) (by unfold maxLen;omega) Y dA ?_)
        intro uZ w4 eQ MP Dy;have adC:di uZ (.slice As2 zP RF) (wm.alloc (.cells #[.int .i64 (s2:Int)] 3)).heap.size:=by rw[show (wm.alloc (.cells #[.int .i64 (s2:Int)] 3)).heap.size=wm.heap.size+1 by simp];exact Dy
        obtain ⟨PA,ra⟩:=ZW.out.new Xi HGM.out.2 (by rw[HQ.out,ZU.out];exact HGM.out.1) xS.out MP (by rw[ZU.out];exact eQ) adC (by rw[HQ.out];exact HNI.out) (by rw[HN.out.1];exact akl) (by rw[HQ.out];exact akm)
        rw[ZU.out]at PA ra;obtain ⟨A4,c4,rfl,-,-⟩:=ar eQ;obtain ⟨⟨-,-,f2⟩,ff,ats⟩:=PA.cells Xi;have hk6:=PA.put Xi (x:=(zP:Int)) (by rw[ra])
        rw[Xg.out]at hk6;have HK6:=Z hk6;clear eQ MP Dy adC PA ra hk6 cZ iY dA hec;go_wp2_with fail;go_roundw
        case rel=>exact ⟨k+1,st'++[s2],_,by go_num,Y,HK6⟩
        case measure=>exact μ
      .have hkn:k=nj:=Y;have kc:decide ((k:Int)<(nj:Int))=false:=θ;have hle:=HK.out.le;have hrow:=HK.out.row;rw[List.take_of_length_le (by rw[Xg.out];omega)]at hle
       rw[List.take_of_length_le (by rw[Xg.out];omega),List.drop_of_length_le (by rw[Xg.out];omega),List.append_nil]at hrow
       have tH:∃more,st'=st++more:=HK.out.pre;have ako:=hle.le.il;have vN:st'[i]?=some s:=by
        obtain ⟨more,e⟩:=tH;rw[e,List.getElem?_append_left (by have:=Np.out;omega)]
        exact HS.out.1
       have Xk:rs.length=i:=by rw[hle.le.rows,List.length_map,List.length_take];omega
       have Xl:bL.length=i:=by rw[hle.ac,List.length_map,List.length_take];omega
       have jx:=hle.ma.own;have kD:wr.ownsRow w1.heap.size 4 1 vA bL.length (bF bC bL):=hle.ma.acc;rw[Xk]at jx;rw[Xl]at kD;obtain ⟨AE,cE,rfl,-,-⟩:=ar jx;obtain ⟨AV,cA,rfl,-,-⟩:=ar kD;obtain ⟨av,hav⟩:=ν (bF bC bL);rw[hav]at kD;have eS:i<zP:=by have:=(List.getElem?_eq_some_iff.1 vN).1;rw[ZU.out]at this;exact this
       obtain ⟨gs2,rfl,-,lgs,Zw⟩:=tD HOW.out Y;have xst:wr.cell? ⟨gs2,i,none⟩=some (.int .i64 (s:Int)):=by rw[Zw i Y];unfold bV;rw[List.getElem?_map,vN];rfl
       have hM:=(HK.out.bl.block w.heap.size Y).trans Y8.out;have xm1:wr.cell? ⟨w.heap.size,1,none⟩=some (.slice (some ⟨ga,fa,none⟩) n ca):=by rw[cell_of_row _ _ _ _ _ _ hM];rfl
       have aY:Below w.heap.size w wr:=aX.out.trans (HK.out.bl.mono aX.out.size);have adF:(m.ac[s]?).getD false=a:=HS.out.2.2.1;have wT:w.cell? ⟨ga,fa+s,none⟩=some (.bool a):=by
        obtain ⟨ga',fa',e,-,-,h0⟩:=HA.out.at_ (show s<m.ac.length by rw[HN.out.2];exact tj)
        injection e with e;injection e with e1 e2;rw[e1,e2,h0,<-adF,List.getElem?_eq_getElem (by rw[HN.out.2];exact tj)];rfl
       have xac:=(χ ga (fa+s) (aY.block ga HGA.out.1)).trans wT;have Xm:=hle.ma.hN;obtain ⟨QE,xn1⟩:wr.cell? ⟨w2.heap.size+1,0,none⟩=some (.slice AE i cE)/\wr.cell? ⟨w2.heap.size+1,1,none⟩=some (.slice AV i cA):=by constructor <;> (rw[cell_of_row _ _ _ _ _ _ Xm]; rfl)
       have RG:=hle.ma.lt;have agT:=aY.size;have hsl:w2.heap.size+1<wr.heap.size:=(RG _ (bp.2 (.inl rfl))).2;have lM:w.heap.size<wr.heap.size:=(γ hM).1;have lga:ga<wr.heap.size:=by have:=HGA.out.1;omega
       have Xe:=aX.out.size;have nM:w.heap.size∉(w2.heap.size+1)::(blk (.slice AE i cE)++blk (.slice AV i cA)):=λhm=>by have:=(RG _ hm).1;omega
       have nga:ga∉(w2.heap.size+1)::(blk (.slice AE i cE)++blk (.slice AV i cA)):=λhm=>by have:=(RG _ hm).1;have:=HGA.out.1;omega
       have ngs:gs2∉(w2.heap.size+1)::(blk (.slice AE i cE)++blk (.slice AV i cA)):=λhm=>hle.ma.out _ hm (by simp[blk,Value.ownBlock])
       have hne:(∀g,(Value.slice AE i cE).ownBlock=some g->g<wr.heap.size)/\(∀g,(Value.slice AV i cA).ownBlock=some g->g<wr.heap.size)/\(∀g,(Value.slice AV i cA).ownBlock=some g->(Value.slice AE i cE).ownBlock≠some g)/\(Value.slice AE i cE).ownBlock≠some (w2.heap.size+1)/\(Value.slice AV i cA).ownBlock≠some (w2.heap.size+1)/\(∀g,(Value.slice AV i cA).ownBlock=some g->(Value.slice AE i cE).ownBlock≠some g/\g<wr.heap.size):=by
        have hd:∀g,(Value.slice AV i cA).ownBlock=some g->(Value.slice AE i cE).ownBlock≠some g:=λg hg e=>hle.ma.Xc g e hg;exact ⟨λg hg=>(jx.lt g hg).2,λg hg=>(kD.lt g hg).2,hd,hle.ma.Zc,hle.ma.neA,λg hg=>⟨hd g hg,(kD.lt g hg).2⟩⟩
       obtain ⟨W,D9⟩:∃W:World,W=wr:=⟨_,rfl⟩;subst D9;have jH:nZ (w2.heap.size+1) (.slice AE i cE) (.slice AV i cA) W 0 W.drew:=⟨(aj.aa υ.drew).oR,λ_=>rfl,λ_ _ _=>rfl,λ_=>υ.drew⟩;have py:=Z hne;have TB:=Z Xm;have Ko:=Z jx;have HV1:=Z kD;have Qx:=Z Xh;have TM:=Z (H hle (H hrow vN));have HBE:=Z (H HK.out.bl HK.out.hB);have HAV:=Z (H hav (H Xk Xl));clear hle hrow tH ako vN Xk Xl jx kD hav Zw hM aY adF wT Xm RG hne hkn Xh;go_wp2_with fail;refine aQ 20 [4,16,18] (ik (w2.heap.size+1) w.heap.size gs2 zP RF i s ga fa n ca nj cj cE cA w1.heap.size AE AV Aj gv av a W) (λc w'=>nZ (w2.heap.size+1) (.slice AE i cE) (.slice AV i cA) W c w') κ κ κ κ κ κ O jH ?_ ?_
       .simp only[eK,eL];refine ag.pure O ?_ (ag.pure O ?_ (ag.pure O ?_ (ag.free O ?_ (ag.ur 0 rfl ?_ (ag.pure O ?_ (ag.pure O ?_ (ag.pure O ?_ (ag.pure O ?_ (ag.pure O ?_ (ag.pure O ?_ (ag.pure O ?_ (ag.pure O ?_ (ag.pure O ?_ (ag.pure O ?_ (ag.free O ?_ (ag.ur 1 rfl ?_ (ag.pure O ?_ (ag.ur 2 rfl ?_ (ag.pure O ?_ (ag.nil))))))))))))))))))))
        all_goals first | (with_reducible intro v wz c dy hS hE K hK;simp only[ay,Act.put,gU,gV,gW,Nat.zero_add,Nat.reduceAdd,eK,eL]at hK|-) | (intro v wz hS hE K hK;simp only[ay,Act.put,gU,gV,gW,Nat.zero_add,Nat.reduceAdd,eK,eL]at hK|-)
        .exact ζ
        .have e0:v 0=_:=hE.1 rfl;rw[e0]at hK|-;have hle:=dy 0 κ;have c1:=(χ (w2.heap.size+1) 0 (hS.2.1 Y)).trans QE;have l1:w2.heap.size+1<wz.heap.size:=by have:=hS.1.size;omega
         exact ζ
        .exact ζ
        .have e2:v 2=_:=hE.1 rfl;rw[e2]at hK|-;have dA:Below wz.heap.size wz (wz.alloc (.cells #[.slice Aj nj cj] 187)):=υ.alloc I _;have rL:=hS.1.size;have HX:=Z hS;have vU:=Z dA;clear hS hE dy dA;go_wp2_with fail;exact hK.out _ _ (λj y _ h=>vh vU.out h) (HX.out.later hsl py.out.2.1 vU.out) ⟨wz.heap.size,rfl,rL,ξ,by go_simp⟩
        .have e1:v 1=_:=hE.1 rfl;rw[e1]at hK|-;have E3:=hE.2.1 rfl;obtain ⟨g,e3,Pr,dR,yP⟩:=E3;rw[e3]at hK|-;have hz:=hS.2.2.2 rfl;have hown:wz.ownsRow w1.heap.size 187 1 (.slice AE i cE) i gv:=bw Ko.out hz;have Gi:=hz.size;clear hz;have hcell:∀j u,([.slice Aj nj cj]:List Value)[j]?=some u->wz.cell? ((⟨g,0,none⟩:Addr).add j)=some u:=λj u hj=>by
          match j,hj with
          |0,hj=>simp at hj;rw[<-hj,Addr.add_lit];exact yP
         have HX:=Z hS;clear hS hE;go_wp2_with (at_builtin;refine cQ rfl _ _ 91 rfl w1.heap.size 187 ie (.slice none 0 0) 1 24 Tryz.underlying91 rJ he0 he1 TD rfl O _ i gv rfl hown ⟨g,0,none⟩ 1 1 [.slice Aj nj cj] rfl rfl hcell (by intro u hu;simp at hu;subst hu;rfl) (by unfold maxLen;omega) Y (by have:=Qx.out;omega) ?_)
         intro v' wx hown1 fH dY;obtain ⟨A',c',rfl,-,-⟩:=ar hown1;have EY:di (.slice A' (i+1) c') (.slice AE i cE) W.heap.size:=dY.imp id λ⟨g,h1,h2⟩=>⟨g,h1,Nat.le_trans Gi h2⟩;refine hK.out _ _ (EU fH py.out.1) (HX.out.s1 hsl fH py.out.2.2.2.1 py.out.2.2.2.2.2) (λ_=>⟨A',c',rfl,hown1,EY⟩)
        .exact ζ
        .have e5:v 5=_:=hE.1 rfl;rw[e5]at hK|-;have hle:=dy 1 κ;have c1:=(χ (w2.heap.size+1) 1 (hS.2.1 Y)).trans xn1;have l1:w2.heap.size+1<wz.heap.size:=by have:=hS.1.size;omega
         exact ζ
        .exact ζ
        .have e7:v 7=_:=hE.1 rfl;rw[e7]at hK|-;have c1:=(χ w.heap.size 1 (hS.1.blk _ lM nM)).trans xm1;have l1:w.heap.size<wz.heap.size:=by have:=hS.1.size;omega
         exact ζ
        .exact ζ
        .exact ζ
        .have e9:v 9=_:=hE.1 rfl;have qE:v 10=_:=hE.2.1 rfl;rw[e9,qE]at hK|-;exact ζ
        .have wj:v 11=_:=hE.1 rfl;rw[wj]at hK|-;have c1:=(χ gs2 i (hS.1.blk _ lgs ngs)).trans xst;have l1:gs2<wz.heap.size:=by have:=hS.1.size;omega
         exact ζ
        .have e8:v 8=_:=hE.1 rfl;have tl:v 12=_:=hE.2.1 rfl;rw[e8,tl]at hK|-;exact ζ
        .have wq:v 13=_:=hE.1 rfl;rw[wq]at hK|-;have c1:=(χ ga (fa+s) (hS.1.blk _ lga nga)).trans xac;have l1:ga<wz.heap.size:=by have:=hS.1.size;omega
         exact ζ
        .have xD:v 14=_:=hE.1 rfl;rw[xD]at hK|-;have dA:Below wz.heap.size wz (wz.alloc (.cells #[.bool a] 4)):=υ.alloc I _;have rL:=hS.1.size;have HX:=Z hS;have vU:=Z dA;clear hS hE dy dA;go_wp2_with fail;exact hK.out _ _ (λj y _ h=>vh vU.out h) (HX.out.later hsl py.out.2.1 vU.out) ⟨wz.heap.size,rfl,rL,ξ,by go_simp⟩
        .have e6:v 6=_:=hE.1 rfl;rw[e6]at hK|-;have ZX:=hE.2.1 rfl;obtain ⟨g,FK,Pr,dR,yP⟩:=ZX;rw[FK]at hK|-;have hown:wz.ownsRow w1.heap.size 4 1 (.slice AV i cA) i av:=aG HV1.out λg hg=>hS.2.2.1 O g hg;have Gi:=hS.1.size;have hcell:∀j u,([.bool a]:List Value)[j]?=some u->wz.cell? ((⟨g,0,none⟩:Addr).add j)=some u:=λj u hj=>by
          match j,hj with
          |0,hj=>simp at hj;rw[<-hj,Addr.add_lit];exact yP
         have HX:=Z hS;clear hS hE;go_wp2_with (at_builtin;refine cQ rfl _ _ 70 rfl w1.heap.size 4 ib (.bool false) 1 1 Tryz.underlying70 oL hb0 hb1 aJ rfl O _ i av rfl hown ⟨g,0,none⟩ 1 1 [.bool a] rfl rfl hcell (by intro u hu;simp at hu;subst hu;rfl) (by unfold maxLen;omega) Y (by have:=Qx.out;omega) ?_)
         intro v' wx hown1 fH dY;obtain ⟨A',c',rfl,-,-⟩:=ar hown1;have EY:di (.slice A' (i+1) c') (.slice AV i cA) W.heap.size:=dY.imp id λ⟨g,h1,h2⟩=>⟨g,h1,Nat.le_trans Gi h2⟩;refine hK.out _ _ (EW fH py.out.2.1 py.out.2.2.1) (HX.out.s2 hsl fH py.out.2.2.2.2.1) (λ_=>⟨A',c',rfl,hown1,EY⟩)
        .exact ζ
        .have e17:v 17=_:=hE.1 rfl;rw[e17]at hK|-;have E4:=hE.2.1 rfl;obtain ⟨A,c',ev,ho,dY⟩:=E4 O;rw[ev]at hK ho dY|-;have hrow:=(hS.2.1 O).trans TB.out;have cz:wz.cell? ⟨w2.heap.size+1,0,none⟩=some (.slice AE i cE):=by rw[cell_of_row _ _ _ _ _ _ hrow];rfl
         have fz:wz.frozen? ⟨w2.heap.size+1,0,none⟩=false:=by simp[World.frozen?,hrow]
         have HX:=Z hS;have HO:=Z (H ho (H dY hrow));clear hS hE ho dY hrow ev;go_wp2_with fail;have Eo:∀g,(Value.slice A (i+1) c').ownBlock=some g->g≠w2.heap.size+1:=λg hg=>HO.out.2.1.elim (λe=>by rw[e]at hg;intro e2;subst e2;exact py.out.2.2.2.1 hg) λ⟨g',e,h2⟩=>by rw[e]at hg;injection hg with hg;omega
         refine hK.out undef _ (EX hsl py.out.2.2.2.1 py.out.2.2.2.2.1 _) (HX.out.s3 _) (λ_=>⟨A,c',aG HO.out.1 λg hg=>Below.heap_setCell _ _ _ _ (Eo g hg),HO.out.2.1,by have:=aS HO.out.2.2 0 (.slice A (i+1) c');simpa using this⟩)
        .exact ζ
       .intro v wz hS hF;have e0:v 0=_:=hF 0 O;have e1:v 1=_:=hF 1 O;have e2:v 2=_:=hF 2 O;have e5:v 5=_:=hF 5 O;have e6:v 6=_:=hF 6 O;have e7:v 7=_:=hF 7 O;have e8:v 8=_:=hF 8 O;have e9:v 9=_:=hF 9 O;have qE:v 10=_:=hF 10 O;have wj:v 11=_:=hF 11 O;have tl:v 12=_:=hF 12 O;have wq:v 13=_:=hF 13 O;have xD:v 14=_:=hF 14 O;have e17:v 17=_:=hF 17 O;have e19:v 19=_:=hF 19 O;have E3:=hF 3 O;have E4:=hF 4 O;have ZX:=hF 15 O;have Zr:=hF 16 O;have Wk:=hF 18 O;simp only[ay,Act.put,gU,gV,gW,Nat.zero_add,Nat.reduceAdd,eK,eL,List.drop_succ_cons,List.drop_zero,e0,e1,e2,e5,e6,e7,e8,e9,qE,wj,tl,wq,xD,e17,e19];clear hF e0 e1 e2 e5 e6 e7 e8 e9 qE wj tl wq xD e17 e19;obtain ⟨A18,c18,EZ,Jr,sW⟩:=Wk O;obtain ⟨A16,c16,adI,Xn,RH⟩:=Zr O;rw[adI]at Xn RH|-;have RI:=hS.1;have z1:wz.cell? ⟨w2.heap.size+1,1,none⟩=some (.slice AV i cA):=by rw[cell_of_row _ _ _ _ _ _ sW];rfl
        have fz1:wz.frozen? ⟨w2.heap.size+1,1,none⟩=false:=by simp[World.frozen?,sW]
        have lNz:w2.heap.size+1<wz.heap.size:=(γ sW).1;have bo:∀k,k≠w2.heap.size+1->(wz.setCell ⟨w2.heap.size+1,1,none⟩ (.slice A16 (i+1) c16)).heap[k]?=wz.heap[k]?:=λk hk=>Below.heap_setCell _ _ _ _ hk;have dY:∀{v v':Value},di v' v W.heap.size->v.ownBlock≠some (w2.heap.size+1)->∀g,v'.ownBlock=some g->g≠w2.heap.size+1:=λhf hn g hg e=>by
         subst e;rcases hf with hf|⟨g',hf,h2⟩
         .rw[hf]at hg;exact hn hg
         .rw[hf]at hg;injection hg with hg;omega
        have hks:aj (lG (w2.heap.size+1) (.slice AE i cE) (.slice AV i cA)) [] W (wz.setCell ⟨w2.heap.size+1,1,none⟩ (.slice A16 (i+1) c16)):=
         aj.tr (show aj (lG (w2.heap.size+1) (.slice AE i cE) (.slice AV i cA)) [] W wz from RI) ⟨rfl,rfl,rfl,by simp[World.setCell],λk _ hn=>bo k (λe=>hn (bp.2 (.inl e))),λk hk=>by cases hk⟩
        have bM:=TM.out.1.Rv HBE.out.2 TM.out.2.1 hks (by have:=aS sW 1 (.slice A16 (i+1) c16);simpa using this) (by rw[HAV.out.2.1];exact aG EZ λg hg=>bo g (dY Jr py.out.2.2.2.1 g hg)) (a:=a) (by
         show World.ownsRow _ _ _ _ _ _ _;rw[List.length_append,bU,bz,HAV.out.1,HAV.out.2.2];exact aG Xn λg hg=>bo g (dY RH py.out.2.2.2.2.1 g hg)) Jr RH HS.out.2.2.2 TM.out.2.2 (by rw[HS.out.2.1,HJE.out]) HS.out.2.2.1.symm
        have pN:Below w1.heap.size w1 (wz.setCell ⟨w2.heap.size+1,1,none⟩ (.slice A16 (i+1) c16)):=HBE.out.1.trans (hks.below (λk hk=>(TM.out.1.ma.lt k hk).1) Qx.out);have aks:=Z bM;have HBF:=Z pN;clear hS RI bo dY hks bM pN EZ Jr sW Xn RH adI E3 E4 ZX Zr Wk;go_wp2_with fail;go_roundw
        case rel=>exact ⟨i+1,_,_,_,_,_,_,_,_,by go_num,Y,aks,HBF⟩
        case measure=>exact μ
   .have rJ:i=zp:=Y;have hd:decide ((i:Int)<(zp:Int))=false:=θ;have hle:=HL.out;have adK:i=st.length:=by rw[Np.out];exact rJ
    have jx:=hle.ma.own;have kD:wr.ownsRow w1.heap.size 4 1 vA bL.length (bF bC bL):=hle.ma.acc;obtain ⟨AE,cE,rfl,-,-⟩:=ar jx;obtain ⟨AV,cA,rfl,-,-⟩:=ar kD;obtain ⟨nE,Zf⟩:∃x,rs.length=x:=⟨_,rfl⟩;obtain ⟨nV,Zg⟩:∃x,bL.length=x:=⟨_,rfl⟩;rw[Zf,Zg]at HL;have Xm:=HL.out.ma.hN;obtain ⟨QE,xn1⟩:wr.cell? ⟨w2.heap.size+1,0,none⟩=some (.slice AE nE cE)/\wr.cell? ⟨w2.heap.size+1,1,none⟩=some (.slice AV nV cA):=by constructor <;> (rw[cell_of_row _ _ _ _ _ _ Xm]; rfl)
    have iM:=(HB.out.block (w.heap.size+1) lx1).trans IG.out;obtain ⟨q0,q1⟩:wr.cell? ⟨w.heap.size+1,0,none⟩=some (.slice none 0 0)/\wr.cell? ⟨w.heap.size+1,1,none⟩=some (.slice none 0 0):=by constructor <;> (rw[cell_of_row _ _ _ _ _ _ iM]; rfl)
    have g0:wr.frozen? ⟨w.heap.size+1,0,none⟩=false:=by simp[World.frozen?,iM]
    have g1:wr.frozen? ⟨w.heap.size+1,1,none⟩=false:=by simp[World.frozen?,iM]
    have lNr:w2.heap.size+1<wr.heap.size:=(γ Xm).1;have lXr:w.heap.size+1<wr.heap.size:=Y;have HEI:=Z (H adK (H Zf Zg));clear hle adK jx kD Xm iM Zf Zg rJ;go_wp2_with fail;refine az λWf bY=>?_;refine bodyPost_ret (v:=.agg #[.slice AE nE cE,.slice AV nV cA]) (by rw[bY];simp[results,Tryz.results139,go_sem,q0,q1,lXr];try rfl) rfl ?_
    have aU:aj [w.heap.size+1] [] wr Wf:=by
     rw[bY];have hne:∀k,k∉[w.heap.size+1]->k≠w.heap.size+1:=λk hn e=>hn (List.mem_singleton.2 e);exact ⟨rfl,rfl,rfl,by simp[World.setCell],λk _ hn=>(Below.heap_setCell (wr.setCell ⟨w.heap.size+1,0,none⟩ (.slice AE nE cE)) ⟨w.heap.size+1,1,none⟩ (.slice AV nV cA) k (hne k hn)).trans (Below.heap_setCell wr ⟨w.heap.size+1,0,none⟩ (.slice AE nE cE) k (hne k hn)),λk hk=>by cases hk⟩
    have hmk:=HL.out.ma.low aU (λk hk=>by rw[List.mem_singleton]at hk;omega)
    have hle:=HL.out.le;rw[HEI.out.1]at hle;obtain ⟨d1,d2,d3⟩:=hle.done HV.out mJ.out.2.1;have QJ:bL=(cO m (cw cs) (cG (cw cs) st) st).ac:=by rw[HL.out.ac,HEI.out.1,List.take_length];rfl
    have hm':(⟨rs,bL⟩:Mc)=cO m (cw cs) (cG (cw cs) st) st:=by rw[d1,QJ]
    have Xe:=aX.out.size;have pN:Below w.heap.size w Wf:=(aX.out.trans (HB.out.mono aX.out.size)).trans (aU.below (λk hk=>by rw[List.mem_singleton]at hk;omega) Y)
    refine ⟨_,⟨rs,bL⟩,rfl,hmk.up.mono Xe,pN,.inl ⟨?_,by rw[hm'];exact d2,by rw[hm'];exact d3⟩,?_,?_⟩
    .by_cases hx:br m 0
     .exact hx
     .exact absurd ((mJ.out.2.1.dH 0 (by rw[HN.out.1];exact KS.out)).2 hx) (HL.out.le.lv 0 (List.mem_of_getElem? HL.out.le.zero)).2
    .show rs.length<=_;rw[d1];unfold cO;simp;exact HL.out.le.nodup
    .rw[hm'];have hr:∀r∈(cO m (cw cs) (cG (cw cs) st) st).ed,∃s∈st,r=dE (cG (cw cs) st) (b7 (cw cs) (bE m s)):=λr hr=>by
      unfold cO at hr;obtain ⟨s,h1,h2⟩:=List.mem_map.1 hr;exact ⟨s,h1,h2.symm⟩
     have jF:∀s∈st,bE m s∈m.ed:=λs hs=>by
      obtain ⟨h1,-⟩:=HL.out.le.lv s hs;unfold bE;rw[List.getElem?_eq_getElem h1];exact List.getElem_mem h1
     refine ⟨λr h e he=>?_,λr h=>?_,?_⟩
     .obtain ⟨s,h1,rfl⟩:=hr r h;unfold dE at he;obtain ⟨f,h2,rfl⟩:=List.mem_map.1 he;have:=um (cls:=cw cs) (HV.out.pd _ (jF s h1)) (Kb.out.jo _ (jF s h1)) f h2;exact ⟨this.1,this.2.1⟩
     .obtain ⟨s,h1,rfl⟩:=hr r h;rw[qk];exact Nat.le_trans (qX _ _) (Kb.out.rl _ (jF s h1))
     .unfold cO;simp;have:=HL.out.le.nodup;have:=Kb.out.n;omega
end
structure OwI (n:Nat) (p:List Ed) (a:Nat):Prop where
 pd:cm 0 p
 top:∀e∈p,e.hi<a/\e.lo<256/\e.hi<256/\e.to<n
 a:a<=256
theorem Ng{m m':Mc}(h:IZ m m'):pC m'/\1<=m'.ed.length:=by
 rcases h.1 with ⟨hl,hc,he⟩|⟨-,rfl⟩
 .refine ⟨⟨hc.len,hc.pd,hc.to⟩,?_⟩;rcases Nat.eq_zero_or_pos m'.ed.length with h0|h0
  .exfalso;obtain ⟨w,hw⟩:=hl;rw[<-he]at hw;have e1:m'.ed=[]:=List.length_eq_zero_iff.1 h0;have e2:m'.ac=[]:=List.length_eq_zero_iff.1 (by rw[hc.len,h0])
   cases w with
   |nil=>simp[dG,e2]at hw
   |cons c w=>simp[dG,bE,e1,bO]at hw
  .exact h0
 .exact ⟨⟨rfl,λr hr=>by simp at hr;subst hr;trivial,λr hr e he=>by simp at hr;subst hr;cases he⟩,I⟩
end Go.Proofs.YtdmoogjddmdmbaaGreatDoor
