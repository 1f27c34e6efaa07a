/- Walks. -/
import Derived.Test.YtdmoogjddmdmbaaGreatDoorV12
import Derived.Test.YtdmoogjddmdmbaaGreatDoorV02
import Derived.Test.YtdmoogjddmdmbaaGreatDoorV13
set_option maxRecDepth 100000
set_option maxHeartbeats 16000000
set_option linter.unusedVariables false
set_option linter.unusedSimpArgs false
namespace Go.Proofs.YtdmoogjddmdmbaaGreatDoor
open Go.RowKit
section
set_option linter.unusedVariables false
set_option linter.unusedSimpArgs false
open Go.RowKit
open Go.Maps (Keyed)
def vp (gs:List (List Nat)) (l:List Nat):Option Value:=if l∈gs then some (.int .i64 ((gs.idxOf l:Nat):Int)) else none
def Il (F:Lit->Option Value) (gs:List (List Nat)):Prop:=∀l,F (.string (dI l))=vp gs l
theorem Il.put {F:Lit->Option Value} {gs:List (List Nat)} (h:Il F gs) (l:List Nat) (hl:l∉gs) (n:Int) (hn:n=(gs.length:Int)):Il (jV F (.string (dI l)) (some (.int .i64 n))) (gs++[l]):=by
 intro x;subst hn;unfold jV;by_cases e:x=l
 .subst e;rw[if_pos (by simp[Lit.sameKey])]
  unfold vp;rw[if_pos (by simp),List.idxOf_append,if_neg hl]
  simp
 .rw[if_neg (by simp only[Lit.sameKey,beq_iff_eq];exact λh=>e (yp h)),h x]
  unfold vp;by_cases hx:x∈gs
  .rw[if_pos hx,if_pos (by simp[hx]),List.idxOf_append,if_pos hx]
  .rw[if_neg hx,if_neg (by simp[hx,e])]
def TI (w:World) (v:Value):Prop:=∀g,v.ownBlock=some g->∃cs m,w.heap[g]?=some (.cells cs 3 m)
theorem TI.keep {fp fp':List Nat} {w w':World} {v:Value} (h:TI w v) (ho:aG fp v) (hk:ah fp fp' w w'):TI w' v:=λg hg=>by
 obtain ⟨cs,m,e⟩:=h g hg;exact ⟨cs,m,(hk.blk g (Array.getElem?_eq_some_iff.1 e).1 (ho g hg)).trans e⟩
theorem TI.later {w w':World} {v:Value} (h:TI w v) (hb:Below w.heap.size w w'):TI w' v:=h.keep (fp:=[]) (fp':=[]) (λ_ _ h=>by cases h) (ah.aa hb)
theorem TI.fS {w:World} {B:Nat} {k:Nat} {v:Value} {n:Nat} {xs:List Value} (h:w.ownsRow B 3 k v n xs):TI w v:=λg hg=>by
 rcases h.2 with ⟨h1,-⟩ | ⟨g',cap,cur,h1,-,xA,-⟩
 .subst h1;simp[Value.ownBlock]at hg
 .subst h1;simp[Value.ownBlock]at hg;subst hg;exact ⟨_,_,xA⟩
theorem TI.nil (w:World):TI w (.slice none 0 0):=λg hg=>by simp[Value.ownBlock]at hg
theorem TI.ne {w:World} {v u:Value} (h:TI w v) {B k n:Nat} {e:TypeId} {xs:List Value} (hu:w.ownsRow B e k u n xs) (he:e≠3):∀g,v.ownBlock=some g->u.ownBlock≠some g:=λg hg hug=>by
 obtain ⟨cs,m,h1⟩:=h g hg;rcases hu.2 with ⟨h2,-⟩ | ⟨g',cap,cur,h2,-,xA,-⟩
 .subst h2;simp[Value.ownBlock]at hug
 .subst h2;simp[Value.ownBlock]at hug;subst hug;rw[xA]at h1;injection h1 with h1;injection h1 with _ h3 _;exact he h3
def iQ (s mb:Nat) (vg:Value):List Nat:=s::mb::blk vg
structure Sd (B s mb:Nat) (v0 v1 v2:Value) (gs:List (List Nat)) (vg:Value) (gv:List Value) (F:Lit->Option Value) (w:World):Prop where
 ne:s≠mb/\vg.ownBlock≠some s/\vg.ownBlock≠some mb
 hs:B<=s/\B<=mb/\B<=w.heap.size
 cs:w.heap[s]?=some (.cells #[v0,v1,v2, .map (some mb),vg] 182 (0,0))
 mv:MV Tryz.prog 9 mb gs.length F w
 says:Il F gs
 own:w.ownsRow B 22 1 vg gs.length gv
 Q1:∀i (h:i<gs.length),∃v,gv[i]?=some v/\IL w v gs[i]/\aG (iQ s mb vg) v/\TI w v
def rU (B s mb:Nat) (v0 v1 v2:Value) (gs:List (List Nat)) (fp:List Nat) (w:World):Prop:=∃vg gv F,fp=iQ s mb vg/\Sd B s mb v0 v1 v2 gs vg gv F w
section
variable {B s mb:Nat} {v0 v1 v2:Value} {gs:List (List Nat)} {vg:Value} {gv:List Value} {F:Lit->Option Value} {w w':World} {fp:List Nat}
theorem Sd.lt (h:Sd B s mb v0 v1 v2 gs vg gv F w):∀k∈iQ s mb vg,B<=k/\k<w.heap.size:=by
 intro k hk;unfold iQ at hk;rcases List.mem_cons.1 hk with rfl | hk
 .exact ⟨h.hs.1,(Array.getElem?_eq_some_iff.1 h.cs).1⟩
 .rcases List.mem_cons.1 hk with rfl | hk
  .exact ⟨h.hs.2.1,h.mv.lt⟩
  .exact h.own.lt k (aA.1 hk)
theorem rU.lt (h:rU B s mb v0 v1 v2 gs fp w):∀k∈fp,B<=k/\k<w.heap.size:=by
 obtain ⟨vg,gv,F,rfl,h⟩:=h;exact h.lt
theorem Sd.same (h:Sd B s mb v0 v1 v2 gs vg gv F w) (hk:∀k∈iQ s mb vg,w'.heap[k]?=w.heap[k]?) (hz:w.heap.size<=w'.heap.size) (eY:∀v l,IL w v l->aG (iQ s mb vg) v->TI w v->IL w' v l/\TI w' v):Sd B s mb v0 v1 v2 gs vg gv F w':=by
 refine ⟨h.ne,⟨h.hs.1,h.hs.2.1,Nat.le_trans h.hs.2.2 hz⟩,(hk s (by simp[iQ])).trans h.cs,h.mv.kept (hk mb (by simp[iQ])),h.says,ak h.own λg hg=>hk g (by simp[iQ,aA,hg]),λi hi=>?_⟩
 obtain ⟨v,h1,h2,h3,h4⟩:=h.Q1 i hi;exact ⟨v,h1,(eY v _ h2 h3 h4).1,h3,(eY v _ h2 h3 h4).2⟩
theorem rU.later (h:rU B s mb v0 v1 v2 gs fp w) (hb:Below w.heap.size w w'):rU B s mb v0 v1 v2 gs fp w':=by
 obtain ⟨vg,gv,F,rfl,h⟩:=h;exact ⟨vg,gv,F,rfl,h.same (λk hk=>hb.block k (h.lt k hk).2) hb.size λv l hi _ ht=>⟨hi.later hb,ht.later hb⟩⟩
end
theorem Sd.add {B s mb:Nat} {v0 v1 v2:Value} {gs:List (List Nat)} {vg:Value} {gv:List Value} {F:Lit->Option Value} {w w1 w2 w3:World} (h:Sd B s mb v0 v1 v2 gs vg gv F w) {l:List Nat} {v vg':Value} (hv:IL w v l) (ho:aG (iQ s mb vg) v) (ht:TI w v) (hl:l∉gs)
  {n:Int} (hn:n=(gs.length:Int)) (et:w.grownBy w1 (some mb)) (hm:MV Tryz.prog 9 mb (gs.length+1) (jV F (.string (dI l)) (some (.int .i64 n))) w1)
  (hb:Below w1.heap.size w1 w2) (jC:w2.grownBy w3 vg.ownBlock) (hown:w3.ownsRow B 22 1 vg' (gs.length+1) (gv++[v])) (hf:vg'.ownBlock=vg.ownBlock\/∃g,vg'.ownBlock=some g/\w2.heap.size<=g) :
  rU B s mb v0 v1 v2 (gs++[l]) (iQ s mb vg') (w3.setCell ⟨s,4,none⟩ vg')/\ah (iQ s mb vg) (iQ s mb vg') w (w3.setCell ⟨s,4,none⟩ vg'):=by
 obtain ⟨n1,n2,n3⟩:=h.ne;have hlt:=h.lt;have ZE:s<w.heap.size:=(hlt s (by simp[iQ])).2
 have QH:mb<w.heap.size:=(hlt mb (by simp[iQ])).2
 have z1:=et.size;have z2:=hb.size;have z3:=jC.size;have D4:(w3.setCell ⟨s,4,none⟩ vg').heap.size=w3.heap.size:=by simp[World.setCell]
 have hblk:∀k,k<w.heap.size->k∉iQ s mb vg->(w3.setCell ⟨s,4,none⟩ vg').heap[k]?=w.heap[k]?:=λk hk hn=>by
  unfold iQ at hn;simp only[List.mem_cons,not_or,aA]at hn;rw[Below.heap_setCell _ _ _ _ hn.1,jC.block k (by omega) (λe=>hn.2.2 e.symm),hb.block k (by omega),et.block k hk (λe=>hn.2.1 (by injection e))]
 have jU:∀g,vg'.ownBlock=some g->vg.ownBlock=some g\/w.heap.size<=g:=λg hg=>by
  rcases hf with hf | ⟨g',hf,xA⟩
  .left;rw[<-hf];exact hg
  .right;rw[hf]at hg;injection hg with hg;omega
 have km:ah (iQ s mb vg) (iQ s mb vg') w (w3.setCell ⟨s,4,none⟩ vg'):=by
  refine ⟨jC.os.trans (hb.os.trans et.os),jC.tape.trans (hb.tape.trans et.tape),jC.output.trans (hb.output.trans et.output),by rw[D4];omega,hblk,λk hk=>?_⟩
  unfold iQ at hk|-;simp only[List.mem_cons,aA]at hk|-;rcases hk with hk | hk | hk
  .exact .inl (.inl hk)
  .exact .inl (.inr (.inl hk))
  .exact (jU k hk).imp (λh=>.inr (.inr h)) id
 have E0:vg'.ownBlock≠some s:=λe=>(jU s e).elim n2 λh=>by omega
 have iO:vg'.ownBlock≠some mb:=λe=>(jU mb e).elim n3 λh=>by omega
 refine ⟨⟨vg',gv++[v],_,rfl,⟨n1,E0,iO⟩,⟨h.hs.1,h.hs.2.1,by rw[D4];have:=h.hs.2.2;omega⟩,?_,?_,h.says.put l hl n hn,?_,λi hi=>?_⟩,km⟩
 .have e1:w3.heap[s]?=some (.cells #[v0,v1,v2, .map (some mb),vg] 182 (0,0)):=by
   rw[jC.block s (by omega) (λe=>n2 e.symm),hb.block s (by omega),et.block s ZE (λe=>n1 (by injection e)),h.cs]
  have:=bh e1 4 vg';simpa using this
 .rw[List.length_append];exact hm.kept (by rw[Below.heap_setCell _ _ _ _ (λe=>n1 e.symm),jC.block mb (by omega) (λe=>n3 e.symm),hb.block mb (by omega)])
 .rw[List.length_append];exact ak hown λg hg=>Below.heap_setCell _ _ _ _ (λe=>E0 (by rw[hg,e]))
 .rw[List.length_append,List.length_singleton]at hi;have dV:gv.length=gs.length:=by have:=h.own.1;omega
  by_cases eY:i<gs.length
  .obtain ⟨u,u1,u2,u3,u4⟩:=h.Q1 i eY;obtain ⟨k1,k2⟩:=u2.keep u3 km;refine ⟨u,by rw[List.getElem?_append_left (by omega)];exact u1,?_,k2,u4.keep u3 km⟩
   rw[List.getElem_append_left eY];exact k1
  .have:i=gs.length:=by omega
   subst this;obtain ⟨k1,k2⟩:=hv.keep ho km;refine ⟨v,by rw[<-dV];simp,?_,k2,ht.keep ho km⟩
   rw[List.getElem_append_right (Nat.le_refl _)];simpa using k1
theorem rU.cells {B s mb:Nat} {v0 v1 v2:Value} {gs:List (List Nat)} {fp:List Nat} {w:World} (h:rU B s mb v0 v1 v2 gs fp w):s<w.heap.size/\w.cell? ⟨s,0,none⟩=some v0/\w.cell? ⟨s,1,none⟩=some v1/\w.cell? ⟨s,2,none⟩=some v2:=by
 obtain ⟨vg,gv,F,rfl,h⟩:=h;refine ⟨(Array.getElem?_eq_some_iff.1 h.cs).1,?_,?_,?_⟩ <;> (rw[cell_of_row _ _ _ _ _ _ h.cs]; rfl)
theorem rU.grown {B s mb:Nat} {v0 v1 v2:Value} {gs:List (List Nat)} {fp:List Nat} {w w':World} (h:rU B s mb v0 v1 v2 gs fp w) {B1 k n:Nat} {e:TypeId} {u:Value} {xs:List Value} (hu:w.ownsRow B1 e k u n xs) (he:e≠3) (ho:aG fp u) (hg:w.grownBy w' u.ownBlock):rU B s mb v0 v1 v2 gs fp w':=by
 obtain ⟨vg,gv,F,rfl,h⟩:=h;refine ⟨vg,gv,F,rfl,h.same (λk hk=>hg.block k (h.lt k hk).2 λe=>ho k e.symm hk) hg.size λv l hi _ ht=>?_⟩;have hn:=ht.ne hu he;refine ⟨?_,λg BJ=>?_⟩
 .rcases hi with hi | ⟨g,f,c,rfl,h0,xA,hc,hcell⟩
  .exact .inl hi
  .exact .inr ⟨g,f,c,rfl,h0,Nat.lt_of_lt_of_le xA hg.size,hc,λi hi=>(World.cell?_of_block (a:=⟨g,f+i,none⟩) (hg.block g xA λe=>hn g rfl e.symm)).trans (hcell i hi)⟩
 .obtain ⟨cs,m,e1⟩:=ht g BJ;exact ⟨cs,m,(hg.block g (Array.getElem?_eq_some_iff.1 e1).1 λe=>hn g BJ e.symm).trans e1⟩
theorem ah.grown {fp fp':List Nat} {w w1 w':World} {r:Option Nat} (hk:ah fp fp' w w1) (hg:w1.grownBy w' r) (hr:∀g,r=some g->w.heap.size<=g):ah fp fp' w w':=
 ⟨hg.os.trans hk.os,hg.tape.trans hk.tape,hg.output.trans hk.output,Nat.le_trans hk.size hg.size,λk h1 h2=>(hg.block k (Nat.lt_of_lt_of_le h1 hk.size) λe=>by have:=hr k e.symm;omega).trans (hk.blk k h1 h2),hk.new⟩
end
section
set_option linter.unusedVariables false
set_option linter.unusedSimpArgs false
open Go.RowKit
def nY (s:Nat) (vs vf:Value) (W:World) (c:Nat) (w':World):Prop:=ah (s::(blk vs++blk vf)) [] W w'/\(c<=2->w'.heap[s]?=W.heap[s]?)/\(c<=1->∀g,vf.ownBlock=some g->w'.heap[g]?=W.heap[g]?)/\(c=0->Below W.heap.size W w')
theorem qu {L:List Nat} {a b:World} {v:Value} (h:a.grownBy b v.ownBlock) (hL:∀g,v.ownBlock=some g->g∈L):ah L [] a b:=
 ⟨h.os,h.tape,h.output,h.size,λk hk hn=>h.block k hk (λe=>hn (hL k e.symm)),λk hk=>by cases hk⟩
theorem ah.tr {L:List Nat} {a b c:World} (h:ah L [] a b) (k:ah L [] b c):ah L [] a c:=
 ⟨k.os.trans h.os,k.tape.trans h.tape,k.output.trans h.output,Nat.le_trans h.size k.size,λi hi hn=>(k.blk i (Nat.lt_of_lt_of_le hi h.size) hn).trans (h.blk i hi hn),λk hk=>by cases hk⟩
def lp (N s B0 nr c1 nS cS nF cF:Nat) (A1 As Af:Option Addr) (x2 x3 x4:Value) (sv rows:List Value) (W:World):Nat->Nat->Value->World->Prop
 | c,0,x,w=>x = .pointer (some ⟨s,0,none⟩)
 | c,1,x,w=>x = .pointer (some ⟨s,0,none⟩)
 | c,2,x,w=>x = .pointer (some ⟨s,0,none⟩)
 | c,3,x,w=>x = .pointer (some ⟨s,0,none⟩)
 | c,4,x,w=>x = .pointer (some ⟨s,0,none⟩)
 | c,5,x,w=>x = .slice As nS cS
 | c,6,x,w=>x = .pointer (some ⟨N,1,none⟩)
 | c,7,x,w=>x = .slice A1 nr c1
 | c,8,x,w=>∃g,x = .slice (some ⟨g,0,none⟩) 1 1/\W.heap.size<=g/\g<w.heap.size/\w.cell? ⟨g,0,none⟩=some (.slice A1 nr c1)
 | c,9,x,w=>1<=c->∃A c',x = .slice A (nS+1) c'/\w.ownsRow B0 38 1 x (nS+1) (sv++[.slice A1 nr c1])/\cW x (.slice As nS cS) W.heap.size
 | c,10,x,w=>x = .pointer (some ⟨s,0,none⟩)
 | c,11,x,w=>x = .pointer (some ⟨s,0,none⟩)
 | c,12,x,w=>x = .pointer (some ⟨s,1,none⟩)
 | c,13,x,w=>x = .slice Af nF cF
 | c,14,x,w=>∃g,x = .slice (some ⟨g,0,none⟩) 1 1/\W.heap.size<=g/\g<w.heap.size/\w.cell? ⟨g,0,none⟩=some (.slice none 0 0)
 | c,15,x,w=>2<=c->∃A c',x = .slice A (nF+1) c'/\w.ownsRow B0 22 1 x (nF+1) (rows++[.slice none 0 0])/\cW x (.slice Af nF cF) W.heap.size
 | c,16,x,w=>x = .pointer (some ⟨s,0,none⟩)
 | c,17,x,w=>x = .pointer (some ⟨s,0,none⟩)
 | c,18,x,w=>3<=c->∃A c',w.ownsRow B0 38 1 (.slice A (nS+1) c') (nS+1) (sv++[.slice A1 nr c1])/\cW (.slice A (nS+1) c') (.slice As nS cS) W.heap.size/\w.heap[s]?=some (.cells #[.slice A (nS+1) c', .slice Af nF cF,x2,x3,x4] 182 (0,0))
 | c,19,x,w=>x = .pointer (some ⟨s,0,none⟩)
 | c,20,x,w=>x = .pointer (some ⟨s,1,none⟩)
 | _,_,_,_=>True
section
variable {s:Nat} {vs vf:Value} {W w' w'':World} {c:Nat}
theorem nY.later (h:nY s vs vf W c w') (hs:s<W.heap.size:=by assumption) (hf:∀g,vf.ownBlock=some g->g<W.heap.size:=by assumption) (hb:Below w'.heap.size w' w''):nY s vs vf W c w'':=by
 have hz:=h.1.size;exact ⟨h.1.tr (ah.aa hb).oK,λhc=>(hb.block s (by omega)).trans (h.2.1 hc),λhc g hg=>(hb.block g (by have:=hf g hg;omega)).trans (h.2.2.1 hc g hg),λhc=>(h.2.2.2 hc).trans (hb.mono hz)⟩
theorem nY.s1 (h:nY s vs vf W 0 w') (hs:s<W.heap.size) (hg:w'.grownBy w'' vs.ownBlock) (hn:vs.ownBlock≠some s) (hf:∀g,vf.ownBlock=some g->vs.ownBlock≠some g/\g<W.heap.size):nY s vs vf W 1 w'':=by
 have hz:=h.1.size;exact ⟨h.1.tr (qu hg λg hg=>by simp[aA,hg]),λ_=>(hg.block s (by omega) (λe=>hn e.symm)).trans (h.2.1 (by decide)),λ_ g DX=>(hg.block g (by have:=(hf g DX).2;omega) (λe=>(hf g DX).1 e.symm)).trans (h.2.2.1 (by decide) g DX),λh=>by cases h⟩
theorem nY.s2 (h:nY s vs vf W 1 w') (hs:s<W.heap.size) (hg:w'.grownBy w'' vf.ownBlock) (hn:vf.ownBlock≠some s):nY s vs vf W 2 w'':=by
 have hz:=h.1.size;exact ⟨h.1.tr (qu hg λg hg=>by simp[aA,hg]),λ_=>(hg.block s (by omega) (λe=>hn e.symm)).trans (h.2.1 (by decide)),λh=>by omega,λh=>by cases h⟩
theorem nY.s3 (h:nY s vs vf W 2 w') (v:Value):nY s vs vf W 3 (w'.setCell ⟨s,0,none⟩ v):=
 ⟨h.1.tr ⟨rfl,rfl,rfl,by simp[World.setCell],λk _ hn=>Below.heap_setCell _ _ _ _ (λe=>hn (by rw[e];simp)),λk hk=>by cases hk⟩,λh=>by omega,λh=>by omega,λh=>by cases h⟩
end
section
variable {N s B0 nr c1 nS cS nF cF:Nat} {A1 As Af:Option Addr} {x2 x3 x4:Value} {sv rows:List Value} {W u u':World}
theorem yQ (hb:Below u.heap.size u u') {c j:Nat} {x:Value} (h:lp N s B0 nr c1 nS cS nF cF A1 As Af x2 x3 x4 sv rows W c j x u):lp N s B0 nr c1 nS cS nF cF A1 As Af x2 x3 x4 sv rows W c j x u':=by
 match j with
 | 0 | 1 | 2 | 3 | 4 | 5 | 6 | 7 | 10 | 11 | 12 | 13 | 16 | 17 | 19 | 20=>exact h
 | 8 | 14=>
  obtain ⟨g,e,h1,hg,h0⟩:=h;exact ⟨g,e,h1,Nat.lt_of_lt_of_le hg hb.size,(hb.cell (p:=⟨g,0,none⟩) hg).trans h0⟩
 | 9 | 15=>
  intro hc;obtain ⟨A,c',e,ho,hf⟩:=h hc;exact ⟨A,c',e,bj ho hb,hf⟩
 | 18=>
  intro hc;obtain ⟨A,c',ho,hf,hr⟩:=h hc;exact ⟨A,c',bj ho hb,hf,(hb.block _ (Array.getElem?_eq_some_iff.1 hr).1).trans hr⟩
 | _+21=>exact trivial
theorem RU {v:Value} (hg:u.grownBy u' v.ownBlock) (hv:∀g,v.ownBlock=some g->g<W.heap.size) {x z:Value} (h:∃g,x = .slice (some ⟨g,0,none⟩) 1 1/\W.heap.size<=g/\g<u.heap.size/\u.cell? ⟨g,0,none⟩=some z):∃g,x = .slice (some ⟨g,0,none⟩) 1 1/\W.heap.size<=g/\g<u'.heap.size/\u'.cell? ⟨g,0,none⟩=some z:=by
 obtain ⟨g,e,h1,h2,h3⟩:=h;exact ⟨g,e,h1,Nat.lt_of_lt_of_le h2 hg.size,(World.cell?_of_block (a:=⟨g,0,none⟩) (hg.block g h2 (λe=>by have:=hv g e.symm;omega))).trans h3⟩
theorem KH (hg:u.grownBy u' (Value.slice As nS cS).ownBlock) (hv:∀g,(Value.slice As nS cS).ownBlock=some g->g<W.heap.size) (j:Nat) (x:Value) (hj:j≠9) (h:lp N s B0 nr c1 nS cS nF cF A1 As Af x2 x3 x4 sv rows W 0 j x u):lp N s B0 nr c1 nS cS nF cF A1 As Af x2 x3 x4 sv rows W 1 j x u':=by
 match j with
 | 0 | 1 | 2 | 3 | 4 | 5 | 6 | 7 | 10 | 11 | 12 | 13 | 16 | 17 | 19 | 20=>exact h
 | 8 | 14=>exact RU hg hv h
 | 9=>exact absurd rfl hj
 | 15 | 18=>exact λhc=>by omega
 | _+21=>exact trivial
theorem KI (hg:u.grownBy u' (Value.slice Af nF cF).ownBlock) (hv:∀g,(Value.slice Af nF cF).ownBlock=some g->g<W.heap.size) (hd:∀g,(Value.slice Af nF cF).ownBlock=some g->(Value.slice As nS cS).ownBlock≠some g) (j:Nat) (x:Value) (hj:j≠15) (h:lp N s B0 nr c1 nS cS nF cF A1 As Af x2 x3 x4 sv rows W 1 j x u):lp N s B0 nr c1 nS cS nF cF A1 As Af x2 x3 x4 sv rows W 2 j x u':=by
 match j with
 | 0 | 1 | 2 | 3 | 4 | 5 | 6 | 7 | 10 | 11 | 12 | 13 | 16 | 17 | 19 | 20=>exact h
 | 8 | 14=>exact RU hg hv h
 | 9=>
  intro _;obtain ⟨A,c',e,ho,hf⟩:=h (by decide)
  refine ⟨A,c',e,ak ho λg iy=>hg.block g (ho.lt g iy).2 (λe2=>?_),hf⟩;rcases hf with hf | ⟨g',hf,h2⟩
  .rw[hf]at iy;exact hd g e2.symm iy
  .rw[hf]at iy;injection iy with iy;have:=hv g e2.symm;omega
 | 15=>exact absurd rfl hj
 | 18=>exact λhc=>by omega
 | _+21=>exact trivial
theorem KJ (hs:s<W.heap.size) (hsS:(Value.slice As nS cS).ownBlock≠some s) (hsF:(Value.slice Af nF cF).ownBlock≠some s) (v:Value) (j:Nat) (x:Value) (hj:j≠18) (h:lp N s B0 nr c1 nS cS nF cF A1 As Af x2 x3 x4 sv rows W 2 j x u):lp N s B0 nr c1 nS cS nF cF A1 As Af x2 x3 x4 sv rows W 3 j x (u.setCell ⟨s,0,none⟩ v):=by
 have bg:∀k,k≠s->(u.setCell ⟨s,0,none⟩ v).heap[k]?=u.heap[k]?:=λk hk=>Below.heap_setCell _ _ _ _ hk
 match j with
 | 0 | 1 | 2 | 3 | 4 | 5 | 6 | 7 | 10 | 11 | 12 | 13 | 16 | 17 | 19 | 20=>exact h
 | 8 | 14=>
  obtain ⟨g,e,h1,h2,h3⟩:=h;exact ⟨g,e,h1,by simpa [World.setCell] using h2,(World.cell?_of_block (a:=⟨g,0,none⟩) (bg g (by omega))).trans h3⟩
 | 9=>
  intro _;obtain ⟨A,c',e,ho,hf⟩:=h (by decide)
  refine ⟨A,c',e,ak ho λg iy=>bg g (λe2=>?_),hf⟩;subst e2;rcases hf with hf | ⟨g',hf,h2⟩
  .rw[hf]at iy;exact hsS iy
  .rw[hf]at iy;injection iy with iy;omega
 | 15=>
  intro _;obtain ⟨A,c',e,ho,hf⟩:=h (by decide)
  refine ⟨A,c',e,ak ho λg iy=>bg g (λe2=>?_),hf⟩;subst e2;rcases hf with hf | ⟨g',hf,h2⟩
  .rw[hf]at iy;exact hsF iy
  .rw[hf]at iy;injection iy with iy;omega
 | 18=>exact absurd rfl hj
 | _+21=>exact trivial
end
set_option maxHeartbeats 8000000 in
theorem KL (w0:World) (s:Nat) (x2 x3 x4:Value) (rs:List (Nat×Nat)) (mn mx:Int) (vs:List Value) (hn:bX w0 (.mk 1 rs [] mn mx) vs) (GX:fN rs=true):jG w0 s x2 x3 x4 (.mk 1 rs [] mn mx) vs:=by
 intro w b fp K oD rk jN hK Eo;obtain ⟨A1,c1,A2,c2,rfl,Gc,sV,-⟩:=hn.form;obtain ⟨Vs,Vf,rows,sv,rfl,hb⟩:=oD;obtain ⟨As,cS,rfl,avB,Wa⟩:=ag hb.sets;obtain ⟨Af,cF,rfl,avC,avD⟩:=ag hb.fol;obtain ⟨i1,iD,GH,sY,pS⟩:=info_parts Qa;obtain ⟨i2,ez,oq,gY,bM⟩:=info_parts Gb;have hlt:=hb.lt;have pj:=hb.eP.size;obtain ⟨nS,hnS⟩:∃n,b.sets.length=n:=⟨_,rfl⟩;obtain ⟨nF,hnF⟩:∃n,b.fol.length=n:=⟨_,rfl⟩;obtain ⟨nr,nZ⟩:∃n,rs.length=n:=⟨_,rfl⟩;obtain rfl:nF=nS:=by omega
 have wK:nF<=600:=by omega
 have aff:s<w.heap.size:=(hlt s (by simp[jM])).2
 have bL:=hb.nd;rw[List.nodup_cons,List.nodup_append]at bL;obtain ⟨n1,n2,n3,n4⟩:=bL;rw[List.nodup_append]at n3;obtain ⟨n5,n6,n7⟩:=n3;have Po:=hb.cs;have um:=hb.sets;have uo:=hb.fol;rw[hnS,hnF]at Po;rw[hnS]at um;rw[hnF]at uo;simp only[hnS,hnF]at hlt n1 n2 n4 n5 n7;have hs0:w.cell? ⟨s,0,none⟩=some (.slice As nF cS):=by rw[cell_of_row _ _ _ _ _ _ Po];rfl
 have vS:w.cell? ⟨s,1,none⟩=some (.slice Af nF cF):=by rw[cell_of_row _ _ _ _ _ _ Po];rfl
 have Cz:=Lib.hid GX;clear GX;have HHB:=Lib.hid hb;have HHK:=Lib.hid hK;have Bl:=Lib.hid (And.intro hnS (And.intro hnF rk));have HRG:Hid (oB w0 (.slice A1 rs.length c1) rs):=Lib.hid Gc;have HN:=Lib.hid (And.intro n1 (And.intro n2 (And.intro n4 (And.intro n5 n7))));have LU:=Lib.hid hlt;have LI:=Lib.hid (And.intro Po (And.intro um uo));show Calls Tryz.prog _ #[_, .agg #[.int .i64 1, .slice A1 rs.length c1, .slice A2 0 c2, .int .i64 mn, .int .i64 mx]] w _;rw[nZ];rw[nZ]at HRG;clear hb hK Gc hn sV jN Eo nZ hlt n1 n2 n4 n5 n6 n7 Po um uo hnS hnF rk;have avF:s<w.heap.size+1:=by omega
 have abb:s<w.heap.size+1+1:=by omega
 go_enter Tryz.func135,Tryz.ntmps135
 go_wp2_with fail;refine dv λW hW=>?_;have cJ:Below w.heap.size w W:=by rw[hW];exact (((Below.refl _ _).alloc (Nat.le_refl _) _).alloc (by simp) _).alloc (by simp;omega) _
 have po:W.heap.size=w.heap.size+3:=by rw[hW];simp
 have r0:W.heap[w.heap.size]?=some (.cells #[.int .i64 1, .slice A1 nr c1, .slice A2 0 c2, .int .i64 mn, .int .i64 mx] 41 (0,0)):=by rw[hW,au _ _ _ (by simp <;> omega),au _ _ _ (by simp)]; exact heap_alloc_new w _
 have r1:W.heap[w.heap.size+1]?=some (.cells #[.slice none 0 0, .slice none 0 0, .bool false] 184 (0,0)):=by rw[hW,au _ _ _ (by simp)];simpa using heap_alloc_new (w.alloc _) _
 obtain ⟨b0,b1,b2,b3,b4⟩:=aJ r0;have Ev:W.heap[s]?=some (.cells #[.slice As nF cS, .slice Af nF cF,x2,x3,x4] 182 (0,0)):=(cJ.block s aff).trans LI.out.1;have L7:=Lib.hid Ev;have HS1:=Lib.hid (bj LI.out.2.1 cJ);have lI:=Lib.hid (bj LI.out.2.2 cJ);have afg:W.cell? ⟨s,0,none⟩=some (.slice As nF cS):=by rw[cell_of_row _ _ _ _ _ _ Ev];rfl
 have afh:W.cell? ⟨s,1,none⟩=some (.slice Af nF cF):=by rw[cell_of_row _ _ _ _ _ _ Ev];rfl
 have hsl:s<W.heap.size:=by omega
 have l0:w.heap.size<W.heap.size:=by omega
 have dk:∀k∈s::(blk (.slice As nF cS)++blk (.slice Af nF cF)),k<w.heap.size:=λk hk=>by
  simp only[List.mem_cons,List.mem_append]at hk;rcases hk with hk | hk | hk
  .rw[hk];exact aff
  .exact (LI.out.2.1.lt k (aA.1 hk)).2
  .exact (LI.out.2.2.lt k (aA.1 hk)).2
 have XF:w.heap.size∉s::(blk (.slice As nF cS)++blk (.slice Af nF cF)):=λhm=>by have:=dk _ hm;omega
 have pE:w.heap.size+1∉s::(blk (.slice As nF cS)++blk (.slice Af nF cF)):=λhm=>by have:=dk _ hm;omega
 have hne:(∀g,(Value.slice As nF cS).ownBlock=some g->g<W.heap.size)/\(∀g,(Value.slice Af nF cF).ownBlock=some g->g<W.heap.size)/\(∀g,(Value.slice Af nF cF).ownBlock=some g->(Value.slice As nF cS).ownBlock≠some g)/\(Value.slice As nF cS).ownBlock≠some s/\(Value.slice Af nF cF).ownBlock≠some s/\(∀g,(Value.slice Af nF cF).ownBlock=some g->(Value.slice As nF cS).ownBlock≠some g/\g<W.heap.size):=by
  have hd:∀g,(Value.slice Af nF cF).ownBlock=some g->(Value.slice As nF cS).ownBlock≠some g:=λg hg e=>HN.out.2.2.1 g (aA.2 e) g (List.mem_append_left _ (aA.2 hg)) rfl;have hf:∀g,(Value.slice Af nF cF).ownBlock=some g->g<W.heap.size:=λg hg=>by have:=(LI.out.2.2.lt g hg).2;omega
  exact ⟨λg hg=>by have:=(LI.out.2.1.lt g hg).2;omega,hf,hd,λe=>HN.out.1 (List.mem_append_left _ (aA.2 e)),λe=>HN.out.1 (List.mem_append_right _ (List.mem_append_left _ (aA.2 e))),λg hg=>⟨hd g hg,hf g hg⟩⟩
 have pH:=Lib.hid hne;have eU:nY s (.slice As nF cS) (.slice Af nF cF) W 0 W.drew:=⟨(ah.aa (Below.refl _ _).drew).oK,λ_=>rfl,λ_ _ _=>rfl,λ_=>(Below.refl _ _).drew⟩;have bI:=Lib.hid cJ;have HR1:=Lib.hid r1;have mN:=Lib.hid pE;have Uu:=Lib.hid po;clear hW r0 r1 Ev hs0 vS dk hne cJ pE po;refine aq 21 [9,15,18] (lp w.heap.size s w0.heap.size nr c1 nF cS nF cF A1 As Af x2 x3 x4 sv rows W) (λc w'=>nY s (.slice As nF cS) (.slice Af nF cF) W c w') (by kernel_rfl) (by kernel_rfl) (by kernel_rfl) (by kernel_rfl) (by kernel_rfl) (by kernel_rfl) (by decide) eU ?_ ?_
 .simp only[cP,cQ];refine ae.pure (by decide) ?_ (ae.pure (by decide) ?_ (ae.pure (by decide) ?_ (ae.pure (by decide) ?_ (ae.pure (by decide) ?_ (ae.pure (by decide) ?_ (ae.pure (by decide) ?_ (ae.pure (by decide) ?_ (ae.free (by decide) ?_ (ae.oJ 0 rfl ?_ (ae.pure (by decide) ?_ (ae.pure (by decide) ?_ (ae.pure (by decide) ?_ (ae.pure (by decide) ?_ (ae.free (by decide) ?_ (ae.oJ 1 rfl ?_ (ae.pure (by decide) ?_ (ae.pure (by decide) ?_ (ae.oJ 2 rfl ?_ (ae.pure (by decide) ?_ (ae.pure (by decide) ?_ (ae.nil)))))))))))))))))))))
  all_goals first | (with_reducible intro v wz c aD hS hE K hK;simp only[ai,Act.put,eh,ek,ep,Nat.zero_add,Nat.reduceAdd,cP,cQ]at hK|-) | (intro v wz hS hE K hK;simp only[ai,Act.put,eh,ek,ep,Nat.zero_add,Nat.reduceAdd,cP,cQ]at hK|-)
  .have HX:=Lib.hid hS;clear hS hE aD;go_wp2_with fail;exact hK.out _ rfl
  .have HX:=Lib.hid hS;clear hS hE aD;go_wp2_with fail;exact hK.out _ rfl
  .have HX:=Lib.hid hS;clear hS hE aD;go_wp2_with fail;exact hK.out _ rfl
  .have e2:v 2=_:=hE.1 rfl;rw[e2]at hK|-;have HX:=Lib.hid hS;clear hS hE aD;go_wp2_with fail;exact hK.out _ rfl
  .have e3:v 3=_:=hE.1 rfl;rw[e3]at hK|-;have HX:=Lib.hid hS;clear hS hE aD;go_wp2_with fail;exact hK.out _ rfl
  .have e4:v 4=_:=hE.1 rfl;rw[e4]at hK|-;have hle:=aD 2 (by kernel_rfl)
   have c1:=(World.cell?_of_block (a:=⟨s,0,none⟩) (hS.2.1 (by omega))).trans afg
   have HX:=Lib.hid hS;clear hS hE aD;go_wp2_with fail;exact hK.out _ rfl
  .have HX:=Lib.hid hS;clear hS hE aD;go_wp2_with fail;exact hK.out _ rfl
  .have e6:v 6=_:=hE.1 rfl;rw[e6]at hK|-;have c1:=(World.cell?_of_block (a:=⟨w.heap.size,1,none⟩) (hS.1.blk _ l0 XF)).trans b1;have HX:=Lib.hid hS;clear hS hE aD;go_wp2_with fail;exact hK.out _ rfl
  .have e7:v 7=_:=hE.1 rfl;rw[e7]at hK|-;have dh:Below wz.heap.size wz (wz.alloc (.cells #[.slice A1 nr c1] 38)):=(Below.refl _ _).alloc (Nat.le_refl _) _;have po:=hS.1.size;have HX:=Lib.hid hS;have vY:=Lib.hid dh;clear hS hE aD dh;go_wp2_with fail;exact hK.out _ _ (λj y _ h=>yQ vY.out h) (HX.out.later hsl pH.out.2.1 vY.out) ⟨wz.heap.size,rfl,po,by simp,by go_simp⟩
  .have e5:v 5=_:=hE.1 rfl;rw[e5]at hK|-;have E8:=hE.2.1 rfl;obtain ⟨g,e8,PF,dV,ur⟩:=E8;rw[e8]at hK|-;have hz:=hS.2.2.2 rfl;have hown:wz.ownsRow w0.heap.size 38 1 (.slice As nF cS) nF sv:=bj HS1.out hz;have Cl:=hz.size;have hcell:∀j u,([Value.slice A1 nr c1]:List Value)[j]?=some u->wz.cell? ((⟨g,0,none⟩:Addr).add j)=some u:=λj u hj=>by
    match j,hj with
    | 0,hj=>simp at hj;rw[<-hj,Addr.add_lit];exact ur
   have HX:=Lib.hid hS;clear hS hE hz;go_wp2_with (at_builtin;refine cN rfl _ _ 177 rfl w0.heap.size 38 i1 (.slice none 0 0) 1 24 Tryz.underlying177 iD GH sY pS rfl (by decide) _ nF sv rfl hown ⟨g,0,none⟩ 1 1 [.slice A1 nr c1] rfl rfl hcell (by intro u hu;simp at hu;subst hu;rfl) (by unfold maxLen;omega) (by omega) (by omega) ?_)
   intro v' w1 hown1 et eJ;obtain ⟨A',c',rfl,-,-⟩:=ag hown1;have Fx:cW (.slice A' (nF+1) c') (.slice As nF cS) W.heap.size:=eJ.imp id λ⟨g,h1,h2⟩=>⟨g,h1,Nat.le_trans Cl h2⟩;refine hK.out _ _ (KH et pH.out.1) (HX.out.s1 hsl et pH.out.2.2.2.1 pH.out.2.2.2.2.2) (λ_=>⟨A',c',rfl,hown1,Fx⟩)
  .have HX:=Lib.hid hS;clear hS hE aD;go_wp2_with fail;exact hK.out _ rfl
  .have pA:v 10=_:=hE.1 rfl;rw[pA]at hK|-;have HX:=Lib.hid hS;clear hS hE aD;go_wp2_with fail;exact hK.out _ rfl
  .have tP:v 11=_:=hE.1 rfl;rw[tP]at hK|-;have HX:=Lib.hid hS;clear hS hE aD;go_wp2_with fail;exact hK.out _ rfl
  .have rM:v 12=_:=hE.1 rfl;rw[rM]at hK|-;have hle:=aD 2 (by kernel_rfl)
   have c1:=(World.cell?_of_block (a:=⟨s,1,none⟩) (hS.2.1 (by omega))).trans afh
   have HX:=Lib.hid hS;clear hS hE aD;go_wp2_with fail;exact hK.out _ rfl
  .have dh:Below wz.heap.size wz (wz.alloc (.cells #[.slice none 0 0] 22)):=(Below.refl _ _).alloc (Nat.le_refl _) _;have po:=hS.1.size;have HX:=Lib.hid hS;have vY:=Lib.hid dh;clear hS hE aD dh;go_wp2_with fail;exact hK.out _ _ (λj y _ h=>yQ vY.out h) (HX.out.later hsl pH.out.2.1 vY.out) ⟨wz.heap.size,rfl,po,by simp,by go_simp⟩
  .have tQ:v 13=_:=hE.1 rfl;rw[tQ]at hK|-;have E14:=hE.2.1 rfl;obtain ⟨g,wa,PF,dV,ur⟩:=E14;rw[wa]at hK|-;have hown:wz.ownsRow w0.heap.size 22 1 (.slice Af nF cF) nF rows:=ak lI.out λg hg=>hS.2.2.1 (by decide) g hg
   have Cl:=hS.1.size;have hcell:∀j u,([Value.slice none 0 0]:List Value)[j]?=some u->wz.cell? ((⟨g,0,none⟩:Addr).add j)=some u:=λj u hj=>by
    match j,hj with
    | 0,hj=>simp at hj;rw[<-hj,Addr.add_lit];exact ur
   have HX:=Lib.hid hS;clear hS hE;go_wp2_with (at_builtin;refine cN rfl _ _ 178 rfl w0.heap.size 22 i2 (.slice none 0 0) 1 24 Tryz.underlying178 ez oq gY bM rfl (by decide) _ nF rows rfl hown ⟨g,0,none⟩ 1 1 [.slice none 0 0] rfl rfl hcell (by intro u hu;simp at hu;subst hu;rfl) (by unfold maxLen;omega) (by omega) (by omega) ?_)
   intro v' w1 hown1 et eJ;obtain ⟨A',c',rfl,-,-⟩:=ag hown1;have Fx:cW (.slice A' (nF+1) c') (.slice Af nF cF) W.heap.size:=eJ.imp id λ⟨g,h1,h2⟩=>⟨g,h1,Nat.le_trans Cl h2⟩;refine hK.out _ _ (KI et pH.out.2.1 pH.out.2.2.1) (HX.out.s2 hsl et pH.out.2.2.2.2.1) (λ_=>⟨A',c',rfl,hown1,Fx⟩)
  .have e0:v 0=_:=hE.1 rfl;rw[e0]at hK|-;have HX:=Lib.hid hS;clear hS hE aD;go_wp2_with fail;exact hK.out _ rfl
  .have e16:v 16=_:=hE.1 rfl;rw[e16]at hK|-;have HX:=Lib.hid hS;clear hS hE aD;go_wp2_with fail;exact hK.out _ rfl
  .have e17:v 17=_:=hE.1 rfl;rw[e17]at hK|-;have E9:=hE.2.1 rfl;obtain ⟨A,c',ev,ho,eJ⟩:=E9 (by decide)
   rw[ev]at hK ho eJ|-;have hrow:=(hS.2.1 (by decide)).trans L7.out
   have cz:wz.cell? ⟨s,0,none⟩=some (.slice As nF cS):=by rw[cell_of_row _ _ _ _ _ _ hrow];rfl
   have fz:wz.frozen? ⟨s,0,none⟩=false:=by simp[World.frozen?,hrow]
   have HX:=Lib.hid hS;have HO:=Lib.hid (And.intro ho (And.intro eJ hrow));clear hS hE ho eJ hrow ev;go_wp2_with fail;have E0:∀g,(Value.slice A (nF+1) c').ownBlock=some g->g≠s:=λg hg=>HO.out.2.1.elim (λe=>by rw[e]at hg;intro e2;subst e2;exact pH.out.2.2.2.1 hg) λ⟨g',e,h2⟩=>by rw[e]at hg;injection hg with hg;omega
   refine hK.out undef _ (KJ hsl pH.out.2.2.2.1 pH.out.2.2.2.2.1 _) (HX.out.s3 _) (λ_=>⟨A,c',ak HO.out.1 λg hg=>Below.heap_setCell _ _ _ _ (E0 g hg),HO.out.2.1,by have:=bh HO.out.2.2 0 (.slice A (nF+1) c');simpa using this⟩)
  .have e1:v 1=_:=hE.1 rfl;rw[e1]at hK|-;have HX:=Lib.hid hS;clear hS hE aD;go_wp2_with fail;exact hK.out _ rfl
  .have e19:v 19=_:=hE.1 rfl;rw[e19]at hK|-;have HX:=Lib.hid hS;clear hS hE aD;go_wp2_with fail;exact hK.out _ rfl
 .intro v wz hS hF;have e0:v 0=_:=hF 0 (by decide)
  have e1:v 1=_:=hF 1 (by decide)
  have e2:v 2=_:=hF 2 (by decide)
  have e3:v 3=_:=hF 3 (by decide)
  have e4:v 4=_:=hF 4 (by decide)
  have e5:v 5=_:=hF 5 (by decide)
  have e6:v 6=_:=hF 6 (by decide)
  have e7:v 7=_:=hF 7 (by decide)
  have pA:v 10=_:=hF 10 (by decide)
  have tP:v 11=_:=hF 11 (by decide)
  have rM:v 12=_:=hF 12 (by decide)
  have tQ:v 13=_:=hF 13 (by decide)
  have e16:v 16=_:=hF 16 (by decide)
  have e17:v 17=_:=hF 17 (by decide)
  have e19:v 19=_:=hF 19 (by decide)
  have e20:v 20=_:=hF 20 (by decide)
  have E8:=hF 8 (by decide)
  have E9:=hF 9 (by decide)
  have E14:=hF 14 (by decide)
  have ZY:=hF 15 (by decide)
  have Wo:=hF 18 (by decide)
  simp only[ai,Act.put,eh,ek,ep,Nat.zero_add,Nat.reduceAdd,cP,cQ,List.drop_succ_cons,List.drop_zero,e0,e1,e2,e3,e4,e5,e6,e7,pA,tP,rM,tQ,e16,e17,e19,e20];clear hF e0 e1 e2 e3 e4 e5 e6 e7 pA tP rM tQ e16 e17 e19 e20;obtain ⟨A18,c18,Fy,JT,sK⟩:=Wo (by decide)
  obtain ⟨Lq,Lr,afi,Pp,YI⟩:=ZY (by decide)
  rw[afi]at Pp YI|-;have RZ:=hS.1;have l1:w.heap.size+1<W.heap.size:=(Array.getElem?_eq_some_iff.1 HR1.out).1;have uB:=(RZ.blk _ l1 mN.out).trans HR1.out;obtain ⟨y0,y1,y2⟩:=aR uB;have fy0:wz.frozen? ⟨w.heap.size+1,0,none⟩=false:=by simp[World.frozen?,uB]
  have fy1:wz.frozen? ⟨w.heap.size+1,1,none⟩=false:=by simp[World.frozen?,uB]
  have fy2:wz.frozen? ⟨w.heap.size+1,2,none⟩=false:=by simp[World.frozen?,uB]
  have z1:wz.cell? ⟨s,1,none⟩=some (.slice Af nF cF):=by rw[cell_of_row _ _ _ _ _ _ sK];rfl
  have fz1:wz.frozen? ⟨s,1,none⟩=false:=by simp[World.frozen?,sK]
  have Cl:W.heap.size<=wz.heap.size:=RZ.size;have lz:w.heap.size+1<wz.heap.size:=by omega
  have lsz:s<wz.heap.size:=by omega
  have lz1:w.heap.size+1<wz.heap.size+1:=by omega
  have lz2:w.heap.size<wz.heap.size:=by omega
  have MJ:¬s=w.heap.size+1:=by omega
  have zm:¬w.heap.size+1=s:=by omega
  have HZ:=Lib.hid (And.intro Fy (And.intro JT (And.intro sK (And.intro Pp (And.intro YI RZ)))));clear hS E8 E9 E14 ZY Wo afi Fy JT sK Pp YI RZ uB b0 b1 b2 b3 b4 afg afh eU XF;go_wp2_with fail;refine ar λWf cH=>?_;obtain ⟨W2,iU⟩:∃W2,W2=wz.setCell ⟨s,1,none⟩ (.slice Lq (nF+1) Lr):=⟨_,rfl⟩;have bg:∀k,k≠s->W2.heap[k]?=wz.heap[k]?:=λk hk=>by rw[iU];exact Below.heap_setCell _ _ _ _ hk
  have hz2:W2.heap.size=wz.heap.size:=by rw[iU];simp[World.setCell]
  have RZ:=HZ.out.2.2.2.2.2;have bM:ah (s::(blk (.slice As nF cS)++blk (.slice Af nF cF))) [] W W2:=by
   have h1:ah (s::(blk (.slice As nF cS)++blk (.slice Af nF cF))) [] wz W2:=by
    rw[iU];exact ⟨rfl,rfl,rfl,by simp[World.setCell],λk _ hn=>Below.heap_setCell _ _ _ _ (λe=>hn (by rw[e];simp)),λk hk=>by cases hk⟩
   exact RZ.tr h1
  have amG:W2.heap[s]?=some (.cells #[.slice A18 (nF+1) c18, .slice Lq (nF+1) Lr,x2,x3,x4] 182 (0,0)):=by
   rw[iU];have:=bh HZ.out.2.2.1 1 (.slice Lq (nF+1) Lr);simpa using this
  have UE:∀{v v':Value},cW v' v W.heap.size->v.ownBlock≠some s->∀g,v'.ownBlock=some g->g≠s:=λhf hn g hg e=>by
   subst e;rcases hf with hf | ⟨g',hf,h2⟩
   .rw[hf]at hg;exact hn hg
   .rw[hf]at hg;injection hg with hg;omega
  have Fy:=ak HZ.out.1 λg hg=>bg g (UE HZ.out.2.1 pH.out.2.2.2.1 g hg);have Pp:=ak HZ.out.2.2.2.1 λg hg=>bg g (UE HZ.out.2.2.2.2.1 pH.out.2.2.2.2.1 g hg);have amH:∀g,(Value.slice A18 (nF+1) c18).ownBlock=some g->(Value.slice Lq (nF+1) Lr).ownBlock≠some g:=λg h1 h2=>by
   have sK:=HZ.out.1;have amI:=HZ.out.2.2.2.1;rcases sK.2 with ⟨e,-⟩ | ⟨g1,q1,u1,e,-,t1,-⟩
   .rw[e]at h1;cases h1
   .rcases amI.2 with ⟨e',-⟩ | ⟨g2,q2,u2,e',-,t2,-⟩
    .rw[e']at h2;cases h2
    .rw[e]at h1;rw[e']at h2;simp[Value.ownBlock]at h1 h2;subst h1;rw[h2]at t2;rw[t1]at t2;injection t2 with t2;injection t2 with _ t2;exact absurd t2 (by decide)
  have aP:=HHB.out.same (w':=W) (λk hk=>bI.out.block k (by rw[Bl.out.1,Bl.out.2.1]at hk;exact (LU.out k hk).2)) (HHB.out.eP.trans (bI.out.mono HHB.out.eP.size))
  obtain ⟨q1,q2⟩:=aP.UF (rs:=rs) (rv:=.slice A1 nr c1) amG (by rw[Bl.out.1];exact Fy) (by rw[Bl.out.2.1];exact Pp) (by rw[Bl.out.1];exact HZ.out.2.1) (by rw[Bl.out.2.1];exact HZ.out.2.2.2.2.1) amH (by rw[Bl.out.1,Bl.out.2.1];exact bM) ⟨HRG.out,Cz.out⟩
  have Bd:W2.grownBy Wf (some (w.heap.size+1)):=by
   rw[cH,iU];repeat (first | exact fh _ _ | refine fj ?_ _ | refine dS ?_ _ _ | refine ig ?_)
  have avJ:W.heap.size=w.heap.size+3:=Uu.out;have amJ:w.heap.size+1∉jM s (.slice A18 (nF+1) c18) (.slice Lq (nF+1) Lr) (rows++[.slice none 0 0]):=λhm=>by
   rcases q2.new _ hm with h | h
   .rw[Bl.out.1,Bl.out.2.1]at h;have:=(LU.out _ h).2;omega
   .omega
  have SK:=(ah.aa bI.out).trans q2;obtain ⟨t1,t2⟩:=gh ⟨_,_,_,_,rfl,q1⟩ SK pj (show w.heap.size<=w.heap.size+1 by omega) (by omega) amJ Bd
  refine bodyPost_ret (v:=.agg #[.slice (some ⟨wz.heap.size,0,none⟩) 1 1, .slice (some ⟨wz.heap.size+1,0,none⟩) 1 1, .bool false]) (by rw[cH];simp[results,Tryz.results135,go_sem,y0,y1,y2,lz,lz1,lz2,MJ,zm];try rfl) rfl ?_
  have eY:∀g,(g=wz.heap.size\/g=wz.heap.size+1)->IL Wf (.slice (some ⟨g,0,none⟩) 1 1) [nF]/\aG (jM s (.slice A18 (nF+1) c18) (.slice Lq (nF+1) Lr) (rows++[.slice none 0 0])) (.slice (some ⟨g,0,none⟩) 1 1):=λg hg=>by
   have bO:Wf.heap[g]?=some (.cells #[.int .i64 nF] 3 (0,0)):=by
    rw[cH];rcases hg with rfl | rfl
    .rw[au _ _ _ (by simp[World.setCell])]
     have h1:=heap_alloc_new ((((wz.setCell ⟨s,1,none⟩ (.slice Lq (nF+1) Lr)).setCell ⟨w.heap.size+1,0,none⟩ (.slice (some ⟨wz.heap.size,0,none⟩) 1 1)).setCell ⟨w.heap.size+1,1,none⟩ (.slice (some ⟨wz.heap.size+1,0,none⟩) 1 1)).setCell ⟨w.heap.size+1,2,none⟩ (.bool false)) (.cells #[.int .i64 nF] 3);simpa [World.setCell] using h1
    .have h1:=heap_alloc_new (((((wz.setCell ⟨s,1,none⟩ (.slice Lq (nF+1) Lr)).setCell ⟨w.heap.size+1,0,none⟩ (.slice (some ⟨wz.heap.size,0,none⟩) 1 1)).setCell ⟨w.heap.size+1,1,none⟩ (.slice (some ⟨wz.heap.size+1,0,none⟩) 1 1)).setCell ⟨w.heap.size+1,2,none⟩ (.bool false)).alloc (.cells #[.int .i64 nF] 3)) (.cells #[.int .i64 nF] 3);simpa [World.setCell] using h1
   refine ⟨.inr ⟨g,0,1,rfl,by simp,(Array.getElem?_eq_some_iff.1 bO).1,by simp,λi hi=>?_⟩,λg' xA hm=>?_⟩
   .match i,hi with
    | 0,_=>rw[cell_of_row _ _ _ _ _ _ bO];rfl
   .simp[Value.ownBlock]at xA;subst xA;have:=(q1.lt _ hm).2;omega
  have afj:b.sets.length=b.fol.length:=Bl.out.2.2;have hwr:=Wr.set b afj rs;rw[Bl.out.1]at hwr;refine ⟨⟨b.sets++[rs],b.fol++[[]]⟩,⟨[nF],[nF],false⟩,_,_,_,rfl,t1,by rw[Bl.out.1,Bl.out.2.1]at t2|-;exact t2,eY _ (.inl rfl),eY _ (.inr rfl),hwr.iff (λz=>by simp[gN,cI]) (by simp[gN,TN]),by simp[aK],⟨by simp,by simp⟩,⟨by simp[aK],by simp[aK]⟩,λl hl=>?_⟩
  rcases List.mem_append.1 hl with h | h
  .have:=HHK.out l h;omega
  .simp at h;subst h;simp
end
section
set_option linter.unusedVariables false
set_option linter.unusedSimpArgs false
open Go.RowKit
def Td (w0:World) (s:Nat) (x2 x3 x4:Value) (b:Pb) (fp:List Nat) (Lg:LA) (pk KK:Nat) (W:World) (kL kM:Value) (eo:Bool) (kv:Value) (xo:dw):Nat->Nat->Value->World->Prop
 | c,0,x,w=>x = .pointer (some ⟨s,0,none⟩)
 | c,1,x,w=>x = .agg #[kL,kM, .bool eo]
 | c,2,x,w=>x = .pointer (some ⟨s,0,none⟩)
 | c,3,x,w=>x=kv
 | c,4,x,w=>c=1->QI w0 s x2 x3 x4 b fp Lg pk KK W (.returned x) w
 | c,5,x,w=>c=2->CpR w0 s x2 x3 x4 b fp Lg pk KK xo W x w
 | _,_,_,_=>True
def EiR (w0:World) (s:Nat) (x2 x3 x4:Value) (b:Pb) (fp:List Nat) (Lg:LA) (pk KK:Nat) (xo:dw) (W:World) (x:Value) (w:World):Prop:=
 ∃b' y nW u1 u2,x = .agg #[u1,u2, .bool (lV xo y).emp]/\py w0 s x2 x3 x4 b' nW w/\ah fp nW W w/\(IL w u1 (lV xo y).first/\aG nW u1)/\(IL w u2 (lV xo y).last/\aG nW u2)/\Wr b b' y Lg/\b'.fol.length=b.fol.length+pk/\(y.first≠[]/\y.last≠[])/\(y.first.length<=pk/\y.last.length<=pk)/\∀l∈b'.fol,l.length<=KK
def Te (w0:World) (s:Nat) (x2 x3 x4:Value) (b:Pb) (fp:List Nat) (Lg:LA) (pk KK:Nat) (W:World) (kL kM:Value) (eo:Bool) (kv:Value) (xo:dw):Nat->Nat->Value->World->Prop
 | c,0,x,w=>x = .agg #[kL,kM, .bool eo]
 | c,1,x,w=>x = .pointer (some ⟨s,0,none⟩)
 | c,2,x,w=>x=kv
 | c,3,x,w=>c=1->QI w0 s x2 x3 x4 b fp Lg pk KK W (.returned x) w
 | c,4,x,w=>c=2->EiR w0 s x2 x3 x4 b fp Lg pk KK xo W x w
 | _,_,_,_=>True
structure gG (w0:World) (s:Nat) (x2 x3 x4:Value) (fp:List Nat) (w:World) (nb:Array Value) (bi:Pb) (dZ:List Nat) (xo:dw) (kL kM:Value) (wr:World):Prop where
 bu:py w0 s x2 x3 x4 bi dZ wr
 kf:ah fp dZ w wr
 ap:∀q∈dZ,q<w.heap.size\/w.heap.size+3<=q
 n0:wr.heap[w.heap.size]?=some (.cells nb 41 (0,0))
 n1:wr.heap[w.heap.size+1]?=some (.cells #[.slice none 0 0, .slice none 0 0, .bool false] 184 (0,0))
 n2:wr.heap[w.heap.size+1+1]?=some (.cells #[kL,kM, .bool xo.emp] 184 (0,0))
 sz:w.heap.size+3<=wr.heap.size
 o1:IL wr kL xo.first/\aG dZ kL
 o2:IL wr kM xo.last/\aG dZ kM
section
variable {w0:World} {s:Nat} {x2 x3 x4:Value} {fp:List Nat} {w:World} {nb:Array Value} {bi:Pb} {dZ:List Nat} {xo:dw} {kL kM:Value} {wr:World}
theorem gG.later (h:gG w0 s x2 x3 x4 fp w nb bi dZ xo kL kM wr) {W:World} (hb:Below wr.heap.size wr W):gG w0 s x2 x3 x4 fp w nb bi dZ xo kL kM W:=by
 have hz:=h.sz;exact ⟨h.bu.later hb,h.kf.trans (ah.aa hb),h.ap,(hb.block _ (by omega)).trans h.n0,(hb.block _ (by omega)).trans h.n1,(hb.block _ (by omega)).trans h.n2,Nat.le_trans hz hb.size,⟨h.o1.1.later hb,h.o1.2⟩,⟨h.o2.1.later hb,h.o2.2⟩⟩
theorem gG.eH (h:gG w0 s x2 x3 x4 fp w nb bi dZ xo kL kM wr) (k:Nat) (h1:w.heap.size<=k) (h2:k<w.heap.size+3):k∉dZ:=λhm=>by have:=h.ap k hm;omega
theorem gG.out (h:gG w0 s x2 x3 x4 fp w nb bi dZ xo kL kM wr) {b2:Pb} {x':dw} {nW:List Nat} {u1 u2:Value} {wz:World} (aL:py w0 s x2 x3 x4 b2 nW wz) (bM:ah dZ nW wr wz) (hu1:IL wz u1 x'.first/\aG nW u1) (uy:IL wz u2 x'.last/\aG nW u2) (hw:w0.heap.size<=w.heap.size) :
  gG w0 s x2 x3 x4 fp w nb b2 nW x' u1 u2 (tj wz (w.heap.size+1+1) u1 u2 (.bool x'.emp)):=by
 have hz:=h.sz;have hz2:=bM.size;have jU:∀q∈nW,q<w.heap.size\/w.heap.size+3<=q:=λq hq=>(bM.new q hq).elim (h.ap q) λh=>.inr (by omega)
 have hn:∀k,w.heap.size<=k->k<w.heap.size+3->k∉nW:=λk h1 h2 hm=>by have:=jU k hm;omega
 have m0:=(bM.blk _ (by omega) (h.eH _ (Nat.le_refl _) (by omega))).trans h.n0
 have m1:=(bM.blk _ (by omega) (h.eH _ (by omega) (by omega))).trans h.n1
 have m2:=(bM.blk _ (by omega) (h.eH _ (by omega) (by omega))).trans h.n2
 obtain ⟨q1,q2⟩:=gh aL (h.kf.trans bM) hw (show w.heap.size<=w.heap.size+1+1 by omega) (by omega) (hn _ (by omega) (by omega)) (ET wz (w.heap.size+1+1) u1 u2 (.bool x'.emp))
 obtain ⟨D7,D8,e1,-⟩:=h.o1.1.form;obtain ⟨D9,Ea,e2,-⟩:=h.o2.1.form;rw[e1,e2]at m2;exact ⟨q1,q2,jU,(iw (by omega) _ _ _).trans m0,(iw (by omega) _ _ _).trans m1,zr m2 _ _ _,by rw[qa];omega,
  ⟨hu1.1.tj (hu1.1.apart m2) _ _ _,hu1.2⟩,⟨uy.1.tj (uy.1.apart m2) _ _ _,uy.2⟩⟩
theorem gG.fin (h:gG w0 s x2 x3 x4 fp w nb bi dZ xo kL kM wr) (hw:w0.heap.size<=w.heap.size) {W:World} (hg:wr.grownBy W (some (w.heap.size+1))):py w0 s x2 x3 x4 bi dZ W/\ah fp dZ w W/\(IL W kL xo.first/\aG dZ kL)/\(IL W kM xo.last/\aG dZ kM):=by
 have hz:=h.sz;obtain ⟨q1,q2⟩:=gh h.bu h.kf hw (show w.heap.size<=w.heap.size+1 by omega) (by omega) (h.eH _ (by omega) (by omega)) hg
 have eY:∀{v:Value} {l:List Nat},IL wr v l->IL W v l:=λ{v l} hi=>by
  have MX:=hi;have hne:=hi.apart h.n1;rcases hi with hi | ⟨g,f,c',rfl,h0,xA,hc,hcell⟩
  .exact .inl hi
  .have VV:g≠w.heap.size+1:=λe=>hne h0 (by rw[e];rfl)
   exact .inr ⟨g,f,c',rfl,h0,Nat.lt_of_lt_of_le xA hg.size,hc,λi hi=>(World.cell?_of_block (a:=⟨g,f+i,none⟩) (hg.block g xA (λe=>by injection e with e;exact VV e))).trans (hcell i hi)⟩
 exact ⟨q1,q2,⟨eY h.o1.1,h.o1.2⟩,⟨eY h.o2.1,h.o2.2⟩⟩
end
theorem nH (k:Nd):∀l:List Nd,bK (l++[k])=bK l+aK k
 | []=>by simp[bK]
 | a::r=>by rw[List.cons_append,bK,bK,nH k r];omega
theorem nI (k:Nd):∀l:List Nd,dF (l++[k])=dF l+(eV k+360000)
 | []=>by simp[dF]
 | a::r=>by rw[List.cons_append,dF,dF,nI k r];omega
theorem Tf (l:List Nd) (k:Nat):bK (l.take k)<=bK l:=by
 induction l generalizing k with
 | nil=>simp
 | cons a r ih=>
  cases k with
  | zero=>simp[bK]
  | succ k=>rw[List.take_succ_cons,bK,bK];have:=ih k;omega
theorem Tg (l:List Nd) (k:Nat):dF (l.take k)<=dF l:=by
 induction l generalizing k with
 | nil=>simp
 | cons a r ih=>
  cases k with
  | zero=>simp[dF]
  | succ k=>rw[List.take_succ_cons,dF,dF];have:=ih k;omega
theorem iH {α:Type} {l:List α} {k:Nat} {x:α} (h:l[k]?=some x):l.take (k+1)=l.take k++[x]:=by
 obtain ⟨h1,h2⟩:=List.getElem?_eq_some_iff.1 h;rw[List.take_succ_eq_append_getElem h1,h2]
structure xk (b bi:Pb) (Lg:LA) (k n:Nat) (xo:dw) (K:Nat):Prop where
 wr:Wr b bi xo Lg
 fl:bi.fol.length=b.fol.length+n
 ln:xo.first.length<=n/\xo.last.length<=n
 bd:∀l∈bi.fol,l.length<=K
 ne:(k=0/\xo.emp=true)\/(xo.first≠[]/\xo.last≠[])
theorem xk.seq {b bi b':Pb} {kids:List Nd} {k:Nat} {kd:Nd} {xo y:dw} {K:Nat} (h:xk b bi (gS kids k) k (bK (kids.take k)) xo (K+dF (kids.take k))) (hk:kids[k]?=some kd) (hy:Wr bi b' y (gN kd)) (hl:b'.fol.length=bi.fol.length+aK kd) (rk:y.first.length<=aK kd/\y.last.length<=aK kd)
  (y9:∀l∈b'.fol,l.length<=K+dF (kids.take k)+eV kd) (wK:xo.last.length<=600) (afb:y.first.length<=600) (hne:y.first≠[]/\y.last≠[]) :
  xk b (cY b' xo y) (gS kids (k+1)) (k+1) (bK (kids.take (k+1))) (bp xo y) (K+dF (kids.take (k+1))):=by
 rw[show gS kids (k+1)=⟨mE (kids.take k++[kd]),eT (k+1) (wX (N1 kids))⟩ by unfold gS;rw[iH hk],iH hk,nH,nI]
 refine ⟨(h.wr.beh hy rfl (qc hk).symm).iff λw=>(oV _ _ _).symm,?_,?_,λl je=>?_, .inr ⟨?_,?_⟩⟩
 .unfold cY;rw[iJ,hl,h.fl];omega
 .have:=h.ln;unfold bp;constructor
  .simp only;split
   .rw[List.length_append];omega
   .omega
  .simp only;split
   .rw[List.length_append];omega
   .omega
 .have h1:=yT y.first xo.last b'.fol _ y9 l je;have h2:xo.last.length*y.first.length<=600*600:=Nat.mul_le_mul wK afb;omega
 .unfold bp;simp only
  split
  .intro e;exact hne.1 (List.append_eq_nil_iff.1 e).2
  .next he=>exact (h.ne.resolve_left λhx=>he hx.2).1
 .unfold bp;simp only
  split
  .intro e;exact hne.2 (List.append_eq_nil_iff.1 e).2
  .exact hne.2
theorem xk.jl {b bi b':Pb} {kids:List Nd} {k:Nat} {kd:Nd} {xo y:dw} {K:Nat} (h:xk b bi (gC kids k) k (bK (kids.take k)) xo (K+dF (kids.take k))) (hk:kids[k]?=some kd) (hy:Wr bi b' y (gN kd)) (hl:b'.fol.length=bi.fol.length+aK kd) (rk:y.first.length<=aK kd/\y.last.length<=aK kd)
  (y9:∀l∈b'.fol,l.length<=K+dF (kids.take k)+eV kd) (hne:y.first≠[]/\y.last≠[]) :
  xk b b' (gC kids (k+1)) (k+1) (bK (kids.take (k+1))) (lV xo y) (K+dF (kids.take (k+1))):=by
 rw[show gC kids (k+1)=⟨j9 (kids.take k++[kd]),su (k+1) (wX (N1 kids))⟩ by unfold gC;rw[iH hk],iH hk,nH,nI]
 refine ⟨(h.wr.eit hy rfl (qc hk).symm).iff λw=>(vk _ _ _).symm,by rw[hl,h.fl];omega,?_,λl je=>by have:=y9 l je;omega, .inr ⟨?_,?_⟩⟩
 .have:=h.ln;unfold lV;simp only[List.length_append];omega
 .unfold lV;intro e;exact hne.1 (List.append_eq_nil_iff.1 e).2
 .unfold lV;intro e;exact hne.2 (List.append_eq_nil_iff.1 e).2
theorem gG.start {w0:World} {s:Nat} {x2 x3 x4:Value} {b:Pb} {fp:List Nat} {w:World} (oD:py w0 s x2 x3 x4 b fp w) (nb:Array Value) :
  gG w0 s x2 x3 x4 fp w nb b fp ⟨[],[],true⟩ (.slice none 0 0) (.slice none 0 0) (((w.alloc (.cells nb 41)).alloc (.cells #[.slice none 0 0, .slice none 0 0, .bool false] 184)).alloc (.cells #[.slice none 0 0, .slice none 0 0, .bool true] 184)):=by
 have hB:=((((Below.refl w.heap.size w).alloc (Nat.le_refl _) (.cells nb 41)).alloc (by simp) (.cells #[.slice none 0 0, .slice none 0 0, .bool false] 184)).alloc (by simp <;> omega) (.cells #[.slice none 0 0, .slice none 0 0, .bool true] 184))
 have hnil:∀(W:World) (fq:List Nat),IL W (.slice none 0 0) []/\aG fq (.slice none 0 0):=λW fq=>⟨.inl ⟨rfl,rfl⟩,λg hg=>by simp[Value.ownBlock]at hg⟩
 refine ⟨oD.later hB,ah.aa hB,λq hq=>.inl (oD.lt q hq).2,?_,?_,?_,by simp,hnil _ _,hnil _ _⟩
 .rw[au _ _ _ (by simp <;> omega),au _ _ _ (by simp)]; exact heap_alloc_new w _
 .rw[au _ _ _ (by simp)];simpa using heap_alloc_new (w.alloc _) _
 .simpa using heap_alloc_new ((w.alloc _).alloc _) _
set_option maxHeartbeats 8000000 in
theorem KF (w0:World) (s:Nat) (x2 x3 x4:Value) (rs:List (Nat×Nat)) (kd:Nd) (mn mx:Int) (A1:Option Addr) (c1 g f c:Nat) (qb:List Value) (hR:aE (.mk 4 rs [kd] mn mx)=true) (hpos:aK (.mk 4 rs [kd] mn mx)<=600)
  (hg:g<w0.heap.size) (hc:1<=c/\c<=9223372036854775807) (cR:bX w0 kd qb) (lC:∀j,j<5->w0.cell? ⟨g,f+j,none⟩=qb[j]?) (hw:jG w0 s x2 x3 x4 kd qb) :
  jG w0 s x2 x3 x4 (.mk 4 rs [kd] mn mx) [.int .i64 4, .slice A1 rs.length c1, .slice (some ⟨g,f,none⟩) 1 c, .int .i64 mn, .int .i64 mx]:=by
 intro w b fp K oD rk jN hK Eo;have Mg:=gG.start oD #[.int .i64 4, .slice A1 rs.length c1, .slice (some ⟨g,f,none⟩) 1 c, .int .i64 mn, .int .i64 mx];have Zr:=λ(W:World) (fq:List Nat) (h:py w0 s x2 x3 x4 b fq W)=>EU w0 s x2 x3 x4 rs kd mn mx A1 c1 g f c qb hR hpos hg hc cR lC hw W b fq K h rk jN hK Eo;have AU:=Lib.hid Mg;have MI:=Lib.hid Zr;have kN:=oD.eP.size;show Calls Tryz.prog _ #[_, .agg #[.int .i64 4, .slice A1 rs.length c1, .slice (some ⟨g,f,none⟩) 1 c, .int .i64 mn, .int .i64 mx]] w _;clear hR cR lC hw oD rk hK Eo Mg Zr hpos jN
 go_enter Tryz.func135,Tryz.ntmps135
 go_wp2_with fail;refine (MI.out _ _ AU.out.bu).mono ?_;rintro e w1 ⟨b',x,fp',v1,v2,rfl,hb',hk',iD,ez,hwr,kF,hne,hl,y9⟩;obtain ⟨Av1,cv1,rfl,-⟩:=iD.1.form;obtain ⟨U5,U6,rfl,-⟩:=ez.1.form;have xF:=AU.out.out hb' hk' iD ez kN;have tu:=Lib.hid xF;have HP:=Lib.hid (And.intro hwr (And.intro kF (And.intro hne (And.intro hl y9))));have hz:=hk'.size;have hz0:=AU.out.sz;have kI:=(hk'.blk _ (by omega) (AU.out.eH (w.heap.size+1) (by omega) (by omega))).trans AU.out.n1
 have lu:=(hk'.blk _ (by omega) (AU.out.eH (w.heap.size+1+1) (by omega) (by omega))).trans AU.out.n2
 obtain ⟨y0,y1,y2⟩:=aR kI;obtain ⟨q0,q1,q2⟩:=aR lu;have fy0:w1.frozen? ⟨w.heap.size+1,0,none⟩=false:=by simp[World.frozen?,kI]
 have fy1:w1.frozen? ⟨w.heap.size+1,1,none⟩=false:=by simp[World.frozen?,kI]
 have fy2:w1.frozen? ⟨w.heap.size+1,2,none⟩=false:=by simp[World.frozen?,kI]
 have fq0:w1.frozen? ⟨w.heap.size+1+1,0,none⟩=false:=by simp[World.frozen?,lu]
 have fq1:w1.frozen? ⟨w.heap.size+1+1,1,none⟩=false:=by simp[World.frozen?,lu]
 have fq2:w1.frozen? ⟨w.heap.size+1+1,2,none⟩=false:=by simp[World.frozen?,lu]
 clear hb' hk' iD ez hwr kF hne hl y9 xF kI lu;go_wp2_with fail;refine ar λWf cH=>?_;have Bd:(tj w1 (w.heap.size+1+1) (.slice Av1 x.first.length cv1) (.slice U5 x.last.length U6) (.bool x.emp)).grownBy Wf (some (w.heap.size+1)):=by
  rw[cH];repeat (first | exact fh _ _ | refine fj ?_ _ | refine dS ?_ _ _ | refine ig ?_)
 obtain ⟨t1,t2,t3,t4⟩:=tu.out.fin kN Bd;refine bodyPost_ret (v:=.agg #[.slice Av1 x.first.length cv1, .slice U5 x.last.length U6, .bool x.emp]) (by rw[cH];simp[results,Tryz.results135,go_sem,y0,y1,y2,q0,q1,q2];try rfl) rfl ?_
 exact ⟨b',x,fp',_,_,rfl,t1,t2,t3,t4,HP.out.1,HP.out.2.1,HP.out.2.2.1,HP.out.2.2.2.1,HP.out.2.2.2.2⟩
theorem yN {w0:World} {kids:List Nd} {g f k:Nat} (hk:k<kids.length) (h:fH w0 kids g f):∃kd B1 e1 B2 e2,kids[k]?=some kd/\bX w0 kd [.int .i64 kd.op, .slice B1 kd.rs.length e1, .slice B2 kd.kids.length e2, .int .i64 kd.mn, .int .i64 kd.mx]/\
  ∀wz:World,wz.heap[g]?=w0.heap[g]?->wz.cell? ⟨g,f+k*5,none⟩=some (.int .i64 kd.op)/\wz.cell? ⟨g,f+k*5+1,none⟩=some (.slice B1 kd.rs.length e1)/\wz.cell? ⟨g,f+k*5+2,none⟩=some (.slice B2 kd.kids.length e2)/\wz.cell? ⟨g,f+k*5+3,none⟩=some (.int .i64 kd.mn)/\wz.cell? ⟨g,f+k*5+4,none⟩=some (.int .i64 kd.mx):=by
 obtain ⟨vs,h1,h2⟩:=h.at k hk;obtain ⟨kd,cR⟩:∃kd,kids[k]=kd:=⟨_,rfl⟩;rw[cR]at h2;obtain ⟨B1,e1,B2,e2,rfl,-,-,-⟩:=h2.form;refine ⟨kd,B1,e1,B2,e2,by rw[List.getElem?_eq_getElem hk,cR],h2,λwz hz=>?_⟩
 have hc:=λj (hj:j<5)=>(World.cell?_of_block (a:=⟨g,f+k*5+j,none⟩) hz).trans (h1 j hj);exact ⟨hc 0 (by omega),hc 1 (by omega),hc 2 (by omega),hc 3 (by omega),hc 4 (by omega)⟩
theorem yO {kids:List Nd} {k:Nat} {kd:Nd} (hk:kids[k]?=some kd):bK (kids.take k)+aK kd<=bK kids:=by
 have h1:=Tf kids (k+1);rw[iH hk,nH]at h1;exact h1
theorem yP {kids:List Nd} {k:Nat} {kd:Nd} (hk:kids[k]?=some kd):dF (kids.take k)+(eV kd+360000)<=dF kids:=by
 have h1:=Tg kids (k+1);rw[iH hk,nI]at h1;exact h1
end
section
set_option linter.unusedVariables false
set_option linter.unusedSimpArgs false
open Go.RowKit
set_option maxHeartbeats 16000000 in
theorem KG (w0:World) (s:Nat) (x2 x3 x4:Value) (rs:List (Nat×Nat)) (kids:List Nd) (mn mx:Int) (A1:Option Addr) (c1 g f c:Nat) (hR:aE (.mk 2 rs kids mn mx)=true) (hpos:aK (.mk 2 rs kids mn mx)<=600)
  (hg:g<w0.heap.size) (hc:kids.length<=c/\c<=9223372036854775807) (cR:fH w0 kids g f) (hw:∀kd∈kids,∀vs,bX w0 kd vs->jG w0 s x2 x3 x4 kd vs) :
  jG w0 s x2 x3 x4 (.mk 2 rs kids mn mx) [.int .i64 2, .slice A1 rs.length c1, .slice (some ⟨g,f,none⟩) kids.length c, .int .i64 mn, .int .i64 mx]:=by
 intro w b fp K oD rk jN hK Eo;have Mg:=gG.start oD #[.int .i64 2, .slice A1 rs.length c1, .slice (some ⟨g,f,none⟩) kids.length c, .int .i64 mn, .int .i64 mx];have hkn:=nJ hR (.inl rfl);have v8:=jz (.inl rfl) hpos;have hce:eV (.mk 2 rs kids mn mx)=dF kids:=by rw[eV,if_neg (by decide),if_neg (by decide)]
 have rV:gN (.mk 2 rs kids mn mx)=gS kids kids.length:=by
  unfold gN gS;rw[List.take_length,TN,if_neg (by decide),if_pos rfl]
  congr 1
 have pj:=oD.eP.size;rw[v8]at hpos jN|-;rw[hce]at Eo|-;rw[rV];have NT:xk b b (gS kids 0) 0 (bK (kids.take 0)) ⟨[],[],true⟩ (K+dF (kids.take 0)):=⟨(Wr.nil b rk _).iff λw=>Iff.rfl,rfl,⟨Nat.zero_le _,Nat.zero_le _⟩,λl hl=>by simpa [dF] using hK l hl, .inl ⟨rfl,rfl⟩⟩
 have AU:=Lib.hid Mg;have amE:=Lib.hid NT;have HW:=Lib.hid hw;have HKD:=Lib.hid cR;obtain ⟨n,hn⟩:∃n,kids.length=n:=⟨_,rfl⟩;obtain ⟨PS,YF⟩:∃P,bK kids=P:=⟨_,rfl⟩;obtain ⟨CS,YG⟩:∃P,dF kids=P:=⟨_,rfl⟩;show Calls Tryz.prog _ #[_, .agg #[.int .i64 2, .slice A1 rs.length c1, .slice (some ⟨g,f,none⟩) kids.length c, .int .i64 mn, .int .i64 mx]] w _;rw[hn]at hc hkn|-;rw[hn]at AU;rw[YF]at hpos jN|-;rw[YG]at Eo|-;have HN:=Lib.hid (And.intro hn (And.intro YF YG));clear hR v8 hce rV oD hw cR hK NT Mg hn YF YG rk
 go_enter Tryz.func135,Tryz.ntmps135
 go_wp2_with fail
 go_loopw [54] (λiv wr=>∃(k:Nat) (bi:Pb) (dZ:List Nat) (xo:dw) (kL kM:Value),k<=n/\iv = .int .i64 (k:Int)/\Hid (gG w0 s x2 x3 x4 fp w #[.int .i64 2, .slice A1 rs.length c1, .slice (some ⟨g,f,none⟩) n c, .int .i64 mn, .int .i64 mx] bi dZ xo kL kM wr)/\Hid (xk b bi (gS kids k) k (bK (kids.take k)) xo (K+dF (kids.take k)))) (λiv _=>n - (intOf iv).toNat)
 case atStart=>
  exact ⟨0,b,fp,⟨[],[],true⟩, .slice none 0 0, .slice none 0 0,by omega,rfl,AU,amE⟩
 case round=>
  obtain ⟨k,bi,dZ,xo,kL,kM,hi,rfl,HM,HI⟩:=hrel;by_cases hlt:k<n
  .have hd:decide ((k:Int)<(n:Int))=true:=decide_eq_true (by omega)
   have iI:decide (k<n)=true:=decide_eq_true hlt;obtain ⟨kd,B1,e1,B2,e2,cR,bL,lC⟩:=yN (k:=k) (by rw[HN.out.1];exact hlt) HKD.out
   obtain ⟨D7,D8,rfl,-⟩:=HM.out.o1.1.form;obtain ⟨D9,Ea,rfl,-⟩:=HM.out.o2.1.form;obtain ⟨eo,MZ⟩:∃eo,xo.emp=eo:=⟨_,rfl⟩;have kN:w0.heap.size<=w.heap.size:=pj;have wU:=HM.out.sz;have oC:wr.heap[g]?=w0.heap[g]?:=HM.out.bu.eP.block g hg;have M8:g<wr.heap.size:=by have:=HM.out.bu.eP.size;omega
   obtain ⟨k0,k1,k2,k3,k4⟩:=lC wr oC;have ru:=yO cR;have hcs:=yP cR;rw[HN.out.2.1]at ru;rw[HN.out.2.2]at hcs;have hwc:=HW.out kd (List.mem_of_getElem? cR) _ bL;have dk:=HI.out;obtain ⟨pk,Cp⟩:∃p,bK (kids.take k)=p:=⟨_,rfl⟩;obtain ⟨K0,tl⟩:∃p,K+dF (kids.take k)=p:=⟨_,rfl⟩;rw[Cp,tl]at dk;rw[Cp]at ru;have hKc:K0+eV kd<=10000000000:=by omega
   have zx:pk<=600:=by omega
   have abX:aK kd<=600:=by omega
   have YH:=Lib.hid cR;have Vq:=Lib.hid hwc;have HKX:=Lib.hid (And.intro Cp tl);have kF:=dk.fl;have hlen:=dk.wr.len;have jq:bi.fol.length+aK kd<=600:=by omega
   have fQ:=Lib.hid (And.intro jq hlen);have Zh:=Lib.hid dk.bd;have YQ:=Lib.hid (show ∀p∈xo.last,p<bi.fol.length from λp hp=>(dk.wr.good.kj p hp).2);have xP:=Lib.hid (show xo.first.length<=600/\xo.last.length<=600 from ⟨by have:=dk.ln;omega,by have:=dk.ln;omega⟩)
   have TP:=Lib.hid MZ;have HKC:=Lib.hid lC;have YJ:=Lib.hid (And.intro ru hcs);have mV:=HM.out.n2;rw[MZ]at mV;obtain ⟨oo0,oo1,oo2⟩:=aR mV;have Zf:=Lib.hid (And.intro ru hcs);clear cR bL lC hwc dk Cp kF hlen jq hcs MZ mV tl oC ru;go_wp2_with fail;refine dv λW hW=>?_;have cJ:Below wr.heap.size wr W:=by rw[hW];exact (Below.refl _ _).alloc (Nat.le_refl _) _
   have AX:=HM.out.later cJ;have hKB:W.heap[wr.heap.size]?=some (.cells #[.int .i64 kd.op, .slice B1 kd.rs.length e1, .slice B2 kd.kids.length e2, .int .i64 kd.mn, .int .i64 kd.mx] 41 (0,0)):=by rw[hW];exact heap_alloc_new wr _
   have po:W.heap.size=wr.heap.size+1:=by rw[hW];simp
   have l2:w.heap.size+1+1<W.heap.size:=by omega
   have lk:wr.heap.size<W.heap.size:=by omega
   have n2:=AX.eH (w.heap.size+1+1) (by omega) (by omega)
   have nk:wr.heap.size∉dZ:=λhm=>by have:=(HM.out.bu.lt _ hm).2;omega
   have mV:=AX.n2;rw[TP.out]at mV;obtain ⟨o0,o1,o2⟩:=aR mV;have Pt:=Lib.hid AX.bu;have GR:=Lib.hid (And.intro AX.o1.1 (And.intro AX.o1.2 (And.intro AX.o2.1 AX.o2.2)));have HKB:=Lib.hid hKB;have EM:=Lib.hid AX;have bI:=Lib.hid cJ;clear hW cJ AX hKB mV k0 k1 k2 k3 k4 oo0 oo1 oo2;have eU:Jq dZ W 0 W.drew:=⟨(ah.aa (Below.refl _ _).drew).oK,λ_=>(Below.refl _ _).drew⟩;refine aq 6 [4,5] (Td w0 s x2 x3 x4 bi dZ (gN kd) (aK kd) (K0+eV kd) W (.slice D7 xo.first.length D8) (.slice D9 xo.last.length Ea) eo (.agg #[.int .i64 kd.op, .slice B1 kd.rs.length e1, .slice B2 kd.kids.length e2, .int .i64 kd.mn, .int .i64 kd.mx]) xo) (λc w'=>Jq dZ W c w') (by kernel_rfl) (by kernel_rfl) (by kernel_rfl) (by kernel_rfl) (by kernel_rfl) (by kernel_rfl) (by decide) eU ?_ ?_
   .simp only[cP,cQ];refine ae.pure (by decide) ?_ (ae.pure (by decide) ?_ (ae.pure (by decide) ?_ (ae.pure (by decide) ?_ (ae.oJ 0 rfl ?_ (ae.oJ 1 rfl ?_ (ae.nil))))))
    all_goals first | (with_reducible intro v wz c aD hS hE K hK;simp only[ai,Act.put,eh,ek,ep,Nat.zero_add,Nat.reduceAdd,cP,cQ]at hK|-) | (intro v wz hS hE K hK;simp only[ai,Act.put,eh,ek,ep,Nat.zero_add,Nat.reduceAdd,cP,cQ]at hK|-)
    .have HX:=Lib.hid hS;clear hS hE aD;go_wp2_with fail;exact hK.out _ rfl
    .have cx0:=(World.cell?_of_block (a:=⟨w.heap.size+1+1,0,none⟩) (hS.1.blk _ l2 n2)).trans o0;have cx1:=(World.cell?_of_block (a:=⟨w.heap.size+1+1,1,none⟩) (hS.1.blk _ l2 n2)).trans o1;have cx2:=(World.cell?_of_block (a:=⟨w.heap.size+1+1,2,none⟩) (hS.1.blk _ l2 n2)).trans o2;have HX:=Lib.hid hS;clear hS hE aD;go_wp2_with fail;exact hK.out _ rfl
    .have HX:=Lib.hid hS;clear hS hE aD;go_wp2_with fail;exact hK.out _ rfl
    .obtain ⟨k0,k1,k2,k3,k4⟩:=aJ ((hS.1.blk _ lk nk).trans HKB.out);have HX:=Lib.hid hS;clear hS hE aD;go_wp2_with fail;exact hK.out _ rfl
    .have e2:v 2=_:=hE.1 rfl;have e3:v 3=_:=hE.2.1 rfl;rw[e2,e3]at hK|-;have hz:=hS.2 rfl;have aF:=Vq.out wz bi dZ K0 (Pt.out.later hz) fQ.out.2 fQ.out.1 Zh.out hKc;have HC:=Lib.hid aF;have HX:=Lib.hid hS;clear hS hE aF;go_wp2_with fail;refine HC.out.mono ?_;rintro e wy ⟨b',y,fp',v1,v2,rfl,hb',hk',iD,ez,hw',je,dO,eX,hK'⟩;have HP:=Lib.hid (And.intro hb' (And.intro hk' (And.intro iD (And.intro ez (And.intro hw' (And.intro je (And.intro dO (And.intro eX hK'))))))));clear hb' hk' iD ez hw' je dO eX hK';go_wp2_with fail;refine hK.out _ _ (λj z hj h=>?_) ⟨((ah.aa (HX.out.2 rfl)).trans HP.out.2.1).oK,λh=>by cases h⟩ (λ_=>⟨b',y,fp',v1,v2,rfl,HP.out.1,(ah.aa (HX.out.2 rfl)).trans HP.out.2.1,HP.out.2.2.1,HP.out.2.2.2.1,HP.out.2.2.2.2.1,HP.out.2.2.2.2.2.1,HP.out.2.2.2.2.2.2.1,HP.out.2.2.2.2.2.2.2.1,HP.out.2.2.2.2.2.2.2.2⟩)
     match j with
     | 0 | 1 | 2 | 3=>exact h
     | 4=>exact absurd rfl hj
     | 5=>exact λh=>by cases h
     | _+6=>exact trivial
    .have e0:v 0=_:=hE.1 rfl;have e1:v 1=_:=hE.2.1 rfl;rw[e0,e1]at hK|-;have E4:=hE.2.2.1 rfl;obtain ⟨b',y,fp',v1,v2,ev,hb',hk',iD,ez,hw',je,dO,eX,hK'⟩:=E4 rfl;injection ev with ev;rw[ev]at hK|-;have i1:=GR.out.1.keep GR.out.2.1 hk';have i2:=GR.out.2.2.1.keep GR.out.2.2.2 hk';have BI:∀p∈xo.last,p<b'.fol.length:=λp hp=>by have:=YQ.out p hp;omega
     have aF:=tM w0 s x2 x3 x4 b' fp' wz xo y _ _ v1 v2 _ hb' i1.1 i1.2 i2.1 i2.2 iD.1 iD.2 ez.1 ez.2 dO.1 dO.2 BI (by have:=xP.out;omega) (by have:=xP.out;omega) (by omega) (by omega) hK' (by omega)
     rw[TP.out]at aF;have HC:=Lib.hid aF;have HX:=Lib.hid hS;have HP:=Lib.hid (And.intro hb' (And.intro hk' (And.intro hw' (And.intro je (And.intro dO (And.intro eX hK'))))));clear hS hE aF hb' hk' iD ez hw' je dO eX hK' i1 i2 BI E4 ev;go_wp2_with fail;refine HC.out.mono ?_;rintro e wy ⟨nW,u1,u2,rfl,aL,bM,j1,j2,j3,j4⟩;have HQ:=Lib.hid (And.intro aL (And.intro bM (And.intro j1 (And.intro j2 (And.intro j3 j4)))));clear aL bM j1 j2 j3 j4;go_wp2_with fail;refine hK.out _ _ (λj z hj h=>?_) ⟨(HP.out.2.1.trans HQ.out.2.1).oK,λh=>by cases h⟩ (λ_=>⟨b',y,nW,u1,u2,rfl,HQ.out.1,HP.out.2.1.trans HQ.out.2.1,⟨HQ.out.2.2.1,HQ.out.2.2.2.1⟩,⟨HQ.out.2.2.2.2.1,HQ.out.2.2.2.2.2⟩,HP.out.2.2.1,HP.out.2.2.2.1,HP.out.2.2.2.2.1,HP.out.2.2.2.2.2.1,HP.out.2.2.2.2.2.2⟩)
     match j with
     | 0 | 1 | 2 | 3=>exact h
     | 4=>exact λh=>by cases h
     | 5=>exact absurd rfl hj
     | _+6=>exact trivial
   .intro v wz hS hF;have e0:v 0=_:=hF 0 (by decide)
    have e1:v 1=_:=hF 1 (by decide)
    have e2:v 2=_:=hF 2 (by decide)
    have e3:v 3=_:=hF 3 (by decide)
    have E4:=hF 4 (by decide)
    have E5:=hF 5 (by decide)
    simp only[ai,Act.put,eh,ek,ep,Nat.zero_add,Nat.reduceAdd,cP,cQ,List.drop_succ_cons,List.drop_zero,e0,e1,e2,e3];clear hF e0 e1 e2 e3;obtain ⟨b',y,nW,u1,u2,ev,aL,bM,hu1,uy,Cq,je,dO,eX,hK'⟩:=E5 rfl;rw[ev];obtain ⟨Au1,cu1,rfl,VY⟩:=hu1.1.form;obtain ⟨Au2,VZ,rfl,V2⟩:=uy.1.form;have xF:=EM.out.out (x':=bp xo y) aL bM hu1 uy kN;have PV:=HI.out.seq YH.out Cq je eX (λl hl=>by have:=hK' l hl;have:=HKX.out.2;omega) (by have:=xP.out;omega) (by omega) dO
    have HP2:=Lib.hid bM;have GK:=Lib.hid PV;have tu:=Lib.hid xF;have hz2:=(HP2.out.blk _ l2 n2).trans EM.out.n2;obtain ⟨q0,q1,q2⟩:=aR hz2;have f0:wz.frozen? ⟨w.heap.size+1+1,0,none⟩=false:=by simp[World.frozen?,hz2]
    have f1:wz.frozen? ⟨w.heap.size+1+1,1,none⟩=false:=by simp[World.frozen?,hz2]
    have f2:wz.frozen? ⟨w.heap.size+1+1,2,none⟩=false:=by simp[World.frozen?,hz2]
    clear hS E4 E5 ev aL bM hu1 uy Cq je dO eX hK' PV xF hz2 o0 o1 o2 eU;go_wp2_with fail;go_roundw
    case rel=>
     exact ⟨k+1,_,_,_,_,_,by omega,by go_num,tu,GK⟩
    case measure=>simp[intOf];omega
  .obtain rfl:k=n:=by omega
   have kN:w0.heap.size<=w.heap.size:=pj;obtain ⟨D7,D8,rfl,-⟩:=HM.out.o1.1.form;obtain ⟨D9,Ea,rfl,-⟩:=HM.out.o2.1.form;have wU:=HM.out.sz;obtain ⟨y0,y1,y2⟩:=aR HM.out.n1;obtain ⟨q0,q1,q2⟩:=aR HM.out.n2;have fy0:wr.frozen? ⟨w.heap.size+1,0,none⟩=false:=by simp[World.frozen?,HM.out.n1]
   have fy1:wr.frozen? ⟨w.heap.size+1,1,none⟩=false:=by simp[World.frozen?,HM.out.n1]
   have fy2:wr.frozen? ⟨w.heap.size+1,2,none⟩=false:=by simp[World.frozen?,HM.out.n1]
   go_wp2_with fail;refine ar λWf cH=>?_;have Bd:wr.grownBy Wf (some (w.heap.size+1)):=by
    rw[cH];repeat (first | exact fh _ _ | refine fj ?_ _ | refine dS ?_ _ _ | refine ig ?_)
   obtain ⟨t1,t2,t3,t4⟩:=HM.out.fin kN Bd;have dk:=HI.out;rw[List.take_of_length_le (by rw[HN.out.1];exact Nat.le_refl _),HN.out.2.1,HN.out.2.2]at dk
   refine bodyPost_ret (v:=.agg #[.slice D7 xo.first.length D8, .slice D9 xo.last.length Ea, .bool xo.emp]) (by rw[cH];simp[results,Tryz.results135,go_sem,y0,y1,y2,q0,q1,q2];try rfl) rfl ?_
   exact ⟨bi,xo,dZ,_,_,rfl,t1,t2,t3,t4,dk.wr,dk.fl,dk.ne.resolve_left (by omega),dk.ln,dk.bd⟩
end
section
set_option linter.unusedVariables false
set_option linter.unusedSimpArgs false
open Go.RowKit
set_option maxHeartbeats 16000000 in
theorem AW (w0:World) (s:Nat) (x2 x3 x4:Value) (rs:List (Nat×Nat)) (a:Nd) (r:List Nd) (mn mx:Int) (A1:Option Addr) (c1 g f c:Nat) (hR:aE (.mk 3 rs (a::r) mn mx)=true) (hpos:aK (.mk 3 rs (a::r) mn mx)<=600)
  (hg:g<w0.heap.size) (hc:r.length+1<=c/\c<=9223372036854775807) (cR:fH w0 (a::r) g f) (hw:∀kd∈a::r,∀vs,bX w0 kd vs->jG w0 s x2 x3 x4 kd vs) :
  jG w0 s x2 x3 x4 (.mk 3 rs (a::r) mn mx) [.int .i64 3, .slice A1 rs.length c1, .slice (some ⟨g,f,none⟩) (r.length+1) c, .int .i64 mn, .int .i64 mx]:=by
 intro w b fp K oD rk jN hK Eo;have Mg:=gG.start oD #[.int .i64 3, .slice A1 rs.length c1, .slice (some ⟨g,f,none⟩) (r.length+1) c, .int .i64 mn, .int .i64 mx];have hkn:=nJ hR (.inr rfl);have v8:=jz (.inr rfl) hpos;have hce:eV (.mk 3 rs (a::r) mn mx)=dF (a::r):=by rw[eV,if_neg (by decide),if_neg (by decide)]
 have rV:gN (.mk 3 rs (a::r) mn mx)=gC (a::r) (a::r).length:=by
  unfold gN gC;rw[List.take_length,TN,if_neg (by decide),if_neg (by decide),if_pos rfl]
  congr 1
 have pj:=oD.eP.size;rw[v8]at hpos jN|-;rw[hce]at Eo|-;rw[rV];have amv:=rk;obtain ⟨qb,hv0,YE⟩:=cR.1;obtain ⟨Ba1,ea1,Ba2,ea2,rfl,-,-,-⟩:=YE.form;have amw:w0.heap[g]?=w0.heap[g]?:=rfl;have Pm:=λ(W:World) (fq:List Nat) (h:py w0 s x2 x3 x4 b fq W)=>hw a (by simp) _ YE W b fq K h rk (by rw[bK]at jN;omega) hK (by rw[dF]at Eo;omega)
 have Ml:=Lib.hid Pm;have C5:∀wz:World,wz.heap[g]?=w0.heap[g]?->wz.cell? ⟨g,f,none⟩=some (.int .i64 a.op)/\wz.cell? ⟨g,f+1,none⟩=some (.slice Ba1 a.rs.length ea1)/\wz.cell? ⟨g,f+2,none⟩=some (.slice Ba2 a.kids.length ea2)/\wz.cell? ⟨g,f+3,none⟩=some (.int .i64 a.mn)/\wz.cell? ⟨g,f+4,none⟩=some (.int .i64 a.mx):=λwz hz=>by
  have hc:=λj (hj:j<5)=>(World.cell?_of_block (a:=⟨g,f+j,none⟩) hz).trans (hv0 j hj);exact ⟨hc 0 (by omega),hc 1 (by omega),hc 2 (by omega),hc 3 (by omega),hc 4 (by omega)⟩
 have hkr:=cR.2;have AU:=Lib.hid Mg;have HW:=Lib.hid hw;have HKD:=Lib.hid hkr;obtain ⟨n,hn⟩:∃n,r.length=n:=⟨_,rfl⟩;obtain ⟨PS,YF⟩:∃P,bK (a::r)=P:=⟨_,rfl⟩;obtain ⟨CS,YG⟩:∃P,dF (a::r)=P:=⟨_,rfl⟩;show Calls Tryz.prog _ #[_, .agg #[.int .i64 3, .slice A1 rs.length c1, .slice (some ⟨g,f,none⟩) (r.length+1) c, .int .i64 mn, .int .i64 mx]] w _;rw[List.length_cons,hn]at hkn;rw[hn]at hc|-;rw[hn]at AU;rw[YF]at hpos jN|-;rw[YG]at Eo|-;have HN:=Lib.hid (And.intro hn (And.intro YF YG));have oq:=C5 w (oD.eP.block g hg);obtain ⟨z0,z1,z2,z3,z4⟩:=oq;have avz:g<w.heap.size:=by have:=oD.eP.size;omega
 have aqm:g<w.heap.size+1:=by omega
 have aqn:g<w.heap.size+1+1:=by omega
 clear hR v8 hce rV oD hw cR hK Mg hn YF YG rk amv hv0 YE Pm C5 hkr amw
 go_enter Tryz.func135,Tryz.ntmps135
 go_wp2_with fail;have kN:w0.heap.size<=w.heap.size:=pj;refine (Ml.out _ _ AU.out.bu).mono ?_;rintro e w1 ⟨b1,y,fp1,v1,v2,rfl,hb',hk',iD,ez,hwr,kF,hne,hl,y9⟩;obtain ⟨Av1,cv1,rfl,-⟩:=iD.1.form;obtain ⟨U5,U6,rfl,-⟩:=ez.1.form;have xF:=AU.out.out hb' hk' iD ez kN;have UU:xk b b1 (gC (a::r) 1) 1 (bK ((a::r).take 1)) y (K+dF ((a::r).take 1)):=by
  rw[List.take_succ_cons,List.take_zero,bK,bK,dF,dF];refine ⟨hwr.amx,by rw[kF];omega,by omega,λl hl=>by have:=y9 l hl;omega, .inr hne⟩
 have amy:=Lib.hid UU;have tu:=Lib.hid xF;have hz:=hk'.size;have hz0:=AU.out.sz;have Ha:=(hk'.blk _ (by omega) (AU.out.eH w.heap.size (by omega) (by omega))).trans AU.out.n0
 have lu:=(hk'.blk _ (by omega) (AU.out.eH (w.heap.size+1+1) (by omega) (by omega))).trans AU.out.n2
 obtain ⟨y0,y1,y2,y3,y4⟩:=aJ Ha;obtain ⟨q0,q1,q2⟩:=aR lu;have fq0:w1.frozen? ⟨w.heap.size+1+1,0,none⟩=false:=by simp[World.frozen?,lu]
 have fq1:w1.frozen? ⟨w.heap.size+1+1,1,none⟩=false:=by simp[World.frozen?,lu]
 have fq2:w1.frozen? ⟨w.heap.size+1+1,2,none⟩=false:=by simp[World.frozen?,lu]
 have lq0:w.heap.size<w1.heap.size:=by omega
 have lq2:w.heap.size+1+1<w1.heap.size:=by omega
 clear hb' hk' iD ez hwr kF hne hl y9 xF lu Ha UU z0 z1 z2 z3 z4;go_wp2_with fail
 go_loopw [77] (λiv wr=>∃(k:Nat) (bi:Pb) (dZ:List Nat) (xo:dw) (kL kM:Value),k<=n/\iv = .int .i64 (k:Int)/\Hid (gG w0 s x2 x3 x4 fp w #[.int .i64 3, .slice A1 rs.length c1, .slice (some ⟨g,f,none⟩) (n+1) c, .int .i64 mn, .int .i64 mx] bi dZ xo kL kM wr)/\Hid (xk b bi (gC (a::r) (k+1)) (k+1) (bK ((a::r).take (k+1))) xo (K+dF ((a::r).take (k+1))))) (λiv _=>n - (intOf iv).toNat)
 case atStart=>
  exact ⟨0,b1,fp1,y,_,_,by omega,rfl,tu,amy⟩
 case round=>
  obtain ⟨k,bi,dZ,xo,kL,kM,hi,rfl,HM,HI⟩:=hrel;by_cases hlt:k<n
  .have hd:decide ((k:Int)<(n:Int))=true:=decide_eq_true (by omega)
   have iI:decide (k<n)=true:=decide_eq_true hlt;obtain ⟨kd,B1,e1,B2,e2,cR,bL,lC⟩:=yN (kids:=r) (f:=f+5) (k:=k) (by rw[HN.out.1];exact hlt) HKD.out
   obtain ⟨D7,D8,rfl,-⟩:=HM.out.o1.1.form;obtain ⟨D9,Ea,rfl,-⟩:=HM.out.o2.1.form;obtain ⟨eo,MZ⟩:∃eo,xo.emp=eo:=⟨_,rfl⟩;have kN:w0.heap.size<=w.heap.size:=pj;have wU:=HM.out.sz;have oC:wr.heap[g]?=w0.heap[g]?:=HM.out.bu.eP.block g hg;have M8:g<wr.heap.size:=by have:=HM.out.bu.eP.size;omega
   obtain ⟨k0,k1,k2,k3,k4⟩:=lC wr oC;have Pn:(a::r)[k+1]?=some kd:=by rw[List.getElem?_cons_succ];exact cR
   have ru:=yO Pn;have hcs:=yP Pn;rw[HN.out.2.1]at ru;rw[HN.out.2.2]at hcs;have hwc:=HW.out kd (List.mem_of_getElem? Pn) _ bL;have dk:=HI.out;obtain ⟨pk,Cp⟩:∃p,bK ((a::r).take (k+1))=p:=⟨_,rfl⟩;obtain ⟨K0,tl⟩:∃p,K+dF ((a::r).take (k+1))=p:=⟨_,rfl⟩;rw[Cp,tl]at dk;rw[Cp]at ru;have hKc:K0+eV kd<=10000000000:=by omega
   have zx:pk<=600:=by omega
   have abX:aK kd<=600:=by omega
   have YH:=Lib.hid Pn;have Vq:=Lib.hid hwc;have HKX:=Lib.hid (And.intro Cp tl);have kF:=dk.fl;have hlen:=dk.wr.len;have jq:bi.fol.length+aK kd<=600:=by omega
   have fQ:=Lib.hid (And.intro jq hlen);have Zh:=Lib.hid dk.bd;have YQ:=Lib.hid (show ∀p∈xo.last,p<bi.fol.length from λp hp=>(dk.wr.good.kj p hp).2);have xP:=Lib.hid (show xo.first.length<=600/\xo.last.length<=600 from ⟨by have:=dk.ln;omega,by have:=dk.ln;omega⟩)
   have TP:=Lib.hid MZ;have HKC:=Lib.hid lC;have YJ:=Lib.hid (And.intro ru hcs);have mV:=HM.out.n2;rw[MZ]at mV;obtain ⟨oo0,oo1,oo2⟩:=aR mV;have Zf:=Lib.hid (And.intro ru hcs);clear cR Pn bL lC hwc dk Cp kF hlen jq hcs MZ mV tl oC ru;go_wp2_with fail;refine dv λW hW=>?_;have cJ:Below wr.heap.size wr W:=by rw[hW];exact (Below.refl _ _).alloc (Nat.le_refl _) _
   have AX:=HM.out.later cJ;have hKB:W.heap[wr.heap.size]?=some (.cells #[.int .i64 kd.op, .slice B1 kd.rs.length e1, .slice B2 kd.kids.length e2, .int .i64 kd.mn, .int .i64 kd.mx] 41 (0,0)):=by rw[hW];exact heap_alloc_new wr _
   have po:W.heap.size=wr.heap.size+1:=by rw[hW];simp
   have l2:w.heap.size+1+1<W.heap.size:=by omega
   have lk:wr.heap.size<W.heap.size:=by omega
   have n2:=AX.eH (w.heap.size+1+1) (by omega) (by omega)
   have nk:wr.heap.size∉dZ:=λhm=>by have:=(HM.out.bu.lt _ hm).2;omega
   have mV:=AX.n2;rw[TP.out]at mV;obtain ⟨o0,o1,o2⟩:=aR mV;have Pt:=Lib.hid AX.bu;have GR:=Lib.hid (And.intro AX.o1.1 (And.intro AX.o1.2 (And.intro AX.o2.1 AX.o2.2)));have HKB:=Lib.hid hKB;have EM:=Lib.hid AX;have bI:=Lib.hid cJ;clear hW cJ AX hKB mV k0 k1 k2 k3 k4 oo0 oo1 oo2;have eU:Jq dZ W 0 W.drew:=⟨(ah.aa (Below.refl _ _).drew).oK,λ_=>(Below.refl _ _).drew⟩;refine aq 5 [3,4] (Te w0 s x2 x3 x4 bi dZ (gN kd) (aK kd) (K0+eV kd) W (.slice D7 xo.first.length D8) (.slice D9 xo.last.length Ea) eo (.agg #[.int .i64 kd.op, .slice B1 kd.rs.length e1, .slice B2 kd.kids.length e2, .int .i64 kd.mn, .int .i64 kd.mx]) xo) (λc w'=>Jq dZ W c w') (by kernel_rfl) (by kernel_rfl) (by kernel_rfl) (by kernel_rfl) (by kernel_rfl) (by kernel_rfl) (by decide) eU ?_ ?_
   .simp only[cP,cQ];refine ae.pure (by decide) ?_ (ae.pure (by decide) ?_ (ae.pure (by decide) ?_ (ae.oJ 0 rfl ?_ (ae.oJ 1 rfl ?_ (ae.nil)))))
    all_goals first | (with_reducible intro v wz c aD hS hE K hK;simp only[ai,Act.put,eh,ek,ep,Nat.zero_add,Nat.reduceAdd,cP,cQ]at hK|-) | (intro v wz hS hE K hK;simp only[ai,Act.put,eh,ek,ep,Nat.zero_add,Nat.reduceAdd,cP,cQ]at hK|-)
    .have cx0:=(World.cell?_of_block (a:=⟨w.heap.size+1+1,0,none⟩) (hS.1.blk _ l2 n2)).trans o0;have cx1:=(World.cell?_of_block (a:=⟨w.heap.size+1+1,1,none⟩) (hS.1.blk _ l2 n2)).trans o1;have cx2:=(World.cell?_of_block (a:=⟨w.heap.size+1+1,2,none⟩) (hS.1.blk _ l2 n2)).trans o2;have HX:=Lib.hid hS;clear hS hE aD;go_wp2_with fail;exact hK.out _ rfl
    .have HX:=Lib.hid hS;clear hS hE aD;go_wp2_with fail;exact hK.out _ rfl
    .obtain ⟨k0,k1,k2,k3,k4⟩:=aJ ((hS.1.blk _ lk nk).trans HKB.out);have HX:=Lib.hid hS;clear hS hE aD;go_wp2_with fail;exact hK.out _ rfl
    .have e1:v 1=_:=hE.1 rfl;have e2:v 2=_:=hE.2.1 rfl;rw[e1,e2]at hK|-;have hz:=hS.2 rfl;have aF:=Vq.out wz bi dZ K0 (Pt.out.later hz) fQ.out.2 fQ.out.1 Zh.out hKc;have HC:=Lib.hid aF;have HX:=Lib.hid hS;clear hS hE aF;go_wp2_with fail;refine HC.out.mono ?_;rintro e wy ⟨b',y,fp',v1,v2,rfl,hb',hk',iD,ez,hw',je,dO,eX,hK'⟩;have HP:=Lib.hid (And.intro hb' (And.intro hk' (And.intro iD (And.intro ez (And.intro hw' (And.intro je (And.intro dO (And.intro eX hK'))))))));clear hb' hk' iD ez hw' je dO eX hK';go_wp2_with fail;refine hK.out _ _ (λj z hj h=>?_) ⟨((ah.aa (HX.out.2 rfl)).trans HP.out.2.1).oK,λh=>by cases h⟩ (λ_=>⟨b',y,fp',v1,v2,rfl,HP.out.1,(ah.aa (HX.out.2 rfl)).trans HP.out.2.1,HP.out.2.2.1,HP.out.2.2.2.1,HP.out.2.2.2.2.1,HP.out.2.2.2.2.2.1,HP.out.2.2.2.2.2.2.1,HP.out.2.2.2.2.2.2.2.1,HP.out.2.2.2.2.2.2.2.2⟩)
     match j with
     | 0 | 1 | 2=>exact h
     | 3=>exact absurd rfl hj
     | 4=>exact λh=>by cases h
     | _+5=>exact trivial
    .have e0:v 0=_:=hE.1 rfl;rw[e0]at hK|-;have E3:=hE.2.1 rfl;obtain ⟨b',y,fp',v1,v2,ev,hb',hk',iD,ez,hw',je,dO,eX,hK'⟩:=E3 rfl;injection ev with ev;rw[ev]at hK|-;have i1:=GR.out.1.keep GR.out.2.1 hk';have i2:=GR.out.2.2.1.keep GR.out.2.2.2 hk';have aF:=uA xo.first xo.last y.first y.last xo.emp y.emp _ _ v1 v2 wz i1.1 i2.1 iD.1 ez.1 dO.1 dO.2 (by have:=xP.out;omega) (by have:=xP.out;omega) (by omega) (by omega)
     rw[TP.out]at aF;have HC:=Lib.hid aF;have HX:=Lib.hid hS;have HP:=Lib.hid (And.intro hb' (And.intro hk' (And.intro hw' (And.intro je (And.intro dO (And.intro eX hK'))))));clear hS hE aF hb' hk' iD ez hw' je dO eX hK' i1 i2 E3 ev;go_wp2_with fail;refine HC.out.mono ?_;rintro e wy ⟨u1,u2,rfl,zj,wG,aP⟩;have HQ:=Lib.hid (And.intro zj (And.intro wG aP));clear zj wG aP;go_wp2_with fail;refine hK.out _ _ (λj z hj h=>?_) ⟨(HP.out.2.1.trans (ah.aa HQ.out.2.2)).oK,λh=>by cases h⟩ (λ_=>⟨b',y,fp',u1,u2,by rw[<-TP.out];rfl,HP.out.1.later HQ.out.2.2,HP.out.2.1.trans (ah.aa HQ.out.2.2),⟨IL.fS HQ.out.1 λ_ h=>HP.out.2.2.2.2.1.1 (List.append_eq_nil_iff.1 h).2,λg hg hm=>by have:=(HQ.out.1.lt g hg).1;have:=(HP.out.1.lt g hm).2;omega⟩,⟨IL.fS HQ.out.2.1 λ_ h=>HP.out.2.2.2.2.1.2 (List.append_eq_nil_iff.1 h).2,λg hg hm=>by have:=(HQ.out.2.1.lt g hg).1;have:=(HP.out.1.lt g hm).2;omega⟩,HP.out.2.2.1,HP.out.2.2.2.1,HP.out.2.2.2.2.1,HP.out.2.2.2.2.2.1,HP.out.2.2.2.2.2.2⟩)
     match j with
     | 0 | 1 | 2=>exact h
     | 3=>exact λh=>by cases h
     | 4=>exact absurd rfl hj
     | _+5=>exact trivial
   .intro v wz hS hF;have e0:v 0=_:=hF 0 (by decide)
    have e1:v 1=_:=hF 1 (by decide)
    have e2:v 2=_:=hF 2 (by decide)
    have E3:=hF 3 (by decide)
    have E4:=hF 4 (by decide)
    simp only[ai,Act.put,eh,ek,ep,Nat.zero_add,Nat.reduceAdd,cP,cQ,List.drop_succ_cons,List.drop_zero,e0,e1,e2];clear hF e0 e1 e2;obtain ⟨b',y,nW,u1,u2,ev,aL,bM,hu1,uy,Cq,je,dO,eX,hK'⟩:=E4 rfl;rw[ev];obtain ⟨Au1,cu1,rfl,VY⟩:=hu1.1.form;obtain ⟨Au2,VZ,rfl,V2⟩:=uy.1.form;have xF:=EM.out.out (x':=lV xo y) aL bM hu1 uy kN;have PV:=HI.out.jl YH.out Cq je eX (λl hl=>by have:=hK' l hl;have:=HKX.out.2;omega) dO
    have HP2:=Lib.hid bM;have GK:=Lib.hid PV;have tu:=Lib.hid xF;have hz2:=(HP2.out.blk _ l2 n2).trans EM.out.n2;obtain ⟨q0,q1,q2⟩:=aR hz2;have f0:wz.frozen? ⟨w.heap.size+1+1,0,none⟩=false:=by simp[World.frozen?,hz2]
    have f1:wz.frozen? ⟨w.heap.size+1+1,1,none⟩=false:=by simp[World.frozen?,hz2]
    have f2:wz.frozen? ⟨w.heap.size+1+1,2,none⟩=false:=by simp[World.frozen?,hz2]
    clear hS E3 E4 ev aL bM hu1 uy Cq je dO eX hK' PV xF hz2 o0 o1 o2 eU;go_wp2_with fail;go_roundw
    case rel=>
     exact ⟨k+1,_,_,_,_,_,by omega,by go_num,tu,GK⟩
    case measure=>simp[intOf];omega
  .obtain rfl:k=n:=by omega
   have kN:w0.heap.size<=w.heap.size:=pj;obtain ⟨D7,D8,rfl,-⟩:=HM.out.o1.1.form;obtain ⟨D9,Ea,rfl,-⟩:=HM.out.o2.1.form;have wU:=HM.out.sz;obtain ⟨y0,y1,y2⟩:=aR HM.out.n1;obtain ⟨q0,q1,q2⟩:=aR HM.out.n2;have fy0:wr.frozen? ⟨w.heap.size+1,0,none⟩=false:=by simp[World.frozen?,HM.out.n1]
   have fy1:wr.frozen? ⟨w.heap.size+1,1,none⟩=false:=by simp[World.frozen?,HM.out.n1]
   have fy2:wr.frozen? ⟨w.heap.size+1,2,none⟩=false:=by simp[World.frozen?,HM.out.n1]
   go_wp2_with fail;refine ar λWf cH=>?_;have Bd:wr.grownBy Wf (some (w.heap.size+1)):=by
    rw[cH];repeat (first | exact fh _ _ | refine fj ?_ _ | refine dS ?_ _ _ | refine ig ?_)
   obtain ⟨t1,t2,t3,t4⟩:=HM.out.fin kN Bd;have dk:=HI.out;rw[List.take_of_length_le (by rw[List.length_cons,HN.out.1];exact Nat.le_refl _),HN.out.2.1,HN.out.2.2]at dk
   refine bodyPost_ret (v:=.agg #[.slice D7 xo.first.length D8, .slice D9 xo.last.length Ea, .bool xo.emp]) (by rw[cH];simp[results,Tryz.results135,go_sem,y0,y1,y2,q0,q1,q2];try rfl) rfl ?_
   have hwr:=dk.wr;rw[<-HN.out.1]at hwr;exact ⟨bi,xo,dZ,_,_,rfl,t1,t2,t3,t4,hwr,dk.fl,dk.ne.resolve_left (by omega),dk.ln,dk.bd⟩
end
section
set_option linter.unusedVariables false
set_option linter.unusedSimpArgs false
open Go.RowKit
theorem KM {rs:List (Nat×Nat)} {kids:List Nd} {mn mx:Int} (hR:aE (.mk 1 rs kids mn mx)=true):kids=[]/\fN rs=true:=by
 have h:=((iY _).1 hR).1;simp only[dr,if_true,Bool.and_eq_true]at h;exact ⟨by simpa using h.2.2.1,h.2.1⟩
theorem Jb (w0:World) (s:Nat) (x2 x3 x4:Value):∀(m:Nat) (nd:Nd) (vs:List Value),aC nd<=m->aE nd=true->aK nd<=600->bX w0 nd vs->jG w0 s x2 x3 x4 nd vs:=by
 intro m
 induction m with
 | zero=>intro nd vs h;cases nd;rw[aC]at h;omega
 | succ m ih=>
  rintro ⟨op,rs,kids,mn,mx⟩ vs hm hR hp hn;obtain ⟨pD,xO⟩:=dW hR;rw[aC]at hm;obtain ⟨A1,c1,A2,c2,rfl,hr,sV,hk⟩:=hn.form;simp only[Nd.op,Nd.rs,Nd.kids,Nd.mn,Nd.mx]at hr sV hk|-;have xd:∀kd∈kids,aK kd<=600->∀qb,bX w0 kd qb->jG w0 s x2 x3 x4 kd qb:=λkd cR Cp qb hn=>ih kd qb (by have:=aX cR;omega) (aU xO cR) Cp hn
  rcases pD with rfl | rfl | rfl | ⟨rfl,gY,GQ,tY,zu⟩
  .obtain ⟨rfl,Gc⟩:=KM hR;exact KL w0 s x2 x3 x4 rs mn mx _ hn Gc
  .have h2:=nJ hR (.inl rfl);rcases hk with rfl | ⟨g,f,rfl,hg,cR⟩
   .simp at h2
   .have ru:=jz (.inl rfl) hp;exact KG w0 s x2 x3 x4 rs kids mn mx A1 c1 g f c2 hR hp hg sV cR λkd h qb hn=>xd kd h (by have:=kh h;omega) qb hn
  .have h2:=nJ hR (.inr rfl);rcases hk with rfl | ⟨g,f,rfl,hg,cR⟩
   .simp at h2
   .have ru:=jz (.inr rfl) hp
    cases kids with
    | nil=>simp at h2
    | cons a r=>exact AW w0 s x2 x3 x4 rs a r mn mx A1 c1 g f c2 hR hp hg sV cR λkd h qb hn=>xd kd h (by have:=kh h;omega) qb hn
  .rcases hk with rfl | ⟨g,f,rfl,hg,cR⟩
   .simp at gY
   .match kids,gY with
    | [a],_=>
     obtain ⟨⟨qb,lC,T3⟩,-⟩:=cR;have ru:=tk hp;have PZ:aK a<=600:=by
      have h1:1*aK a<=mx.toNat*aK a:=Nat.mul_le_mul_right _ (by omega)
      have h2:zv [a]=aK a:=rfl;rw[h2]at ru;omega
     exact KF w0 s x2 x3 x4 rs a mn mx A1 c1 g f c2 qb hR hp hg sV T3 lC (xd a (by simp) PZ qb T3)
end
end Go.Proofs.YtdmoogjddmdmbaaGreatDoor
