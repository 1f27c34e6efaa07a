/- The memory of the subsets of a compile: groups of positions and their numbers. · Walks: a set written out. · Walks: a pattern written out. · Walks: a sequence written out. · Walks: a choice written out. · Walks: any pattern that is right written out. · ref05's parser at one text: times, atom. · ref05's parser at one text: item. · ref05's parser at one text: seq, choice. · ref05: Valid and Text at the node of a{1,2}. · Several blocks that are made one behind the other. -/
import Derived.Test.YtdmoogjddmdmbaaGreatDoorY12
import Derived.Test.YtdmoogjddmdmbaaGreatDoorY02
import Derived.Test.YtdmoogjddmdmbaaGreatDoorY13
namespace Go.Proofs.YtdmoogjddmdmbaaGreatDoor
set_option linter.unusedVariables false
set_option linter.unusedSimpArgs false
set_option maxRecDepth 100000
open Go.RowKit
open Go.Maps (Keyed)
def idxV (gs:List (List Nat)) (l:List Nat):Option Value:=if l∈gs then some (.int .i64 ((gs.idxOf l:Nat):Int)) else none
def SaysG (F:Lit->Option Value) (gs:List (List Nat)):Prop:=∀l,F (.string (nameG l))=idxV gs l
theorem SaysG.put {F:Lit->Option Value} {gs:List (List Nat)} (h:SaysG F gs) (l:List Nat) (hl:l∉gs) (n:Int) (hn:n=(gs.length:Int)):SaysG (updV F (.string (nameG l)) (some (.int .i64 n))) (gs++[l]):=by
 intro x;subst hn;unfold updV;by_cases e:x=l
 .subst e;rw[if_pos (by simp[Lit.sameKey])]
  unfold idxV;rw[if_pos (by simp),List.idxOf_append,if_neg hl]
  simp
 .rw[if_neg (by simp only[Lit.sameKey,beq_iff_eq];exact λh=>e (nameG_inj h)),h x]
  unfold idxV;by_cases hx:x∈gs
  .rw[if_pos hx,if_pos (by simp[hx]),List.idxOf_append,if_pos hx]
  .rw[if_neg hx,if_neg (by simp[hx,e])]
def TI (w:World) (v:Value):Prop:=∀g,v.ownBlock=some g->∃cs m,w.heap[g]?=some (.cells cs 3 m)
theorem TI.keep {fp fp':List Nat} {w w':World} {v:Value} (h:TI w v) (ho:outOf fp v) (hk:KeepF fp fp' w w'):TI w' v:=λg hg=>by
 obtain ⟨cs,m,e⟩:=h g hg;exact ⟨cs,m,(hk.blk g (Array.getElem?_eq_some_iff.1 e).1 (ho g hg)).trans e⟩
theorem TI.later {w w':World} {v:Value} (h:TI w v) (hb:Below w.heap.size w w'):TI w' v:=h.keep (fp:=[]) (fp':=[]) (λ_ _ h=>by cases h) (KeepF.of_below hb)
theorem TI.of_own {w:World} {B:Nat} {k:Nat} {v:Value} {n:Nat} {xs:List Value} (h:w.ownsRow B 3 k v n xs):TI w v:=λg hg=>by
 rcases h.2 with ⟨h1,-⟩ | ⟨g',cap,cur,h1,-,hg',-⟩
 .subst h1;simp[Value.ownBlock]at hg
 .subst h1;simp[Value.ownBlock]at hg;subst hg;exact ⟨_,_,hg'⟩
theorem TI.nil (w:World):TI w (.slice none 0 0):=λg hg=>by simp[Value.ownBlock]at hg
theorem TI.ne {w:World} {v u:Value} (h:TI w v) {B k n:Nat} {e:TypeId} {xs:List Value} (hu:w.ownsRow B e k u n xs) (he:e≠3):∀g,v.ownBlock=some g->u.ownBlock≠some g:=λg hg hug=>by
 obtain ⟨cs,m,h1⟩:=h g hg;rcases hu.2 with ⟨h2,-⟩ | ⟨g',cap,cur,h2,-,hg',-⟩
 .subst h2;simp[Value.ownBlock]at hug
 .subst h2;simp[Value.ownBlock]at hug;subst hug;rw[hg']at h1;injection h1 with h1;injection h1 with _ h3 _;exact he h3
def fpG (s mb:Nat) (vg:Value):List Nat:=s::mb::blk vg
structure SbS (B s mb:Nat) (v0 v1 v2:Value) (gs:List (List Nat)) (vg:Value) (gv:List Value) (F:Lit->Option Value) (w:World):Prop where
 ne:s≠mb/\vg.ownBlock≠some s/\vg.ownBlock≠some mb
 hs:B<=s/\B<=mb/\B<=w.heap.size
 cs:w.heap[s]?=some (.cells #[v0,v1,v2, .map (some mb),vg] 182 (0,0))
 mv:MV Tryz.prog 9 mb gs.length F w
 says:SaysG F gs
 own:w.ownsRow B 22 1 vg gs.length gv
 gvs:∀i (h:i<gs.length),∃v,gv[i]?=some v/\IL w v gs[i]/\outOf (fpG s mb vg) v/\TI w v
def SbI (B s mb:Nat) (v0 v1 v2:Value) (gs:List (List Nat)) (fp:List Nat) (w:World):Prop:=∃vg gv F,fp=fpG s mb vg/\SbS B s mb v0 v1 v2 gs vg gv F w
section
variable {B s mb:Nat} {v0 v1 v2:Value} {gs:List (List Nat)} {vg:Value} {gv:List Value} {F:Lit->Option Value} {w w':World} {fp:List Nat}
theorem SbS.lt (h:SbS B s mb v0 v1 v2 gs vg gv F w):∀k∈fpG s mb vg,B<=k/\k<w.heap.size:=by
 intro k hk;unfold fpG at hk;rcases List.mem_cons.1 hk with rfl | hk
 .exact ⟨h.hs.1,(Array.getElem?_eq_some_iff.1 h.cs).1⟩
 .rcases List.mem_cons.1 hk with rfl | hk
  .exact ⟨h.hs.2.1,h.mv.lt⟩
  .exact h.own.lt k (mem_blk.1 hk)
theorem SbI.lt (h:SbI B s mb v0 v1 v2 gs fp w):∀k∈fp,B<=k/\k<w.heap.size:=by
 obtain ⟨vg,gv,F,rfl,h⟩:=h;exact h.lt
theorem SbS.same (h:SbS B s mb v0 v1 v2 gs vg gv F w) (hk:∀k∈fpG s mb vg,w'.heap[k]?=w.heap[k]?) (hz:w.heap.size<=w'.heap.size) (hil:∀v l,IL w v l->outOf (fpG s mb vg) v->TI w v->IL w' v l/\TI w' v):SbS B s mb v0 v1 v2 gs vg gv F w':=by
 refine ⟨h.ne,⟨h.hs.1,h.hs.2.1,Nat.le_trans h.hs.2.2 hz⟩,(hk s (by simp[fpG])).trans h.cs,h.mv.kept (hk mb (by simp[fpG])),h.says,own_same h.own λg hg=>hk g (by simp[fpG,mem_blk,hg]),λi hi=>?_⟩
 obtain ⟨v,h1,h2,h3,h4⟩:=h.gvs i hi;exact ⟨v,h1,(hil v _ h2 h3 h4).1,h3,(hil v _ h2 h3 h4).2⟩
theorem SbI.later (h:SbI B s mb v0 v1 v2 gs fp w) (hb:Below w.heap.size w w'):SbI B s mb v0 v1 v2 gs fp w':=by
 obtain ⟨vg,gv,F,rfl,h⟩:=h;exact ⟨vg,gv,F,rfl,h.same (λk hk=>hb.block k (h.lt k hk).2) hb.size λv l hi _ ht=>⟨hi.later hb,ht.later hb⟩⟩
end
theorem SbS.add {B s mb:Nat} {v0 v1 v2:Value} {gs:List (List Nat)} {vg:Value} {gv:List Value} {F:Lit->Option Value} {w w1 w2 w3:World} (h:SbS B s mb v0 v1 v2 gs vg gv F w) {l:List Nat} {v vg':Value} (hv:IL w v l) (ho:outOf (fpG s mb vg) v) (ht:TI w v) (hl:l∉gs)
  {n:Int} (hn:n=(gs.length:Int)) (hg1:w.grownBy w1 (some mb)) (hm:MV Tryz.prog 9 mb (gs.length+1) (updV F (.string (nameG l)) (some (.int .i64 n))) w1)
  (hb:Below w1.heap.size w1 w2) (hg2:w2.grownBy w3 vg.ownBlock) (hown:w3.ownsRow B 22 1 vg' (gs.length+1) (gv++[v])) (hf:vg'.ownBlock=vg.ownBlock\/∃g,vg'.ownBlock=some g/\w2.heap.size<=g) :
  SbI B s mb v0 v1 v2 (gs++[l]) (fpG s mb vg') (w3.setCell ⟨s,4,none⟩ vg')/\KeepF (fpG s mb vg) (fpG s mb vg') w (w3.setCell ⟨s,4,none⟩ vg'):=by
 obtain ⟨n1,n2,n3⟩:=h.ne;have hlt:=h.lt;have hls:s<w.heap.size:=(hlt s (by simp[fpG])).2
 have hlm:mb<w.heap.size:=(hlt mb (by simp[fpG])).2
 have z1:=hg1.size;have z2:=hb.size;have z3:=hg2.size;have hz3:(w3.setCell ⟨s,4,none⟩ vg').heap.size=w3.heap.size:=by simp[World.setCell]
 have hblk:∀k,k<w.heap.size->k∉fpG s mb vg->(w3.setCell ⟨s,4,none⟩ vg').heap[k]?=w.heap[k]?:=λk hk hn=>by
  unfold fpG at hn;simp only[List.mem_cons,not_or,mem_blk]at hn;rw[Below.heap_setCell _ _ _ _ hn.1,hg2.block k (by omega) (λe=>hn.2.2 e.symm),hb.block k (by omega),hg1.block k hk (λe=>hn.2.1 (by injection e))]
 have hnew:∀g,vg'.ownBlock=some g->vg.ownBlock=some g\/w.heap.size<=g:=λg hg=>by
  rcases hf with hf | ⟨g',hf,hg'⟩
  .left;rw[<-hf];exact hg
  .right;rw[hf]at hg;injection hg with hg;omega
 have hkf:KeepF (fpG s mb vg) (fpG s mb vg') w (w3.setCell ⟨s,4,none⟩ vg'):=by
  refine ⟨hg2.os.trans (hb.os.trans hg1.os),hg2.tape.trans (hb.tape.trans hg1.tape),hg2.output.trans (hb.output.trans hg1.output),by rw[hz3];omega,hblk,λk hk=>?_⟩
  unfold fpG at hk|-;simp only[List.mem_cons,mem_blk]at hk|-;rcases hk with hk | hk | hk
  .exact .inl (.inl hk)
  .exact .inl (.inr (.inl hk))
  .exact (hnew k hk).imp (λh=>.inr (.inr h)) id
 have hns:vg'.ownBlock≠some s:=λe=>(hnew s e).elim n2 λh=>by omega
 have hnm:vg'.ownBlock≠some mb:=λe=>(hnew mb e).elim n3 λh=>by omega
 refine ⟨⟨vg',gv++[v],_,rfl,⟨n1,hns,hnm⟩,⟨h.hs.1,h.hs.2.1,by rw[hz3];have:=h.hs.2.2;omega⟩,?_,?_,h.says.put l hl n hn,?_,λi hi=>?_⟩,hkf⟩
 .have e1:w3.heap[s]?=some (.cells #[v0,v1,v2, .map (some mb),vg] 182 (0,0)):=by
   rw[hg2.block s (by omega) (λe=>n2 e.symm),hb.block s (by omega),hg1.block s hls (λe=>n1 (by injection e)),h.cs]
  have:=set_row3 e1 4 vg';simpa using this
 .rw[List.length_append];exact hm.kept (by rw[Below.heap_setCell _ _ _ _ (λe=>n1 e.symm),hg2.block mb (by omega) (λe=>n3 e.symm),hb.block mb (by omega)])
 .rw[List.length_append];exact own_same hown λg hg=>Below.heap_setCell _ _ _ _ (λe=>hns (by rw[hg,e]))
 .rw[List.length_append,List.length_singleton]at hi;have hgl:gv.length=gs.length:=by have:=h.own.1;omega
  by_cases hil:i<gs.length
  .obtain ⟨u,u1,u2,u3,u4⟩:=h.gvs i hil;obtain ⟨k1,k2⟩:=u2.keep u3 hkf;refine ⟨u,by rw[List.getElem?_append_left (by omega)];exact u1,?_,k2,u4.keep u3 hkf⟩
   rw[List.getElem_append_left hil];exact k1
  .have:i=gs.length:=by omega
   subst this;obtain ⟨k1,k2⟩:=hv.keep ho hkf;refine ⟨v,by rw[<-hgl];simp,?_,k2,ht.keep ho hkf⟩
   rw[List.getElem_append_right (Nat.le_refl _)];simpa using k1
theorem SbI.cells {B s mb:Nat} {v0 v1 v2:Value} {gs:List (List Nat)} {fp:List Nat} {w:World} (h:SbI B s mb v0 v1 v2 gs fp w):s<w.heap.size/\w.cell? ⟨s,0,none⟩=some v0/\w.cell? ⟨s,1,none⟩=some v1/\w.cell? ⟨s,2,none⟩=some v2:=by
 obtain ⟨vg,gv,F,rfl,h⟩:=h;refine ⟨(Array.getElem?_eq_some_iff.1 h.cs).1,?_,?_,?_⟩ <;> (rw[cell_of_row _ _ _ _ _ _ h.cs]; rfl)
theorem SbI.grown {B s mb:Nat} {v0 v1 v2:Value} {gs:List (List Nat)} {fp:List Nat} {w w':World} (h:SbI B s mb v0 v1 v2 gs fp w) {B1 k n:Nat} {e:TypeId} {u:Value} {xs:List Value} (hu:w.ownsRow B1 e k u n xs) (he:e≠3) (ho:outOf fp u) (hg:w.grownBy w' u.ownBlock):SbI B s mb v0 v1 v2 gs fp w':=by
 obtain ⟨vg,gv,F,rfl,h⟩:=h;refine ⟨vg,gv,F,rfl,h.same (λk hk=>hg.block k (h.lt k hk).2 λe=>ho k e.symm hk) hg.size λv l hi _ ht=>?_⟩;have hn:=ht.ne hu he;refine ⟨?_,λg hgv=>?_⟩
 .rcases hi with hi | ⟨g,f,c,rfl,h0,hg',hc,hcell⟩
  .exact .inl hi
  .exact .inr ⟨g,f,c,rfl,h0,Nat.lt_of_lt_of_le hg' hg.size,hc,λi hi=>(World.cell?_of_block (a:=⟨g,f+i,none⟩) (hg.block g hg' λe=>hn g rfl e.symm)).trans (hcell i hi)⟩
 .obtain ⟨cs,m,e1⟩:=ht g hgv;exact ⟨cs,m,(hg.block g (Array.getElem?_eq_some_iff.1 e1).1 λe=>hn g hgv e.symm).trans e1⟩
theorem KeepF.grown {fp fp':List Nat} {w w1 w':World} {r:Option Nat} (hk:KeepF fp fp' w w1) (hg:w1.grownBy w' r) (hr:∀g,r=some g->w.heap.size<=g):KeepF fp fp' w w':=
 ⟨hg.os.trans hk.os,hg.tape.trans hk.tape,hg.output.trans hk.output,Nat.le_trans hk.size hg.size,λk h1 h2=>(hg.block k (Nat.lt_of_lt_of_le h1 hk.size) λe=>by have:=hr k e.symm;omega).trans (hk.blk k h1 h2),hk.new⟩
end Go.Proofs.YtdmoogjddmdmbaaGreatDoor
namespace Go.Proofs.YtdmoogjddmdmbaaGreatDoor
set_option linter.unusedVariables false
set_option linter.unusedSimpArgs false
set_option maxRecDepth 100000
open Go.RowKit
def StW6 (s:Nat) (vs vf:Value) (W:World) (c:Nat) (w':World):Prop:=KeepF (s::(blk vs++blk vf)) [] W w'/\(c<=2->w'.heap[s]?=W.heap[s]?)/\(c<=1->∀g,vf.ownBlock=some g->w'.heap[g]?=W.heap[g]?)/\(c=0->Below W.heap.size W w')
theorem kf_of_gb {L:List Nat} {a b:World} {v:Value} (h:a.grownBy b v.ownBlock) (hL:∀g,v.ownBlock=some g->g∈L):KeepF L [] a b:=
 ⟨h.os,h.tape,h.output,h.size,λk hk hn=>h.block k hk (λe=>hn (hL k e.symm)),λk hk=>by cases hk⟩
theorem KeepF.tr {L:List Nat} {a b c:World} (h:KeepF L [] a b) (k:KeepF L [] b c):KeepF L [] a c:=
 ⟨k.os.trans h.os,k.tape.trans h.tape,k.output.trans h.output,Nat.le_trans h.size k.size,λi hi hn=>(k.blk i (Nat.lt_of_lt_of_le hi h.size) hn).trans (h.blk i hi hn),λk hk=>by cases hk⟩
def factW6 (N s B0 nr c1 nS cS nF cF:Nat) (A1 As Af:Option Addr) (x2 x3 x4:Value) (sv rows:List Value) (W:World):Nat->Nat->Value->World->Prop
 | c,0,x,w=>x = .pointer (some ⟨s,0,none⟩)
 | c,1,x,w=>x = .pointer (some ⟨s,0,none⟩)
 | c,2,x,w=>x = .pointer (some ⟨s,0,none⟩)
 | c,3,x,w=>x = .pointer (some ⟨s,0,none⟩)
 | c,4,x,w=>x = .pointer (some ⟨s,0,none⟩)
 | c,5,x,w=>x = .slice As nS cS
 | c,6,x,w=>x = .pointer (some ⟨N,1,none⟩)
 | c,7,x,w=>x = .slice A1 nr c1
 | c,8,x,w=>∃g,x = .slice (some ⟨g,0,none⟩) 1 1/\W.heap.size<=g/\g<w.heap.size/\w.cell? ⟨g,0,none⟩=some (.slice A1 nr c1)
 | c,9,x,w=>1<=c->∃A c',x = .slice A (nS+1) c'/\w.ownsRow B0 38 1 x (nS+1) (sv++[.slice A1 nr c1])/\Fresh x (.slice As nS cS) W.heap.size
 | c,10,x,w=>x = .pointer (some ⟨s,0,none⟩)
 | c,11,x,w=>x = .pointer (some ⟨s,0,none⟩)
 | c,12,x,w=>x = .pointer (some ⟨s,1,none⟩)
 | c,13,x,w=>x = .slice Af nF cF
 | c,14,x,w=>∃g,x = .slice (some ⟨g,0,none⟩) 1 1/\W.heap.size<=g/\g<w.heap.size/\w.cell? ⟨g,0,none⟩=some (.slice none 0 0)
 | c,15,x,w=>2<=c->∃A c',x = .slice A (nF+1) c'/\w.ownsRow B0 22 1 x (nF+1) (rows++[.slice none 0 0])/\Fresh x (.slice Af nF cF) W.heap.size
 | c,16,x,w=>x = .pointer (some ⟨s,0,none⟩)
 | c,17,x,w=>x = .pointer (some ⟨s,0,none⟩)
 | c,18,x,w=>3<=c->∃A c',w.ownsRow B0 38 1 (.slice A (nS+1) c') (nS+1) (sv++[.slice A1 nr c1])/\Fresh (.slice A (nS+1) c') (.slice As nS cS) W.heap.size/\w.heap[s]?=some (.cells #[.slice A (nS+1) c', .slice Af nF cF,x2,x3,x4] 182 (0,0))
 | c,19,x,w=>x = .pointer (some ⟨s,0,none⟩)
 | c,20,x,w=>x = .pointer (some ⟨s,1,none⟩)
 | _,_,_,_=>True
section
variable {s:Nat} {vs vf:Value} {W w' w'':World} {c:Nat}
theorem StW6.later (h:StW6 s vs vf W c w') (hs:s<W.heap.size:=by assumption) (hf:∀g,vf.ownBlock=some g->g<W.heap.size:=by assumption) (hb:Below w'.heap.size w' w''):StW6 s vs vf W c w'':=by
 have hz:=h.1.size;exact ⟨h.1.tr (KeepF.of_below hb).weak,λhc=>(hb.block s (by omega)).trans (h.2.1 hc),λhc g hg=>(hb.block g (by have:=hf g hg;omega)).trans (h.2.2.1 hc g hg),λhc=>(h.2.2.2 hc).trans (hb.mono hz)⟩
theorem StW6.s1 (h:StW6 s vs vf W 0 w') (hs:s<W.heap.size) (hg:w'.grownBy w'' vs.ownBlock) (hn:vs.ownBlock≠some s) (hf:∀g,vf.ownBlock=some g->vs.ownBlock≠some g/\g<W.heap.size):StW6 s vs vf W 1 w'':=by
 have hz:=h.1.size;exact ⟨h.1.tr (kf_of_gb hg λg hg=>by simp[mem_blk,hg]),λ_=>(hg.block s (by omega) (λe=>hn e.symm)).trans (h.2.1 (by decide)),λ_ g hgf=>(hg.block g (by have:=(hf g hgf).2;omega) (λe=>(hf g hgf).1 e.symm)).trans (h.2.2.1 (by decide) g hgf),λh=>by cases h⟩
theorem StW6.s2 (h:StW6 s vs vf W 1 w') (hs:s<W.heap.size) (hg:w'.grownBy w'' vf.ownBlock) (hn:vf.ownBlock≠some s):StW6 s vs vf W 2 w'':=by
 have hz:=h.1.size;exact ⟨h.1.tr (kf_of_gb hg λg hg=>by simp[mem_blk,hg]),λ_=>(hg.block s (by omega) (λe=>hn e.symm)).trans (h.2.1 (by decide)),λh=>by omega,λh=>by cases h⟩
theorem StW6.s3 (h:StW6 s vs vf W 2 w') (v:Value):StW6 s vs vf W 3 (w'.setCell ⟨s,0,none⟩ v):=
 ⟨h.1.tr ⟨rfl,rfl,rfl,by simp[World.setCell],λk _ hn=>Below.heap_setCell _ _ _ _ (λe=>hn (by rw[e];simp)),λk hk=>by cases hk⟩,λh=>by omega,λh=>by omega,λh=>by cases h⟩
end
section
variable {N s B0 nr c1 nS cS nF cF:Nat} {A1 As Af:Option Addr} {x2 x3 x4:Value} {sv rows:List Value} {W u u':World}
theorem factW6_bl (hb:Below u.heap.size u u') {c j:Nat} {x:Value} (h:factW6 N s B0 nr c1 nS cS nF cF A1 As Af x2 x3 x4 sv rows W c j x u):factW6 N s B0 nr c1 nS cS nF cF A1 As Af x2 x3 x4 sv rows W c j x u':=by
 match j with
 | 0 | 1 | 2 | 3 | 4 | 5 | 6 | 7 | 10 | 11 | 12 | 13 | 16 | 17 | 19 | 20=>exact h
 | 8 | 14=>
  obtain ⟨g,e,h1,hg,h0⟩:=h;exact ⟨g,e,h1,Nat.lt_of_lt_of_le hg hb.size,(hb.cell (p:=⟨g,0,none⟩) hg).trans h0⟩
 | 9 | 15=>
  intro hc;obtain ⟨A,c',e,ho,hf⟩:=h hc;exact ⟨A,c',e,own_later ho hb,hf⟩
 | 18=>
  intro hc;obtain ⟨A,c',ho,hf,hr⟩:=h hc;exact ⟨A,c',own_later ho hb,hf,(hb.block _ (Array.getElem?_eq_some_iff.1 hr).1).trans hr⟩
 | _+21=>exact trivial
theorem f814 {v:Value} (hg:u.grownBy u' v.ownBlock) (hv:∀g,v.ownBlock=some g->g<W.heap.size) {x z:Value} (h:∃g,x = .slice (some ⟨g,0,none⟩) 1 1/\W.heap.size<=g/\g<u.heap.size/\u.cell? ⟨g,0,none⟩=some z):∃g,x = .slice (some ⟨g,0,none⟩) 1 1/\W.heap.size<=g/\g<u'.heap.size/\u'.cell? ⟨g,0,none⟩=some z:=by
 obtain ⟨g,e,h1,h2,h3⟩:=h;exact ⟨g,e,h1,Nat.lt_of_lt_of_le h2 hg.size,(World.cell?_of_block (a:=⟨g,0,none⟩) (hg.block g h2 (λe=>by have:=hv g e.symm;omega))).trans h3⟩
theorem factW6_01 (hg:u.grownBy u' (Value.slice As nS cS).ownBlock) (hv:∀g,(Value.slice As nS cS).ownBlock=some g->g<W.heap.size) (j:Nat) (x:Value) (hj:j≠9) (h:factW6 N s B0 nr c1 nS cS nF cF A1 As Af x2 x3 x4 sv rows W 0 j x u):factW6 N s B0 nr c1 nS cS nF cF A1 As Af x2 x3 x4 sv rows W 1 j x u':=by
 match j with
 | 0 | 1 | 2 | 3 | 4 | 5 | 6 | 7 | 10 | 11 | 12 | 13 | 16 | 17 | 19 | 20=>exact h
 | 8 | 14=>exact f814 hg hv h
 | 9=>exact absurd rfl hj
 | 15 | 18=>exact λhc=>by omega
 | _+21=>exact trivial
theorem factW6_12 (hg:u.grownBy u' (Value.slice Af nF cF).ownBlock) (hv:∀g,(Value.slice Af nF cF).ownBlock=some g->g<W.heap.size) (hd:∀g,(Value.slice Af nF cF).ownBlock=some g->(Value.slice As nS cS).ownBlock≠some g) (j:Nat) (x:Value) (hj:j≠15) (h:factW6 N s B0 nr c1 nS cS nF cF A1 As Af x2 x3 x4 sv rows W 1 j x u):factW6 N s B0 nr c1 nS cS nF cF A1 As Af x2 x3 x4 sv rows W 2 j x u':=by
 match j with
 | 0 | 1 | 2 | 3 | 4 | 5 | 6 | 7 | 10 | 11 | 12 | 13 | 16 | 17 | 19 | 20=>exact h
 | 8 | 14=>exact f814 hg hv h
 | 9=>
  intro _;obtain ⟨A,c',e,ho,hf⟩:=h (by decide)
  refine ⟨A,c',e,own_same ho λg hgx=>hg.block g (ho.lt g hgx).2 (λe2=>?_),hf⟩;rcases hf with hf | ⟨g',hf,h2⟩
  .rw[hf]at hgx;exact hd g e2.symm hgx
  .rw[hf]at hgx;injection hgx with hgx;have:=hv g e2.symm;omega
 | 15=>exact absurd rfl hj
 | 18=>exact λhc=>by omega
 | _+21=>exact trivial
theorem factW6_23 (hs:s<W.heap.size) (hsS:(Value.slice As nS cS).ownBlock≠some s) (hsF:(Value.slice Af nF cF).ownBlock≠some s) (v:Value) (j:Nat) (x:Value) (hj:j≠18) (h:factW6 N s B0 nr c1 nS cS nF cF A1 As Af x2 x3 x4 sv rows W 2 j x u):factW6 N s B0 nr c1 nS cS nF cF A1 As Af x2 x3 x4 sv rows W 3 j x (u.setCell ⟨s,0,none⟩ v):=by
 have hset:∀k,k≠s->(u.setCell ⟨s,0,none⟩ v).heap[k]?=u.heap[k]?:=λk hk=>Below.heap_setCell _ _ _ _ hk
 match j with
 | 0 | 1 | 2 | 3 | 4 | 5 | 6 | 7 | 10 | 11 | 12 | 13 | 16 | 17 | 19 | 20=>exact h
 | 8 | 14=>
  obtain ⟨g,e,h1,h2,h3⟩:=h;exact ⟨g,e,h1,by simpa [World.setCell] using h2,(World.cell?_of_block (a:=⟨g,0,none⟩) (hset g (by omega))).trans h3⟩
 | 9=>
  intro _;obtain ⟨A,c',e,ho,hf⟩:=h (by decide)
  refine ⟨A,c',e,own_same ho λg hgx=>hset g (λe2=>?_),hf⟩;subst e2;rcases hf with hf | ⟨g',hf,h2⟩
  .rw[hf]at hgx;exact hsS hgx
  .rw[hf]at hgx;injection hgx with hgx;omega
 | 15=>
  intro _;obtain ⟨A,c',e,ho,hf⟩:=h (by decide)
  refine ⟨A,c',e,own_same ho λg hgx=>hset g (λe2=>?_),hf⟩;subst e2;rcases hf with hf | ⟨g',hf,h2⟩
  .rw[hf]at hgx;exact hsF hgx
  .rw[hf]at hgx;injection hgx with hgx;omega
 | 18=>exact absurd rfl hj
 | _+21=>exact trivial
end
set_option maxHeartbeats 8000000 in
theorem write_set (w0:World) (s:Nat) (x2 x3 x4:Value) (rs:List (Nat×Nat)) (mn mx:Int) (vs:List Value) (hn:NdIn w0 (.mk 1 rs [] mn mx) vs) (hrs:rngF rs=true):WrCall w0 s x2 x3 x4 (.mk 1 rs [] mn mx) vs:=by
 intro w b fp K hbu hln hrm hK hKK;obtain ⟨A1,c1,A2,c2,rfl,hrg,hc2,-⟩:=hn.form;obtain ⟨Vs,Vf,rows,sv,rfl,hb⟩:=hbu;obtain ⟨As,cS,rfl,hcS1,hcS2⟩:=own_form hb.sets;obtain ⟨Af,cF,rfl,hcF1,hcF2⟩:=own_form hb.fol;obtain ⟨i1,hi1,hj0,hj1,hj2⟩:=info_parts info_rg;obtain ⟨i2,hi2,hk0,hk1,hk2⟩:=info_parts info_li;have hlt:=hb.lt;have hB0:=hb.bel.size;obtain ⟨nS,hnS⟩:∃n,b.sets.length=n:=⟨_,rfl⟩;obtain ⟨nF,hnF⟩:∃n,b.fol.length=n:=⟨_,rfl⟩;obtain ⟨nr,hnr⟩:∃n,rs.length=n:=⟨_,rfl⟩;obtain rfl:nF=nS:=by omega
 have h600:nF<=600:=by omega
 have hsl0:s<w.heap.size:=(hlt s (by simp[fpS])).2
 have hnd:=hb.nd;rw[List.nodup_cons,List.nodup_append]at hnd;obtain ⟨n1,n2,n3,n4⟩:=hnd;rw[List.nodup_append]at n3;obtain ⟨n5,n6,n7⟩:=n3;have hcs0:=hb.cs;have hset0:=hb.sets;have hfol0:=hb.fol;rw[hnS,hnF]at hcs0;rw[hnS]at hset0;rw[hnF]at hfol0;simp only[hnS,hnF]at hlt n1 n2 n4 n5 n7;have hs0:w.cell? ⟨s,0,none⟩=some (.slice As nF cS):=by rw[cell_of_row _ _ _ _ _ _ hcs0];rfl
 have hs1:w.cell? ⟨s,1,none⟩=some (.slice Af nF cF):=by rw[cell_of_row _ _ _ _ _ _ hcs0];rfl
 have HRS:=Lib.hid hrs;clear hrs;have HHB:=Lib.hid hb;have HHK:=Lib.hid hK;have HLN:=Lib.hid (And.intro hnS (And.intro hnF hln));have HRG:Hid (RgIn w0 (.slice A1 rs.length c1) rs):=Lib.hid hrg;have HN:=Lib.hid (And.intro n1 (And.intro n2 (And.intro n4 (And.intro n5 n7))));have HLT:=Lib.hid hlt;have HR0:=Lib.hid (And.intro hcs0 (And.intro hset0 hfol0));show Calls Tryz.prog _ #[_, .agg #[.int .i64 1, .slice A1 rs.length c1, .slice A2 0 c2, .int .i64 mn, .int .i64 mx]] w _;rw[hnr];rw[hnr]at HRG;clear hb hK hrg hn hc2 hrm hKK hnr hlt n1 n2 n4 n5 n6 n7 hcs0 hset0 hfol0 hnS hnF hln;have hsl1:s<w.heap.size+1:=by omega
 have hsl2:s<w.heap.size+1+1:=by omega
 go_enter Tryz.func135,Tryz.ntmps135
 go_wp2_with fail;refine wp_named λW hW=>?_;have hbW:Below w.heap.size w W:=by rw[hW];exact (((Below.refl _ _).alloc (Nat.le_refl _) _).alloc (by simp) _).alloc (by simp;omega) _
 have hzW:W.heap.size=w.heap.size+3:=by rw[hW];simp
 have r0:W.heap[w.heap.size]?=some (.cells #[.int .i64 1, .slice A1 nr c1, .slice A2 0 c2, .int .i64 mn, .int .i64 mx] 41 (0,0)):=by rw[hW,old_alloc _ _ _ (by simp <;> omega),old_alloc _ _ _ (by simp)]; exact heap_alloc_new w _
 have r1:W.heap[w.heap.size+1]?=some (.cells #[.slice none 0 0, .slice none 0 0, .bool false] 184 (0,0)):=by rw[hW,old_alloc _ _ _ (by simp)];simpa using heap_alloc_new (w.alloc _) _
 obtain ⟨b0,b1,b2,b3,b4⟩:=cells5 r0;have hsW:W.heap[s]?=some (.cells #[.slice As nF cS, .slice Af nF cF,x2,x3,x4] 182 (0,0)):=(hbW.block s hsl0).trans HR0.out.1;have HC1:=Lib.hid hsW;have HS1:=Lib.hid (own_later HR0.out.2.1 hbW);have HF1:=Lib.hid (own_later HR0.out.2.2 hbW);have hs0W:W.cell? ⟨s,0,none⟩=some (.slice As nF cS):=by rw[cell_of_row _ _ _ _ _ _ hsW];rfl
 have hs1W:W.cell? ⟨s,1,none⟩=some (.slice Af nF cF):=by rw[cell_of_row _ _ _ _ _ _ hsW];rfl
 have hsl:s<W.heap.size:=by omega
 have l0:w.heap.size<W.heap.size:=by omega
 have hin:∀k∈s::(blk (.slice As nF cS)++blk (.slice Af nF cF)),k<w.heap.size:=λk hk=>by
  simp only[List.mem_cons,List.mem_append]at hk;rcases hk with hk | hk | hk
  .rw[hk];exact hsl0
  .exact (HR0.out.2.1.lt k (mem_blk.1 hk)).2
  .exact (HR0.out.2.2.lt k (mem_blk.1 hk)).2
 have hn0:w.heap.size∉s::(blk (.slice As nF cS)++blk (.slice Af nF cF)):=λhm=>by have:=hin _ hm;omega
 have hn1:w.heap.size+1∉s::(blk (.slice As nF cS)++blk (.slice Af nF cF)):=λhm=>by have:=hin _ hm;omega
 have hne:(∀g,(Value.slice As nF cS).ownBlock=some g->g<W.heap.size)/\(∀g,(Value.slice Af nF cF).ownBlock=some g->g<W.heap.size)/\(∀g,(Value.slice Af nF cF).ownBlock=some g->(Value.slice As nF cS).ownBlock≠some g)/\(Value.slice As nF cS).ownBlock≠some s/\(Value.slice Af nF cF).ownBlock≠some s/\(∀g,(Value.slice Af nF cF).ownBlock=some g->(Value.slice As nF cS).ownBlock≠some g/\g<W.heap.size):=by
  have hd:∀g,(Value.slice Af nF cF).ownBlock=some g->(Value.slice As nF cS).ownBlock≠some g:=λg hg e=>HN.out.2.2.1 g (mem_blk.2 e) g (List.mem_append_left _ (mem_blk.2 hg)) rfl;have hf:∀g,(Value.slice Af nF cF).ownBlock=some g->g<W.heap.size:=λg hg=>by have:=(HR0.out.2.2.lt g hg).2;omega
  exact ⟨λg hg=>by have:=(HR0.out.2.1.lt g hg).2;omega,hf,hd,λe=>HN.out.1 (List.mem_append_left _ (mem_blk.2 e)),λe=>HN.out.1 (List.mem_append_right _ (List.mem_append_left _ (mem_blk.2 e))),λg hg=>⟨hd g hg,hf g hg⟩⟩
 have HNE:=Lib.hid hne;have hS0:StW6 s (.slice As nF cS) (.slice Af nF cF) W 0 W.drew:=⟨(KeepF.of_below (Below.refl _ _).drew).weak,λ_=>rfl,λ_ _ _=>rfl,λ_=>(Below.refl _ _).drew⟩;have HBW:=Lib.hid hbW;have HR1:=Lib.hid r1;have HN1:=Lib.hid hn1;have HZW:=Lib.hid hzW;clear hW r0 r1 hsW hs0 hs1 hin hne hbW hn1 hzW;refine wp_region_chain 21 [9,15,18] (factW6 w.heap.size s w0.heap.size nr c1 nF cS nF cF A1 As Af x2 x3 x4 sv rows W) (λc w'=>StW6 s (.slice As nF cS) (.slice Af nF cF) W c w') (by kernel_rfl) (by kernel_rfl) (by kernel_rfl) (by kernel_rfl) (by kernel_rfl) (by kernel_rfl) (by decide) hS0 ?_ ?_
 .simp only[pq4,pq5];refine HSteps.pure (by decide) ?_ (HSteps.pure (by decide) ?_ (HSteps.pure (by decide) ?_ (HSteps.pure (by decide) ?_ (HSteps.pure (by decide) ?_ (HSteps.pure (by decide) ?_ (HSteps.pure (by decide) ?_ (HSteps.pure (by decide) ?_ (HSteps.free (by decide) ?_ (HSteps.eff 0 rfl ?_ (HSteps.pure (by decide) ?_ (HSteps.pure (by decide) ?_ (HSteps.pure (by decide) ?_ (HSteps.pure (by decide) ?_ (HSteps.free (by decide) ?_ (HSteps.eff 1 rfl ?_ (HSteps.pure (by decide) ?_ (HSteps.pure (by decide) ?_ (HSteps.eff 2 rfl ?_ (HSteps.pure (by decide) ?_ (HSteps.pure (by decide) ?_ (HSteps.nil)))))))))))))))))))))
  all_goals first | (with_reducible intro v wz c hlo hS hE K hK;simp only[putAll,Act.put,pq1,pq2,pq3,Nat.zero_add,Nat.reduceAdd,pq4,pq5]at hK|-) | (intro v wz hS hE K hK;simp only[putAll,Act.put,pq1,pq2,pq3,Nat.zero_add,Nat.reduceAdd,pq4,pq5]at hK|-)
  .have HX:=Lib.hid hS;clear hS hE hlo;go_wp2_with fail;exact hK.out _ rfl
  .have HX:=Lib.hid hS;clear hS hE hlo;go_wp2_with fail;exact hK.out _ rfl
  .have HX:=Lib.hid hS;clear hS hE hlo;go_wp2_with fail;exact hK.out _ rfl
  .have e2:v 2=_:=hE.1 rfl;rw[e2]at hK|-;have HX:=Lib.hid hS;clear hS hE hlo;go_wp2_with fail;exact hK.out _ rfl
  .have e3:v 3=_:=hE.1 rfl;rw[e3]at hK|-;have HX:=Lib.hid hS;clear hS hE hlo;go_wp2_with fail;exact hK.out _ rfl
  .have e4:v 4=_:=hE.1 rfl;rw[e4]at hK|-;have hle:=hlo 2 (by kernel_rfl)
   have c1:=(World.cell?_of_block (a:=⟨s,0,none⟩) (hS.2.1 (by omega))).trans hs0W
   have HX:=Lib.hid hS;clear hS hE hlo;go_wp2_with fail;exact hK.out _ rfl
  .have HX:=Lib.hid hS;clear hS hE hlo;go_wp2_with fail;exact hK.out _ rfl
  .have e6:v 6=_:=hE.1 rfl;rw[e6]at hK|-;have c1:=(World.cell?_of_block (a:=⟨w.heap.size,1,none⟩) (hS.1.blk _ l0 hn0)).trans b1;have HX:=Lib.hid hS;clear hS hE hlo;go_wp2_with fail;exact hK.out _ rfl
  .have e7:v 7=_:=hE.1 rfl;rw[e7]at hK|-;have hbz:Below wz.heap.size wz (wz.alloc (.cells #[.slice A1 nr c1] 38)):=(Below.refl _ _).alloc (Nat.le_refl _) _;have hzW:=hS.1.size;have HX:=Lib.hid hS;have HBZ:=Lib.hid hbz;clear hS hE hlo hbz;go_wp2_with fail;exact hK.out _ _ (λj y _ h=>factW6_bl HBZ.out h) (HX.out.later hsl HNE.out.2.1 HBZ.out) ⟨wz.heap.size,rfl,hzW,by simp,by go_simp⟩
  .have e5:v 5=_:=hE.1 rfl;rw[e5]at hK|-;have E8:=hE.2.1 rfl;obtain ⟨g,e8,hgW,hgl,hg0⟩:=E8;rw[e8]at hK|-;have hz:=hS.2.2.2 rfl;have hown:wz.ownsRow w0.heap.size 38 1 (.slice As nF cS) nF sv:=own_later HS1.out hz;have hzz:=hz.size;have hcell:∀j u,([Value.slice A1 nr c1]:List Value)[j]?=some u->wz.cell? ((⟨g,0,none⟩:Addr).add j)=some u:=λj u hj=>by
    match j,hj with
    | 0,hj=>simp at hj;rw[<-hj,Addr.add_lit];exact hg0
   have HX:=Lib.hid hS;clear hS hE hz;go_wp2_with (at_builtin;refine appI_at rfl _ _ 177 rfl w0.heap.size 38 i1 (.slice none 0 0) 1 24 Tryz.underlying177 hi1 hj0 hj1 hj2 rfl (by decide) _ nF sv rfl hown ⟨g,0,none⟩ 1 1 [.slice A1 nr c1] rfl rfl hcell (by intro u hu;simp at hu;subst hu;rfl) (by unfold maxLen;omega) (by omega) (by omega) ?_)
   intro v' w1 hown1 hg1 hfr;obtain ⟨A',c',rfl,-,-⟩:=own_form hown1;have hfr2:Fresh (.slice A' (nF+1) c') (.slice As nF cS) W.heap.size:=hfr.imp id λ⟨g,h1,h2⟩=>⟨g,h1,Nat.le_trans hzz h2⟩;refine hK.out _ _ (factW6_01 hg1 HNE.out.1) (HX.out.s1 hsl hg1 HNE.out.2.2.2.1 HNE.out.2.2.2.2.2) (λ_=>⟨A',c',rfl,hown1,hfr2⟩)
  .have HX:=Lib.hid hS;clear hS hE hlo;go_wp2_with fail;exact hK.out _ rfl
  .have e10:v 10=_:=hE.1 rfl;rw[e10]at hK|-;have HX:=Lib.hid hS;clear hS hE hlo;go_wp2_with fail;exact hK.out _ rfl
  .have e11:v 11=_:=hE.1 rfl;rw[e11]at hK|-;have HX:=Lib.hid hS;clear hS hE hlo;go_wp2_with fail;exact hK.out _ rfl
  .have e12:v 12=_:=hE.1 rfl;rw[e12]at hK|-;have hle:=hlo 2 (by kernel_rfl)
   have c1:=(World.cell?_of_block (a:=⟨s,1,none⟩) (hS.2.1 (by omega))).trans hs1W
   have HX:=Lib.hid hS;clear hS hE hlo;go_wp2_with fail;exact hK.out _ rfl
  .have hbz:Below wz.heap.size wz (wz.alloc (.cells #[.slice none 0 0] 22)):=(Below.refl _ _).alloc (Nat.le_refl _) _;have hzW:=hS.1.size;have HX:=Lib.hid hS;have HBZ:=Lib.hid hbz;clear hS hE hlo hbz;go_wp2_with fail;exact hK.out _ _ (λj y _ h=>factW6_bl HBZ.out h) (HX.out.later hsl HNE.out.2.1 HBZ.out) ⟨wz.heap.size,rfl,hzW,by simp,by go_simp⟩
  .have e13:v 13=_:=hE.1 rfl;rw[e13]at hK|-;have E14:=hE.2.1 rfl;obtain ⟨g,e14,hgW,hgl,hg0⟩:=E14;rw[e14]at hK|-;have hown:wz.ownsRow w0.heap.size 22 1 (.slice Af nF cF) nF rows:=own_same HF1.out λg hg=>hS.2.2.1 (by decide) g hg
   have hzz:=hS.1.size;have hcell:∀j u,([Value.slice none 0 0]:List Value)[j]?=some u->wz.cell? ((⟨g,0,none⟩:Addr).add j)=some u:=λj u hj=>by
    match j,hj with
    | 0,hj=>simp at hj;rw[<-hj,Addr.add_lit];exact hg0
   have HX:=Lib.hid hS;clear hS hE;go_wp2_with (at_builtin;refine appI_at rfl _ _ 178 rfl w0.heap.size 22 i2 (.slice none 0 0) 1 24 Tryz.underlying178 hi2 hk0 hk1 hk2 rfl (by decide) _ nF rows rfl hown ⟨g,0,none⟩ 1 1 [.slice none 0 0] rfl rfl hcell (by intro u hu;simp at hu;subst hu;rfl) (by unfold maxLen;omega) (by omega) (by omega) ?_)
   intro v' w1 hown1 hg1 hfr;obtain ⟨A',c',rfl,-,-⟩:=own_form hown1;have hfr2:Fresh (.slice A' (nF+1) c') (.slice Af nF cF) W.heap.size:=hfr.imp id λ⟨g,h1,h2⟩=>⟨g,h1,Nat.le_trans hzz h2⟩;refine hK.out _ _ (factW6_12 hg1 HNE.out.2.1 HNE.out.2.2.1) (HX.out.s2 hsl hg1 HNE.out.2.2.2.2.1) (λ_=>⟨A',c',rfl,hown1,hfr2⟩)
  .have e0:v 0=_:=hE.1 rfl;rw[e0]at hK|-;have HX:=Lib.hid hS;clear hS hE hlo;go_wp2_with fail;exact hK.out _ rfl
  .have e16:v 16=_:=hE.1 rfl;rw[e16]at hK|-;have HX:=Lib.hid hS;clear hS hE hlo;go_wp2_with fail;exact hK.out _ rfl
  .have e17:v 17=_:=hE.1 rfl;rw[e17]at hK|-;have E9:=hE.2.1 rfl;obtain ⟨A,c',ev,ho,hfr⟩:=E9 (by decide)
   rw[ev]at hK ho hfr|-;have hrow:=(hS.2.1 (by decide)).trans HC1.out
   have cz:wz.cell? ⟨s,0,none⟩=some (.slice As nF cS):=by rw[cell_of_row _ _ _ _ _ _ hrow];rfl
   have fz:wz.frozen? ⟨s,0,none⟩=false:=by simp[World.frozen?,hrow]
   have HX:=Lib.hid hS;have HO:=Lib.hid (And.intro ho (And.intro hfr hrow));clear hS hE ho hfr hrow ev;go_wp2_with fail;have hns:∀g,(Value.slice A (nF+1) c').ownBlock=some g->g≠s:=λg hg=>HO.out.2.1.elim (λe=>by rw[e]at hg;intro e2;subst e2;exact HNE.out.2.2.2.1 hg) λ⟨g',e,h2⟩=>by rw[e]at hg;injection hg with hg;omega
   refine hK.out undef _ (factW6_23 hsl HNE.out.2.2.2.1 HNE.out.2.2.2.2.1 _) (HX.out.s3 _) (λ_=>⟨A,c',own_same HO.out.1 λg hg=>Below.heap_setCell _ _ _ _ (hns g hg),HO.out.2.1,by have:=set_row3 HO.out.2.2 0 (.slice A (nF+1) c');simpa using this⟩)
  .have e1:v 1=_:=hE.1 rfl;rw[e1]at hK|-;have HX:=Lib.hid hS;clear hS hE hlo;go_wp2_with fail;exact hK.out _ rfl
  .have e19:v 19=_:=hE.1 rfl;rw[e19]at hK|-;have HX:=Lib.hid hS;clear hS hE hlo;go_wp2_with fail;exact hK.out _ rfl
 .intro v wz hS hF;have e0:v 0=_:=hF 0 (by decide)
  have e1:v 1=_:=hF 1 (by decide)
  have e2:v 2=_:=hF 2 (by decide)
  have e3:v 3=_:=hF 3 (by decide)
  have e4:v 4=_:=hF 4 (by decide)
  have e5:v 5=_:=hF 5 (by decide)
  have e6:v 6=_:=hF 6 (by decide)
  have e7:v 7=_:=hF 7 (by decide)
  have e10:v 10=_:=hF 10 (by decide)
  have e11:v 11=_:=hF 11 (by decide)
  have e12:v 12=_:=hF 12 (by decide)
  have e13:v 13=_:=hF 13 (by decide)
  have e16:v 16=_:=hF 16 (by decide)
  have e17:v 17=_:=hF 17 (by decide)
  have e19:v 19=_:=hF 19 (by decide)
  have e20:v 20=_:=hF 20 (by decide)
  have E8:=hF 8 (by decide)
  have E9:=hF 9 (by decide)
  have E14:=hF 14 (by decide)
  have E15:=hF 15 (by decide)
  have E18:=hF 18 (by decide)
  simp only[putAll,Act.put,pq1,pq2,pq3,Nat.zero_add,Nat.reduceAdd,pq4,pq5,List.drop_succ_cons,List.drop_zero,e0,e1,e2,e3,e4,e5,e6,e7,e10,e11,e12,e13,e16,e17,e19,e20];clear hF e0 e1 e2 e3 e4 e5 e6 e7 e10 e11 e12 e13 e16 e17 e19 e20;obtain ⟨A18,c18,ho18,hf18,hr18⟩:=E18 (by decide)
  obtain ⟨A15,c15,ev15,ho15,hf15⟩:=E15 (by decide)
  rw[ev15]at ho15 hf15|-;have hkz:=hS.1;have l1:w.heap.size+1<W.heap.size:=(Array.getElem?_eq_some_iff.1 HR1.out).1;have hr1z:=(hkz.blk _ l1 HN1.out).trans HR1.out;obtain ⟨y0,y1,y2⟩:=cells3 hr1z;have fy0:wz.frozen? ⟨w.heap.size+1,0,none⟩=false:=by simp[World.frozen?,hr1z]
  have fy1:wz.frozen? ⟨w.heap.size+1,1,none⟩=false:=by simp[World.frozen?,hr1z]
  have fy2:wz.frozen? ⟨w.heap.size+1,2,none⟩=false:=by simp[World.frozen?,hr1z]
  have z1:wz.cell? ⟨s,1,none⟩=some (.slice Af nF cF):=by rw[cell_of_row _ _ _ _ _ _ hr18];rfl
  have fz1:wz.frozen? ⟨s,1,none⟩=false:=by simp[World.frozen?,hr18]
  have hzz:W.heap.size<=wz.heap.size:=hkz.size;have lz:w.heap.size+1<wz.heap.size:=by omega
  have lsz:s<wz.heap.size:=by omega
  have lz1:w.heap.size+1<wz.heap.size+1:=by omega
  have lz2:w.heap.size<wz.heap.size:=by omega
  have hns1:¬s=w.heap.size+1:=by omega
  have hns2:¬w.heap.size+1=s:=by omega
  have HZ:=Lib.hid (And.intro ho18 (And.intro hf18 (And.intro hr18 (And.intro ho15 (And.intro hf15 hkz)))));clear hS E8 E9 E14 E15 E18 ev15 ho18 hf18 hr18 ho15 hf15 hkz hr1z b0 b1 b2 b3 b4 hs0W hs1W hS0 hn0;go_wp2_with fail;refine post_named λWf hWf=>?_;obtain ⟨W2,hW2⟩:∃W2,W2=wz.setCell ⟨s,1,none⟩ (.slice A15 (nF+1) c15):=⟨_,rfl⟩;have hset:∀k,k≠s->W2.heap[k]?=wz.heap[k]?:=λk hk=>by rw[hW2];exact Below.heap_setCell _ _ _ _ hk
  have hz2:W2.heap.size=wz.heap.size:=by rw[hW2];simp[World.setCell]
  have hkz:=HZ.out.2.2.2.2.2;have hk2:KeepF (s::(blk (.slice As nF cS)++blk (.slice Af nF cF))) [] W W2:=by
   have h1:KeepF (s::(blk (.slice As nF cS)++blk (.slice Af nF cF))) [] wz W2:=by
    rw[hW2];exact ⟨rfl,rfl,rfl,by simp[World.setCell],λk _ hn=>Below.heap_setCell _ _ _ _ (λe=>hn (by rw[e];simp)),λk hk=>by cases hk⟩
   exact hkz.tr h1
  have hcs2:W2.heap[s]?=some (.cells #[.slice A18 (nF+1) c18, .slice A15 (nF+1) c15,x2,x3,x4] 182 (0,0)):=by
   rw[hW2];have:=set_row3 HZ.out.2.2.1 1 (.slice A15 (nF+1) c15);simpa using this
  have hblkS:∀{v v':Value},Fresh v' v W.heap.size->v.ownBlock≠some s->∀g,v'.ownBlock=some g->g≠s:=λhf hn g hg e=>by
   subst e;rcases hf with hf | ⟨g',hf,h2⟩
   .rw[hf]at hg;exact hn hg
   .rw[hf]at hg;injection hg with hg;omega
  have ho18:=own_same HZ.out.1 λg hg=>hset g (hblkS HZ.out.2.1 HNE.out.2.2.2.1 g hg);have ho15:=own_same HZ.out.2.2.2.1 λg hg=>hset g (hblkS HZ.out.2.2.2.2.1 HNE.out.2.2.2.2.1 g hg);have hdis:∀g,(Value.slice A18 (nF+1) c18).ownBlock=some g->(Value.slice A15 (nF+1) c15).ownBlock≠some g:=λg h1 h2=>by
   have hr18:=HZ.out.1;have hr15:=HZ.out.2.2.2.1;rcases hr18.2 with ⟨e,-⟩ | ⟨g1,q1,u1,e,-,t1,-⟩
   .rw[e]at h1;cases h1
   .rcases hr15.2 with ⟨e',-⟩ | ⟨g2,q2,u2,e',-,t2,-⟩
    .rw[e']at h2;cases h2
    .rw[e]at h1;rw[e']at h2;simp[Value.ownBlock]at h1 h2;subst h1;rw[h2]at t2;rw[t1]at t2;injection t2 with t2;injection t2 with _ t2;exact absurd t2 (by decide)
  have hbw:=HHB.out.same (w':=W) (λk hk=>HBW.out.block k (by rw[HLN.out.1,HLN.out.2.1]at hk;exact (HLT.out k hk).2)) (HHB.out.bel.trans (HBW.out.mono HHB.out.bel.size))
  obtain ⟨q1,q2⟩:=hbw.addPos (rs:=rs) (rv:=.slice A1 nr c1) hcs2 (by rw[HLN.out.1];exact ho18) (by rw[HLN.out.2.1];exact ho15) (by rw[HLN.out.1];exact HZ.out.2.1) (by rw[HLN.out.2.1];exact HZ.out.2.2.2.2.1) hdis (by rw[HLN.out.1,HLN.out.2.1];exact hk2) ⟨HRG.out,HRS.out⟩
  have hgb:W2.grownBy Wf (some (w.heap.size+1)):=by
   rw[hWf,hW2];repeat (first | exact gb_refl _ _ | refine gb_alloc ?_ _ | refine gb_setN ?_ _ _ | refine gb_drew ?_)
  have hWsz:W.heap.size=w.heap.size+3:=HZW.out;have hn1':w.heap.size+1∉fpS s (.slice A18 (nF+1) c18) (.slice A15 (nF+1) c15) (rows++[.slice none 0 0]):=λhm=>by
   rcases q2.new _ hm with h | h
   .rw[HLN.out.1,HLN.out.2.1]at h;have:=(HLT.out _ h).2;omega
   .omega
  have hqk:=(KeepF.of_below HBW.out).trans q2;obtain ⟨t1,t2⟩:=beh_end ⟨_,_,_,_,rfl,q1⟩ hqk hB0 (show w.heap.size<=w.heap.size+1 by omega) (by omega) hn1' hgb
  refine bodyPost_ret (v:=.agg #[.slice (some ⟨wz.heap.size,0,none⟩) 1 1, .slice (some ⟨wz.heap.size+1,0,none⟩) 1 1, .bool false]) (by rw[hWf];simp[results,Tryz.results135,go_sem,y0,y1,y2,lz,lz1,lz2,hns1,hns2];try rfl) rfl ?_
  have hil:∀g,(g=wz.heap.size\/g=wz.heap.size+1)->IL Wf (.slice (some ⟨g,0,none⟩) 1 1) [nF]/\outOf (fpS s (.slice A18 (nF+1) c18) (.slice A15 (nF+1) c15) (rows++[.slice none 0 0])) (.slice (some ⟨g,0,none⟩) 1 1):=λg hg=>by
   have hfin:Wf.heap[g]?=some (.cells #[.int .i64 nF] 3 (0,0)):=by
    rw[hWf];rcases hg with rfl | rfl
    .rw[old_alloc _ _ _ (by simp[World.setCell])]
     have h1:=heap_alloc_new ((((wz.setCell ⟨s,1,none⟩ (.slice A15 (nF+1) c15)).setCell ⟨w.heap.size+1,0,none⟩ (.slice (some ⟨wz.heap.size,0,none⟩) 1 1)).setCell ⟨w.heap.size+1,1,none⟩ (.slice (some ⟨wz.heap.size+1,0,none⟩) 1 1)).setCell ⟨w.heap.size+1,2,none⟩ (.bool false)) (.cells #[.int .i64 nF] 3);simpa [World.setCell] using h1
    .have h1:=heap_alloc_new (((((wz.setCell ⟨s,1,none⟩ (.slice A15 (nF+1) c15)).setCell ⟨w.heap.size+1,0,none⟩ (.slice (some ⟨wz.heap.size,0,none⟩) 1 1)).setCell ⟨w.heap.size+1,1,none⟩ (.slice (some ⟨wz.heap.size+1,0,none⟩) 1 1)).setCell ⟨w.heap.size+1,2,none⟩ (.bool false)).alloc (.cells #[.int .i64 nF] 3)) (.cells #[.int .i64 nF] 3);simpa [World.setCell] using h1
   refine ⟨.inr ⟨g,0,1,rfl,by simp,(Array.getElem?_eq_some_iff.1 hfin).1,by simp,λi hi=>?_⟩,λg' hg' hm=>?_⟩
   .match i,hi with
    | 0,_=>rw[cell_of_row _ _ _ _ _ _ hfin];rfl
   .simp[Value.ownBlock]at hg';subst hg';have:=(q1.lt _ hm).2;omega
  have hlenB:b.sets.length=b.fol.length:=HLN.out.2.2;have hwr:=Wr.set b hlenB rs;rw[HLN.out.1]at hwr;refine ⟨⟨b.sets++[rs],b.fol++[[]]⟩,⟨[nF],[nF],false⟩,_,_,_,rfl,t1,by rw[HLN.out.1,HLN.out.2.1]at t2|-;exact t2,hil _ (.inl rfl),hil _ (.inr rfl),hwr.iff (λz=>by simp[gN,langN]) (by simp[gN,auN]),by simp[posF],⟨by simp,by simp⟩,⟨by simp[posF],by simp[posF]⟩,λl hl=>?_⟩
  rcases List.mem_append.1 hl with h | h
  .have:=HHK.out l h;omega
  .simp at h;subst h;simp
def factW12 (w0:World) (s:Nat) (x2 x3 x4:Value) (b:Pb) (fp:List Nat) (Lg:LA) (pk KK:Nat) (W:World) (vo1 vo2:Value) (eo:Bool) (kv:Value) (xo:Prt):Nat->Nat->Value->World->Prop
 | c,0,x,w=>x = .pointer (some ⟨s,0,none⟩)
 | c,1,x,w=>x = .agg #[vo1,vo2, .bool eo]
 | c,2,x,w=>x = .pointer (some ⟨s,0,none⟩)
 | c,3,x,w=>x=kv
 | c,4,x,w=>c=1->WrP w0 s x2 x3 x4 b fp Lg pk KK W (.returned x) w
 | c,5,x,w=>c=2->CpR w0 s x2 x3 x4 b fp Lg pk KK xo W x w
 | _,_,_,_=>True
def EiR (w0:World) (s:Nat) (x2 x3 x4:Value) (b:Pb) (fp:List Nat) (Lg:LA) (pk KK:Nat) (xo:Prt) (W:World) (x:Value) (w:World):Prop:=
 ∃b' y fp2 u1 u2,x = .agg #[u1,u2, .bool (eitP xo y).emp]/\BuI w0 s x2 x3 x4 b' fp2 w/\KeepF fp fp2 W w/\(IL w u1 (eitP xo y).first/\outOf fp2 u1)/\(IL w u2 (eitP xo y).last/\outOf fp2 u2)/\Wr b b' y Lg/\b'.fol.length=b.fol.length+pk/\(y.first≠[]/\y.last≠[])/\(y.first.length<=pk/\y.last.length<=pk)/\∀l∈b'.fol,l.length<=KK
def factW19 (w0:World) (s:Nat) (x2 x3 x4:Value) (b:Pb) (fp:List Nat) (Lg:LA) (pk KK:Nat) (W:World) (vo1 vo2:Value) (eo:Bool) (kv:Value) (xo:Prt):Nat->Nat->Value->World->Prop
 | c,0,x,w=>x = .agg #[vo1,vo2, .bool eo]
 | c,1,x,w=>x = .pointer (some ⟨s,0,none⟩)
 | c,2,x,w=>x=kv
 | c,3,x,w=>c=1->WrP w0 s x2 x3 x4 b fp Lg pk KK W (.returned x) w
 | c,4,x,w=>c=2->EiR w0 s x2 x3 x4 b fp Lg pk KK xo W x w
 | _,_,_,_=>True
structure WrMem (w0:World) (s:Nat) (x2 x3 x4:Value) (fp:List Nat) (w:World) (nb:Array Value) (bi:Pb) (fpi:List Nat) (xo:Prt) (vo1 vo2:Value) (wr:World):Prop where
 bu:BuI w0 s x2 x3 x4 bi fpi wr
 kf:KeepF fp fpi w wr
 ap:∀q∈fpi,q<w.heap.size\/w.heap.size+3<=q
 n0:wr.heap[w.heap.size]?=some (.cells nb 41 (0,0))
 n1:wr.heap[w.heap.size+1]?=some (.cells #[.slice none 0 0, .slice none 0 0, .bool false] 184 (0,0))
 n2:wr.heap[w.heap.size+1+1]?=some (.cells #[vo1,vo2, .bool xo.emp] 184 (0,0))
 sz:w.heap.size+3<=wr.heap.size
 o1:IL wr vo1 xo.first/\outOf fpi vo1
 o2:IL wr vo2 xo.last/\outOf fpi vo2
section
variable {w0:World} {s:Nat} {x2 x3 x4:Value} {fp:List Nat} {w:World} {nb:Array Value} {bi:Pb} {fpi:List Nat} {xo:Prt} {vo1 vo2:Value} {wr:World}
theorem WrMem.later (h:WrMem w0 s x2 x3 x4 fp w nb bi fpi xo vo1 vo2 wr) {W:World} (hb:Below wr.heap.size wr W):WrMem w0 s x2 x3 x4 fp w nb bi fpi xo vo1 vo2 W:=by
 have hz:=h.sz;exact ⟨h.bu.later hb,h.kf.trans (KeepF.of_below hb),h.ap,(hb.block _ (by omega)).trans h.n0,(hb.block _ (by omega)).trans h.n1,(hb.block _ (by omega)).trans h.n2,Nat.le_trans hz hb.size,⟨h.o1.1.later hb,h.o1.2⟩,⟨h.o2.1.later hb,h.o2.2⟩⟩
theorem WrMem.notin (h:WrMem w0 s x2 x3 x4 fp w nb bi fpi xo vo1 vo2 wr) (k:Nat) (h1:w.heap.size<=k) (h2:k<w.heap.size+3):k∉fpi:=λhm=>by have:=h.ap k hm;omega
theorem WrMem.out (h:WrMem w0 s x2 x3 x4 fp w nb bi fpi xo vo1 vo2 wr) {b2:Pb} {x':Prt} {fp2:List Nat} {u1 u2:Value} {wz:World} (hb2:BuI w0 s x2 x3 x4 b2 fp2 wz) (hk2:KeepF fpi fp2 wr wz) (hu1:IL wz u1 x'.first/\outOf fp2 u1) (hu2:IL wz u2 x'.last/\outOf fp2 u2) (hw:w0.heap.size<=w.heap.size) :
  WrMem w0 s x2 x3 x4 fp w nb b2 fp2 x' u1 u2 (st3 wz (w.heap.size+1+1) u1 u2 (.bool x'.emp)):=by
 have hz:=h.sz;have hz2:=hk2.size;have hnew:∀q∈fp2,q<w.heap.size\/w.heap.size+3<=q:=λq hq=>(hk2.new q hq).elim (h.ap q) λh=>.inr (by omega)
 have hn:∀k,w.heap.size<=k->k<w.heap.size+3->k∉fp2:=λk h1 h2 hm=>by have:=hnew k hm;omega
 have m0:=(hk2.blk _ (by omega) (h.notin _ (Nat.le_refl _) (by omega))).trans h.n0
 have m1:=(hk2.blk _ (by omega) (h.notin _ (by omega) (by omega))).trans h.n1
 have m2:=(hk2.blk _ (by omega) (h.notin _ (by omega) (by omega))).trans h.n2
 obtain ⟨q1,q2⟩:=beh_end hb2 (h.kf.trans hk2) hw (show w.heap.size<=w.heap.size+1+1 by omega) (by omega) (hn _ (by omega) (by omega)) (st3_gb wz (w.heap.size+1+1) u1 u2 (.bool x'.emp))
 obtain ⟨Ao1,co1,e1,-⟩:=h.o1.1.form;obtain ⟨Ao2,co2,e2,-⟩:=h.o2.1.form;rw[e1,e2]at m2;exact ⟨q1,q2,hnew,(st3_old (by omega) _ _ _).trans m0,(st3_old (by omega) _ _ _).trans m1,st3_row m2 _ _ _,by rw[st3_size];omega,
  ⟨hu1.1.st3 (hu1.1.apart m2) _ _ _,hu1.2⟩,⟨hu2.1.st3 (hu2.1.apart m2) _ _ _,hu2.2⟩⟩
theorem WrMem.fin (h:WrMem w0 s x2 x3 x4 fp w nb bi fpi xo vo1 vo2 wr) (hw:w0.heap.size<=w.heap.size) {W:World} (hg:wr.grownBy W (some (w.heap.size+1))):BuI w0 s x2 x3 x4 bi fpi W/\KeepF fp fpi w W/\(IL W vo1 xo.first/\outOf fpi vo1)/\(IL W vo2 xo.last/\outOf fpi vo2):=by
 have hz:=h.sz;obtain ⟨q1,q2⟩:=beh_end h.bu h.kf hw (show w.heap.size<=w.heap.size+1 by omega) (by omega) (h.notin _ (by omega) (by omega)) hg
 have hil:∀{v:Value} {l:List Nat},IL wr v l->IL W v l:=λ{v l} hi=>by
  have hap:=hi;have hne:=hi.apart h.n1;rcases hi with hi | ⟨g,f,c',rfl,h0,hg',hc,hcell⟩
  .exact .inl hi
  .have hgk:g≠w.heap.size+1:=λe=>hne h0 (by rw[e];rfl)
   exact .inr ⟨g,f,c',rfl,h0,Nat.lt_of_lt_of_le hg' hg.size,hc,λi hi=>(World.cell?_of_block (a:=⟨g,f+i,none⟩) (hg.block g hg' (λe=>by injection e with e;exact hgk e))).trans (hcell i hi)⟩
 exact ⟨q1,q2,⟨hil h.o1.1,h.o1.2⟩,⟨hil h.o2.1,h.o2.2⟩⟩
end
theorem posS_snoc (k:Nd):∀l:List Nd,posS (l++[k])=posS l+posF k
 | []=>by simp[posS]
 | a::r=>by rw[List.cons_append,posS,posS,posS_snoc k r];omega
theorem cstS_snoc (k:Nd):∀l:List Nd,cstS (l++[k])=cstS l+(cstF k+360000)
 | []=>by simp[cstS]
 | a::r=>by rw[List.cons_append,cstS,cstS,cstS_snoc k r];omega
theorem posS_le (l:List Nd) (k:Nat):posS (l.take k)<=posS l:=by
 induction l generalizing k with
 | nil=>simp
 | cons a r ih=>
  cases k with
  | zero=>simp[posS]
  | succ k=>rw[List.take_succ_cons,posS,posS];have:=ih k;omega
theorem cstS_le (l:List Nd) (k:Nat):cstS (l.take k)<=cstS l:=by
 induction l generalizing k with
 | nil=>simp
 | cons a r ih=>
  cases k with
  | zero=>simp[cstS]
  | succ k=>rw[List.take_succ_cons,cstS,cstS];have:=ih k;omega
theorem take_snoc {α:Type} {l:List α} {k:Nat} {x:α} (h:l[k]?=some x):l.take (k+1)=l.take k++[x]:=by
 obtain ⟨h1,h2⟩:=List.getElem?_eq_some_iff.1 h;rw[List.take_succ_eq_append_getElem h1,h2]
structure KidI (b bi:Pb) (Lg:LA) (k n:Nat) (xo:Prt) (K:Nat):Prop where
 wr:Wr b bi xo Lg
 fl:bi.fol.length=b.fol.length+n
 ln:xo.first.length<=n/\xo.last.length<=n
 bd:∀l∈bi.fol,l.length<=K
 ne:(k=0/\xo.emp=true)\/(xo.first≠[]/\xo.last≠[])
theorem KidI.seq {b bi b':Pb} {kids:List Nd} {k:Nat} {kd:Nd} {xo y:Prt} {K:Nat} (h:KidI b bi (gS kids k) k (posS (kids.take k)) xo (K+cstS (kids.take k))) (hk:kids[k]?=some kd) (hy:Wr bi b' y (gN kd)) (hl:b'.fol.length=bi.fol.length+posF kd) (hln:y.first.length<=posF kd/\y.last.length<=posF kd)
  (hbd:∀l∈b'.fol,l.length<=K+cstS (kids.take k)+cstF kd) (h600:xo.last.length<=600) (hy600:y.first.length<=600) (hne:y.first≠[]/\y.last≠[]) :
  KidI b (behB b' xo y) (gS kids (k+1)) (k+1) (posS (kids.take (k+1))) (behP xo y) (K+cstS (kids.take (k+1))):=by
 rw[show gS kids (k+1)=⟨langS (kids.take k++[kd]),seqA (k+1) (famA (auL kids))⟩ by unfold gS;rw[take_snoc hk],take_snoc hk,posS_snoc,cstS_snoc]
 refine ⟨(h.wr.beh hy rfl (auL_get hk).symm).iff λw=>(langS_snoc _ _ _).symm,?_,?_,λl hl'=>?_, .inr ⟨?_,?_⟩⟩
 .unfold behB;rw[addF_len,hl,h.fl];omega
 .have:=h.ln;unfold behP;constructor
  .simp only;split
   .rw[List.length_append];omega
   .omega
  .simp only;split
   .rw[List.length_append];omega
   .omega
 .have h1:=addF_le y.first xo.last b'.fol _ hbd l hl';have h2:xo.last.length*y.first.length<=600*600:=Nat.mul_le_mul h600 hy600;omega
 .unfold behP;simp only
  split
  .intro e;exact hne.1 (List.append_eq_nil_iff.1 e).2
  .next he=>exact (h.ne.resolve_left λhx=>he hx.2).1
 .unfold behP;simp only
  split
  .intro e;exact hne.2 (List.append_eq_nil_iff.1 e).2
  .exact hne.2
theorem KidI.cho {b bi b':Pb} {kids:List Nd} {k:Nat} {kd:Nd} {xo y:Prt} {K:Nat} (h:KidI b bi (gC kids k) k (posS (kids.take k)) xo (K+cstS (kids.take k))) (hk:kids[k]?=some kd) (hy:Wr bi b' y (gN kd)) (hl:b'.fol.length=bi.fol.length+posF kd) (hln:y.first.length<=posF kd/\y.last.length<=posF kd)
  (hbd:∀l∈b'.fol,l.length<=K+cstS (kids.take k)+cstF kd) (hne:y.first≠[]/\y.last≠[]) :
  KidI b b' (gC kids (k+1)) (k+1) (posS (kids.take (k+1))) (eitP xo y) (K+cstS (kids.take (k+1))):=by
 rw[show gC kids (k+1)=⟨langC (kids.take k++[kd]),choA (k+1) (famA (auL kids))⟩ by unfold gC;rw[take_snoc hk],take_snoc hk,posS_snoc,cstS_snoc]
 refine ⟨(h.wr.eit hy rfl (auL_get hk).symm).iff λw=>(langC_snoc _ _ _).symm,by rw[hl,h.fl];omega,?_,λl hl'=>by have:=hbd l hl';omega, .inr ⟨?_,?_⟩⟩
 .have:=h.ln;unfold eitP;simp only[List.length_append];omega
 .unfold eitP;intro e;exact hne.1 (List.append_eq_nil_iff.1 e).2
 .unfold eitP;intro e;exact hne.2 (List.append_eq_nil_iff.1 e).2
theorem WrMem.start {w0:World} {s:Nat} {x2 x3 x4:Value} {b:Pb} {fp:List Nat} {w:World} (hbu:BuI w0 s x2 x3 x4 b fp w) (nb:Array Value) :
  WrMem w0 s x2 x3 x4 fp w nb b fp ⟨[],[],true⟩ (.slice none 0 0) (.slice none 0 0) (((w.alloc (.cells nb 41)).alloc (.cells #[.slice none 0 0, .slice none 0 0, .bool false] 184)).alloc (.cells #[.slice none 0 0, .slice none 0 0, .bool true] 184)):=by
 have hB:=((((Below.refl w.heap.size w).alloc (Nat.le_refl _) (.cells nb 41)).alloc (by simp) (.cells #[.slice none 0 0, .slice none 0 0, .bool false] 184)).alloc (by simp <;> omega) (.cells #[.slice none 0 0, .slice none 0 0, .bool true] 184))
 have hnil:∀(W:World) (fq:List Nat),IL W (.slice none 0 0) []/\outOf fq (.slice none 0 0):=λW fq=>⟨.inl ⟨rfl,rfl⟩,λg hg=>by simp[Value.ownBlock]at hg⟩
 refine ⟨hbu.later hB,KeepF.of_below hB,λq hq=>.inl (hbu.lt q hq).2,?_,?_,?_,by simp,hnil _ _,hnil _ _⟩
 .rw[old_alloc _ _ _ (by simp <;> omega),old_alloc _ _ _ (by simp)]; exact heap_alloc_new w _
 .rw[old_alloc _ _ _ (by simp)];simpa using heap_alloc_new (w.alloc _) _
 .simpa using heap_alloc_new ((w.alloc _).alloc _) _
set_option maxHeartbeats 8000000 in
theorem write_rep (w0:World) (s:Nat) (x2 x3 x4:Value) (rs:List (Nat×Nat)) (kd:Nd) (mn mx:Int) (A1:Option Addr) (c1 g f c:Nat) (kvs:List Value) (hR:rightF (.mk 4 rs [kd] mn mx)=true) (hpos:posF (.mk 4 rs [kd] mn mx)<=600)
  (hg:g<w0.heap.size) (hc:1<=c/\c<=9223372036854775807) (hkd:NdIn w0 kd kvs) (hkc:∀j,j<5->w0.cell? ⟨g,f+j,none⟩=kvs[j]?) (hw:WrCall w0 s x2 x3 x4 kd kvs) :
  WrCall w0 s x2 x3 x4 (.mk 4 rs [kd] mn mx) [.int .i64 4, .slice A1 rs.length c1, .slice (some ⟨g,f,none⟩) 1 c, .int .i64 mn, .int .i64 mx]:=by
 intro w b fp K hbu hln hrm hK hKK;have hM0:=WrMem.start hbu #[.int .i64 4, .slice A1 rs.length c1, .slice (some ⟨g,f,none⟩) 1 c, .int .i64 mn, .int .i64 mx];have hcp:=λ(W:World) (fq:List Nat) (h:BuI w0 s x2 x3 x4 b fq W)=>copies_any w0 s x2 x3 x4 rs kd mn mx A1 c1 g f c kvs hR hpos hg hc hkd hkc hw W b fq K h hln hrm hK hKK;have HM0:=Lib.hid hM0;have HCP:=Lib.hid hcp;have hw00:=hbu.bel.size;show Calls Tryz.prog _ #[_, .agg #[.int .i64 4, .slice A1 rs.length c1, .slice (some ⟨g,f,none⟩) 1 c, .int .i64 mn, .int .i64 mx]] w _;clear hR hkd hkc hw hbu hln hK hKK hM0 hcp hpos hrm
 go_enter Tryz.func135,Tryz.ntmps135
 go_wp2_with fail;refine (HCP.out _ _ HM0.out.bu).mono ?_;rintro e w1 ⟨b',x,fp',v1,v2,rfl,hb',hk',hi1,hi2,hwr,hfl,hne,hl,hbd⟩;obtain ⟨Av1,cv1,rfl,-⟩:=hi1.1.form;obtain ⟨Av2,cv2,rfl,-⟩:=hi2.1.form;have hM1:=HM0.out.out hb' hk' hi1 hi2 hw00;have HM1:=Lib.hid hM1;have HP:=Lib.hid (And.intro hwr (And.intro hfl (And.intro hne (And.intro hl hbd))));have hz:=hk'.size;have hz0:=HM0.out.sz;have hr1:=(hk'.blk _ (by omega) (HM0.out.notin (w.heap.size+1) (by omega) (by omega))).trans HM0.out.n1
 have hr2:=(hk'.blk _ (by omega) (HM0.out.notin (w.heap.size+1+1) (by omega) (by omega))).trans HM0.out.n2
 obtain ⟨y0,y1,y2⟩:=cells3 hr1;obtain ⟨q0,q1,q2⟩:=cells3 hr2;have fy0:w1.frozen? ⟨w.heap.size+1,0,none⟩=false:=by simp[World.frozen?,hr1]
 have fy1:w1.frozen? ⟨w.heap.size+1,1,none⟩=false:=by simp[World.frozen?,hr1]
 have fy2:w1.frozen? ⟨w.heap.size+1,2,none⟩=false:=by simp[World.frozen?,hr1]
 have fq0:w1.frozen? ⟨w.heap.size+1+1,0,none⟩=false:=by simp[World.frozen?,hr2]
 have fq1:w1.frozen? ⟨w.heap.size+1+1,1,none⟩=false:=by simp[World.frozen?,hr2]
 have fq2:w1.frozen? ⟨w.heap.size+1+1,2,none⟩=false:=by simp[World.frozen?,hr2]
 clear hb' hk' hi1 hi2 hwr hfl hne hl hbd hM1 hr1 hr2;go_wp2_with fail;refine post_named λWf hWf=>?_;have hgb:(st3 w1 (w.heap.size+1+1) (.slice Av1 x.first.length cv1) (.slice Av2 x.last.length cv2) (.bool x.emp)).grownBy Wf (some (w.heap.size+1)):=by
  rw[hWf];repeat (first | exact gb_refl _ _ | refine gb_alloc ?_ _ | refine gb_setN ?_ _ _ | refine gb_drew ?_)
 obtain ⟨t1,t2,t3,t4⟩:=HM1.out.fin hw00 hgb;refine bodyPost_ret (v:=.agg #[.slice Av1 x.first.length cv1, .slice Av2 x.last.length cv2, .bool x.emp]) (by rw[hWf];simp[results,Tryz.results135,go_sem,y0,y1,y2,q0,q1,q2];try rfl) rfl ?_
 exact ⟨b',x,fp',_,_,rfl,t1,t2,t3,t4,HP.out.1,HP.out.2.1,HP.out.2.2.1,HP.out.2.2.2.1,HP.out.2.2.2.2⟩
theorem kid_cells {w0:World} {kids:List Nd} {g f k:Nat} (hk:k<kids.length) (h:KdsIn w0 kids g f):∃kd B1 e1 B2 e2,kids[k]?=some kd/\NdIn w0 kd [.int .i64 kd.op, .slice B1 kd.rs.length e1, .slice B2 kd.kids.length e2, .int .i64 kd.mn, .int .i64 kd.mx]/\
  ∀wz:World,wz.heap[g]?=w0.heap[g]?->wz.cell? ⟨g,f+k*5,none⟩=some (.int .i64 kd.op)/\wz.cell? ⟨g,f+k*5+1,none⟩=some (.slice B1 kd.rs.length e1)/\wz.cell? ⟨g,f+k*5+2,none⟩=some (.slice B2 kd.kids.length e2)/\wz.cell? ⟨g,f+k*5+3,none⟩=some (.int .i64 kd.mn)/\wz.cell? ⟨g,f+k*5+4,none⟩=some (.int .i64 kd.mx):=by
 obtain ⟨vs,h1,h2⟩:=h.at k hk;obtain ⟨kd,hkd⟩:∃kd,kids[k]=kd:=⟨_,rfl⟩;rw[hkd]at h2;obtain ⟨B1,e1,B2,e2,rfl,-,-,-⟩:=h2.form;refine ⟨kd,B1,e1,B2,e2,by rw[List.getElem?_eq_getElem hk,hkd],h2,λwz hz=>?_⟩
 have hc:=λj (hj:j<5)=>(World.cell?_of_block (a:=⟨g,f+k*5+j,none⟩) hz).trans (h1 j hj);exact ⟨hc 0 (by omega),hc 1 (by omega),hc 2 (by omega),hc 3 (by omega),hc 4 (by omega)⟩
theorem posS_step {kids:List Nd} {k:Nat} {kd:Nd} (hk:kids[k]?=some kd):posS (kids.take k)+posF kd<=posS kids:=by
 have h1:=posS_le kids (k+1);rw[take_snoc hk,posS_snoc]at h1;exact h1
theorem cstS_step {kids:List Nd} {k:Nat} {kd:Nd} (hk:kids[k]?=some kd):cstS (kids.take k)+(cstF kd+360000)<=cstS kids:=by
 have h1:=cstS_le kids (k+1);rw[take_snoc hk,cstS_snoc]at h1;exact h1
set_option maxHeartbeats 16000000 in
theorem write_seq (w0:World) (s:Nat) (x2 x3 x4:Value) (rs:List (Nat×Nat)) (kids:List Nd) (mn mx:Int) (A1:Option Addr) (c1 g f c:Nat) (hR:rightF (.mk 2 rs kids mn mx)=true) (hpos:posF (.mk 2 rs kids mn mx)<=600)
  (hg:g<w0.heap.size) (hc:kids.length<=c/\c<=9223372036854775807) (hkd:KdsIn w0 kids g f) (hw:∀kd∈kids,∀vs,NdIn w0 kd vs->WrCall w0 s x2 x3 x4 kd vs) :
  WrCall w0 s x2 x3 x4 (.mk 2 rs kids mn mx) [.int .i64 2, .slice A1 rs.length c1, .slice (some ⟨g,f,none⟩) kids.length c, .int .i64 mn, .int .i64 mx]:=by
 intro w b fp K hbu hln hrm hK hKK;have hM0:=WrMem.start hbu #[.int .i64 2, .slice A1 rs.length c1, .slice (some ⟨g,f,none⟩) kids.length c, .int .i64 mn, .int .i64 mx];have hkn:=kids_ge hR (.inl rfl);have hpe:=pos_seq (.inl rfl) hpos;have hce:cstF (.mk 2 rs kids mn mx)=cstS kids:=by rw[cstF,if_neg (by decide),if_neg (by decide)]
 have hlang:gN (.mk 2 rs kids mn mx)=gS kids kids.length:=by
  unfold gN gS;rw[List.take_length,auN,if_neg (by decide),if_pos rfl]
  congr 1
 have hB0:=hbu.bel.size;rw[hpe]at hpos hrm|-;rw[hce]at hKK|-;rw[hlang];have hst0:KidI b b (gS kids 0) 0 (posS (kids.take 0)) ⟨[],[],true⟩ (K+cstS (kids.take 0)):=⟨(Wr.nil b hln _).iff λw=>Iff.rfl,rfl,⟨Nat.zero_le _,Nat.zero_le _⟩,λl hl=>by simpa [cstS] using hK l hl, .inl ⟨rfl,rfl⟩⟩
 have HM0:=Lib.hid hM0;have HST0:=Lib.hid hst0;have HW:=Lib.hid hw;have HKD:=Lib.hid hkd;obtain ⟨n,hn⟩:∃n,kids.length=n:=⟨_,rfl⟩;obtain ⟨PS,hPS⟩:∃P,posS kids=P:=⟨_,rfl⟩;obtain ⟨CS,hCS⟩:∃P,cstS kids=P:=⟨_,rfl⟩;show Calls Tryz.prog _ #[_, .agg #[.int .i64 2, .slice A1 rs.length c1, .slice (some ⟨g,f,none⟩) kids.length c, .int .i64 mn, .int .i64 mx]] w _;rw[hn]at hc hkn|-;rw[hn]at HM0;rw[hPS]at hpos hrm|-;rw[hCS]at hKK|-;have HN:=Lib.hid (And.intro hn (And.intro hPS hCS));clear hR hpe hce hlang hbu hw hkd hK hst0 hM0 hn hPS hCS hln
 go_enter Tryz.func135,Tryz.ntmps135
 go_wp2_with fail
 go_loopw [54] (λiv wr=>∃(k:Nat) (bi:Pb) (fpi:List Nat) (xo:Prt) (vo1 vo2:Value),k<=n/\iv = .int .i64 (k:Int)/\Hid (WrMem w0 s x2 x3 x4 fp w #[.int .i64 2, .slice A1 rs.length c1, .slice (some ⟨g,f,none⟩) n c, .int .i64 mn, .int .i64 mx] bi fpi xo vo1 vo2 wr)/\Hid (KidI b bi (gS kids k) k (posS (kids.take k)) xo (K+cstS (kids.take k)))) (λiv _=>n - (intOf iv).toNat)
 case atStart=>
  exact ⟨0,b,fp,⟨[],[],true⟩, .slice none 0 0, .slice none 0 0,by omega,rfl,HM0,HST0⟩
 case round=>
  obtain ⟨k,bi,fpi,xo,vo1,vo2,hi,rfl,HM,HI⟩:=hrel;by_cases hlt:k<n
  .have hd:decide ((k:Int)<(n:Int))=true:=decide_eq_true (by omega)
   have hdn:decide (k<n)=true:=decide_eq_true hlt;obtain ⟨kd,B1,e1,B2,e2,hkd,hnd,hkc⟩:=kid_cells (k:=k) (by rw[HN.out.1];exact hlt) HKD.out
   obtain ⟨Ao1,co1,rfl,-⟩:=HM.out.o1.1.form;obtain ⟨Ao2,co2,rfl,-⟩:=HM.out.o2.1.form;obtain ⟨eo,heo⟩:∃eo,xo.emp=eo:=⟨_,rfl⟩;have hw00:w0.heap.size<=w.heap.size:=hB0;have hsz0:=HM.out.sz;have hgr:wr.heap[g]?=w0.heap[g]?:=HM.out.bu.bel.block g hg;have hglr:g<wr.heap.size:=by have:=HM.out.bu.bel.size;omega
   obtain ⟨k0,k1,k2,k3,k4⟩:=hkc wr hgr;have hps:=posS_step hkd;have hcs:=cstS_step hkd;rw[HN.out.2.1]at hps;rw[HN.out.2.2]at hcs;have hwc:=HW.out kd (List.mem_of_getElem? hkd) _ hnd;have hin:=HI.out;obtain ⟨pk,hpk⟩:∃p,posS (kids.take k)=p:=⟨_,rfl⟩;obtain ⟨K0,hK0⟩:∃p,K+cstS (kids.take k)=p:=⟨_,rfl⟩;rw[hpk,hK0]at hin;rw[hpk]at hps;have hKc:K0+cstF kd<=10000000000:=by omega
   have hpk600:pk<=600:=by omega
   have hpkd:posF kd<=600:=by omega
   have HKD1:=Lib.hid hkd;have HWC:=Lib.hid hwc;have HKX:=Lib.hid (And.intro hpk hK0);have hfl:=hin.fl;have hlen:=hin.wr.len;have hroom:bi.fol.length+posF kd<=600:=by omega
   have HROOM:=Lib.hid (And.intro hroom hlen);have HKK:=Lib.hid hin.bd;have HXL:=Lib.hid (show ∀p∈xo.last,p<bi.fol.length from λp hp=>(hin.wr.good.lst p hp).2);have HLO:=Lib.hid (show xo.first.length<=600/\xo.last.length<=600 from ⟨by have:=hin.ln;omega,by have:=hin.ln;omega⟩)
   have HEO:=Lib.hid heo;have HKC:=Lib.hid hkc;have HRM:=Lib.hid (And.intro hps hcs);have hn2:=HM.out.n2;rw[heo]at hn2;obtain ⟨oo0,oo1,oo2⟩:=cells3 hn2;have HX0:=Lib.hid (And.intro hps hcs);clear hkd hnd hkc hwc hin hpk hfl hlen hroom hcs heo hn2 hK0 hgr hps;go_wp2_with fail;refine wp_named λW hW=>?_;have hbW:Below wr.heap.size wr W:=by rw[hW];exact (Below.refl _ _).alloc (Nat.le_refl _) _
   have hMW:=HM.out.later hbW;have hKB:W.heap[wr.heap.size]?=some (.cells #[.int .i64 kd.op, .slice B1 kd.rs.length e1, .slice B2 kd.kids.length e2, .int .i64 kd.mn, .int .i64 kd.mx] 41 (0,0)):=by rw[hW];exact heap_alloc_new wr _
   have hzW:W.heap.size=wr.heap.size+1:=by rw[hW];simp
   have l2:w.heap.size+1+1<W.heap.size:=by omega
   have lk:wr.heap.size<W.heap.size:=by omega
   have n2:=hMW.notin (w.heap.size+1+1) (by omega) (by omega)
   have nk:wr.heap.size∉fpi:=λhm=>by have:=(HM.out.bu.lt _ hm).2;omega
   have hn2:=hMW.n2;rw[HEO.out]at hn2;obtain ⟨o0,o1,o2⟩:=cells3 hn2;have HBU:=Lib.hid hMW.bu;have HIO:=Lib.hid (And.intro hMW.o1.1 (And.intro hMW.o1.2 (And.intro hMW.o2.1 hMW.o2.2)));have HKB:=Lib.hid hKB;have HMW:=Lib.hid hMW;have HBW:=Lib.hid hbW;clear hW hbW hMW hKB hn2 k0 k1 k2 k3 k4 oo0 oo1 oo2;have hS0:StC6 fpi W 0 W.drew:=⟨(KeepF.of_below (Below.refl _ _).drew).weak,λ_=>(Below.refl _ _).drew⟩;refine wp_region_chain 6 [4,5] (factW12 w0 s x2 x3 x4 bi fpi (gN kd) (posF kd) (K0+cstF kd) W (.slice Ao1 xo.first.length co1) (.slice Ao2 xo.last.length co2) eo (.agg #[.int .i64 kd.op, .slice B1 kd.rs.length e1, .slice B2 kd.kids.length e2, .int .i64 kd.mn, .int .i64 kd.mx]) xo) (λc w'=>StC6 fpi W c w') (by kernel_rfl) (by kernel_rfl) (by kernel_rfl) (by kernel_rfl) (by kernel_rfl) (by kernel_rfl) (by decide) hS0 ?_ ?_
   .simp only[pq4,pq5];refine HSteps.pure (by decide) ?_ (HSteps.pure (by decide) ?_ (HSteps.pure (by decide) ?_ (HSteps.pure (by decide) ?_ (HSteps.eff 0 rfl ?_ (HSteps.eff 1 rfl ?_ (HSteps.nil))))))
    all_goals first | (with_reducible intro v wz c hlo hS hE K hK;simp only[putAll,Act.put,pq1,pq2,pq3,Nat.zero_add,Nat.reduceAdd,pq4,pq5]at hK|-) | (intro v wz hS hE K hK;simp only[putAll,Act.put,pq1,pq2,pq3,Nat.zero_add,Nat.reduceAdd,pq4,pq5]at hK|-)
    .have HX:=Lib.hid hS;clear hS hE hlo;go_wp2_with fail;exact hK.out _ rfl
    .have cx0:=(World.cell?_of_block (a:=⟨w.heap.size+1+1,0,none⟩) (hS.1.blk _ l2 n2)).trans o0;have cx1:=(World.cell?_of_block (a:=⟨w.heap.size+1+1,1,none⟩) (hS.1.blk _ l2 n2)).trans o1;have cx2:=(World.cell?_of_block (a:=⟨w.heap.size+1+1,2,none⟩) (hS.1.blk _ l2 n2)).trans o2;have HX:=Lib.hid hS;clear hS hE hlo;go_wp2_with fail;exact hK.out _ rfl
    .have HX:=Lib.hid hS;clear hS hE hlo;go_wp2_with fail;exact hK.out _ rfl
    .obtain ⟨k0,k1,k2,k3,k4⟩:=cells5 ((hS.1.blk _ lk nk).trans HKB.out);have HX:=Lib.hid hS;clear hS hE hlo;go_wp2_with fail;exact hK.out _ rfl
    .have e2:v 2=_:=hE.1 rfl;have e3:v 3=_:=hE.2.1 rfl;rw[e2,e3]at hK|-;have hz:=hS.2 rfl;have hcall:=HWC.out wz bi fpi K0 (HBU.out.later hz) HROOM.out.2 HROOM.out.1 HKK.out hKc;have HC:=Lib.hid hcall;have HX:=Lib.hid hS;clear hS hE hcall;go_wp2_with fail;refine HC.out.mono ?_;rintro e wy ⟨b',y,fp',v1,v2,rfl,hb',hk',hi1,hi2,hw',hl',hne',hln',hK'⟩;have HP:=Lib.hid (And.intro hb' (And.intro hk' (And.intro hi1 (And.intro hi2 (And.intro hw' (And.intro hl' (And.intro hne' (And.intro hln' hK'))))))));clear hb' hk' hi1 hi2 hw' hl' hne' hln' hK';go_wp2_with fail;refine hK.out _ _ (λj z hj h=>?_) ⟨((KeepF.of_below (HX.out.2 rfl)).trans HP.out.2.1).weak,λh=>by cases h⟩ (λ_=>⟨b',y,fp',v1,v2,rfl,HP.out.1,(KeepF.of_below (HX.out.2 rfl)).trans HP.out.2.1,HP.out.2.2.1,HP.out.2.2.2.1,HP.out.2.2.2.2.1,HP.out.2.2.2.2.2.1,HP.out.2.2.2.2.2.2.1,HP.out.2.2.2.2.2.2.2.1,HP.out.2.2.2.2.2.2.2.2⟩)
     match j with
     | 0 | 1 | 2 | 3=>exact h
     | 4=>exact absurd rfl hj
     | 5=>exact λh=>by cases h
     | _+6=>exact trivial
    .have e0:v 0=_:=hE.1 rfl;have e1:v 1=_:=hE.2.1 rfl;rw[e0,e1]at hK|-;have E4:=hE.2.2.1 rfl;obtain ⟨b',y,fp',v1,v2,ev,hb',hk',hi1,hi2,hw',hl',hne',hln',hK'⟩:=E4 rfl;injection ev with ev;rw[ev]at hK|-;have i1:=HIO.out.1.keep HIO.out.2.1 hk';have i2:=HIO.out.2.2.1.keep HIO.out.2.2.2 hk';have hxl:∀p∈xo.last,p<b'.fol.length:=λp hp=>by have:=HXL.out p hp;omega
     have hcall:=behind_any w0 s x2 x3 x4 b' fp' wz xo y _ _ v1 v2 _ hb' i1.1 i1.2 i2.1 i2.2 hi1.1 hi1.2 hi2.1 hi2.2 hne'.1 hne'.2 hxl (by have:=HLO.out;omega) (by have:=HLO.out;omega) (by omega) (by omega) hK' (by omega)
     rw[HEO.out]at hcall;have HC:=Lib.hid hcall;have HX:=Lib.hid hS;have HP:=Lib.hid (And.intro hb' (And.intro hk' (And.intro hw' (And.intro hl' (And.intro hne' (And.intro hln' hK'))))));clear hS hE hcall hb' hk' hi1 hi2 hw' hl' hne' hln' hK' i1 i2 hxl E4 ev;go_wp2_with fail;refine HC.out.mono ?_;rintro e wy ⟨fp2,u1,u2,rfl,hb2,hk2,j1,j2,j3,j4⟩;have HQ:=Lib.hid (And.intro hb2 (And.intro hk2 (And.intro j1 (And.intro j2 (And.intro j3 j4)))));clear hb2 hk2 j1 j2 j3 j4;go_wp2_with fail;refine hK.out _ _ (λj z hj h=>?_) ⟨(HP.out.2.1.trans HQ.out.2.1).weak,λh=>by cases h⟩ (λ_=>⟨b',y,fp2,u1,u2,rfl,HQ.out.1,HP.out.2.1.trans HQ.out.2.1,⟨HQ.out.2.2.1,HQ.out.2.2.2.1⟩,⟨HQ.out.2.2.2.2.1,HQ.out.2.2.2.2.2⟩,HP.out.2.2.1,HP.out.2.2.2.1,HP.out.2.2.2.2.1,HP.out.2.2.2.2.2.1,HP.out.2.2.2.2.2.2⟩)
     match j with
     | 0 | 1 | 2 | 3=>exact h
     | 4=>exact λh=>by cases h
     | 5=>exact absurd rfl hj
     | _+6=>exact trivial
   .intro v wz hS hF;have e0:v 0=_:=hF 0 (by decide)
    have e1:v 1=_:=hF 1 (by decide)
    have e2:v 2=_:=hF 2 (by decide)
    have e3:v 3=_:=hF 3 (by decide)
    have E4:=hF 4 (by decide)
    have E5:=hF 5 (by decide)
    simp only[putAll,Act.put,pq1,pq2,pq3,Nat.zero_add,Nat.reduceAdd,pq4,pq5,List.drop_succ_cons,List.drop_zero,e0,e1,e2,e3];clear hF e0 e1 e2 e3;obtain ⟨b',y,fp2,u1,u2,ev,hb2,hk2,hu1,hu2,hwy,hl',hne',hln',hK'⟩:=E5 rfl;rw[ev];obtain ⟨Au1,cu1,rfl,hcu1⟩:=hu1.1.form;obtain ⟨Au2,cu2,rfl,hcu2⟩:=hu2.1.form;have hM1:=HMW.out.out (x':=behP xo y) hb2 hk2 hu1 hu2 hw00;have hI1:=HI.out.seq HKD1.out hwy hl' hln' (λl hl=>by have:=hK' l hl;have:=HKX.out.2;omega) (by have:=HLO.out;omega) (by omega) hne'
    have HP2:=Lib.hid hk2;have HI1:=Lib.hid hI1;have HM1:=Lib.hid hM1;have hz2:=(HP2.out.blk _ l2 n2).trans HMW.out.n2;obtain ⟨q0,q1,q2⟩:=cells3 hz2;have f0:wz.frozen? ⟨w.heap.size+1+1,0,none⟩=false:=by simp[World.frozen?,hz2]
    have f1:wz.frozen? ⟨w.heap.size+1+1,1,none⟩=false:=by simp[World.frozen?,hz2]
    have f2:wz.frozen? ⟨w.heap.size+1+1,2,none⟩=false:=by simp[World.frozen?,hz2]
    clear hS E4 E5 ev hb2 hk2 hu1 hu2 hwy hl' hne' hln' hK' hI1 hM1 hz2 o0 o1 o2 hS0;go_wp2_with fail;go_roundw
    case rel=>
     exact ⟨k+1,_,_,_,_,_,by omega,by go_num,HM1,HI1⟩
    case measure=>simp[intOf];omega
  .obtain rfl:k=n:=by omega
   have hw00:w0.heap.size<=w.heap.size:=hB0;obtain ⟨Ao1,co1,rfl,-⟩:=HM.out.o1.1.form;obtain ⟨Ao2,co2,rfl,-⟩:=HM.out.o2.1.form;have hsz0:=HM.out.sz;obtain ⟨y0,y1,y2⟩:=cells3 HM.out.n1;obtain ⟨q0,q1,q2⟩:=cells3 HM.out.n2;have fy0:wr.frozen? ⟨w.heap.size+1,0,none⟩=false:=by simp[World.frozen?,HM.out.n1]
   have fy1:wr.frozen? ⟨w.heap.size+1,1,none⟩=false:=by simp[World.frozen?,HM.out.n1]
   have fy2:wr.frozen? ⟨w.heap.size+1,2,none⟩=false:=by simp[World.frozen?,HM.out.n1]
   go_wp2_with fail;refine post_named λWf hWf=>?_;have hgb:wr.grownBy Wf (some (w.heap.size+1)):=by
    rw[hWf];repeat (first | exact gb_refl _ _ | refine gb_alloc ?_ _ | refine gb_setN ?_ _ _ | refine gb_drew ?_)
   obtain ⟨t1,t2,t3,t4⟩:=HM.out.fin hw00 hgb;have hin:=HI.out;rw[List.take_of_length_le (by rw[HN.out.1];exact Nat.le_refl _),HN.out.2.1,HN.out.2.2]at hin
   refine bodyPost_ret (v:=.agg #[.slice Ao1 xo.first.length co1, .slice Ao2 xo.last.length co2, .bool xo.emp]) (by rw[hWf];simp[results,Tryz.results135,go_sem,y0,y1,y2,q0,q1,q2];try rfl) rfl ?_
   exact ⟨bi,xo,fpi,_,_,rfl,t1,t2,t3,t4,hin.wr,hin.fl,hin.ne.resolve_left (by omega),hin.ln,hin.bd⟩
set_option maxHeartbeats 16000000 in
theorem write_choice (w0:World) (s:Nat) (x2 x3 x4:Value) (rs:List (Nat×Nat)) (a:Nd) (r:List Nd) (mn mx:Int) (A1:Option Addr) (c1 g f c:Nat) (hR:rightF (.mk 3 rs (a::r) mn mx)=true) (hpos:posF (.mk 3 rs (a::r) mn mx)<=600)
  (hg:g<w0.heap.size) (hc:r.length+1<=c/\c<=9223372036854775807) (hkd:KdsIn w0 (a::r) g f) (hw:∀kd∈a::r,∀vs,NdIn w0 kd vs->WrCall w0 s x2 x3 x4 kd vs) :
  WrCall w0 s x2 x3 x4 (.mk 3 rs (a::r) mn mx) [.int .i64 3, .slice A1 rs.length c1, .slice (some ⟨g,f,none⟩) (r.length+1) c, .int .i64 mn, .int .i64 mx]:=by
 intro w b fp K hbu hln hrm hK hKK;have hM0:=WrMem.start hbu #[.int .i64 3, .slice A1 rs.length c1, .slice (some ⟨g,f,none⟩) (r.length+1) c, .int .i64 mn, .int .i64 mx];have hkn:=kids_ge hR (.inr rfl);have hpe:=pos_seq (.inr rfl) hpos;have hce:cstF (.mk 3 rs (a::r) mn mx)=cstS (a::r):=by rw[cstF,if_neg (by decide),if_neg (by decide)]
 have hlang:gN (.mk 3 rs (a::r) mn mx)=gC (a::r) (a::r).length:=by
  unfold gN gC;rw[List.take_length,auN,if_neg (by decide),if_neg (by decide),if_pos rfl]
  congr 1
 have hB0:=hbu.bel.size;rw[hpe]at hpos hrm|-;rw[hce]at hKK|-;rw[hlang];have hln0:=hln;obtain ⟨kvs,hv0,hnd0⟩:=hkd.1;obtain ⟨Ba1,ea1,Ba2,ea2,rfl,-,-,-⟩:=hnd0.form;have hgr0:w0.heap[g]?=w0.heap[g]?:=rfl;have hcall0:=λ(W:World) (fq:List Nat) (h:BuI w0 s x2 x3 x4 b fq W)=>hw a (by simp) _ hnd0 W b fq K h hln (by rw[posS]at hrm;omega) hK (by rw[cstS]at hKK;omega)
 have HC0:=Lib.hid hcall0;have hca0:∀wz:World,wz.heap[g]?=w0.heap[g]?->wz.cell? ⟨g,f,none⟩=some (.int .i64 a.op)/\wz.cell? ⟨g,f+1,none⟩=some (.slice Ba1 a.rs.length ea1)/\wz.cell? ⟨g,f+2,none⟩=some (.slice Ba2 a.kids.length ea2)/\wz.cell? ⟨g,f+3,none⟩=some (.int .i64 a.mn)/\wz.cell? ⟨g,f+4,none⟩=some (.int .i64 a.mx):=λwz hz=>by
  have hc:=λj (hj:j<5)=>(World.cell?_of_block (a:=⟨g,f+j,none⟩) hz).trans (hv0 j hj);exact ⟨hc 0 (by omega),hc 1 (by omega),hc 2 (by omega),hc 3 (by omega),hc 4 (by omega)⟩
 have hkr:=hkd.2;have HM0:=Lib.hid hM0;have HW:=Lib.hid hw;have HKD:=Lib.hid hkr;obtain ⟨n,hn⟩:∃n,r.length=n:=⟨_,rfl⟩;obtain ⟨PS,hPS⟩:∃P,posS (a::r)=P:=⟨_,rfl⟩;obtain ⟨CS,hCS⟩:∃P,cstS (a::r)=P:=⟨_,rfl⟩;show Calls Tryz.prog _ #[_, .agg #[.int .i64 3, .slice A1 rs.length c1, .slice (some ⟨g,f,none⟩) (r.length+1) c, .int .i64 mn, .int .i64 mx]] w _;rw[List.length_cons,hn]at hkn;rw[hn]at hc|-;rw[hn]at HM0;rw[hPS]at hpos hrm|-;rw[hCS]at hKK|-;have HN:=Lib.hid (And.intro hn (And.intro hPS hCS));have hk0:=hca0 w (hbu.bel.block g hg);obtain ⟨z0,z1,z2,z3,z4⟩:=hk0;have hglw:g<w.heap.size:=by have:=hbu.bel.size;omega
 have hglw1:g<w.heap.size+1:=by omega
 have hglw2:g<w.heap.size+1+1:=by omega
 clear hR hpe hce hlang hbu hw hkd hK hM0 hn hPS hCS hln hln0 hv0 hnd0 hcall0 hca0 hkr hgr0
 go_enter Tryz.func135,Tryz.ntmps135
 go_wp2_with fail;have hw00:w0.heap.size<=w.heap.size:=hB0;refine (HC0.out _ _ HM0.out.bu).mono ?_;rintro e w1 ⟨b1,y,fp1,v1,v2,rfl,hb',hk',hi1,hi2,hwr,hfl,hne,hl,hbd⟩;obtain ⟨Av1,cv1,rfl,-⟩:=hi1.1.form;obtain ⟨Av2,cv2,rfl,-⟩:=hi2.1.form;have hM1:=HM0.out.out hb' hk' hi1 hi2 hw00;have hst1:KidI b b1 (gC (a::r) 1) 1 (posS ((a::r).take 1)) y (K+cstS ((a::r).take 1)):=by
  rw[List.take_succ_cons,List.take_zero,posS,posS,cstS,cstS];refine ⟨hwr.cho1,by rw[hfl];omega,by omega,λl hl=>by have:=hbd l hl;omega, .inr hne⟩
 have HST1:=Lib.hid hst1;have HM1:=Lib.hid hM1;have hz:=hk'.size;have hz0:=HM0.out.sz;have hr0:=(hk'.blk _ (by omega) (HM0.out.notin w.heap.size (by omega) (by omega))).trans HM0.out.n0
 have hr2:=(hk'.blk _ (by omega) (HM0.out.notin (w.heap.size+1+1) (by omega) (by omega))).trans HM0.out.n2
 obtain ⟨y0,y1,y2,y3,y4⟩:=cells5 hr0;obtain ⟨q0,q1,q2⟩:=cells3 hr2;have fq0:w1.frozen? ⟨w.heap.size+1+1,0,none⟩=false:=by simp[World.frozen?,hr2]
 have fq1:w1.frozen? ⟨w.heap.size+1+1,1,none⟩=false:=by simp[World.frozen?,hr2]
 have fq2:w1.frozen? ⟨w.heap.size+1+1,2,none⟩=false:=by simp[World.frozen?,hr2]
 have lq0:w.heap.size<w1.heap.size:=by omega
 have lq2:w.heap.size+1+1<w1.heap.size:=by omega
 clear hb' hk' hi1 hi2 hwr hfl hne hl hbd hM1 hr2 hr0 hst1 z0 z1 z2 z3 z4;go_wp2_with fail
 go_loopw [77] (λiv wr=>∃(k:Nat) (bi:Pb) (fpi:List Nat) (xo:Prt) (vo1 vo2:Value),k<=n/\iv = .int .i64 (k:Int)/\Hid (WrMem w0 s x2 x3 x4 fp w #[.int .i64 3, .slice A1 rs.length c1, .slice (some ⟨g,f,none⟩) (n+1) c, .int .i64 mn, .int .i64 mx] bi fpi xo vo1 vo2 wr)/\Hid (KidI b bi (gC (a::r) (k+1)) (k+1) (posS ((a::r).take (k+1))) xo (K+cstS ((a::r).take (k+1))))) (λiv _=>n - (intOf iv).toNat)
 case atStart=>
  exact ⟨0,b1,fp1,y,_,_,by omega,rfl,HM1,HST1⟩
 case round=>
  obtain ⟨k,bi,fpi,xo,vo1,vo2,hi,rfl,HM,HI⟩:=hrel;by_cases hlt:k<n
  .have hd:decide ((k:Int)<(n:Int))=true:=decide_eq_true (by omega)
   have hdn:decide (k<n)=true:=decide_eq_true hlt;obtain ⟨kd,B1,e1,B2,e2,hkd,hnd,hkc⟩:=kid_cells (kids:=r) (f:=f+5) (k:=k) (by rw[HN.out.1];exact hlt) HKD.out
   obtain ⟨Ao1,co1,rfl,-⟩:=HM.out.o1.1.form;obtain ⟨Ao2,co2,rfl,-⟩:=HM.out.o2.1.form;obtain ⟨eo,heo⟩:∃eo,xo.emp=eo:=⟨_,rfl⟩;have hw00:w0.heap.size<=w.heap.size:=hB0;have hsz0:=HM.out.sz;have hgr:wr.heap[g]?=w0.heap[g]?:=HM.out.bu.bel.block g hg;have hglr:g<wr.heap.size:=by have:=HM.out.bu.bel.size;omega
   obtain ⟨k0,k1,k2,k3,k4⟩:=hkc wr hgr;have hkd1:(a::r)[k+1]?=some kd:=by rw[List.getElem?_cons_succ];exact hkd
   have hps:=posS_step hkd1;have hcs:=cstS_step hkd1;rw[HN.out.2.1]at hps;rw[HN.out.2.2]at hcs;have hwc:=HW.out kd (List.mem_of_getElem? hkd1) _ hnd;have hin:=HI.out;obtain ⟨pk,hpk⟩:∃p,posS ((a::r).take (k+1))=p:=⟨_,rfl⟩;obtain ⟨K0,hK0⟩:∃p,K+cstS ((a::r).take (k+1))=p:=⟨_,rfl⟩;rw[hpk,hK0]at hin;rw[hpk]at hps;have hKc:K0+cstF kd<=10000000000:=by omega
   have hpk600:pk<=600:=by omega
   have hpkd:posF kd<=600:=by omega
   have HKD1:=Lib.hid hkd1;have HWC:=Lib.hid hwc;have HKX:=Lib.hid (And.intro hpk hK0);have hfl:=hin.fl;have hlen:=hin.wr.len;have hroom:bi.fol.length+posF kd<=600:=by omega
   have HROOM:=Lib.hid (And.intro hroom hlen);have HKK:=Lib.hid hin.bd;have HXL:=Lib.hid (show ∀p∈xo.last,p<bi.fol.length from λp hp=>(hin.wr.good.lst p hp).2);have HLO:=Lib.hid (show xo.first.length<=600/\xo.last.length<=600 from ⟨by have:=hin.ln;omega,by have:=hin.ln;omega⟩)
   have HEO:=Lib.hid heo;have HKC:=Lib.hid hkc;have HRM:=Lib.hid (And.intro hps hcs);have hn2:=HM.out.n2;rw[heo]at hn2;obtain ⟨oo0,oo1,oo2⟩:=cells3 hn2;have HX0:=Lib.hid (And.intro hps hcs);clear hkd hkd1 hnd hkc hwc hin hpk hfl hlen hroom hcs heo hn2 hK0 hgr hps;go_wp2_with fail;refine wp_named λW hW=>?_;have hbW:Below wr.heap.size wr W:=by rw[hW];exact (Below.refl _ _).alloc (Nat.le_refl _) _
   have hMW:=HM.out.later hbW;have hKB:W.heap[wr.heap.size]?=some (.cells #[.int .i64 kd.op, .slice B1 kd.rs.length e1, .slice B2 kd.kids.length e2, .int .i64 kd.mn, .int .i64 kd.mx] 41 (0,0)):=by rw[hW];exact heap_alloc_new wr _
   have hzW:W.heap.size=wr.heap.size+1:=by rw[hW];simp
   have l2:w.heap.size+1+1<W.heap.size:=by omega
   have lk:wr.heap.size<W.heap.size:=by omega
   have n2:=hMW.notin (w.heap.size+1+1) (by omega) (by omega)
   have nk:wr.heap.size∉fpi:=λhm=>by have:=(HM.out.bu.lt _ hm).2;omega
   have hn2:=hMW.n2;rw[HEO.out]at hn2;obtain ⟨o0,o1,o2⟩:=cells3 hn2;have HBU:=Lib.hid hMW.bu;have HIO:=Lib.hid (And.intro hMW.o1.1 (And.intro hMW.o1.2 (And.intro hMW.o2.1 hMW.o2.2)));have HKB:=Lib.hid hKB;have HMW:=Lib.hid hMW;have HBW:=Lib.hid hbW;clear hW hbW hMW hKB hn2 k0 k1 k2 k3 k4 oo0 oo1 oo2;have hS0:StC6 fpi W 0 W.drew:=⟨(KeepF.of_below (Below.refl _ _).drew).weak,λ_=>(Below.refl _ _).drew⟩;refine wp_region_chain 5 [3,4] (factW19 w0 s x2 x3 x4 bi fpi (gN kd) (posF kd) (K0+cstF kd) W (.slice Ao1 xo.first.length co1) (.slice Ao2 xo.last.length co2) eo (.agg #[.int .i64 kd.op, .slice B1 kd.rs.length e1, .slice B2 kd.kids.length e2, .int .i64 kd.mn, .int .i64 kd.mx]) xo) (λc w'=>StC6 fpi W c w') (by kernel_rfl) (by kernel_rfl) (by kernel_rfl) (by kernel_rfl) (by kernel_rfl) (by kernel_rfl) (by decide) hS0 ?_ ?_
   .simp only[pq4,pq5];refine HSteps.pure (by decide) ?_ (HSteps.pure (by decide) ?_ (HSteps.pure (by decide) ?_ (HSteps.eff 0 rfl ?_ (HSteps.eff 1 rfl ?_ (HSteps.nil)))))
    all_goals first | (with_reducible intro v wz c hlo hS hE K hK;simp only[putAll,Act.put,pq1,pq2,pq3,Nat.zero_add,Nat.reduceAdd,pq4,pq5]at hK|-) | (intro v wz hS hE K hK;simp only[putAll,Act.put,pq1,pq2,pq3,Nat.zero_add,Nat.reduceAdd,pq4,pq5]at hK|-)
    .have cx0:=(World.cell?_of_block (a:=⟨w.heap.size+1+1,0,none⟩) (hS.1.blk _ l2 n2)).trans o0;have cx1:=(World.cell?_of_block (a:=⟨w.heap.size+1+1,1,none⟩) (hS.1.blk _ l2 n2)).trans o1;have cx2:=(World.cell?_of_block (a:=⟨w.heap.size+1+1,2,none⟩) (hS.1.blk _ l2 n2)).trans o2;have HX:=Lib.hid hS;clear hS hE hlo;go_wp2_with fail;exact hK.out _ rfl
    .have HX:=Lib.hid hS;clear hS hE hlo;go_wp2_with fail;exact hK.out _ rfl
    .obtain ⟨k0,k1,k2,k3,k4⟩:=cells5 ((hS.1.blk _ lk nk).trans HKB.out);have HX:=Lib.hid hS;clear hS hE hlo;go_wp2_with fail;exact hK.out _ rfl
    .have e1:v 1=_:=hE.1 rfl;have e2:v 2=_:=hE.2.1 rfl;rw[e1,e2]at hK|-;have hz:=hS.2 rfl;have hcall:=HWC.out wz bi fpi K0 (HBU.out.later hz) HROOM.out.2 HROOM.out.1 HKK.out hKc;have HC:=Lib.hid hcall;have HX:=Lib.hid hS;clear hS hE hcall;go_wp2_with fail;refine HC.out.mono ?_;rintro e wy ⟨b',y,fp',v1,v2,rfl,hb',hk',hi1,hi2,hw',hl',hne',hln',hK'⟩;have HP:=Lib.hid (And.intro hb' (And.intro hk' (And.intro hi1 (And.intro hi2 (And.intro hw' (And.intro hl' (And.intro hne' (And.intro hln' hK'))))))));clear hb' hk' hi1 hi2 hw' hl' hne' hln' hK';go_wp2_with fail;refine hK.out _ _ (λj z hj h=>?_) ⟨((KeepF.of_below (HX.out.2 rfl)).trans HP.out.2.1).weak,λh=>by cases h⟩ (λ_=>⟨b',y,fp',v1,v2,rfl,HP.out.1,(KeepF.of_below (HX.out.2 rfl)).trans HP.out.2.1,HP.out.2.2.1,HP.out.2.2.2.1,HP.out.2.2.2.2.1,HP.out.2.2.2.2.2.1,HP.out.2.2.2.2.2.2.1,HP.out.2.2.2.2.2.2.2.1,HP.out.2.2.2.2.2.2.2.2⟩)
     match j with
     | 0 | 1 | 2=>exact h
     | 3=>exact absurd rfl hj
     | 4=>exact λh=>by cases h
     | _+5=>exact trivial
    .have e0:v 0=_:=hE.1 rfl;rw[e0]at hK|-;have E3:=hE.2.1 rfl;obtain ⟨b',y,fp',v1,v2,ev,hb',hk',hi1,hi2,hw',hl',hne',hln',hK'⟩:=E3 rfl;injection ev with ev;rw[ev]at hK|-;have i1:=HIO.out.1.keep HIO.out.2.1 hk';have i2:=HIO.out.2.2.1.keep HIO.out.2.2.2 hk';have hcall:=either_any xo.first xo.last y.first y.last xo.emp y.emp _ _ v1 v2 wz i1.1 i2.1 hi1.1 hi2.1 hne'.1 hne'.2 (by have:=HLO.out;omega) (by have:=HLO.out;omega) (by omega) (by omega)
     rw[HEO.out]at hcall;have HC:=Lib.hid hcall;have HX:=Lib.hid hS;have HP:=Lib.hid (And.intro hb' (And.intro hk' (And.intro hw' (And.intro hl' (And.intro hne' (And.intro hln' hK'))))));clear hS hE hcall hb' hk' hi1 hi2 hw' hl' hne' hln' hK' i1 i2 E3 ev;go_wp2_with fail;refine HC.out.mono ?_;rintro e wy ⟨u1,u2,rfl,ho1,ho2,hbw⟩;have HQ:=Lib.hid (And.intro ho1 (And.intro ho2 hbw));clear ho1 ho2 hbw;go_wp2_with fail;refine hK.out _ _ (λj z hj h=>?_) ⟨(HP.out.2.1.trans (KeepF.of_below HQ.out.2.2)).weak,λh=>by cases h⟩ (λ_=>⟨b',y,fp',u1,u2,by rw[<-HEO.out];rfl,HP.out.1.later HQ.out.2.2,HP.out.2.1.trans (KeepF.of_below HQ.out.2.2),⟨IL.of_own HQ.out.1 λ_ h=>HP.out.2.2.2.2.1.1 (List.append_eq_nil_iff.1 h).2,λg hg hm=>by have:=(HQ.out.1.lt g hg).1;have:=(HP.out.1.lt g hm).2;omega⟩,⟨IL.of_own HQ.out.2.1 λ_ h=>HP.out.2.2.2.2.1.2 (List.append_eq_nil_iff.1 h).2,λg hg hm=>by have:=(HQ.out.2.1.lt g hg).1;have:=(HP.out.1.lt g hm).2;omega⟩,HP.out.2.2.1,HP.out.2.2.2.1,HP.out.2.2.2.2.1,HP.out.2.2.2.2.2.1,HP.out.2.2.2.2.2.2⟩)
     match j with
     | 0 | 1 | 2=>exact h
     | 3=>exact λh=>by cases h
     | 4=>exact absurd rfl hj
     | _+5=>exact trivial
   .intro v wz hS hF;have e0:v 0=_:=hF 0 (by decide)
    have e1:v 1=_:=hF 1 (by decide)
    have e2:v 2=_:=hF 2 (by decide)
    have E3:=hF 3 (by decide)
    have E4:=hF 4 (by decide)
    simp only[putAll,Act.put,pq1,pq2,pq3,Nat.zero_add,Nat.reduceAdd,pq4,pq5,List.drop_succ_cons,List.drop_zero,e0,e1,e2];clear hF e0 e1 e2;obtain ⟨b',y,fp2,u1,u2,ev,hb2,hk2,hu1,hu2,hwy,hl',hne',hln',hK'⟩:=E4 rfl;rw[ev];obtain ⟨Au1,cu1,rfl,hcu1⟩:=hu1.1.form;obtain ⟨Au2,cu2,rfl,hcu2⟩:=hu2.1.form;have hM1:=HMW.out.out (x':=eitP xo y) hb2 hk2 hu1 hu2 hw00;have hI1:=HI.out.cho HKD1.out hwy hl' hln' (λl hl=>by have:=hK' l hl;have:=HKX.out.2;omega) hne'
    have HP2:=Lib.hid hk2;have HI1:=Lib.hid hI1;have HM1:=Lib.hid hM1;have hz2:=(HP2.out.blk _ l2 n2).trans HMW.out.n2;obtain ⟨q0,q1,q2⟩:=cells3 hz2;have f0:wz.frozen? ⟨w.heap.size+1+1,0,none⟩=false:=by simp[World.frozen?,hz2]
    have f1:wz.frozen? ⟨w.heap.size+1+1,1,none⟩=false:=by simp[World.frozen?,hz2]
    have f2:wz.frozen? ⟨w.heap.size+1+1,2,none⟩=false:=by simp[World.frozen?,hz2]
    clear hS E3 E4 ev hb2 hk2 hu1 hu2 hwy hl' hne' hln' hK' hI1 hM1 hz2 o0 o1 o2 hS0;go_wp2_with fail;go_roundw
    case rel=>
     exact ⟨k+1,_,_,_,_,_,by omega,by go_num,HM1,HI1⟩
    case measure=>simp[intOf];omega
  .obtain rfl:k=n:=by omega
   have hw00:w0.heap.size<=w.heap.size:=hB0;obtain ⟨Ao1,co1,rfl,-⟩:=HM.out.o1.1.form;obtain ⟨Ao2,co2,rfl,-⟩:=HM.out.o2.1.form;have hsz0:=HM.out.sz;obtain ⟨y0,y1,y2⟩:=cells3 HM.out.n1;obtain ⟨q0,q1,q2⟩:=cells3 HM.out.n2;have fy0:wr.frozen? ⟨w.heap.size+1,0,none⟩=false:=by simp[World.frozen?,HM.out.n1]
   have fy1:wr.frozen? ⟨w.heap.size+1,1,none⟩=false:=by simp[World.frozen?,HM.out.n1]
   have fy2:wr.frozen? ⟨w.heap.size+1,2,none⟩=false:=by simp[World.frozen?,HM.out.n1]
   go_wp2_with fail;refine post_named λWf hWf=>?_;have hgb:wr.grownBy Wf (some (w.heap.size+1)):=by
    rw[hWf];repeat (first | exact gb_refl _ _ | refine gb_alloc ?_ _ | refine gb_setN ?_ _ _ | refine gb_drew ?_)
   obtain ⟨t1,t2,t3,t4⟩:=HM.out.fin hw00 hgb;have hin:=HI.out;rw[List.take_of_length_le (by rw[List.length_cons,HN.out.1];exact Nat.le_refl _),HN.out.2.1,HN.out.2.2]at hin
   refine bodyPost_ret (v:=.agg #[.slice Ao1 xo.first.length co1, .slice Ao2 xo.last.length co2, .bool xo.emp]) (by rw[hWf];simp[results,Tryz.results135,go_sem,y0,y1,y2,q0,q1,q2];try rfl) rfl ?_
   have hwr:=hin.wr;rw[<-HN.out.1]at hwr;exact ⟨bi,xo,fpi,_,_,rfl,t1,t2,t3,t4,hwr,hin.fl,hin.ne.resolve_left (by omega),hin.ln,hin.bd⟩
theorem right_set {rs:List (Nat×Nat)} {kids:List Nd} {mn mx:Int} (hR:rightF (.mk 1 rs kids mn mx)=true):kids=[]/\rngF rs=true:=by
 have h:=((rightF_iff _).1 hR).1;simp only[rightN,if_true,Bool.and_eq_true]at h;exact ⟨by simpa using h.2.2.1,h.2.1⟩
theorem write_any (w0:World) (s:Nat) (x2 x3 x4:Value):∀(m:Nat) (nd:Nd) (vs:List Value),nodesT nd<=m->rightF nd=true->posF nd<=600->NdIn w0 nd vs->WrCall w0 s x2 x3 x4 nd vs:=by
 intro m
 induction m with
 | zero=>intro nd vs h;cases nd;rw[nodesT]at h;omega
 | succ m ih=>
  rintro ⟨op,rs,kids,mn,mx⟩ vs hm hR hp hn;obtain ⟨hop,hRs⟩:=rightF_op hR;rw[nodesT]at hm;obtain ⟨A1,c1,A2,c2,rfl,hr,hc2,hk⟩:=hn.form;simp only[Nd.op,Nd.rs,Nd.kids,Nd.mn,Nd.mx]at hr hc2 hk|-;have hkid:∀kd∈kids,posF kd<=600->∀kvs,NdIn w0 kd kvs->WrCall w0 s x2 x3 x4 kd kvs:=λkd hkd hpk kvs hn=>ih kd kvs (by have:=nodesT_kid hkd;omega) (rightFs_mem hRs hkd) hpk hn
  rcases hop with rfl | rfl | rfl | ⟨rfl,hk1,hm0,hm1,hm2⟩
  .obtain ⟨rfl,hrg⟩:=right_set hR;exact write_set w0 s x2 x3 x4 rs mn mx _ hn hrg
  .have h2:=kids_ge hR (.inl rfl);rcases hk with rfl | ⟨g,f,rfl,hg,hkd⟩
   .simp at h2
   .have hps:=pos_seq (.inl rfl) hp;exact write_seq w0 s x2 x3 x4 rs kids mn mx A1 c1 g f c2 hR hp hg hc2 hkd λkd h kvs hn=>hkid kd h (by have:=posS_mem h;omega) kvs hn
  .have h2:=kids_ge hR (.inr rfl);rcases hk with rfl | ⟨g,f,rfl,hg,hkd⟩
   .simp at h2
   .have hps:=pos_seq (.inr rfl) hp
    cases kids with
    | nil=>simp at h2
    | cons a r=>exact write_choice w0 s x2 x3 x4 rs a r mn mx A1 c1 g f c2 hR hp hg hc2 hkd λkd h kvs hn=>hkid kd h (by have:=posS_mem h;omega) kvs hn
  .rcases hk with rfl | ⟨g,f,rfl,hg,hkd⟩
   .simp at hk1
   .match kids,hk1 with
    | [a],_=>
     obtain ⟨⟨kvs,hkc,hna⟩,-⟩:=hkd;have hps:=pos_rep hp;have hpa:posF a<=600:=by
      have h1:1*posF a<=mx.toNat*posF a:=Nat.mul_le_mul_right _ (by omega)
      have h2:posH [a]=posF a:=rfl;rw[h2]at hps;omega
     exact write_rep w0 s x2 x3 x4 rs a mn mx A1 c1 g f c2 kvs hR hp hg hc2 hna hkc (hkid a (by simp) hpa kvs hna)
def tA:ByteArray:=⟨#[97,123,49,44,50,125]⟩
def lfA (q:Nat):Value:=.agg #[.int .i64 1, .slice (some ⟨q,0,none⟩) 1 1, .slice none 0 0, .int .i64 0, .int .i64 0]
def RgA (q:Nat) (w:World):Prop:=w.heap[q]?=some (.cells #[.int .u8 97, .int .u8 97] 84 (0,0))
def LfA (g q:Nat) (w:World):Prop:=w.heap[g]?=some (.cells #[.int .i64 1, .slice (some ⟨q,0,none⟩) 1 1, .slice none 0 0, .int .i64 0, .int .i64 0] 41 (0,0))/\RgA q w
theorem wp_nm {P:Program} {c:Code} {Q:Exit->Act->World->Prop} {a:Act} {w:World} (h:∀W,W=w->c.wp P Q a W):c.wp P Q a w:=h w rfl
def bxL (q b:Nat) (w:World):Prop:=w.heap[b]?=some (.cells #[.int .i64 1, .slice (some ⟨q,0,none⟩) 1 1, .slice none 0 0, .int .i64 0, .int .i64 0] 41 (0,0))
def bxR (g b:Nat) (w:World):Prop:=w.heap[b]?=some (.cells #[.int .i64 4, .slice none 0 0, .slice (some ⟨g,0,none⟩) 1 1, .int .i64 1, .int .i64 2] 41 (0,0))
def allocs (w:World):List (Array Value×TypeId)->World
 | []=>w
 | o::r=>allocs (w.alloc (.cells o.1 o.2)) r
theorem allocs_size:∀(os:List (Array Value×TypeId)) (w:World),(allocs w os).heap.size=w.heap.size+os.length
 | [],w=>rfl
 | o::r,w=>by rw[allocs,allocs_size r];simp;omega
theorem allocs_below:∀(os:List (Array Value×TypeId)) (w:World),Below w.heap.size w (allocs w os)
 | [],w=>Below.refl _ _
 | o::r,w=>by
  rw[allocs];have h1:Below w.heap.size w (w.alloc (.cells o.1 o.2)):=(Below.refl _ _).alloc (Nat.le_refl _) _;exact h1.trans ((allocs_below r _).mono (by simp))
theorem allocs_get:∀(os:List (Array Value×TypeId)) (w:World) (i:Nat) (h:i<os.length),(allocs w os).heap[w.heap.size+i]?=some (.cells os[i].1 os[i].2 (0,0))
 | o::r,w,0,h=>by
  rw[allocs,(allocs_below r _).block _ (by simp)]
  exact heap_alloc_new w (.cells o.1 o.2)
 | o::r,w,i+1,h=>by
  have:=allocs_get r (w.alloc (.cells o.1 o.2)) i (by simpa using h)
  rw[allocs];have e:(w.alloc (.cells o.1 o.2)).heap.size+i=w.heap.size+(i+1):=by simp;omega
  rw[e]at this;exact this
theorem allocs_at {os:List (Array Value×TypeId)} {w:World} (i:Nat) {cs:Array Value} {T:TypeId} (h:os[i]?=some (cs,T)):(allocs w os).heap[w.heap.size+i]?=some (.cells cs T (0,0)):=by
 obtain ⟨hi,e⟩:=List.getElem?_eq_some_iff.1 h;rw[allocs_get os w i hi,e]
end Go.Proofs.YtdmoogjddmdmbaaGreatDoor
