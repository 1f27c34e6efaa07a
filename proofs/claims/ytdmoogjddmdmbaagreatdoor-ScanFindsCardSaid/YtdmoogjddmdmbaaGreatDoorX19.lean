/- Walks. -/
import Derived.Test.YtdmoogjddmdmbaaGreatDoorX11
import Derived.Test.YtdmoogjddmdmbaaGreatDoorX06
set_option maxRecDepth 100000
set_option maxHeartbeats 16000000
set_option linter.unusedVariables false
set_option linter.unusedSimpArgs false
namespace Go.Proofs.YtdmoogjddmdmbaaGreatDoor
open Go.RowKit
def nZ(s:Nat)(vs vf:Value)(W:World)(c:Nat)(w':World):Prop:=aj (s::(blk vs++blk vf)) [] W w'/\(c<=2->w'.heap[s]?=W.heap[s]?)/\(c<=1->∀g,vf.ownBlock=some g->w'.heap[g]?=W.heap[g]?)/\(c=0->Below W.heap.size W w')
theorem ql{L:List Nat}{a b:World}{v:Value}(h:a.grownBy b v.ownBlock)(hL:∀g,v.ownBlock=some g->g∈L):aj L [] a b:=
 ⟨h.os,h.tape,h.output,h.size,λk hk hn=>h.block k hk (λe=>hn (hL k e.symm)),λk hk=>by cases hk⟩
theorem aj.tr{L:List Nat}{a b c:World}(h:aj L [] a b)(k:aj L [] b c):aj L [] a c:=
 ⟨k.os.trans h.os,k.tape.trans h.tape,k.output.trans h.output,Nat.le_trans h.size k.size,λi hi hn=>(k.blk i (Nat.lt_of_lt_of_le hi h.size) hn).trans (h.blk i hi hn),λk hk=>by cases hk⟩
def lj(N s B0 nr c1 nS cS nF cF:Nat)(A1 As Af:Option Addr)(x2 x3 x4:Value)(sv rows:List Value)(W:World):Nat->Nat->Value->World->Prop
 |c,0,x,w=>x=.pointer (some ⟨s,0,none⟩)
 |c,1,x,w=>x=.pointer (some ⟨s,0,none⟩)
 |c,2,x,w=>x=.pointer (some ⟨s,0,none⟩)
 |c,3,x,w=>x=.pointer (some ⟨s,0,none⟩)
 |c,4,x,w=>x=.pointer (some ⟨s,0,none⟩)
 |c,5,x,w=>x=.slice As nS cS
 |c,6,x,w=>x=.pointer (some ⟨N,1,none⟩)
 |c,7,x,w=>x=.slice A1 nr c1
 |c,8,x,w=>∃g,x=.slice (some ⟨g,0,none⟩) 1 1/\W.heap.size<=g/\g<w.heap.size/\w.cell? ⟨g,0,none⟩=some (.slice A1 nr c1)
 |c,9,x,w=>1<=c->∃A c',x=.slice A (nS+1) c'/\w.ownsRow B0 38 1 x (nS+1) (sv++[.slice A1 nr c1])/\di x (.slice As nS cS) W.heap.size
 |c,10,x,w=>x=.pointer (some ⟨s,0,none⟩)
 |c,11,x,w=>x=.pointer (some ⟨s,0,none⟩)
 |c,12,x,w=>x=.pointer (some ⟨s,1,none⟩)
 |c,13,x,w=>x=.slice Af nF cF
 |c,14,x,w=>∃g,x=.slice (some ⟨g,0,none⟩) 1 1/\W.heap.size<=g/\g<w.heap.size/\w.cell? ⟨g,0,none⟩=some (.slice none 0 0)
 |c,15,x,w=>2<=c->∃A c',x=.slice A (nF+1) c'/\w.ownsRow B0 22 1 x (nF+1) (rows++[.slice none 0 0])/\di x (.slice Af nF cF) W.heap.size
 |c,16,x,w=>x=.pointer (some ⟨s,0,none⟩)
 |c,17,x,w=>x=.pointer (some ⟨s,0,none⟩)
 |c,18,x,w=>3<=c->∃A c',w.ownsRow B0 38 1 (.slice A (nS+1) c') (nS+1) (sv++[.slice A1 nr c1])/\di (.slice A (nS+1) c') (.slice As nS cS) W.heap.size/\w.heap[s]?=some (.cells #[.slice A (nS+1) c',.slice Af nF cF,x2,x3,x4] 182 (0,0))
 |c,19,x,w=>x=.pointer (some ⟨s,0,none⟩)
 |c,20,x,w=>x=.pointer (some ⟨s,1,none⟩)
 |_,_,_,_=>True
section
variable {s:Nat} {vs vf:Value} {W w' w'':World} {c:Nat}
theorem nZ.later(h:nZ s vs vf W c w')(hs:s<W.heap.size:=by assumption)(hf:∀g,vf.ownBlock=some g->g<W.heap.size:=by assumption)(hb:Below w'.heap.size w' w''):nZ s vs vf W c w'':=by
 have hz:=h.1.size;exact ⟨h.1.tr (aj.aa hb).oR,λhc=>(hb.block s Y).trans (h.2.1 hc),λhc g hg=>(hb.block g (by have:=hf g hg;omega)).trans (h.2.2.1 hc g hg),λhc=>(h.2.2.2 hc).trans (hb.mono hz)⟩
theorem nZ.s1(h:nZ s vs vf W 0 w')(hs:s<W.heap.size)(hg:w'.grownBy w'' vs.ownBlock)(hn:vs.ownBlock≠some s)(hf:∀g,vf.ownBlock=some g->vs.ownBlock≠some g/\g<W.heap.size):nZ s vs vf W 1 w'':=by
 have hz:=h.1.size;exact ⟨h.1.tr (ql hg λg hg=>by simp[aI,hg]),λ_=>(hg.block s Y (λe=>hn e.symm)).trans (h.2.1 O),λ_ g Df=>(hg.block g (by have:=(hf g Df).2;omega) (λe=>(hf g Df).1 e.symm)).trans (h.2.2.1 O g Df),λh=>by cases h⟩
theorem nZ.s2(h:nZ s vs vf W 1 w')(hs:s<W.heap.size)(hg:w'.grownBy w'' vf.ownBlock)(hn:vf.ownBlock≠some s):nZ s vs vf W 2 w'':=by
 have hz:=h.1.size;exact ⟨h.1.tr (ql hg λg hg=>by simp[aI,hg]),λ_=>(hg.block s Y (λe=>hn e.symm)).trans (h.2.1 O),λh=>Y,λh=>by cases h⟩
theorem nZ.s3(h:nZ s vs vf W 2 w')(v:Value):nZ s vs vf W 3 (w'.setCell ⟨s,0,none⟩ v):=
 ⟨h.1.tr ⟨rfl,rfl,rfl,by simp[World.setCell],λk _ hn=>Below.heap_setCell _ _ _ _ (λe=>hn (by rw[e];simp)),λk hk=>by cases hk⟩,λh=>Y,λh=>Y,λh=>by cases h⟩
end
section
variable {N s B0 nr c1 nS cS nF cF:Nat} {A1 As Af:Option Addr} {x2 x3 x4:Value} {sv rows:List Value} {W u u':World}
theorem yp(hb:Below u.heap.size u u'){c j:Nat}{x:Value}(h:lj N s B0 nr c1 nS cS nF cF A1 As Af x2 x3 x4 sv rows W c j x u):lj N s B0 nr c1 nS cS nF cF A1 As Af x2 x3 x4 sv rows W c j x u':=by
 match j with
 |0|1|2|3|4|5|6|7|10|11|12|13|16|17|19|20=>exact h
 |8|14=>
  obtain ⟨g,e,h1,hg,h0⟩:=h;exact ⟨g,e,h1,Nat.lt_of_lt_of_le hg hb.size,(hb.cl g 0 hg).trans h0⟩
 |9|15=>
  intro hc;obtain ⟨A,c',e,ho,hf⟩:=h hc;exact ⟨A,c',e,bw ho hb,hf⟩
 |18=>
  intro hc;obtain ⟨A,c',ho,hf,hr⟩:=h hc;exact ⟨A,c',bw ho hb,hf,(hb.block _ (γ hr).1).trans hr⟩
 |_+21=>exact trivial
theorem RC{v:Value}(hg:u.grownBy u' v.ownBlock)(hv:∀g,v.ownBlock=some g->g<W.heap.size){x z:Value}(h:∃g,x=.slice (some ⟨g,0,none⟩) 1 1/\W.heap.size<=g/\g<u.heap.size/\u.cell? ⟨g,0,none⟩=some z):∃g,x=.slice (some ⟨g,0,none⟩) 1 1/\W.heap.size<=g/\g<u'.heap.size/\u'.cell? ⟨g,0,none⟩=some z:=by
 obtain ⟨g,e,h1,h2,h3⟩:=h;exact ⟨g,e,h1,Nat.lt_of_lt_of_le h2 hg.size,(χ g 0 (hg.block g h2 (λe=>by have:=hv g e.symm;omega))).trans h3⟩
theorem J7(hg:u.grownBy u' (Value.slice As nS cS).ownBlock)(hv:∀g,(Value.slice As nS cS).ownBlock=some g->g<W.heap.size)(j:Nat)(x:Value)(hj:j≠9)(h:lj N s B0 nr c1 nS cS nF cF A1 As Af x2 x3 x4 sv rows W 0 j x u):lj N s B0 nr c1 nS cS nF cF A1 As Af x2 x3 x4 sv rows W 1 j x u':=by
 match j with
 |0|1|2|3|4|5|6|7|10|11|12|13|16|17|19|20=>exact h
 |8|14=>exact RC hg hv h
 |9=>exact absurd rfl hj
 |15|18=>exact λhc=>Y
 |_+21=>exact trivial
theorem J8(hg:u.grownBy u' (Value.slice Af nF cF).ownBlock)(hv:∀g,(Value.slice Af nF cF).ownBlock=some g->g<W.heap.size)(hd:∀g,(Value.slice Af nF cF).ownBlock=some g->(Value.slice As nS cS).ownBlock≠some g)(j:Nat)(x:Value)(hj:j≠15)(h:lj N s B0 nr c1 nS cS nF cF A1 As Af x2 x3 x4 sv rows W 1 j x u):lj N s B0 nr c1 nS cS nF cF A1 As Af x2 x3 x4 sv rows W 2 j x u':=by
 match j with
 |0|1|2|3|4|5|6|7|10|11|12|13|16|17|19|20=>exact h
 |8|14=>exact RC hg hv h
 |9=>
  intro _;obtain ⟨A,c',e,ho,hf⟩:=h O;refine ⟨A,c',e,aG ho λg ij=>hg.block g (ho.lt g ij).2 (λe2=>?_),hf⟩;rcases hf with hf|⟨g',hf,h2⟩
  .rw[hf]at ij;exact hd g e2.symm ij
  .rw[hf]at ij;injection ij with ij;have:=hv g e2.symm;omega
 |15=>exact absurd rfl hj
 |18=>exact λhc=>Y
 |_+21=>exact trivial
theorem J9(hs:s<W.heap.size)(hsS:(Value.slice As nS cS).ownBlock≠some s)(hsF:(Value.slice Af nF cF).ownBlock≠some s)(v:Value)(j:Nat)(x:Value)(hj:j≠18)(h:lj N s B0 nr c1 nS cS nF cF A1 As Af x2 x3 x4 sv rows W 2 j x u):lj N s B0 nr c1 nS cS nF cF A1 As Af x2 x3 x4 sv rows W 3 j x (u.setCell ⟨s,0,none⟩ v):=by
 have bo:∀k,k≠s->(u.setCell ⟨s,0,none⟩ v).heap[k]?=u.heap[k]?:=λk hk=>Below.heap_setCell _ _ _ _ hk
 match j with
 |0|1|2|3|4|5|6|7|10|11|12|13|16|17|19|20=>exact h
 |8|14=>
  obtain ⟨g,e,h1,h2,h3⟩:=h;exact ⟨g,e,h1,by simpa [World.setCell] using h2,(χ g 0 (bo g Y)).trans h3⟩
 |9=>
  intro _;obtain ⟨A,c',e,ho,hf⟩:=h O;refine ⟨A,c',e,aG ho λg ij=>bo g (λe2=>?_),hf⟩;subst e2;rcases hf with hf|⟨g',hf,h2⟩
  .rw[hf]at ij;exact hsS ij
  .rw[hf]at ij;injection ij with ij;omega
 |15=>
  intro _;obtain ⟨A,c',e,ho,hf⟩:=h O;refine ⟨A,c',e,aG ho λg ij=>bo g (λe2=>?_),hf⟩;subst e2;rcases hf with hf|⟨g',hf,h2⟩
  .rw[hf]at ij;exact hsF ij
  .rw[hf]at ij;injection ij with ij;omega
 |18=>exact absurd rfl hj
 |_+21=>exact trivial
end
theorem Ka(w0:World)(s:Nat)(x2 x3 x4:Value)(rs:List (Nat×Nat))(mn mx:Int)(vs:List Value)(hn:bT w0 (.mk 1 rs [] mn mx) vs)(y7:dU rs=true):jy w0 s x2 x3 x4 (.mk 1 rs [] mn mx) vs:=by
 intro w b fp K oN lI jF hK AY;obtain ⟨A1,c1,A2,c2,rfl,yq,qD,-⟩:=hn.form;obtain ⟨Vs,Vf,rows,sv,rfl,hb⟩:=oN;obtain ⟨As,cS,rfl,au7,V8⟩:=ar hb.sets;obtain ⟨Af,cF,rfl,au8,au9⟩:=ar hb.fol;obtain ⟨i1,iW,Gf,tv,pJ⟩:=info_parts PK;obtain ⟨i2,eS,hZ,dS,bX⟩:=info_parts FD;have hlt:=hb.lt;have qJ:=hb.eP.size;obtain ⟨nS,hnS⟩:∃n,b.sets.length=n:=⟨_,rfl⟩;obtain ⟨nF,hnF⟩:∃n,b.fol.length=n:=⟨_,rfl⟩;obtain ⟨nr,sH⟩:∃n,rs.length=n:=⟨_,rfl⟩;obtain rfl:nF=nS:=Y;have wI:nF<=600:=Y;have afj:s<w.heap.size:=(hlt s (by simp[jE])).2
 have bc:=hb.nd;rw[List.nodup_cons,List.nodup_append]at bc;obtain ⟨n1,n2,n3,n4⟩:=bc;rw[List.nodup_append]at n3;obtain ⟨n5,n6,n7⟩:=n3;have O2:=hb.cs;have uu:=hb.sets;have uv:=hb.fol;rw[hnS,hnF]at O2;rw[hnS]at uu;rw[hnF]at uv;simp only[hnS,hnF]at hlt n1 n2 n4 n5 n7;have hs0:w.cell? ⟨s,0,none⟩=some (.slice As nF cS):=by rw[cell_of_row _ _ _ _ _ _ O2];rfl
 have qM:w.cell? ⟨s,1,none⟩=some (.slice Af nF cF):=by rw[cell_of_row _ _ _ _ _ _ O2];rfl
 have sQ:=Z y7;clear y7;have HHB:=Z hb;have HHK:=Z hK;have Ad:=Z (H hnS (H hnF lI));have Po:Hid (jK w0 (.slice A1 rs.length c1) rs):=Z yq;have HN:=Z (H n1 (H n2 (H n4 (H n5 n7))));have Lb:=Z hlt;have KT:=Z (H O2 (H uu uv));show Calls Tryz.prog _ #[_,.agg #[.int .i64 1,.slice A1 rs.length c1,.slice A2 0 c2,.int .i64 mn,.int .i64 mx]] w _;rw[sH];rw[sH]at Po;clear hb hK yq hn qD jF AY sH hlt n1 n2 n4 n5 n6 n7 O2 uu uv hnS hnF lI;have avb:s<w.heap.size+1:=Y;have abk:s<w.heap.size+1+1:=Y
 go_enter Tryz.func135,Tryz.ntmps135
 go_wp2_with fail;refine dB λW hW=>?_;have eY:Below w.heap.size w W:=by rw[hW];exact ((υ.alloc I _).alloc ξ _).alloc ψ _
 have rL:W.heap.size=w.heap.size+3:=by rw[hW];simp
 have r0:W.heap[w.heap.size]?=some (.cells #[.int .i64 1,.slice A1 nr c1,.slice A2 0 c2,.int .i64 mn,.int .i64 mx] 41 (0,0)):=by rw[hW,aB _ _ _ (by simp <;> omega),aB _ _ _ ξ]; exact heap_alloc_new w _
 have r1:W.heap[w.heap.size+1]?=some (.cells #[.slice none 0 0,.slice none 0 0,.bool false] 184 (0,0)):=by rw[hW,aB _ _ _ ξ];simpa using heap_alloc_new (w.alloc _) _
 obtain ⟨b0,b1,b2,b3,b4⟩:=aw r0;have DS:W.heap[s]?=some (.cells #[.slice As nF cS,.slice Af nF cF,x2,x3,x4] 182 (0,0)):=(eY.block s afj).trans KT.out.1;have Ls:=Z DS;have G9:=Z (bw KT.out.2.1 eY);have HF1:=Z (bw KT.out.2.2 eY);have afk:W.cell? ⟨s,0,none⟩=some (.slice As nF cS):=by rw[cell_of_row _ _ _ _ _ _ DS];rfl
 have afl:W.cell? ⟨s,1,none⟩=some (.slice Af nF cF):=by rw[cell_of_row _ _ _ _ _ _ DS];rfl
 have hsl:s<W.heap.size:=Y;have l0:w.heap.size<W.heap.size:=Y;have cY:∀k∈s::(blk (.slice As nF cS)++blk (.slice Af nF cF)),k<w.heap.size:=λk hk=>by
  simp only[List.mem_cons,List.mem_append]at hk;rcases hk with hk|hk|hk
  .rw[hk];exact afj
  .exact (KT.out.2.1.lt k (aI.1 hk)).2
  .exact (KT.out.2.2.lt k (aI.1 hk)).2
 have Z6:w.heap.size∉s::(blk (.slice As nF cS)++blk (.slice Af nF cF)):=λhm=>by have:=cY _ hm;omega
 have uq:w.heap.size+1∉s::(blk (.slice As nF cS)++blk (.slice Af nF cF)):=λhm=>by have:=cY _ hm;omega
 have hne:(∀g,(Value.slice As nF cS).ownBlock=some g->g<W.heap.size)/\(∀g,(Value.slice Af nF cF).ownBlock=some g->g<W.heap.size)/\(∀g,(Value.slice Af nF cF).ownBlock=some g->(Value.slice As nF cS).ownBlock≠some g)/\(Value.slice As nF cS).ownBlock≠some s/\(Value.slice Af nF cF).ownBlock≠some s/\(∀g,(Value.slice Af nF cF).ownBlock=some g->(Value.slice As nF cS).ownBlock≠some g/\g<W.heap.size):=by
  have hd:∀g,(Value.slice Af nF cF).ownBlock=some g->(Value.slice As nF cS).ownBlock≠some g:=λg hg e=>HN.out.2.2.1 g (aI.2 e) g (List.mem_append_left _ (aI.2 hg)) rfl;have hf:∀g,(Value.slice Af nF cF).ownBlock=some g->g<W.heap.size:=λg hg=>by have:=(KT.out.2.2.lt g hg).2;omega
  exact ⟨λg hg=>by have:=(KT.out.2.1.lt g hg).2;omega,hf,hd,λe=>HN.out.1 (List.mem_append_left _ (aI.2 e)),λe=>HN.out.1 (List.mem_append_right _ (List.mem_append_left _ (aI.2 e))),λg hg=>⟨hd g hg,hf g hg⟩⟩
 have py:=Z hne;have jH:nZ s (.slice As nF cS) (.slice Af nF cF) W 0 W.drew:=⟨(aj.aa υ.drew).oR,λ_=>rfl,λ_ _ _=>rfl,λ_=>υ.drew⟩;have b8:=Z eY;have pz:=Z r1;have KS:=Z uq;have HZW:=Z rL;clear hW r0 r1 DS hs0 qM cY hne eY uq rL;refine aQ 21 [9,15,18] (lj w.heap.size s w0.heap.size nr c1 nF cS nF cF A1 As Af x2 x3 x4 sv rows W) (λc w'=>nZ s (.slice As nF cS) (.slice Af nF cF) W c w') κ κ κ κ κ κ O jH ?_ ?_
 .simp only[eK,eL];refine ag.pure O ?_ (ag.pure O ?_ (ag.pure O ?_ (ag.pure O ?_ (ag.pure O ?_ (ag.pure O ?_ (ag.pure O ?_ (ag.pure O ?_ (ag.free O ?_ (ag.ur 0 rfl ?_ (ag.pure O ?_ (ag.pure O ?_ (ag.pure O ?_ (ag.pure O ?_ (ag.free O ?_ (ag.ur 1 rfl ?_ (ag.pure O ?_ (ag.pure O ?_ (ag.ur 2 rfl ?_ (ag.pure O ?_ (ag.pure O ?_ (ag.nil)))))))))))))))))))))
  all_goals first | (with_reducible intro v wz c dy hS hE K hK;simp only[ay,Act.put,gU,gV,gW,Nat.zero_add,Nat.reduceAdd,eK,eL]at hK|-) | (intro v wz hS hE K hK;simp only[ay,Act.put,gU,gV,gW,Nat.zero_add,Nat.reduceAdd,eK,eL]at hK|-)
  .exact ζ
  .exact ζ
  .exact ζ
  .have e2:v 2=_:=hE.1 rfl;rw[e2]at hK|-;exact ζ
  .have e3:v 3=_:=hE.1 rfl;rw[e3]at hK|-;exact ζ
  .have e4:v 4=_:=hE.1 rfl;rw[e4]at hK|-;have hle:=dy 2 κ;have c1:=(χ s 0 (hS.2.1 Y)).trans afk;exact ζ
  .exact ζ
  .have e6:v 6=_:=hE.1 rfl;rw[e6]at hK|-;have c1:=(χ w.heap.size 1 (hS.1.blk _ l0 Z6)).trans b1;exact ζ
  .have e7:v 7=_:=hE.1 rfl;rw[e7]at hK|-;have dA:Below wz.heap.size wz (wz.alloc (.cells #[.slice A1 nr c1] 38)):=υ.alloc I _;have rL:=hS.1.size;have HX:=Z hS;have vU:=Z dA;clear hS hE dy dA;go_wp2_with fail;exact hK.out _ _ (λj y _ h=>yp vU.out h) (HX.out.later hsl py.out.2.1 vU.out) ⟨wz.heap.size,rfl,rL,ξ,by go_simp⟩
  .have e5:v 5=_:=hE.1 rfl;rw[e5]at hK|-;have E8:=hE.2.1 rfl;obtain ⟨g,e8,Pr,dR,yP⟩:=E8;rw[e8]at hK|-;have hz:=hS.2.2.2 rfl;have hown:wz.ownsRow w0.heap.size 38 1 (.slice As nF cS) nF sv:=bw G9.out hz;have Gi:=hz.size;have hcell:∀j u,([Value.slice A1 nr c1]:List Value)[j]?=some u->wz.cell? ((⟨g,0,none⟩:Addr).add j)=some u:=λj u hj=>by
    match j,hj with
    |0,hj=>simp at hj;rw[<-hj,Addr.add_lit];exact yP
   have HX:=Z hS;clear hS hE hz;go_wp2_with (at_builtin;refine cQ rfl _ _ 177 rfl w0.heap.size 38 i1 (.slice none 0 0) 1 24 Tryz.underlying177 iW Gf tv pJ rfl O _ nF sv rfl hown ⟨g,0,none⟩ 1 1 [.slice A1 nr c1] rfl rfl hcell (by intro u hu;simp at hu;subst hu;rfl) (by unfold maxLen;omega) Y Y ?_)
   intro v' w1 hown1 fH dY;obtain ⟨A',c',rfl,-,-⟩:=ar hown1;have EY:di (.slice A' (nF+1) c') (.slice As nF cS) W.heap.size:=dY.imp id λ⟨g,h1,h2⟩=>⟨g,h1,Nat.le_trans Gi h2⟩;refine hK.out _ _ (J7 fH py.out.1) (HX.out.s1 hsl fH py.out.2.2.2.1 py.out.2.2.2.2.2) (λ_=>⟨A',c',rfl,hown1,EY⟩)
  .exact ζ
  .have qE:v 10=_:=hE.1 rfl;rw[qE]at hK|-;exact ζ
  .have wj:v 11=_:=hE.1 rfl;rw[wj]at hK|-;exact ζ
  .have tl:v 12=_:=hE.1 rfl;rw[tl]at hK|-;have hle:=dy 2 κ;have c1:=(χ s 1 (hS.2.1 Y)).trans afl;exact ζ
  .have dA:Below wz.heap.size wz (wz.alloc (.cells #[.slice none 0 0] 22)):=υ.alloc I _;have rL:=hS.1.size;have HX:=Z hS;have vU:=Z dA;clear hS hE dy dA;go_wp2_with fail;exact hK.out _ _ (λj y _ h=>yp vU.out h) (HX.out.later hsl py.out.2.1 vU.out) ⟨wz.heap.size,rfl,rL,ξ,by go_simp⟩
  .have wq:v 13=_:=hE.1 rfl;rw[wq]at hK|-;have E14:=hE.2.1 rfl;obtain ⟨g,xD,Pr,dR,yP⟩:=E14;rw[xD]at hK|-;have hown:wz.ownsRow w0.heap.size 22 1 (.slice Af nF cF) nF rows:=aG HF1.out λg hg=>hS.2.2.1 O g hg;have Gi:=hS.1.size;have hcell:∀j u,([Value.slice none 0 0]:List Value)[j]?=some u->wz.cell? ((⟨g,0,none⟩:Addr).add j)=some u:=λj u hj=>by
    match j,hj with
    |0,hj=>simp at hj;rw[<-hj,Addr.add_lit];exact yP
   have HX:=Z hS;clear hS hE;go_wp2_with (at_builtin;refine cQ rfl _ _ 178 rfl w0.heap.size 22 i2 (.slice none 0 0) 1 24 Tryz.underlying178 eS hZ dS bX rfl O _ nF rows rfl hown ⟨g,0,none⟩ 1 1 [.slice none 0 0] rfl rfl hcell (by intro u hu;simp at hu;subst hu;rfl) (by unfold maxLen;omega) Y Y ?_)
   intro v' w1 hown1 fH dY;obtain ⟨A',c',rfl,-,-⟩:=ar hown1;have EY:di (.slice A' (nF+1) c') (.slice Af nF cF) W.heap.size:=dY.imp id λ⟨g,h1,h2⟩=>⟨g,h1,Nat.le_trans Gi h2⟩;refine hK.out _ _ (J8 fH py.out.2.1 py.out.2.2.1) (HX.out.s2 hsl fH py.out.2.2.2.2.1) (λ_=>⟨A',c',rfl,hown1,EY⟩)
  .have e0:v 0=_:=hE.1 rfl;rw[e0]at hK|-;exact ζ
  .have e16:v 16=_:=hE.1 rfl;rw[e16]at hK|-;exact ζ
  .have e17:v 17=_:=hE.1 rfl;rw[e17]at hK|-;have E9:=hE.2.1 rfl;obtain ⟨A,c',ev,ho,dY⟩:=E9 O;rw[ev]at hK ho dY|-;have hrow:=(hS.2.1 O).trans Ls.out;have cz:wz.cell? ⟨s,0,none⟩=some (.slice As nF cS):=by rw[cell_of_row _ _ _ _ _ _ hrow];rfl
   have fz:wz.frozen? ⟨s,0,none⟩=false:=by simp[World.frozen?,hrow]
   have HX:=Z hS;have HO:=Z (H ho (H dY hrow));clear hS hE ho dY hrow ev;go_wp2_with fail;have Eo:∀g,(Value.slice A (nF+1) c').ownBlock=some g->g≠s:=λg hg=>HO.out.2.1.elim (λe=>by rw[e]at hg;intro e2;subst e2;exact py.out.2.2.2.1 hg) λ⟨g',e,h2⟩=>by rw[e]at hg;injection hg with hg;omega
   refine hK.out undef _ (J9 hsl py.out.2.2.2.1 py.out.2.2.2.2.1 _) (HX.out.s3 _) (λ_=>⟨A,c',aG HO.out.1 λg hg=>Below.heap_setCell _ _ _ _ (Eo g hg),HO.out.2.1,by have:=aS HO.out.2.2 0 (.slice A (nF+1) c');simpa using this⟩)
  .have e1:v 1=_:=hE.1 rfl;rw[e1]at hK|-;exact ζ
  .have e19:v 19=_:=hE.1 rfl;rw[e19]at hK|-;exact ζ
 .intro v wz hS hF;have e0:v 0=_:=hF 0 O;have e1:v 1=_:=hF 1 O;have e2:v 2=_:=hF 2 O;have e3:v 3=_:=hF 3 O;have e4:v 4=_:=hF 4 O;have e5:v 5=_:=hF 5 O;have e6:v 6=_:=hF 6 O;have e7:v 7=_:=hF 7 O;have qE:v 10=_:=hF 10 O;have wj:v 11=_:=hF 11 O;have tl:v 12=_:=hF 12 O;have wq:v 13=_:=hF 13 O;have e16:v 16=_:=hF 16 O;have e17:v 17=_:=hF 17 O;have e19:v 19=_:=hF 19 O;have e20:v 20=_:=hF 20 O;have E8:=hF 8 O;have E9:=hF 9 O;have E14:=hF 14 O;have ZX:=hF 15 O;have Wk:=hF 18 O;simp only[ay,Act.put,gU,gV,gW,Nat.zero_add,Nat.reduceAdd,eK,eL,List.drop_succ_cons,List.drop_zero,e0,e1,e2,e3,e4,e5,e6,e7,qE,wj,tl,wq,e16,e17,e19,e20];clear hF e0 e1 e2 e3 e4 e5 e6 e7 qE wj tl wq e16 e17 e19 e20;obtain ⟨A18,c18,EZ,Jr,sW⟩:=Wk O;obtain ⟨KF,KG,afm,O3,YC⟩:=ZX O;rw[afm]at O3 YC|-;have RI:=hS.1;have l1:w.heap.size+1<W.heap.size:=(γ pz.out).1;have uE:=(RI.blk _ l1 KS.out).trans pz.out;obtain ⟨y0,y1,y2⟩:=cells3 uE;have fy0:wz.frozen? ⟨w.heap.size+1,0,none⟩=false:=by simp[World.frozen?,uE]
  have fy1:wz.frozen? ⟨w.heap.size+1,1,none⟩=false:=by simp[World.frozen?,uE]
  have fy2:wz.frozen? ⟨w.heap.size+1,2,none⟩=false:=by simp[World.frozen?,uE]
  have z1:wz.cell? ⟨s,1,none⟩=some (.slice Af nF cF):=by rw[cell_of_row _ _ _ _ _ _ sW];rfl
  have fz1:wz.frozen? ⟨s,1,none⟩=false:=by simp[World.frozen?,sW]
  have Gi:W.heap.size<=wz.heap.size:=RI.size;have lz:w.heap.size+1<wz.heap.size:=Y;have lsz:s<wz.heap.size:=Y;have lz1:w.heap.size+1<wz.heap.size+1:=Y;have lz2:w.heap.size<wz.heap.size:=Y;have L8:¬s=w.heap.size+1:=Y;have yQ:¬w.heap.size+1=s:=Y;have HZ:=Z (H EZ (H Jr (H sW (H O3 (H YC RI)))));clear hS E8 E9 E14 ZX Wk afm EZ Jr sW O3 YC RI uE b0 b1 b2 b3 b4 afk afl jH Z6;go_wp2_with fail;refine az λWf bY=>?_;obtain ⟨W2,gK⟩:∃W2,W2=wz.setCell ⟨s,1,none⟩ (.slice KF (nF+1) KG):=⟨_,rfl⟩;have bo:∀k,k≠s->W2.heap[k]?=wz.heap[k]?:=λk hk=>by rw[gK];exact Below.heap_setCell _ _ _ _ hk
  have hz2:W2.heap.size=wz.heap.size:=by rw[gK];simp[World.setCell]
  have RI:=HZ.out.2.2.2.2.2;have bX:aj (s::(blk (.slice As nF cS)++blk (.slice Af nF cF))) [] W W2:=by
   have h1:aj (s::(blk (.slice As nF cS)++blk (.slice Af nF cF))) [] wz W2:=by
    rw[gK];exact ⟨rfl,rfl,rfl,by simp[World.setCell],λk _ hn=>Below.heap_setCell _ _ _ _ (λe=>hn (by rw[e];simp)),λk hk=>by cases hk⟩
   exact RI.tr h1
  have amG:W2.heap[s]?=some (.cells #[.slice A18 (nF+1) c18,.slice KF (nF+1) KG,x2,x3,x4] 182 (0,0)):=by
   rw[gK];have:=aS HZ.out.2.2.1 1 (.slice KF (nF+1) KG);simpa using this
  have UA:∀{v v':Value},di v' v W.heap.size->v.ownBlock≠some s->∀g,v'.ownBlock=some g->g≠s:=λhf hn g hg e=>by
   subst e;rcases hf with hf|⟨g',hf,h2⟩
   .rw[hf]at hg;exact hn hg
   .rw[hf]at hg;injection hg with hg;omega
  have EZ:=aG HZ.out.1 λg hg=>bo g (UA HZ.out.2.1 py.out.2.2.2.1 g hg);have O3:=aG HZ.out.2.2.2.1 λg hg=>bo g (UA HZ.out.2.2.2.2.1 py.out.2.2.2.2.1 g hg);have amH:∀g,(Value.slice A18 (nF+1) c18).ownBlock=some g->(Value.slice KF (nF+1) KG).ownBlock≠some g:=λg h1 h2=>by
   have sW:=HZ.out.1;have amI:=HZ.out.2.2.2.1;rcases sW.2 with ⟨e,-⟩|⟨g1,q1,u1,e,-,t1,-⟩
   .rw[e]at h1;cases h1
   .rcases amI.2 with ⟨e',-⟩|⟨g2,q2,u2,e',-,t2,-⟩
    .rw[e']at h2;cases h2
    .rw[e]at h1;rw[e']at h2;simp[Value.ownBlock]at h1 h2;subst h1;rw[h2]at t2;rw[t1]at t2;injection t2 with t2;injection t2 with _ t2;exact absurd t2 O
  have aY:=HHB.out.same (w':=W) (λk hk=>b8.out.block k (by rw[Ad.out.1,Ad.out.2.1]at hk;exact (Lb.out k hk).2)) (HHB.out.eP.trans (b8.out.mono HHB.out.eP.size))
  obtain ⟨q1,q2⟩:=aY.UC (rs:=rs) (rv:=.slice A1 nr c1) amG (by rw[Ad.out.1];exact EZ) (by rw[Ad.out.2.1];exact O3) (by rw[Ad.out.1];exact HZ.out.2.1) (by rw[Ad.out.2.1];exact HZ.out.2.2.2.2.1) amH (by rw[Ad.out.1,Ad.out.2.1];exact bX) ⟨Po.out,sQ.out⟩
  have xn:W2.grownBy Wf (some (w.heap.size+1)):=by
   rw[bY,gK];repeat (first|exact fj _ _|refine fu ?_ _|refine ec ?_ _ _|refine gY ?_)
  have avf:W.heap.size=w.heap.size+3:=HZW.out;have amJ:w.heap.size+1∉jE s (.slice A18 (nF+1) c18) (.slice KF (nF+1) KG) (rows++[.slice none 0 0]):=λhm=>by
   rcases q2.new _ hm with h|h
   .rw[Ad.out.1,Ad.out.2.1]at h;have:=(Lb.out _ h).2;omega
   .omega
  have hqk:=(aj.aa b8.out).trans q2;obtain ⟨t1,t2⟩:=fY ⟨_,_,_,_,rfl,q1⟩ hqk qJ (show w.heap.size<=w.heap.size+1 by omega) Y amJ xn
  refine bodyPost_ret (v:=.agg #[.slice (some ⟨wz.heap.size,0,none⟩) 1 1,.slice (some ⟨wz.heap.size+1,0,none⟩) 1 1,.bool false]) (by rw[bY];simp[results,Tryz.results135,go_sem,y0,y1,y2,lz,lz1,lz2,L8,yQ];try rfl) rfl ?_
  have eW:∀g,(g=wz.heap.size\/g=wz.heap.size+1)->IL Wf (.slice (some ⟨g,0,none⟩) 1 1) [nF]/\aL (jE s (.slice A18 (nF+1) c18) (.slice KF (nF+1) KG) (rows++[.slice none 0 0])) (.slice (some ⟨g,0,none⟩) 1 1):=λg hg=>by
   have bM:Wf.heap[g]?=some (.cells #[.int .i64 nF] 3 (0,0)):=by
    rw[bY];rcases hg with rfl|rfl
    .rw[aB _ _ _ (by simp[World.setCell])]
     have h1:=heap_alloc_new ((((wz.setCell ⟨s,1,none⟩ (.slice KF (nF+1) KG)).setCell ⟨w.heap.size+1,0,none⟩ (.slice (some ⟨wz.heap.size,0,none⟩) 1 1)).setCell ⟨w.heap.size+1,1,none⟩ (.slice (some ⟨wz.heap.size+1,0,none⟩) 1 1)).setCell ⟨w.heap.size+1,2,none⟩ (.bool false)) (.cells #[.int .i64 nF] 3);simpa [World.setCell] using h1
    .have h1:=heap_alloc_new (((((wz.setCell ⟨s,1,none⟩ (.slice KF (nF+1) KG)).setCell ⟨w.heap.size+1,0,none⟩ (.slice (some ⟨wz.heap.size,0,none⟩) 1 1)).setCell ⟨w.heap.size+1,1,none⟩ (.slice (some ⟨wz.heap.size+1,0,none⟩) 1 1)).setCell ⟨w.heap.size+1,2,none⟩ (.bool false)).alloc (.cells #[.int .i64 nF] 3)) (.cells #[.int .i64 nF] 3);simpa [World.setCell] using h1
   refine ⟨.inr ⟨g,0,1,rfl,ξ,(γ bM).1,ξ,λi hi=>?_⟩,λg' xk hm=>?_⟩
   .match i,hi with
    |0,_=>rw[cell_of_row _ _ _ _ _ _ bM];rfl
   .simp[Value.ownBlock]at xk;subst xk;have:=(q1.lt _ hm).2;omega
  have afn:b.sets.length=b.fol.length:=Ad.out.2.2;have hwr:=Wr.set b afn rs;rw[Ad.out.1]at hwr;refine ⟨⟨b.sets++[rs],b.fol++[[]]⟩,⟨[nF],[nF],false⟩,_,_,_,rfl,t1,by rw[Ad.out.1,Ad.out.2.1]at t2|-;exact t2,eW _ (.inl rfl),eW _ (.inr rfl),hwr.iff (λz=>by simp[gN,bg]) (by simp[gN,TP]),by simp[aW],⟨ξ,ξ⟩,⟨by simp[aW],by simp[aW]⟩,λl hl=>?_⟩
  rcases List.mem_append.1 hl with h|h
  .have:=HHK.out l h;omega
  .simp at h;subst h;simp
def S9(w0:World)(s:Nat)(x2 x3 x4:Value)(b:Pb)(fp:List Nat)(Lg:LA)(pk KK:Nat)(W:World)(kF kH:Value)(eo:Bool)(kv:Value)(xo:dC):Nat->Nat->Value->World->Prop
 |c,0,x,w=>x=.pointer (some ⟨s,0,none⟩)
 |c,1,x,w=>x=.agg #[kF,kH,.bool eo]
 |c,2,x,w=>x=.pointer (some ⟨s,0,none⟩)
 |c,3,x,w=>x=kv
 |c,4,x,w=>c=1->Qw w0 s x2 x3 x4 b fp Lg pk KK W (.returned x) w
 |c,5,x,w=>c=2->CpR w0 s x2 x3 x4 b fp Lg pk KK xo W x w
 |_,_,_,_=>True
def EiR(w0:World)(s:Nat)(x2 x3 x4:Value)(b:Pb)(fp:List Nat)(Lg:LA)(pk KK:Nat)(xo:dC)(W:World)(x:Value)(w:World):Prop:=
 ∃b' y nU u1 u2,x=.agg #[u1,u2,.bool (lZ xo y).emp]/\pq w0 s x2 x3 x4 b' nU w/\aj fp nU W w/\(IL w u1 (lZ xo y).first/\aL nU u1)/\(IL w u2 (lZ xo y).last/\aL nU u2)/\Wr b b' y Lg/\b'.fol.length=b.fol.length+pk/\(y.first≠[]/\y.last≠[])/\(y.first.length<=pk/\y.last.length<=pk)/\∀l∈b'.fol,l.length<=KK
def Ta(w0:World)(s:Nat)(x2 x3 x4:Value)(b:Pb)(fp:List Nat)(Lg:LA)(pk KK:Nat)(W:World)(kF kH:Value)(eo:Bool)(kv:Value)(xo:dC):Nat->Nat->Value->World->Prop
 |c,0,x,w=>x=.agg #[kF,kH,.bool eo]
 |c,1,x,w=>x=.pointer (some ⟨s,0,none⟩)
 |c,2,x,w=>x=kv
 |c,3,x,w=>c=1->Qw w0 s x2 x3 x4 b fp Lg pk KK W (.returned x) w
 |c,4,x,w=>c=2->EiR w0 s x2 x3 x4 b fp Lg pk KK xo W x w
 |_,_,_,_=>True
structure gB (w0:World) (s:Nat) (x2 x3 x4:Value) (fp:List Nat) (w:World) (nb:Array Value) (bi:Pb) (ep:List Nat) (xo:dC) (kF kH:Value) (wr:World):Prop where
 bu:pq w0 s x2 x3 x4 bi ep wr
 kf:aj fp ep w wr
 ap:∀q∈ep,q<w.heap.size\/w.heap.size+3<=q
 n0:wr.heap[w.heap.size]?=some (.cells nb 41 (0,0))
 n1:wr.heap[w.heap.size+1]?=some (.cells #[.slice none 0 0,.slice none 0 0,.bool false] 184 (0,0))
 n2:wr.heap[w.heap.size+1+1]?=some (.cells #[kF,kH,.bool xo.emp] 184 (0,0))
 sz:w.heap.size+3<=wr.heap.size
 o1:IL wr kF xo.first/\aL ep kF
 o2:IL wr kH xo.last/\aL ep kH
section
variable {w0:World} {s:Nat} {x2 x3 x4:Value} {fp:List Nat} {w:World} {nb:Array Value} {bi:Pb} {ep:List Nat} {xo:dC} {kF kH:Value} {wr:World}
theorem gB.later(h:gB w0 s x2 x3 x4 fp w nb bi ep xo kF kH wr){W:World}(hb:Below wr.heap.size wr W):gB w0 s x2 x3 x4 fp w nb bi ep xo kF kH W:=by
 have hz:=h.sz;exact ⟨h.bu.later hb,h.kf.trans (aj.aa hb),h.ap,(hb.block _ Y).trans h.n0,(hb.block _ Y).trans h.n1,(hb.block _ Y).trans h.n2,Nat.le_trans hz hb.size,⟨h.o1.1.later hb,h.o1.2⟩,⟨h.o2.1.later hb,h.o2.2⟩⟩
theorem gB.eA(h:gB w0 s x2 x3 x4 fp w nb bi ep xo kF kH wr)(k:Nat)(h1:w.heap.size<=k)(h2:k<w.heap.size+3):k∉ep:=λhm=>by have:=h.ap k hm;omega
theorem gB.out(h:gB w0 s x2 x3 x4 fp w nb bi ep xo kF kH wr){b2:Pb}{x':dC}{nU:List Nat}{u1 u2:Value}{wz:World}(aJ:pq w0 s x2 x3 x4 b2 nU wz)(bX:aj ep nU wr wz)(hu1:IL wz u1 x'.first/\aL nU u1)(uz:IL wz u2 x'.last/\aL nU u2)(hw:w0.heap.size<=w.heap.size):
  gB w0 s x2 x3 x4 fp w nb b2 nU x' u1 u2 (tE wz (w.heap.size+1+1) u1 u2 (.bool x'.emp)):=by
 have hz:=h.sz;have hz2:=bX.size;have lO:∀q∈nU,q<w.heap.size\/w.heap.size+3<=q:=λq hq=>(bX.new q hq).elim (h.ap q) λh=>.inr Y;have hn:∀k,w.heap.size<=k->k<w.heap.size+3->k∉nU:=λk h1 h2 hm=>by have:=lO k hm;omega
 have m0:=(bX.blk _ Y (h.eA _ I Y)).trans h.n0;have m1:=(bX.blk _ Y (h.eA _ Y Y)).trans h.n1;have m2:=(bX.blk _ Y (h.eA _ Y Y)).trans h.n2;obtain ⟨q1,q2⟩:=fY aJ (h.kf.trans bX) hw (show w.heap.size<=w.heap.size+1+1 by omega) Y (hn _ Y Y) (Ej wz (w.heap.size+1+1) u1 u2 (.bool x'.emp))
 obtain ⟨Dq,Dr,e1,-⟩:=h.o1.1.form;obtain ⟨Ds,Dt,e2,-⟩:=h.o2.1.form;rw[e1,e2]at m2;exact ⟨q1,q2,lO,(ic Y _ _ _).trans m0,(ic Y _ _ _).trans m1,yV m2 _ _ _,by rw[pU];omega,
  ⟨hu1.1.tE (hu1.1.apart m2) _ _ _,hu1.2⟩,⟨uz.1.tE (uz.1.apart m2) _ _ _,uz.2⟩⟩
theorem gB.fin(h:gB w0 s x2 x3 x4 fp w nb bi ep xo kF kH wr)(hw:w0.heap.size<=w.heap.size){W:World}(hg:wr.grownBy W (some (w.heap.size+1))):pq w0 s x2 x3 x4 bi ep W/\aj fp ep w W/\(IL W kF xo.first/\aL ep kF)/\(IL W kH xo.last/\aL ep kH):=by
 have hz:=h.sz;obtain ⟨q1,q2⟩:=fY h.bu h.kf hw (show w.heap.size<=w.heap.size+1 by omega) Y (h.eA _ Y Y) hg
 have eW:∀{v:Value} {l:List Nat},IL wr v l->IL W v l:=λ{v l} hi=>by
  have xz:=hi;have hne:=hi.apart h.n1;rcases hi with hi|⟨g,f,c',rfl,h0,xk,hc,hcell⟩
  .exact .inl hi
  .have Zj:g≠w.heap.size+1:=λe=>hne h0 (by rw[e];rfl)
   exact .inr ⟨g,f,c',rfl,h0,Nat.lt_of_lt_of_le xk hg.size,hc,λi hi=>(χ g (f+i) (hg.block g xk (λe=>by injection e with e;exact Zj e))).trans (hcell i hi)⟩
 exact ⟨q1,q2,⟨eW h.o1.1,h.o1.2⟩,⟨eW h.o2.1,h.o2.2⟩⟩
end
theorem nK(k:Nd):∀l:List Nd,b9 (l++[k])=b9 l+aW k
 | []=>by simp[b9]
 |a::r=>by rw[List.cons_append,b9,b9,nK k r];omega
theorem nN(k:Nd):∀l:List Nd,dK (l++[k])=dK l+(eU k+360000)
 | []=>by simp[dK]
 |a::r=>by rw[List.cons_append,dK,dK,nN k r];omega
theorem Tb(l:List Nd)(k:Nat):b9 (l.take k)<=b9 l:=by
 induction l generalizing k with
 |nil=>simp
 |cons a r ih=>
  cases k with
  |zero=>simp[b9]
  |succ k=>rw[List.take_succ_cons,b9,b9];have:=ih k;omega
theorem Tc(l:List Nd)(k:Nat):dK (l.take k)<=dK l:=by
 induction l generalizing k with
 |nil=>simp
 |cons a r ih=>
  cases k with
  |zero=>simp[dK]
  |succ k=>rw[List.take_succ_cons,dK,dK];have:=ih k;omega
theorem iA{α:Type}{l:List α}{k:Nat}{x:α}(h:l[k]?=some x):l.take (k+1)=l.take k++[x]:=by
 obtain ⟨h1,h2⟩:=List.getElem?_eq_some_iff.1 h;rw[List.take_succ_eq_append_getElem h1,h2]
structure xg (b bi:Pb) (Lg:LA) (k n:Nat) (xo:dC) (K:Nat):Prop where
 wr:Wr b bi xo Lg
 fl:bi.fol.length=b.fol.length+n
 ln:xo.first.length<=n/\xo.last.length<=n
 bd:∀l∈bi.fol,l.length<=K
 ne:(k=0/\xo.emp=true)\/(xo.first≠[]/\xo.last≠[])
theorem xg.seq{b bi b':Pb}{kids:List Nd}{k:Nat}{kd:Nd}{xo y:dC}{K:Nat}(h:xg b bi (gS kids k) k (b9 (kids.take k)) xo (K+dK (kids.take k)))(hk:kids[k]?=some kd)(hy:Wr bi b' y (gN kd))(hl:b'.fol.length=bi.fol.length+aW kd)(lI:y.first.length<=aW kd/\y.last.length<=aW kd)
  (yF:∀l∈b'.fol,l.length<=K+dK (kids.take k)+eU kd) (wI:xo.last.length<=600) (aff:y.first.length<=600) (hne:y.first≠[]/\y.last≠[]) :
  xg b (dj b' xo y) (gS kids (k+1)) (k+1) (b9 (kids.take (k+1))) (bD xo y) (K+dK (kids.take (k+1))):=by
 rw[show gS kids (k+1)=⟨iQ (kids.take k++[kd]),eT (k+1) (wW (NF kids))⟩ by unfold gS;rw[iA hk],iA hk,nK,nN]
 refine ⟨(h.wr.beh hy rfl (pV hk).symm).iff λw=>(kV _ _ _).symm,?_,?_,λl iV=>?_,.inr ⟨?_,?_⟩⟩
 .unfold dj;rw[iC,hl,h.fl];omega
 .have:=h.ln;unfold bD;constructor
  .simp only;split
   .rw[List.length_append];omega
   .omega
  .simp only;split
   .rw[List.length_append];omega
   .omega
 .have h1:=yu y.first xo.last b'.fol _ yF l iV;have h2:xo.last.length*y.first.length<=600*600:=Nat.mul_le_mul wI aff;omega
 .unfold bD;simp only;split
  .intro e;exact hne.1 (List.append_eq_nil_iff.1 e).2
  .next he=>exact (h.ne.resolve_left λhx=>he hx.2).1
 .unfold bD;simp only;split
  .intro e;exact hne.2 (List.append_eq_nil_iff.1 e).2
  .exact hne.2
theorem xg.SC{b bi b':Pb}{kids:List Nd}{k:Nat}{kd:Nd}{xo y:dC}{K:Nat}(h:xg b bi (gC kids k) k (b9 (kids.take k)) xo (K+dK (kids.take k)))(hk:kids[k]?=some kd)(hy:Wr bi b' y (gN kd))(hl:b'.fol.length=bi.fol.length+aW kd)(lI:y.first.length<=aW kd/\y.last.length<=aW kd)
  (yF:∀l∈b'.fol,l.length<=K+dK (kids.take k)+eU kd) (hne:y.first≠[]/\y.last≠[]) :
  xg b b' (gC kids (k+1)) (k+1) (b9 (kids.take (k+1))) (lZ xo y) (K+dK (kids.take (k+1))):=by
 rw[show gC kids (k+1)=⟨fM (kids.take k++[kd]),sI (k+1) (wW (NF kids))⟩ by unfold gC;rw[iA hk],iA hk,nK,nN]
 refine ⟨(h.wr.eit hy rfl (pV hk).symm).iff λw=>(oY _ _ _).symm,by rw[hl,h.fl];omega,?_,λl iV=>by have:=yF l iV;omega,.inr ⟨?_,?_⟩⟩
 .have:=h.ln;unfold lZ;simp only[List.length_append];omega
 .unfold lZ;intro e;exact hne.1 (List.append_eq_nil_iff.1 e).2
 .unfold lZ;intro e;exact hne.2 (List.append_eq_nil_iff.1 e).2
theorem gB.start{w0:World}{s:Nat}{x2 x3 x4:Value}{b:Pb}{fp:List Nat}{w:World}(oN:pq w0 s x2 x3 x4 b fp w)(nb:Array Value):
  gB w0 s x2 x3 x4 fp w nb b fp ⟨[],[],true⟩ (.slice none 0 0) (.slice none 0 0) (((w.alloc (.cells nb 41)).alloc (.cells #[.slice none 0 0,.slice none 0 0,.bool false] 184)).alloc (.cells #[.slice none 0 0,.slice none 0 0,.bool true] 184)):=by
 have hB:=((((Below.refl w w).alloc I (.cells nb 41)).alloc ξ (.cells #[.slice none 0 0,.slice none 0 0,.bool false] 184)).alloc (by simp <;> omega) (.cells #[.slice none 0 0,.slice none 0 0,.bool true] 184))
 have hnil:∀(W:World) (fq:List Nat),IL W (.slice none 0 0) []/\aL fq (.slice none 0 0):=λW fq=>⟨.inl ⟨rfl,rfl⟩,λg hg=>by simp[Value.ownBlock]at hg⟩
 refine ⟨oN.later hB,aj.aa hB,λq hq=>.inl (oN.lt q hq).2,?_,?_,?_,ξ,hnil _ _,hnil _ _⟩
 .rw[aB _ _ _ (by simp <;> omega),aB _ _ _ ξ]; exact heap_alloc_new w _
 .rw[aB _ _ _ ξ];simpa using heap_alloc_new (w.alloc _) _
 .simpa using heap_alloc_new ((w.alloc _).alloc _) _
theorem J5(w0:World)(s:Nat)(x2 x3 x4:Value)(rs:List (Nat×Nat))(kd:Nd)(mn mx:Int)(A1:Option Addr)(c1 g f c:Nat)(wL:List Value)(hR:aA (.mk 4 rs [kd] mn mx)=true)(hpos:aW (.mk 4 rs [kd] mn mx)<=600)
  (hg:g<w0.heap.size) (hc:1<=c/\c<=9223372036854775807) (bS:bT w0 kd wL) (rY:∀j,j<5->w0.cell? ⟨g,f+j,none⟩=wL[j]?) (hw:jy w0 s x2 x3 x4 kd wL) :
  jy w0 s x2 x3 x4 (.mk 4 rs [kd] mn mx) [.int .i64 4,.slice A1 rs.length c1,.slice (some ⟨g,f,none⟩) 1 c,.int .i64 mn,.int .i64 mx]:=by
 intro w b fp K oN lI jF hK AY;have LB:=gB.start oN #[.int .i64 4,.slice A1 rs.length c1,.slice (some ⟨g,f,none⟩) 1 c,.int .i64 mn,.int .i64 mx];have Zi:=λ(W:World) (fq:List Nat) (h:pq w0 s x2 x3 x4 b fq W)=>Ek w0 s x2 x3 x4 rs kd mn mx A1 c1 g f c wL hR hpos hg hc bS rY hw W b fq K h lI jF hK AY;have zJ:=Z LB;have VA:=Z Zi;have kI:=oN.eP.size;show Calls Tryz.prog _ #[_,.agg #[.int .i64 4,.slice A1 rs.length c1,.slice (some ⟨g,f,none⟩) 1 c,.int .i64 mn,.int .i64 mx]] w _;clear hR bS rY hw oN lI hK AY LB Zi hpos jF
 go_enter Tryz.func135,Tryz.ntmps135
 go_wp2_with fail;refine (VA.out _ _ zJ.out.bu).mono ?_;rintro e w1 ⟨b',x,fp',v1,v2,rfl,hb',hk',iW,eS,hwr,qG,hne,hl,yF⟩;obtain ⟨Av1,cv1,rfl,-⟩:=iW.1.form;obtain ⟨UU,UW,rfl,-⟩:=eS.1.form;have ud:=zJ.out.out hb' hk' iW eS kI;have tG:=Z ud;have HP:=Z (H hwr (H qG (H hne (H hl yF))));have hz:=hk'.size;have hz0:=zJ.out.sz;have nR:=(hk'.blk _ Y (zJ.out.eA (w.heap.size+1) Y Y)).trans zJ.out.n1;have mP:=(hk'.blk _ Y (zJ.out.eA (w.heap.size+1+1) Y Y)).trans zJ.out.n2;obtain ⟨y0,y1,y2⟩:=cells3 nR;obtain ⟨q0,q1,q2⟩:=cells3 mP;have fy0:w1.frozen? ⟨w.heap.size+1,0,none⟩=false:=by simp[World.frozen?,nR]
 have fy1:w1.frozen? ⟨w.heap.size+1,1,none⟩=false:=by simp[World.frozen?,nR]
 have fy2:w1.frozen? ⟨w.heap.size+1,2,none⟩=false:=by simp[World.frozen?,nR]
 have fq0:w1.frozen? ⟨w.heap.size+1+1,0,none⟩=false:=by simp[World.frozen?,mP]
 have fq1:w1.frozen? ⟨w.heap.size+1+1,1,none⟩=false:=by simp[World.frozen?,mP]
 have fq2:w1.frozen? ⟨w.heap.size+1+1,2,none⟩=false:=by simp[World.frozen?,mP]
 clear hb' hk' iW eS hwr qG hne hl yF ud nR mP;go_wp2_with fail;refine az λWf bY=>?_;have xn:(tE w1 (w.heap.size+1+1) (.slice Av1 x.first.length cv1) (.slice UU x.last.length UW) (.bool x.emp)).grownBy Wf (some (w.heap.size+1)):=by
  rw[bY];repeat (first|exact fj _ _|refine fu ?_ _|refine ec ?_ _ _|refine gY ?_)
 obtain ⟨t1,t2,t3,t4⟩:=tG.out.fin kI xn;refine bodyPost_ret (v:=.agg #[.slice Av1 x.first.length cv1,.slice UU x.last.length UW,.bool x.emp]) (by rw[bY];simp[results,Tryz.results135,go_sem,y0,y1,y2,q0,q1,q2];try rfl) rfl ?_
 exact ⟨b',x,fp',_,_,rfl,t1,t2,t3,t4,HP.out.1,HP.out.2.1,HP.out.2.2.1,HP.out.2.2.2.1,HP.out.2.2.2.2⟩
theorem yk{w0:World}{kids:List Nd}{g f k:Nat}(hk:k<kids.length)(h:fF w0 kids g f):∃kd B1 e1 B2 e2,kids[k]?=some kd/\bT w0 kd [.int .i64 kd.op,.slice B1 kd.rs.length e1,.slice B2 kd.kids.length e2,.int .i64 kd.mn,.int .i64 kd.mx]/\
  ∀wz:World,wz.heap[g]?=w0.heap[g]?->wz.cell? ⟨g,f+k*5,none⟩=some (.int .i64 kd.op)/\wz.cell? ⟨g,f+k*5+1,none⟩=some (.slice B1 kd.rs.length e1)/\wz.cell? ⟨g,f+k*5+2,none⟩=some (.slice B2 kd.kids.length e2)/\wz.cell? ⟨g,f+k*5+3,none⟩=some (.int .i64 kd.mn)/\wz.cell? ⟨g,f+k*5+4,none⟩=some (.int .i64 kd.mx):=by
 obtain ⟨vs,h1,h2⟩:=h.at k hk;obtain ⟨kd,bS⟩:=ν (kids[k]);rw[bS]at h2;obtain ⟨B1,e1,B2,e2,rfl,-,-,-⟩:=h2.form;refine ⟨kd,B1,e1,B2,e2,by rw[List.getElem?_eq_getElem hk,bS],h2,λwz hz=>?_⟩
 have hc:=λj (hj:j<5)=>(χ g (f+k*5+j) hz).trans (h1 j hj);exact ⟨hc 0 Y,hc 1 Y,hc 2 Y,hc 3 Y,hc 4 Y⟩
theorem yn{kids:List Nd}{k:Nat}{kd:Nd}(hk:kids[k]?=some kd):b9 (kids.take k)+aW kd<=b9 kids:=by
 have h1:=Tb kids (k+1);rw[iA hk,nK]at h1;exact h1
theorem yo{kids:List Nd}{k:Nat}{kd:Nd}(hk:kids[k]?=some kd):dK (kids.take k)+(eU kd+360000)<=dK kids:=by
 have h1:=Tc kids (k+1);rw[iA hk,nN]at h1;exact h1
theorem J6(w0:World)(s:Nat)(x2 x3 x4:Value)(rs:List (Nat×Nat))(kids:List Nd)(mn mx:Int)(A1:Option Addr)(c1 g f c:Nat)(hR:aA (.mk 2 rs kids mn mx)=true)(hpos:aW (.mk 2 rs kids mn mx)<=600)
  (hg:g<w0.heap.size) (hc:kids.length<=c/\c<=9223372036854775807) (bS:fF w0 kids g f) (hw:∀kd∈kids,∀vs,bT w0 kd vs->jy w0 s x2 x3 x4 kd vs) :
  jy w0 s x2 x3 x4 (.mk 2 rs kids mn mx) [.int .i64 2,.slice A1 rs.length c1,.slice (some ⟨g,f,none⟩) kids.length c,.int .i64 mn,.int .i64 mx]:=by
 intro w b fp K oN lI jF hK AY;have LB:=gB.start oN #[.int .i64 2,.slice A1 rs.length c1,.slice (some ⟨g,f,none⟩) kids.length c,.int .i64 mn,.int .i64 mx];have hkn:=nO hR (.inl rfl);have vW:=jn (.inl rfl) hpos;have hce:eU (.mk 2 rs kids mn mx)=dK kids:=by rw[eU,if_neg O,if_neg O]
 have rZ:gN (.mk 2 rs kids mn mx)=gS kids kids.length:=by
  unfold gN gS;rw[List.take_length,TP,if_neg O,if_pos rfl]
  congr 1
 have qJ:=oN.eP.size;rw[vW]at hpos jF|-;rw[hce]at AY|-;rw[rZ];have Nn:xg b b (gS kids 0) 0 (b9 (kids.take 0)) ⟨[],[],true⟩ (K+dK (kids.take 0)):=⟨(Wr.nil b lI _).iff λw=>Iff.rfl,rfl,⟨Nat.zero_le _,Nat.zero_le _⟩,λl hl=>by simpa [dK] using hK l hl,.inl ⟨rfl,rfl⟩⟩
 have zJ:=Z LB;have amE:=Z Nn;have HW:=Z hw;have PF:=Z bS;obtain ⟨n,hn⟩:=ν kids.length;obtain ⟨PS,Yz⟩:∃P,b9 kids=P:=⟨_,rfl⟩;obtain ⟨CS,YA⟩:∃P,dK kids=P:=⟨_,rfl⟩;show Calls Tryz.prog _ #[_,.agg #[.int .i64 2,.slice A1 rs.length c1,.slice (some ⟨g,f,none⟩) kids.length c,.int .i64 mn,.int .i64 mx]] w _;rw[hn]at hc hkn|-;rw[hn]at zJ;rw[Yz]at hpos jF|-;rw[YA]at AY|-;have HN:=Z (H hn (H Yz YA));clear hR vW hce rZ oN hw bS hK Nn LB hn Yz YA lI
 go_enter Tryz.func135,Tryz.ntmps135
 go_wp2_with fail;go_loopw [54] (λiv wr=>∃(k:Nat) (bi:Pb) (ep:List Nat) (xo:dC) (kF kH:Value),k<=n/\iv=.int .i64 (k:Int)/\Hid (gB w0 s x2 x3 x4 fp w #[.int .i64 2,.slice A1 rs.length c1,.slice (some ⟨g,f,none⟩) n c,.int .i64 mn,.int .i64 mx] bi ep xo kF kH wr)/\Hid (xg b bi (gS kids k) k (b9 (kids.take k)) xo (K+dK (kids.take k)))) (λiv _=>n - (intOf iv).toNat)
 case atStart=>
  exact ⟨0,b,fp,⟨[],[],true⟩,.slice none 0 0,.slice none 0 0,Y,rfl,zJ,amE⟩
 case round=>
  obtain ⟨k,bi,ep,xo,kF,kH,hi,rfl,HM,HI⟩:=hrel;by_cases hlt:k<n
  .have hd:decide ((k:Int)<(n:Int))=true:=τ;have cX:decide (k<n)=true:=decide_eq_true hlt;obtain ⟨kd,B1,e1,B2,e2,bS,bc,rY⟩:=yk (k:=k) (by rw[HN.out.1];exact hlt) PF.out
   obtain ⟨Dq,Dr,rfl,-⟩:=HM.out.o1.1.form;obtain ⟨Ds,Dt,rfl,-⟩:=HM.out.o2.1.form;obtain ⟨eo,Ml⟩:=ν xo.emp;have kI:w0.heap.size<=w.heap.size:=qJ;have wS:=HM.out.sz;have od:wr.heap[g]?=w0.heap[g]?:=HM.out.bu.eP.block g hg;have Ms:g<wr.heap.size:=by have:=HM.out.bu.eP.size;omega
   obtain ⟨k0,k1,k2,k3,k4⟩:=rY wr od;have sT:=yn bS;have hcs:=yo bS;rw[HN.out.2.1]at sT;rw[HN.out.2.2]at hcs;have hwc:=HW.out kd (List.mem_of_getElem? bS) _ bc;have cY:=HI.out;obtain ⟨pk,sa⟩:∃p,b9 (kids.take k)=p:=⟨_,rfl⟩;obtain ⟨K0,nW⟩:∃p,K+dK (kids.take k)=p:=⟨_,rfl⟩;rw[sa,nW]at cY;rw[sa]at sT;have hKc:K0+eU kd<=10000000000:=Y;have yZ:pk<=600:=Y;have ab7:aW kd<=600:=Y;have YB:=Z bS;have Vr:=Z hwc;have HKX:=Z (H sa nW);have qG:=cY.fl;have hlen:=cY.wr.len;have jf:bi.fol.length+aW kd<=600:=Y;have fJ:=Z (H jf hlen);have Za:=Z cY.bd;have YK:=Z (show ∀p∈xo.last,p<bi.fol.length from λp hp=>(cY.wr.good.ka p hp).2);have zZ:=Z (show xo.first.length<=600/\xo.last.length<=600 from ⟨by have:=cY.ln;omega,by have:=cY.ln;omega⟩)
   have TQ:=Z Ml;have HKC:=Z rY;have YF:=Z (H sT hcs);have mX:=HM.out.n2;rw[Ml]at mX;obtain ⟨oo0,oo1,oo2⟩:=cells3 mX;have Y8:=Z (H sT hcs);clear bS bc rY hwc cY sa qG hlen jf hcs Ml mX nW od sT;go_wp2_with fail;refine dB λW hW=>?_;have eY:Below wr.heap.size wr W:=by rw[hW];exact υ.alloc I _
   have zL:=HM.out.later eY;have hKB:W.heap[wr.heap.size]?=some (.cells #[.int .i64 kd.op,.slice B1 kd.rs.length e1,.slice B2 kd.kids.length e2,.int .i64 kd.mn,.int .i64 kd.mx] 41 (0,0)):=by rw[hW];exact heap_alloc_new wr _
   have rL:W.heap.size=wr.heap.size+1:=by rw[hW];simp
   have l2:w.heap.size+1+1<W.heap.size:=Y;have lk:wr.heap.size<W.heap.size:=Y;have n2:=zL.eA (w.heap.size+1+1) Y Y;have nk:wr.heap.size∉ep:=λhm=>by have:=(HM.out.bu.lt _ hm).2;omega
   have mX:=zL.n2;rw[TQ.out]at mX;obtain ⟨o0,o1,o2⟩:=cells3 mX;have O7:=Z zL.bu;have Gl:=Z (H zL.o1.1 (H zL.o1.2 (H zL.o2.1 zL.o2.2)));have QO:=Z hKB;have Eb:=Z zL;have b8:=Z eY;clear hW eY zL hKB mX k0 k1 k2 k3 k4 oo0 oo1 oo2;have jH:I3 ep W 0 W.drew:=⟨(aj.aa υ.drew).oR,λ_=>υ.drew⟩;refine aQ 6 [4,5] (S9 w0 s x2 x3 x4 bi ep (gN kd) (aW kd) (K0+eU kd) W (.slice Dq xo.first.length Dr) (.slice Ds xo.last.length Dt) eo (.agg #[.int .i64 kd.op,.slice B1 kd.rs.length e1,.slice B2 kd.kids.length e2,.int .i64 kd.mn,.int .i64 kd.mx]) xo) (λc w'=>I3 ep W c w') κ κ κ κ κ κ O jH ?_ ?_
   .simp only[eK,eL];refine ag.pure O ?_ (ag.pure O ?_ (ag.pure O ?_ (ag.pure O ?_ (ag.ur 0 rfl ?_ (ag.ur 1 rfl ?_ (ag.nil))))))
    all_goals first | (with_reducible intro v wz c dy hS hE K hK;simp only[ay,Act.put,gU,gV,gW,Nat.zero_add,Nat.reduceAdd,eK,eL]at hK|-) | (intro v wz hS hE K hK;simp only[ay,Act.put,gU,gV,gW,Nat.zero_add,Nat.reduceAdd,eK,eL]at hK|-)
    .exact ζ
    .have cx0:=(χ (w.heap.size+1+1) 0 (hS.1.blk _ l2 n2)).trans o0;have cx1:=(χ (w.heap.size+1+1) 1 (hS.1.blk _ l2 n2)).trans o1;have cx2:=(χ (w.heap.size+1+1) 2 (hS.1.blk _ l2 n2)).trans o2;exact ζ
    .exact ζ
    .obtain ⟨k0,k1,k2,k3,k4⟩:=aw ((hS.1.blk _ lk nk).trans QO.out);exact ζ
    .have e2:v 2=_:=hE.1 rfl;have e3:v 3=_:=hE.2.1 rfl;rw[e2,e3]at hK|-;have hz:=hS.2 rfl;have aK:=Vr.out wz bi ep K0 (O7.out.later hz) fJ.out.2 fJ.out.1 Za.out hKc;have HC:=Z aK;have HX:=Z hS;clear hS hE aK;go_wp2_with fail;refine HC.out.mono ?_;rintro e wy ⟨b',y,fp',v1,v2,rfl,hb',hk',iW,eS,hw',iV,dW,eV,hK'⟩;have HP:=Z (H hb' (H hk' (H iW (H eS (H hw' (H iV (H dW (H eV hK'))))))));clear hb' hk' iW eS hw' iV dW eV hK';go_wp2_with fail;refine hK.out _ _ (λj z hj h=>?_) ⟨((aj.aa (HX.out.2 rfl)).trans HP.out.2.1).oR,λh=>by cases h⟩ (λ_=>⟨b',y,fp',v1,v2,rfl,HP.out.1,(aj.aa (HX.out.2 rfl)).trans HP.out.2.1,HP.out.2.2.1,HP.out.2.2.2.1,HP.out.2.2.2.2.1,HP.out.2.2.2.2.2.1,HP.out.2.2.2.2.2.2.1,HP.out.2.2.2.2.2.2.2.1,HP.out.2.2.2.2.2.2.2.2⟩)
     match j with
     |0|1|2|3=>exact h
     |4=>exact absurd rfl hj
     |5=>exact λh=>by cases h
     |_+6=>exact trivial
    .have e0:v 0=_:=hE.1 rfl;have e1:v 1=_:=hE.2.1 rfl;rw[e0,e1]at hK|-;have E4:=hE.2.2.1 rfl;obtain ⟨b',y,fp',v1,v2,ev,hb',hk',iW,eS,hw',iV,dW,eV,hK'⟩:=E4 rfl;injection ev with ev;rw[ev]at hK|-;have i1:=Gl.out.1.keep Gl.out.2.1 hk';have i2:=Gl.out.2.2.1.keep Gl.out.2.2.2 hk';have zQ:∀p∈xo.last,p<b'.fol.length:=λp hp=>by have:=YK.out p hp;omega
     have aK:=tR w0 s x2 x3 x4 b' fp' wz xo y _ _ v1 v2 _ hb' i1.1 i1.2 i2.1 i2.2 iW.1 iW.2 eS.1 eS.2 dW.1 dW.2 zQ (by have:=zZ.out;omega) (by have:=zZ.out;omega) Y Y hK' Y
     rw[TQ.out]at aK;have HC:=Z aK;have HX:=Z hS;have HP:=Z (H hb' (H hk' (H hw' (H iV (H dW (H eV hK'))))));clear hS hE aK hb' hk' iW eS hw' iV dW eV hK' i1 i2 zQ E4 ev;go_wp2_with fail;refine HC.out.mono ?_;rintro e wy ⟨nU,u1,u2,rfl,aJ,bX,j1,j2,j3,j4⟩;have HQ:=Z (H aJ (H bX (H j1 (H j2 (H j3 j4)))));clear aJ bX j1 j2 j3 j4;go_wp2_with fail;refine hK.out _ _ (λj z hj h=>?_) ⟨(HP.out.2.1.trans HQ.out.2.1).oR,λh=>by cases h⟩ (λ_=>⟨b',y,nU,u1,u2,rfl,HQ.out.1,HP.out.2.1.trans HQ.out.2.1,⟨HQ.out.2.2.1,HQ.out.2.2.2.1⟩,⟨HQ.out.2.2.2.2.1,HQ.out.2.2.2.2.2⟩,HP.out.2.2.1,HP.out.2.2.2.1,HP.out.2.2.2.2.1,HP.out.2.2.2.2.2.1,HP.out.2.2.2.2.2.2⟩)
     match j with
     |0|1|2|3=>exact h
     |4=>exact λh=>by cases h
     |5=>exact absurd rfl hj
     |_+6=>exact trivial
   .intro v wz hS hF;have e0:v 0=_:=hF 0 O;have e1:v 1=_:=hF 1 O;have e2:v 2=_:=hF 2 O;have e3:v 3=_:=hF 3 O;have E4:=hF 4 O;have E5:=hF 5 O;simp only[ay,Act.put,gU,gV,gW,Nat.zero_add,Nat.reduceAdd,eK,eL,List.drop_succ_cons,List.drop_zero,e0,e1,e2,e3];clear hF e0 e1 e2 e3;obtain ⟨b',y,nU,u1,u2,ev,aJ,bX,hu1,uz,Mm,iV,dW,eV,hK'⟩:=E5 rfl;rw[ev];obtain ⟨Au1,cu1,rfl,VZ⟩:=hu1.1.form;obtain ⟨Au2,V2,rfl,V3⟩:=uz.1.form;have ud:=Eb.out.out (x':=bD xo y) aJ bX hu1 uz kI;have Xw:=HI.out.seq YB.out Mm iV eV (λl hl=>by have:=hK' l hl;have:=HKX.out.2;omega) (by have:=zZ.out;omega) Y dW
    have HP2:=Z bX;have QA:=Z Xw;have tG:=Z ud;have hz2:=(HP2.out.blk _ l2 n2).trans Eb.out.n2;obtain ⟨q0,q1,q2⟩:=cells3 hz2;have f0:wz.frozen? ⟨w.heap.size+1+1,0,none⟩=false:=by simp[World.frozen?,hz2]
    have f1:wz.frozen? ⟨w.heap.size+1+1,1,none⟩=false:=by simp[World.frozen?,hz2]
    have f2:wz.frozen? ⟨w.heap.size+1+1,2,none⟩=false:=by simp[World.frozen?,hz2]
    clear hS E4 E5 ev aJ bX hu1 uz Mm iV dW eV hK' Xw ud hz2 o0 o1 o2 jH;go_wp2_with fail;go_roundw
    case rel=>
     exact ⟨k+1,_,_,_,_,_,Y,by go_num,tG,QA⟩
    case measure=>exact μ
  .obtain rfl:k=n:=Y;have kI:w0.heap.size<=w.heap.size:=qJ;obtain ⟨Dq,Dr,rfl,-⟩:=HM.out.o1.1.form;obtain ⟨Ds,Dt,rfl,-⟩:=HM.out.o2.1.form;have wS:=HM.out.sz;obtain ⟨y0,y1,y2⟩:=cells3 HM.out.n1;obtain ⟨q0,q1,q2⟩:=cells3 HM.out.n2;have fy0:wr.frozen? ⟨w.heap.size+1,0,none⟩=false:=by simp[World.frozen?,HM.out.n1]
   have fy1:wr.frozen? ⟨w.heap.size+1,1,none⟩=false:=by simp[World.frozen?,HM.out.n1]
   have fy2:wr.frozen? ⟨w.heap.size+1,2,none⟩=false:=by simp[World.frozen?,HM.out.n1]
   go_wp2_with fail;refine az λWf bY=>?_;have xn:wr.grownBy Wf (some (w.heap.size+1)):=by
    rw[bY];repeat (first|exact fj _ _|refine fu ?_ _|refine ec ?_ _ _|refine gY ?_)
   obtain ⟨t1,t2,t3,t4⟩:=HM.out.fin kI xn;have cY:=HI.out;rw[List.take_of_length_le (by rw[HN.out.1];exact I),HN.out.2.1,HN.out.2.2]at cY
   refine bodyPost_ret (v:=.agg #[.slice Dq xo.first.length Dr,.slice Ds xo.last.length Dt,.bool xo.emp]) (by rw[bY];simp[results,Tryz.results135,go_sem,y0,y1,y2,q0,q1,q2];try rfl) rfl ?_
   exact ⟨bi,xo,ep,_,_,rfl,t1,t2,t3,t4,cY.wr,cY.fl,cY.ne.resolve_left Y,cY.ln,cY.bd⟩
theorem zK(w0:World)(s:Nat)(x2 x3 x4:Value)(rs:List (Nat×Nat))(a:Nd)(r:List Nd)(mn mx:Int)(A1:Option Addr)(c1 g f c:Nat)(hR:aA (.mk 3 rs (a::r) mn mx)=true)(hpos:aW (.mk 3 rs (a::r) mn mx)<=600)
  (hg:g<w0.heap.size) (hc:r.length+1<=c/\c<=9223372036854775807) (bS:fF w0 (a::r) g f) (hw:∀kd∈a::r,∀vs,bT w0 kd vs->jy w0 s x2 x3 x4 kd vs) :
  jy w0 s x2 x3 x4 (.mk 3 rs (a::r) mn mx) [.int .i64 3,.slice A1 rs.length c1,.slice (some ⟨g,f,none⟩) (r.length+1) c,.int .i64 mn,.int .i64 mx]:=by
 intro w b fp K oN lI jF hK AY;have LB:=gB.start oN #[.int .i64 3,.slice A1 rs.length c1,.slice (some ⟨g,f,none⟩) (r.length+1) c,.int .i64 mn,.int .i64 mx];have hkn:=nO hR (.inr rfl);have vW:=jn (.inr rfl) hpos;have hce:eU (.mk 3 rs (a::r) mn mx)=dK (a::r):=by rw[eU,if_neg O,if_neg O]
 have rZ:gN (.mk 3 rs (a::r) mn mx)=gC (a::r) (a::r).length:=by
  unfold gN gC;rw[List.take_length,TP,if_neg O,if_neg O,if_pos rfl]
  congr 1
 have qJ:=oN.eP.size;rw[vW]at hpos jF|-;rw[hce]at AY|-;rw[rZ];have amv:=lI;obtain ⟨wL,hv0,Yy⟩:=bS.1;obtain ⟨Ba1,ea1,Ba2,ea2,rfl,-,-,-⟩:=Yy.form;have amw:w0.heap[g]?=w0.heap[g]?:=rfl;have OZ:=λ(W:World) (fq:List Nat) (h:pq w0 s x2 x3 x4 b fq W)=>hw a ξ _ Yy W b fq K h lI (by rw[b9]at jF;omega) hK (by rw[dK]at AY;omega)
 have LD:=Z OZ;have wT:∀wz:World,wz.heap[g]?=w0.heap[g]?->wz.cell? ⟨g,f,none⟩=some (.int .i64 a.op)/\wz.cell? ⟨g,f+1,none⟩=some (.slice Ba1 a.rs.length ea1)/\wz.cell? ⟨g,f+2,none⟩=some (.slice Ba2 a.kids.length ea2)/\wz.cell? ⟨g,f+3,none⟩=some (.int .i64 a.mn)/\wz.cell? ⟨g,f+4,none⟩=some (.int .i64 a.mx):=λwz hz=>by
  have hc:=λj (hj:j<5)=>(χ g (f+j) hz).trans (hv0 j hj);exact ⟨hc 0 Y,hc 1 Y,hc 2 Y,hc 3 Y,hc 4 Y⟩
 have hkr:=bS.2;have zJ:=Z LB;have HW:=Z hw;have PF:=Z hkr;obtain ⟨n,hn⟩:=ν r.length;obtain ⟨PS,Yz⟩:∃P,b9 (a::r)=P:=⟨_,rfl⟩;obtain ⟨CS,YA⟩:∃P,dK (a::r)=P:=⟨_,rfl⟩;show Calls Tryz.prog _ #[_,.agg #[.int .i64 3,.slice A1 rs.length c1,.slice (some ⟨g,f,none⟩) (r.length+1) c,.int .i64 mn,.int .i64 mx]] w _;rw[List.length_cons,hn]at hkn;rw[hn]at hc|-;rw[hn]at zJ;rw[Yz]at hpos jF|-;rw[YA]at AY|-;have HN:=Z (H hn (H Yz YA));have hZ:=wT w (oN.eP.block g hg);obtain ⟨z0,z1,z2,z3,z4⟩:=hZ;have au5:g<w.heap.size:=by have:=oN.eP.size;omega
 have aqb:g<w.heap.size+1:=Y;have aqc:g<w.heap.size+1+1:=Y;clear hR vW hce rZ oN hw bS hK LB hn Yz YA lI amv hv0 Yy OZ wT hkr amw
 go_enter Tryz.func135,Tryz.ntmps135
 go_wp2_with fail;have kI:w0.heap.size<=w.heap.size:=qJ;refine (LD.out _ _ zJ.out.bu).mono ?_;rintro e w1 ⟨b1,y,fp1,v1,v2,rfl,hb',hk',iW,eS,hwr,qG,hne,hl,yF⟩;obtain ⟨Av1,cv1,rfl,-⟩:=iW.1.form;obtain ⟨UU,UW,rfl,-⟩:=eS.1.form;have ud:=zJ.out.out hb' hk' iW eS kI;have UO:xg b b1 (gC (a::r) 1) 1 (b9 ((a::r).take 1)) y (K+dK ((a::r).take 1)):=by
  rw[List.take_succ_cons,List.take_zero,b9,b9,dK,dK];refine ⟨hwr.amx,by rw[qG];omega,Y,λl hl=>by have:=yF l hl;omega,.inr hne⟩
 have amy:=Z UO;have tG:=Z ud;have hz:=hk'.size;have hz0:=zJ.out.sz;have GG:=(hk'.blk _ Y (zJ.out.eA w.heap.size Y Y)).trans zJ.out.n0;have mP:=(hk'.blk _ Y (zJ.out.eA (w.heap.size+1+1) Y Y)).trans zJ.out.n2;obtain ⟨y0,y1,y2,y3,y4⟩:=aw GG;obtain ⟨q0,q1,q2⟩:=cells3 mP;have fq0:w1.frozen? ⟨w.heap.size+1+1,0,none⟩=false:=by simp[World.frozen?,mP]
 have fq1:w1.frozen? ⟨w.heap.size+1+1,1,none⟩=false:=by simp[World.frozen?,mP]
 have fq2:w1.frozen? ⟨w.heap.size+1+1,2,none⟩=false:=by simp[World.frozen?,mP]
 have lq0:w.heap.size<w1.heap.size:=Y;have lq2:w.heap.size+1+1<w1.heap.size:=Y;clear hb' hk' iW eS hwr qG hne hl yF ud mP GG UO z0 z1 z2 z3 z4;go_wp2_with fail;go_loopw [77] (λiv wr=>∃(k:Nat) (bi:Pb) (ep:List Nat) (xo:dC) (kF kH:Value),k<=n/\iv=.int .i64 (k:Int)/\Hid (gB w0 s x2 x3 x4 fp w #[.int .i64 3,.slice A1 rs.length c1,.slice (some ⟨g,f,none⟩) (n+1) c,.int .i64 mn,.int .i64 mx] bi ep xo kF kH wr)/\Hid (xg b bi (gC (a::r) (k+1)) (k+1) (b9 ((a::r).take (k+1))) xo (K+dK ((a::r).take (k+1))))) (λiv _=>n - (intOf iv).toNat)
 case atStart=>
  exact ⟨0,b1,fp1,y,_,_,Y,rfl,tG,amy⟩
 case round=>
  obtain ⟨k,bi,ep,xo,kF,kH,hi,rfl,HM,HI⟩:=hrel;by_cases hlt:k<n
  .have hd:decide ((k:Int)<(n:Int))=true:=τ;have cX:decide (k<n)=true:=decide_eq_true hlt;obtain ⟨kd,B1,e1,B2,e2,bS,bc,rY⟩:=yk (kids:=r) (f:=f+5) (k:=k) (by rw[HN.out.1];exact hlt) PF.out
   obtain ⟨Dq,Dr,rfl,-⟩:=HM.out.o1.1.form;obtain ⟨Ds,Dt,rfl,-⟩:=HM.out.o2.1.form;obtain ⟨eo,Ml⟩:=ν xo.emp;have kI:w0.heap.size<=w.heap.size:=qJ;have wS:=HM.out.sz;have od:wr.heap[g]?=w0.heap[g]?:=HM.out.bu.eP.block g hg;have Ms:g<wr.heap.size:=by have:=HM.out.bu.eP.size;omega
   obtain ⟨k0,k1,k2,k3,k4⟩:=rY wr od;have O0:(a::r)[k+1]?=some kd:=by rw[List.getElem?_cons_succ];exact bS
   have sT:=yn O0;have hcs:=yo O0;rw[HN.out.2.1]at sT;rw[HN.out.2.2]at hcs;have hwc:=HW.out kd (List.mem_of_getElem? O0) _ bc;have cY:=HI.out;obtain ⟨pk,sa⟩:∃p,b9 ((a::r).take (k+1))=p:=⟨_,rfl⟩;obtain ⟨K0,nW⟩:∃p,K+dK ((a::r).take (k+1))=p:=⟨_,rfl⟩;rw[sa,nW]at cY;rw[sa]at sT;have hKc:K0+eU kd<=10000000000:=Y;have yZ:pk<=600:=Y;have ab7:aW kd<=600:=Y;have YB:=Z O0;have Vr:=Z hwc;have HKX:=Z (H sa nW);have qG:=cY.fl;have hlen:=cY.wr.len;have jf:bi.fol.length+aW kd<=600:=Y;have fJ:=Z (H jf hlen);have Za:=Z cY.bd;have YK:=Z (show ∀p∈xo.last,p<bi.fol.length from λp hp=>(cY.wr.good.ka p hp).2);have zZ:=Z (show xo.first.length<=600/\xo.last.length<=600 from ⟨by have:=cY.ln;omega,by have:=cY.ln;omega⟩)
   have TQ:=Z Ml;have HKC:=Z rY;have YF:=Z (H sT hcs);have mX:=HM.out.n2;rw[Ml]at mX;obtain ⟨oo0,oo1,oo2⟩:=cells3 mX;have Y8:=Z (H sT hcs);clear bS O0 bc rY hwc cY sa qG hlen jf hcs Ml mX nW od sT;go_wp2_with fail;refine dB λW hW=>?_;have eY:Below wr.heap.size wr W:=by rw[hW];exact υ.alloc I _
   have zL:=HM.out.later eY;have hKB:W.heap[wr.heap.size]?=some (.cells #[.int .i64 kd.op,.slice B1 kd.rs.length e1,.slice B2 kd.kids.length e2,.int .i64 kd.mn,.int .i64 kd.mx] 41 (0,0)):=by rw[hW];exact heap_alloc_new wr _
   have rL:W.heap.size=wr.heap.size+1:=by rw[hW];simp
   have l2:w.heap.size+1+1<W.heap.size:=Y;have lk:wr.heap.size<W.heap.size:=Y;have n2:=zL.eA (w.heap.size+1+1) Y Y;have nk:wr.heap.size∉ep:=λhm=>by have:=(HM.out.bu.lt _ hm).2;omega
   have mX:=zL.n2;rw[TQ.out]at mX;obtain ⟨o0,o1,o2⟩:=cells3 mX;have O7:=Z zL.bu;have Gl:=Z (H zL.o1.1 (H zL.o1.2 (H zL.o2.1 zL.o2.2)));have QO:=Z hKB;have Eb:=Z zL;have b8:=Z eY;clear hW eY zL hKB mX k0 k1 k2 k3 k4 oo0 oo1 oo2;have jH:I3 ep W 0 W.drew:=⟨(aj.aa υ.drew).oR,λ_=>υ.drew⟩;refine aQ 5 [3,4] (Ta w0 s x2 x3 x4 bi ep (gN kd) (aW kd) (K0+eU kd) W (.slice Dq xo.first.length Dr) (.slice Ds xo.last.length Dt) eo (.agg #[.int .i64 kd.op,.slice B1 kd.rs.length e1,.slice B2 kd.kids.length e2,.int .i64 kd.mn,.int .i64 kd.mx]) xo) (λc w'=>I3 ep W c w') κ κ κ κ κ κ O jH ?_ ?_
   .simp only[eK,eL];refine ag.pure O ?_ (ag.pure O ?_ (ag.pure O ?_ (ag.ur 0 rfl ?_ (ag.ur 1 rfl ?_ (ag.nil)))))
    all_goals first | (with_reducible intro v wz c dy hS hE K hK;simp only[ay,Act.put,gU,gV,gW,Nat.zero_add,Nat.reduceAdd,eK,eL]at hK|-) | (intro v wz hS hE K hK;simp only[ay,Act.put,gU,gV,gW,Nat.zero_add,Nat.reduceAdd,eK,eL]at hK|-)
    .have cx0:=(χ (w.heap.size+1+1) 0 (hS.1.blk _ l2 n2)).trans o0;have cx1:=(χ (w.heap.size+1+1) 1 (hS.1.blk _ l2 n2)).trans o1;have cx2:=(χ (w.heap.size+1+1) 2 (hS.1.blk _ l2 n2)).trans o2;exact ζ
    .exact ζ
    .obtain ⟨k0,k1,k2,k3,k4⟩:=aw ((hS.1.blk _ lk nk).trans QO.out);exact ζ
    .have e1:v 1=_:=hE.1 rfl;have e2:v 2=_:=hE.2.1 rfl;rw[e1,e2]at hK|-;have hz:=hS.2 rfl;have aK:=Vr.out wz bi ep K0 (O7.out.later hz) fJ.out.2 fJ.out.1 Za.out hKc;have HC:=Z aK;have HX:=Z hS;clear hS hE aK;go_wp2_with fail;refine HC.out.mono ?_;rintro e wy ⟨b',y,fp',v1,v2,rfl,hb',hk',iW,eS,hw',iV,dW,eV,hK'⟩;have HP:=Z (H hb' (H hk' (H iW (H eS (H hw' (H iV (H dW (H eV hK'))))))));clear hb' hk' iW eS hw' iV dW eV hK';go_wp2_with fail;refine hK.out _ _ (λj z hj h=>?_) ⟨((aj.aa (HX.out.2 rfl)).trans HP.out.2.1).oR,λh=>by cases h⟩ (λ_=>⟨b',y,fp',v1,v2,rfl,HP.out.1,(aj.aa (HX.out.2 rfl)).trans HP.out.2.1,HP.out.2.2.1,HP.out.2.2.2.1,HP.out.2.2.2.2.1,HP.out.2.2.2.2.2.1,HP.out.2.2.2.2.2.2.1,HP.out.2.2.2.2.2.2.2.1,HP.out.2.2.2.2.2.2.2.2⟩)
     match j with
     |0|1|2=>exact h
     |3=>exact absurd rfl hj
     |4=>exact λh=>by cases h
     |_+5=>exact trivial
    .have e0:v 0=_:=hE.1 rfl;rw[e0]at hK|-;have E3:=hE.2.1 rfl;obtain ⟨b',y,fp',v1,v2,ev,hb',hk',iW,eS,hw',iV,dW,eV,hK'⟩:=E3 rfl;injection ev with ev;rw[ev]at hK|-;have i1:=Gl.out.1.keep Gl.out.2.1 hk';have i2:=Gl.out.2.2.1.keep Gl.out.2.2.2 hk';have aK:=uD xo.first xo.last y.first y.last xo.emp y.emp _ _ v1 v2 wz i1.1 i2.1 iW.1 eS.1 dW.1 dW.2 (by have:=zZ.out;omega) (by have:=zZ.out;omega) Y Y
     rw[TQ.out]at aK;have HC:=Z aK;have HX:=Z hS;have HP:=Z (H hb' (H hk' (H hw' (H iV (H dW (H eV hK'))))));clear hS hE aK hb' hk' iW eS hw' iV dW eV hK' i1 i2 E3 ev;go_wp2_with fail;refine HC.out.mono ?_;rintro e wy ⟨u1,u2,rfl,yM,sM,aY⟩;have HQ:=Z (H yM (H sM aY));clear yM sM aY;go_wp2_with fail;refine hK.out _ _ (λj z hj h=>?_) ⟨(HP.out.2.1.trans (aj.aa HQ.out.2.2)).oR,λh=>by cases h⟩ (λ_=>⟨b',y,fp',u1,u2,by rw[<-TQ.out];rfl,HP.out.1.later HQ.out.2.2,HP.out.2.1.trans (aj.aa HQ.out.2.2),⟨IL.fO HQ.out.1 λ_ h=>HP.out.2.2.2.2.1.1 (List.append_eq_nil_iff.1 h).2,λg hg hm=>by have:=(HQ.out.1.lt g hg).1;have:=(HP.out.1.lt g hm).2;omega⟩,⟨IL.fO HQ.out.2.1 λ_ h=>HP.out.2.2.2.2.1.2 (List.append_eq_nil_iff.1 h).2,λg hg hm=>by have:=(HQ.out.2.1.lt g hg).1;have:=(HP.out.1.lt g hm).2;omega⟩,HP.out.2.2.1,HP.out.2.2.2.1,HP.out.2.2.2.2.1,HP.out.2.2.2.2.2.1,HP.out.2.2.2.2.2.2⟩)
     match j with
     |0|1|2=>exact h
     |3=>exact λh=>by cases h
     |4=>exact absurd rfl hj
     |_+5=>exact trivial
   .intro v wz hS hF;have e0:v 0=_:=hF 0 O;have e1:v 1=_:=hF 1 O;have e2:v 2=_:=hF 2 O;have E3:=hF 3 O;have E4:=hF 4 O;simp only[ay,Act.put,gU,gV,gW,Nat.zero_add,Nat.reduceAdd,eK,eL,List.drop_succ_cons,List.drop_zero,e0,e1,e2];clear hF e0 e1 e2;obtain ⟨b',y,nU,u1,u2,ev,aJ,bX,hu1,uz,Mm,iV,dW,eV,hK'⟩:=E4 rfl;rw[ev];obtain ⟨Au1,cu1,rfl,VZ⟩:=hu1.1.form;obtain ⟨Au2,V2,rfl,V3⟩:=uz.1.form;have ud:=Eb.out.out (x':=lZ xo y) aJ bX hu1 uz kI;have Xw:=HI.out.SC YB.out Mm iV eV (λl hl=>by have:=hK' l hl;have:=HKX.out.2;omega) dW
    have HP2:=Z bX;have QA:=Z Xw;have tG:=Z ud;have hz2:=(HP2.out.blk _ l2 n2).trans Eb.out.n2;obtain ⟨q0,q1,q2⟩:=cells3 hz2;have f0:wz.frozen? ⟨w.heap.size+1+1,0,none⟩=false:=by simp[World.frozen?,hz2]
    have f1:wz.frozen? ⟨w.heap.size+1+1,1,none⟩=false:=by simp[World.frozen?,hz2]
    have f2:wz.frozen? ⟨w.heap.size+1+1,2,none⟩=false:=by simp[World.frozen?,hz2]
    clear hS E3 E4 ev aJ bX hu1 uz Mm iV dW eV hK' Xw ud hz2 o0 o1 o2 jH;go_wp2_with fail;go_roundw
    case rel=>
     exact ⟨k+1,_,_,_,_,_,Y,by go_num,tG,QA⟩
    case measure=>exact μ
  .obtain rfl:k=n:=Y;have kI:w0.heap.size<=w.heap.size:=qJ;obtain ⟨Dq,Dr,rfl,-⟩:=HM.out.o1.1.form;obtain ⟨Ds,Dt,rfl,-⟩:=HM.out.o2.1.form;have wS:=HM.out.sz;obtain ⟨y0,y1,y2⟩:=cells3 HM.out.n1;obtain ⟨q0,q1,q2⟩:=cells3 HM.out.n2;have fy0:wr.frozen? ⟨w.heap.size+1,0,none⟩=false:=by simp[World.frozen?,HM.out.n1]
   have fy1:wr.frozen? ⟨w.heap.size+1,1,none⟩=false:=by simp[World.frozen?,HM.out.n1]
   have fy2:wr.frozen? ⟨w.heap.size+1,2,none⟩=false:=by simp[World.frozen?,HM.out.n1]
   go_wp2_with fail;refine az λWf bY=>?_;have xn:wr.grownBy Wf (some (w.heap.size+1)):=by
    rw[bY];repeat (first|exact fj _ _|refine fu ?_ _|refine ec ?_ _ _|refine gY ?_)
   obtain ⟨t1,t2,t3,t4⟩:=HM.out.fin kI xn;have cY:=HI.out;rw[List.take_of_length_le (by rw[List.length_cons,HN.out.1];exact I),HN.out.2.1,HN.out.2.2]at cY
   refine bodyPost_ret (v:=.agg #[.slice Dq xo.first.length Dr,.slice Ds xo.last.length Dt,.bool xo.emp]) (by rw[bY];simp[results,Tryz.results135,go_sem,y0,y1,y2,q0,q1,q2];try rfl) rfl ?_
   have hwr:=cY.wr;rw[<-HN.out.1]at hwr;exact ⟨bi,xo,ep,_,_,rfl,t1,t2,t3,t4,hwr,cY.fl,cY.ne.resolve_left Y,cY.ln,cY.bd⟩
theorem yj{rs:List (Nat×Nat)}{kids:List Nd}{mn mx:Int}(hR:aA (.mk 1 rs kids mn mx)=true):kids=[]/\dU rs=true:=by
 have h:=((iR _).1 hR).1;simp only[cU,if_true,Bool.and_eq_true]at h;exact ⟨by simpa using h.2.2.1,h.2.1⟩
theorem IE(w0:World)(s:Nat)(x2 x3 x4:Value):∀(m:Nat) (nd:Nd) (vs:List Value),au nd<=m->aA nd=true->aW nd<=600->bT w0 nd vs->jy w0 s x2 x3 x4 nd vs:=by
 intro m
 induction m with
 |zero=>intro nd vs h;cases nd;rw[au]at h;omega
 |succ m ih=>
  rintro ⟨op,rs,kids,mn,mx⟩ vs hm hR hp hn;obtain ⟨ke,uB⟩:=dm hR;rw[au]at hm;obtain ⟨A1,c1,A2,c2,rfl,hr,qD,hk⟩:=hn.form;simp only[Nd.op,Nd.rs,Nd.kids,Nd.mn,Nd.mx]at hr qD hk|-;have wX:∀kd∈kids,aW kd<=600->∀wL,bT w0 kd wL->jy w0 s x2 x3 x4 kd wL:=λkd bS sa wL hn=>ih kd wL (by have:=aF bS;omega) (aM uB bS) sa hn
  rcases ke with rfl|rfl|rfl|⟨rfl,dS,Du,mo,zY⟩
  .obtain ⟨rfl,yq⟩:=yj hR;exact Ka w0 s x2 x3 x4 rs mn mx _ hn yq
  .have h2:=nO hR (.inl rfl);rcases hk with rfl|⟨g,f,rfl,hg,bS⟩
   .simp at h2
   .have sT:=jn (.inl rfl) hp;exact J6 w0 s x2 x3 x4 rs kids mn mx A1 c1 g f c2 hR hp hg qD bS λkd h wL hn=>wX kd h (by have:=j7 h;omega) wL hn
  .have h2:=nO hR (.inr rfl);rcases hk with rfl|⟨g,f,rfl,hg,bS⟩
   .simp at h2
   .have sT:=jn (.inr rfl) hp
    cases kids with
    |nil=>simp at h2
    |cons a r=>exact zK w0 s x2 x3 x4 rs a r mn mx A1 c1 g f c2 hR hp hg qD bS λkd h wL hn=>wX kd h (by have:=j7 h;omega) wL hn
  .rcases hk with rfl|⟨g,f,rfl,hg,bS⟩
   .simp at dS
   .match kids,dS with
    | [a],_=>
     obtain ⟨⟨wL,rY,T9⟩,-⟩:=bS;have sT:=tF hp;have Z8:aW a<=600:=by
      have h1:1*aW a<=mx.toNat*aW a:=Nat.mul_le_mul_right _ Y;have h2:yY [a]=aW a:=rfl;rw[h2]at sT;omega
     exact J5 w0 s x2 x3 x4 rs a mn mx A1 c1 g f c2 wL hR hp hg qD T9 rY (wX a ξ Z8 wL T9)
def bxL(q b:Nat)(w:World):Prop:=w.heap[b]?=some (.cells #[.int .i64 1,.slice (some ⟨q,0,none⟩) 1 1,.slice none 0 0,.int .i64 0,.int .i64 0] 41 (0,0))
def Ue(g b:Nat)(w:World):Prop:=w.heap[b]?=some (.cells #[.int .i64 4,.slice none 0 0,.slice (some ⟨g,0,none⟩) 1 1,.int .i64 1,.int .i64 2] 41 (0,0))
theorem Oe(q:Nat)(n n1:Int)(w:World)(hn:IntKind.i64.wrap (n+1)=n1):Calls Tryz.prog 85 #[(.agg #[.int .i64 1,.slice (some ⟨q,0,none⟩) 1 1,.slice none 0 0,.int .i64 0,.int .i64 0]),.int .i64 n] w λe w'=>e=.returned (.int .i64 n1)/\Below w.heap.size w w':=by
 go_enter Tryz.func85,Tryz.ntmps85
 go_wp2_with fail;refine dD λW0 aP=>?_;have hb0:Below w.heap.size w W0:=by rw[aP];exact υ.alloc I _
 have hX:bxL q w.heap.size W0:=by rw[aP];exact heap_alloc_new w _
 have HB:=Z hb0;obtain ⟨b0,b1,b2,b3,b4⟩:=aw hX;have lb:w.heap.size<W0.heap.size:=(γ hX).1;have HX:=Z hX;clear aP hb0 hX;refine wp_loop_rounds 1 ?_;rw[rounds_succ];go_wp2_with fail;go_ret;exact ⟨rfl,HB.out⟩
theorem Og(g q:Nat)(w:World)(h:om g q w):Calls Tryz.prog 85 #[(.agg #[.int .i64 4,.slice none 0 0,.slice (some ⟨g,0,none⟩) 1 1,.int .i64 1,.int .i64 2]),.int .i64 0] w λe w'=>e=.returned (.int .i64 2)/\Below w.heap.size w w':=by
 have sX:=Z h;clear h
 go_enter Tryz.func85,Tryz.ntmps85
 go_wp2_with fail;refine dD λW0 aP=>?_;have hb0:Below w.heap.size w W0:=by rw[aP];exact υ.alloc I _
 have hX:Ue g w.heap.size W0:=by rw[aP];exact heap_alloc_new w _
 have HB:=Z hb0;obtain ⟨b0,b1,b2,b3,b4⟩:=aw hX;have lb:w.heap.size<W0.heap.size:=(γ hX).1;have HX:=Z hX;clear aP hb0 hX;have rO:=sX.out.later HB.out;obtain ⟨k0,k1,k2,k3,k4⟩:=aw rO.1;have lg:g<W0.heap.size:=(γ rO.1).1;clear rO;refine wp_loop_rounds 2 ?_;rw[rounds_succ];go_wp2_with fail;refine (Oe q 1 2 W0 rfl).mono ?_;rintro e w1 ⟨rfl,hb1⟩;have aX:=Z (HB.out.trans (hb1.mono HB.out.size));obtain ⟨c0,c1,c2,c3,c4⟩:=aw ((hb1.block w.heap.size lb).trans HX.out);have Um:w.heap.size<w1.heap.size:=Nat.lt_of_lt_of_le lb hb1.size;clear hb1 b0 b1 b2 b3 b4 k0 k1 k2 k3 k4;go_wp2_with fail;rw[rounds_succ];go_wp2_with fail;go_ret;exact ⟨rfl,aX.out⟩
theorem Oh(g q:Nat)(w:World)(h:om g q w):Calls Tryz.prog 57 #[(.agg #[.int .i64 4,.slice none 0 0,.slice (some ⟨g,0,none⟩) 1 1,.int .i64 1,.int .i64 2])] w λe w'=>e=.returned (.int .i64 2)/\Below w.heap.size w w':=by
 have sX:=Z h;clear h
 go_enter Tryz.func57,Tryz.ntmps57
 go_wp2_with fail;refine aH λW0 aP=>?_;have hb0:Below w.heap.size w W0:=by rw[aP];exact υ.alloc I _
 have HB:=Z hb0;clear aP hb0;refine (Og g q W0 (sX.out.later HB.out)).mono ?_;rintro e w1 ⟨rfl,hb1⟩;have aX:=Z (HB.out.trans (hb1.mono HB.out.size));clear hb1;go_wp2_with fail;go_ret;exact ⟨rfl,aX.out⟩
theorem Oi(q:Nat)(w:World):Calls Tryz.prog 58 #[(.agg #[.int .i64 1,.slice (some ⟨q,0,none⟩) 1 1,.slice none 0 0,.int .i64 0,.int .i64 0])] w λe w'=>e=.returned (.int .i64 1)/\Below w.heap.size w w':=by
 go_enter Tryz.func58,Tryz.ntmps58
 go_wp2_with fail;refine dD λW0 aP=>?_;have hb0:Below w.heap.size w W0:=by rw[aP];exact υ.alloc I _
 have hX:bxL q w.heap.size W0:=by rw[aP];exact heap_alloc_new w _
 have HB:=Z hb0;obtain ⟨b0,b1,b2,b3,b4⟩:=aw hX;have lb:w.heap.size<W0.heap.size:=(γ hX).1;have HX:=Z hX;clear aP hb0 hX;refine wp_loop_rounds 1 ?_;rw[rounds_succ];go_wp2_with fail;go_ret;exact ⟨rfl,HB.out⟩
theorem Oj(g q:Nat)(w:World)(h:om g q w):Calls Tryz.prog 58 #[(.agg #[.int .i64 4,.slice none 0 0,.slice (some ⟨g,0,none⟩) 1 1,.int .i64 1,.int .i64 2])] w λe w'=>e=.returned (.int .i64 2)/\Below w.heap.size w w':=by
 have sX:=Z h;clear h
 go_enter Tryz.func58,Tryz.ntmps58
 go_wp2_with fail;refine dD λW0 aP=>?_;have hb0:Below w.heap.size w W0:=by rw[aP];exact υ.alloc I _
 have hX:Ue g w.heap.size W0:=by rw[aP];exact heap_alloc_new w _
 have HB:=Z hb0;obtain ⟨b0,b1,b2,b3,b4⟩:=aw hX;have lb:w.heap.size<W0.heap.size:=(γ hX).1;have HX:=Z hX;clear aP hb0 hX;have rO:=sX.out.later HB.out;obtain ⟨k0,k1,k2,k3,k4⟩:=aw rO.1;have lg:g<W0.heap.size:=(γ rO.1).1;clear rO;refine wp_loop_rounds 2 ?_;rw[rounds_succ];go_wp2_with fail;refine (Oi q W0).mono ?_;rintro e w1 ⟨rfl,hb1⟩;have aX:=Z (HB.out.trans (hb1.mono HB.out.size));obtain ⟨c0,c1,c2,c3,c4⟩:=aw ((hb1.block w.heap.size lb).trans HX.out);have Um:w.heap.size<w1.heap.size:=Nat.lt_of_lt_of_le lb hb1.size;clear hb1 b0 b1 b2 b3 b4 k0 k1 k2 k3 k4;go_wp2_with fail;rw[rounds_succ];go_wp2_with fail;go_ret;exact ⟨rfl,aX.out⟩
theorem JP(q:Nat)(w:World)(h:Uq q w):Calls Tryz.prog 86 #[.slice (some ⟨q,0,none⟩) 1 1] w λe w'=>e=.returned (.bool true)/\Below w.heap.size w w':=by
 have d0:∀d:aN w.heap.size w,d.val.cell? ⟨q,0,none⟩=some (.int .u8 97):=λd=>by rw[cell_of_row _ _ _ _ _ _ ((d.ah.block q (γ h).1).trans h)];rfl
 have d1:∀d:aN w.heap.size w,d.val.cell? ⟨q,1,none⟩=some (.int .u8 97):=λd=>by rw[cell_of_row _ _ _ _ _ _ ((d.ah.block q (γ h).1).trans h)];rfl
 have d2:∀d:aN w.heap.size w,q<d.val.heap.size:=λd=>Nat.lt_of_lt_of_le (γ h).1 d.ah.size;clear h
 go_enter Tryz.func86,Tryz.ntmps86
 go_wp2_with fail;refine wp_loop_rounds 2 ?_;rw[rounds_succ];go_wp2_with fail;refine aq (Below.refl w w) κ κ ?_
 repeat (go_big_quiet_step (fail))
 refine wpQuiet_nil ?_;intro w1 hw';have hw1:Below w.heap.size w w1:=by obtain ⟨d9,rfl⟩:=hw';exact d9.ah
 have aX:=Z hw1;clear hw' hw1 d0 d1 d2;go_wp2_with fail;rw[rounds_succ];go_wp2_with fail;go_ret;exact ⟨rfl,aX.out⟩
theorem Ol(q:Nat)(w:World)(h:Uq q w):Calls Tryz.prog 59 #[(.agg #[.int .i64 1,.slice (some ⟨q,0,none⟩) 1 1,.slice none 0 0,.int .i64 0,.int .i64 0])] w λe w'=>e=.returned (.bool true)/\Below w.heap.size w w':=by
 have HR:=Z h;clear h
 go_enter Tryz.func59,Tryz.ntmps59
 go_wp2_with fail;refine aH λW0 aP=>?_;have hb0:Below w.heap.size w W0:=by rw[aP];exact υ.alloc I _
 have hX:bxL q w.heap.size W0:=by rw[aP];exact heap_alloc_new w _
 have HB:=Z hb0;have HX:=Z hX;have lb:w.heap.size<W0.heap.size:=(γ hX).1;clear aP hb0 hX;refine (JP q W0 ((HB.out.block q (γ HR.out).1).trans HR.out)).mono ?_;rintro e w1 ⟨rfl,hb1⟩;have aX:=Z (HB.out.trans (hb1.mono HB.out.size));obtain ⟨c0,c1,c2,c3,c4⟩:=aw ((hb1.block w.heap.size lb).trans HX.out);have Um:w.heap.size<w1.heap.size:=Nat.lt_of_lt_of_le lb hb1.size;clear hb1;go_wp2_with fail;refine wp_loop_rounds 1 ?_;rw[rounds_succ];go_wp2_with fail;go_ret;exact ⟨rfl,aX.out⟩
theorem Om(g q:Nat)(w:World)(h:om g q w):Calls Tryz.prog 59 #[(.agg #[.int .i64 4,.slice none 0 0,.slice (some ⟨g,0,none⟩) 1 1,.int .i64 1,.int .i64 2])] w λe w'=>e=.returned (.bool true)/\Below w.heap.size w w':=by
 have sX:=Z h;clear h
 go_enter Tryz.func59,Tryz.ntmps59
 go_wp2_with fail;refine dD λW0 aP=>?_;have hb0:Below w.heap.size w W0:=by rw[aP];exact υ.alloc I _
 have hX:Ue g w.heap.size W0:=by rw[aP];exact heap_alloc_new w _
 have HB:=Z hb0;obtain ⟨b0,b1,b2,b3,b4⟩:=aw hX;have lb:w.heap.size<W0.heap.size:=(γ hX).1;have HX:=Z hX;clear aP hb0 hX;have rO:=sX.out.later HB.out;obtain ⟨k0,k1,k2,k3,k4⟩:=aw rO.1;have lg:g<W0.heap.size:=(γ rO.1).1;clear rO;refine wp_loop_rounds 2 ?_;rw[rounds_succ];go_wp2_with fail;refine (Ol q W0 (sX.out.later HB.out).2).mono ?_;rintro e w1 ⟨rfl,hb1⟩;have aX:=Z (HB.out.trans (hb1.mono HB.out.size));obtain ⟨c0,c1,c2,c3,c4⟩:=aw ((hb1.block w.heap.size lb).trans HX.out);have Um:w.heap.size<w1.heap.size:=Nat.lt_of_lt_of_le lb hb1.size;clear hb1 b0 b1 b2 b3 b4 k0 k1 k2 k3 k4;go_wp2_with fail;rw[rounds_succ];go_wp2_with fail;go_ret;exact ⟨rfl,aX.out⟩
theorem Sp(q:Nat)(b:Bool)(w:World):Calls Tryz.prog 60 #[(.agg #[.int .i64 1,.slice (some ⟨q,0,none⟩) 1 1,.slice none 0 0,.int .i64 0,.int .i64 0]),.bool b] w λe w'=>e=.returned (.int .i64 1)/\Below w.heap.size w w':=by
 go_enter Tryz.func60,Tryz.ntmps60
 go_wp2_with fail;go_ret;exact ⟨rfl,υ.alloc I _⟩
theorem Sq(g q:Nat)(w:World)(h:om g q w):Calls Tryz.prog 60 #[(.agg #[.int .i64 4,.slice none 0 0,.slice (some ⟨g,0,none⟩) 1 1,.int .i64 1,.int .i64 2]),.bool true] w λe w'=>e=.returned (.int .i64 2)/\Below w.heap.size w w':=by
 have k:=aw h.1;obtain ⟨k0,k1,k2,k3,k4⟩:=k;have lg:g<w.heap.size:=(γ h.1).1;have lg2:g<w.heap.size+1:=Y;have ng:g≠w.heap.size:=Y;clear h
 go_enter Tryz.func60,Tryz.ntmps60
 go_wp2_with fail;refine aH λW0 aP=>?_;have hb0:Below w.heap.size w W0:=by rw[aP];exact υ.alloc I _
 have HB:=Z hb0;clear aP hb0;refine (Sp q true W0).mono ?_;rintro e w1 ⟨rfl,hb1⟩;have aX:=Z (HB.out.trans (hb1.mono HB.out.size));clear hb1;go_wp2_with fail;go_ret;exact ⟨rfl,aX.out⟩
theorem Fx:∀(m:Nat) (nd:Nd) (vs:List Value) (w:World) (hv:Nat),hv<=200->au nd<=m->bT w nd vs->Calls Tryz.prog 85 #[.agg vs.toArray,.int .i64 (hv:Int)] w λe w'=>e=.returned (.int .i64 ((min (hv+au nd) 201:Nat):Int))/\Below w.heap.size w w':=by
 intro m
 induction m with
 |zero=>intro nd vs w hv _ h;cases nd;rw[au]at h;omega
 |succ m ih=>
  rintro ⟨op,rs,kids,mn,mx⟩ vs w hv hhv h hn;have HN:=Z hn;obtain ⟨v1,v2,rfl,hr,A,c,rfl,hc,hk⟩:=hn;obtain ⟨A1,c1,rfl,-,-⟩:=hr;have hT:au (.mk op rs kids mn mx)=1+aV kids:=by rw[au]
  have HT:=Z hT;rw[hT]at h;have HM:=Z h;have Jz:kids.length<=9223372036854775807:=Y;clear hT h
  go_enter Tryz.func85,Tryz.ntmps85
  go_wp2_with fail;refine dD λW0 aP=>?_;have hb0:Below w.heap.size w W0:=by rw[aP];exact υ.alloc I _
  have gJ:W0.heap[w.heap.size]?=some (.cells #[.int .i64 op,.slice A1 rs.length c1,.slice A kids.length c,.int .i64 mn,.int .i64 mx] 41 (0,0)):=by rw[aP];exact heap_alloc_new w _
  have cH:=Z (H hb0 gJ);clear aP hb0 gJ;go_loopw [1,5] (λov iv wr=>∃(k o:Nat),k<=kids.length/\iv=.int .i64 (k:Int)/\ov=.int .i64 (o:Int)/\o<=201/\Hid (min (o+aV (kids.drop k)) 201=min (hv+(1+aV kids)) 201)/\Hid (Below w.heap.size w wr/\wr.heap[w.heap.size]?=some (.cells #[.int .i64 op,.slice A1 rs.length c1,.slice A kids.length c,.int .i64 mn,.int .i64 mx] 41 (0,0)))) (λ_ iv _=>kids.length - (intOf iv).toNat)
  case atStart=>exact ⟨0,hv+1,Y,rfl,by go_num,Y,(by show min _ _=_;rw[List.drop_zero];congr 1;omega),cH.out⟩
  case round=>
   obtain ⟨k,o,hkk,rfl,rfl,ho,HO,HB⟩:=hrel;obtain ⟨b0,b1,b2,b3,b4⟩:=aw HB.out.2;have lb:w.heap.size<wr.heap.size:=(γ HB.out.2).1;by_cases hlt:k<kids.length
   .have hd:decide ((k:Int)<(kids.length:Int))=true:=τ;have cX:decide (k<kids.length)=true:=decide_eq_true hlt;by_cases sM:o<=200
    .have kc:decide ((o:Int)<=200)=true:=τ;have Ye:decide (o<=200)=true:=decide_eq_true sM;obtain ⟨g,f,rfl,hg,bS⟩:=hk.resolve_left (by rintro rfl;simp at hlt)
     obtain ⟨vs,hcv,bc⟩:=bS.at k hlt;have aZ:=aF (List.getElem_mem hlt);have hdr:aV (kids.drop k)=au kids[k]+aV (kids.drop (k+1)):=by rw[List.drop_eq_getElem_cons hlt,aV]
     obtain ⟨kd,bK⟩:=ν (kids[k]);rw[bK]at bc aZ hdr;obtain ⟨B1,e1,B2,e2,rfl,-,-,-⟩:=bc.form;have q:∀j,j<5->wr.cell? ⟨g,f+k*5+j,none⟩=([.int .i64 kd.op,.slice B1 kd.rs.length e1,.slice B2 kd.kids.length e2,.int .i64 kd.mn,.int .i64 kd.mx]:List Value)[j]?:=λj hj=>(HB.out.1.cl g (f+k*5+j) hg).trans (hcv j hj);have q0:=q 0 Y;have q1:=q 1 Y;have q2:=q 2 Y;have q3:=q 3 Y;have q4:=q 4 Y;simp only[Nat.add_zero,List.getElem?_cons_zero,List.getElem?_cons_succ]at q0 q1 q2 q3 q4;have lg:g<wr.heap.size:=Nat.lt_of_lt_of_le hg HB.out.1.size;have HI:=Z (λ(w':World) (hw:Below w.heap.size w w')=>ih kd _ w' o sM (by have:=HM.out;omega) (bc.later hw))
     have HD:=Z hdr;clear q hcv bc bK bS hdr;go_wp2_with fail;refine (HI.out wr HB.out.1).mono ?_;rintro e w1 ⟨rfl,hb1⟩;obtain ⟨x,hx⟩:=ν (min (o+au kd) 201);rw[hx];have fZ:x<=201:=Y;have HX:=Z hx;have aX:=Z (H (HB.out.1.trans (hb1.mono HB.out.1.size)) ((hb1.block _ lb).trans HB.out.2));clear hb1 hx aZ q0 q1 q2 q3 q4 b0 b1 b2 b3 b4;go_wp2_with fail;go_roundw
     case rel=>
      refine ⟨k+1,x,Y,by go_num,rfl,fZ,?_,aX⟩
      have h1:=HO.out;have h2:=HD.out;have h3:=HX.out;exact (by omega:min (x+aV (kids.drop (k+1))) 201=min (hv+(1+aV kids)) 201)
     case measure=>exact μ
    .have kc:decide ((o:Int)<=200)=false:=θ;have Ye:decide (o<=200)=false:=decide_eq_false sM;go_wp2_with fail;go_ret;refine ⟨aC ?_,HB.out.1⟩;have h1:=HO.out;rw[HT.out];omega
   .obtain rfl:k=kids.length:=Y;have hd:decide (((kids.length:Nat):Int)<(kids.length:Int))=false:=θ;have cX:decide (kids.length<kids.length)=false:=θ;go_wp2_with fail;go_ret;refine ⟨aC ?_,HB.out.1⟩;have h1:=HO.out;rw[List.drop_length,aV]at h1;rw[HT.out];omega
mutual
theorem vF:∀nd:Nd,bP nd<=au nd
 | .mk _ _ kids _ _=>by rw[bP,au];have:=rE kids;omega
theorem rE:∀l:List Nd,bG l<=aV l
 | []=>by rw[bG,aV];exact I
 |k::r=>by rw[bG,aV];have:=vF k;have:=rE r;omega
end
theorem Fy:∀(m:Nat) (nd:Nd) (vs:List Value) (w:World),au nd<=m->au nd<=1000->bT w nd vs->Calls Tryz.prog 58 #[.agg vs.toArray] w λe w'=>e=.returned (.int .i64 ((bP nd:Nat):Int))/\Below w.heap.size w w':=by
 intro m
 induction m with
 |zero=>intro nd vs w h;cases nd;rw[au]at h;omega
 |succ m ih=>
  rintro ⟨op,rs,kids,mn,mx⟩ vs w h xV hn;have HN:=Z hn;obtain ⟨v1,v2,rfl,hr,A,c,rfl,hc,hk⟩:=hn;obtain ⟨A1,c1,rfl,-,-⟩:=hr;have hT:au (.mk op rs kids mn mx)=1+aV kids:=by rw[au]
  have hD:bP (.mk op rs kids mn mx)=1+bG kids:=by rw[bP]
  have HT:=Z hD;rw[hT]at h xV;have HM:=Z (H h xV);have Qs:bG kids<=1000:=by have:=rE kids;omega
  have Jz:kids.length<=9223372036854775807:=Y;clear hT hD h xV
  go_enter Tryz.func58,Tryz.ntmps58
  go_wp2_with fail;refine dD λW0 aP=>?_;have hb0:Below w.heap.size w W0:=by rw[aP];exact υ.alloc I _
  have gJ:W0.heap[w.heap.size]?=some (.cells #[.int .i64 op,.slice A1 rs.length c1,.slice A kids.length c,.int .i64 mn,.int .i64 mx] 41 (0,0)):=by rw[aP];exact heap_alloc_new w _
  have cH:=Z (H hb0 gJ);clear aP hb0 gJ;go_loopw [3,4] (λov iv wr=>∃(k o:Nat),k<=kids.length/\iv=.int .i64 (k:Int)/\ov=.int .i64 (o:Int)/\o<=1000/\Hid (max o (bG (kids.drop k))=bG kids)/\Hid (Below w.heap.size w wr/\wr.heap[w.heap.size]?=some (.cells #[.int .i64 op,.slice A1 rs.length c1,.slice A kids.length c,.int .i64 mn,.int .i64 mx] 41 (0,0)))) (λ_ iv _=>kids.length - (intOf iv).toNat)
  case atStart=>exact ⟨0,0,Y,rfl,rfl,Y,(by show max _ _=_;rw[List.drop_zero];omega),cH.out⟩
  case round=>
   obtain ⟨k,o,hkk,rfl,rfl,ho,HO,HB⟩:=hrel;obtain ⟨b0,b1,b2,b3,b4⟩:=aw HB.out.2;have lb:w.heap.size<wr.heap.size:=(γ HB.out.2).1;by_cases hlt:k<kids.length
   .have hd:decide ((k:Int)<(kids.length:Int))=true:=τ;have cX:decide (k<kids.length)=true:=decide_eq_true hlt;obtain ⟨g,f,rfl,hg,bS⟩:=hk.resolve_left (by rintro rfl;simp at hlt)
    obtain ⟨vs,hcv,bc⟩:=bS.at k hlt;have aZ:=aF (List.getElem_mem hlt);have hdr:bG (kids.drop k)=max (bP kids[k]) (bG (kids.drop (k+1))):=by rw[List.drop_eq_getElem_cons hlt,bG]
    obtain ⟨kd,bK⟩:=ν (kids[k]);rw[bK]at bc aZ hdr;obtain ⟨B1,e1,B2,e2,rfl,-,-,-⟩:=bc.form;have q:∀j,j<5->wr.cell? ⟨g,f+k*5+j,none⟩=([.int .i64 kd.op,.slice B1 kd.rs.length e1,.slice B2 kd.kids.length e2,.int .i64 kd.mn,.int .i64 kd.mx]:List Value)[j]?:=λj hj=>(HB.out.1.cl g (f+k*5+j) hg).trans (hcv j hj);have q0:=q 0 Y;have q1:=q 1 Y;have q2:=q 2 Y;have q3:=q 3 Y;have q4:=q 4 Y;simp only[Nat.add_zero,List.getElem?_cons_zero,List.getElem?_cons_succ]at q0 q1 q2 q3 q4;have lg:g<wr.heap.size:=Nat.lt_of_lt_of_le hg HB.out.1.size;have HI:=Z (λ(w':World) (hw:Below w.heap.size w w')=>ih kd _ w' (by have:=HM.out.1;omega) (by have:=HM.out.2;omega) (bc.later hw))
    have HD:=Z hdr;clear q hcv bc bK bS hdr;go_wp2_with fail;refine (HI.out wr HB.out.1).mono ?_;rintro e w1 ⟨rfl,hb1⟩;obtain ⟨x,hx⟩:=ν (bP kd);rw[hx];have fZ:x<=1000:=by have h1:=vF kd;have h2:=HM.out.2;omega
    obtain ⟨y,hy⟩:∃y:Nat,y=max o x:=⟨_,rfl⟩;have AX:max (o:Int) (x:Int)=(y:Int):=Y;have HY:=Z hy;have hy3:y<=1000:=Y;have HX:=Z hx;have aX:=Z (H (HB.out.1.trans (hb1.mono HB.out.1.size)) ((hb1.block _ lb).trans HB.out.2));clear hb1 hx hy aZ q0 q1 q2 q3 q4 b0 b1 b2 b3 b4;go_wp2_with fail;go_roundw
    case rel=>
     refine ⟨k+1,y,Y,by go_num,by first|rfl|go_num | (simp;omega),hy3,?_,aX⟩
     have h1:=HO.out;have h2:=HD.out;have h3:=HX.out;have h4:=HY.out;exact (by omega:max y (bG (kids.drop (k+1)))=bG kids)
    case measure=>exact μ
   .obtain rfl:k=kids.length:=Y;have hd:decide (((kids.length:Nat):Int)<(kids.length:Int))=false:=θ;have cX:decide (kids.length<kids.length)=false:=θ;go_wp2_with fail;go_ret;refine ⟨aC ?_,HB.out.1⟩;have h1:=HO.out;rw[List.drop_length,bG]at h1;rw[HT.out];omega
structure RgJ (rs:List (Nat×Nat)) (k lo hi:Nat):Prop where
 lt:k<rs.length
 e1:rs[k].1=lo
 e2:rs[k].2=hi
structure RgQ (rs:List (Nat×Nat)) (p ph:Nat):Prop where
 lt:p<rs.length
 e2:rs[p].2=ph
theorem CV(v:Value)(rs:List (Nat×Nat))(w:World)(h:jK w v rs):Calls Tryz.prog 86 #[v] w λe w'=>e=.returned (.bool (dU rs && !rs.isEmpty))/\Below w.heap.size w w':=by
 obtain ⟨A,c,rfl,⟨lY,qD⟩,hcell⟩:=h;obtain ⟨n,hn⟩:=ν rs.length;have HN:=Z hn;have HC:=Z hcell;rw[hn]at lY|-;clear hn hcell
 go_enter Tryz.func86,Tryz.ntmps86
 go_wp2_with fail;go_loopw [3] (λiv wr=>∃k:Nat,k<=n/\iv=.int .i64 (k:Int)/\Hid (sA rs k=dU rs)/\(∀(h0:0<k),Hid (∃h,(rs[k - 1]'h).1<=(rs[k - 1]'h).2))/\Hid (Below w.heap.size w wr)) (λiv _=>n - (intOf iv).toNat)
 case atStart=>exact ⟨0,Y,rfl,rfl,λh=>Y,υ⟩
 case round=>
  obtain ⟨k,hk,rfl,HR,HP,HB⟩:=hrel;by_cases hlt:k<n
  .have hd:decide ((k:Int)<(n:Int))=true:=τ;have cX:decide (k<n)=true:=decide_eq_true hlt;have aU:k<rs.length:=by rw[HN.out];exact hlt
   obtain ⟨g,f,hA,hg,hrow⟩:=HC.out.resolve_left (by intro e;rw[e]at aU;simp at aU)
   subst hA;obtain ⟨⟨c0,c1⟩,hb1,aJ⟩:=hrow k aU;obtain ⟨lo,dy⟩:∃lo:Nat,rs[k].1=lo:=⟨_,rfl⟩;obtain ⟨hi,uL⟩:∃hi:Nat,rs[k].2=hi:=⟨_,rfl⟩;rw[dy]at c0 hb1;rw[uL]at c1 aJ;have aY:=HB.out.size;have d0:∀d:aN wr.heap.size wr,d.val.cell? ⟨g,f+k*2,none⟩=some (.int .u8 (lo:Int)):=λd=>((HB.out.trans (d.ah.mono HB.out.size)).cl g (f+k*2) hg).trans c0;have d1:∀d:aN wr.heap.size wr,d.val.cell? ⟨g,f+k*2+1,none⟩=some (.int .u8 (hi:Int)):=λd=>((HB.out.trans (d.ah.mono HB.out.size)).cl g (f+k*2+1) hg).trans c1;have d2:∀d:aN wr.heap.size wr,g<d.val.heap.size:=λd=>by have:=d.ah.size;omega
   have HL:Hid (RgJ rs k lo hi):=⟨aU,dy,uL⟩;have u1:IntKind.i64.wrap (lo:Int)=(lo:Int):=IntWalk.i64_in _ Y;clear c0 c1 dy uL aU;by_cases NG:hi<lo
   .have t1:decide ((hi:Int)<(lo:Int))=true:=τ;have PG:decide (hi<lo)=true:=decide_eq_true NG;clear hrow;go_wp2_with fail;refine aq (Below.refl wr wr) κ κ ?_
    repeat (go_big_quiet_step (fail))
    refine wpQuiet_nil ?_;intro w2 hw';have ew:Below wr.heap.size wr w2:=by obtain ⟨d9,rfl⟩:=hw';exact d9.ah
    have dr:=Z (HB.out.trans (ew.mono HB.out.size));clear hw' ew d0 d1 d2;go_wp2_with fail;go_ret;refine ⟨ae ?_,dr.out⟩;rw[<-HR.out,nC HL.out.1 (.inl (by have:=HL.out.2;have:=HL.out.3;omega))];rfl
   have t1:decide ((hi:Int)<(lo:Int))=false:=θ;have PG:decide (hi<lo)=false:=decide_eq_false NG;by_cases hZ:k=0
   .have t2:decide (0<(k:Int))=false:=θ;have t2n:decide (0<k)=false:=θ;have I5:=Z hZ;clear hrow hZ;go_wp2_with fail;refine aq (Below.refl wr wr) κ κ ?_
    repeat (go_big_quiet_step (fail))
    refine wpQuiet_nil ?_;intro w2 hw';have ew:Below wr.heap.size wr w2:=by obtain ⟨d9,rfl⟩:=hw';exact d9.ah
    have dr:=Z (HB.out.trans (ew.mono HB.out.size));clear hw' ew d0 d1 d2;go_wp2_with fail;go_roundw
    case rel=>
     refine ⟨k+1,Y,by go_num,?_,λh0=>⟨by simpa using HL.out.1,by simp only[Nat.add_sub_cancel];have:=HL.out.2;have:=HL.out.3;omega⟩,dr.out⟩
     exact (kX HL.out.1 (by have:=HL.out.2;have:=HL.out.3;omega) (λh0=>by have:=I5.out;omega)).trans HR.out
    case measure=>exact μ
   .obtain ⟨p,hp⟩:∃p,p+1=k:=⟨k - 1,Y⟩;have t2:decide (0<(k:Int))=true:=τ;have t2n:decide (0<k)=true:=τ;have tH:p<n:=Y;have Ww:p<rs.length:=by rw[HN.out];exact tH
    obtain ⟨⟨-,p1⟩,-,xL⟩:=hrow p Ww;obtain ⟨ph,XB⟩:∃x:Nat,(rs[p]'Ww).2=x:=⟨_,rfl⟩;rw[XB]at p1 xL;have d3:∀d:aN wr.heap.size wr,d.val.cell? ⟨g,f+p*2+1,none⟩=some (.int .u8 (ph:Int)):=λd=>((HB.out.trans (d.ah.mono HB.out.size)).cl g (f+p*2+1) hg).trans p1;have hw1:IntKind.i64.wrap ((k:Int) - 1)=(p:Int):=by rw[IntWalk.i64_in _ Y];omega
    have aul:(k:Int) - 1=(p:Int):=Y;have t3:decide (p<n)=true:=decide_eq_true tH;have u2:IntKind.i64.wrap (ph:Int)=(ph:Int):=IntWalk.i64_in _ Y;have u3:IntKind.i64.wrap ((ph:Int)+2)=(ph:Int)+2:=IntWalk.i64_in _ Y;have Ug:Hid (p+1=k/\RgQ rs p ph):=⟨hp,Ww,XB⟩;have HPP:=Z (HP Y).out;clear hrow hZ hp Ww XB p1;by_cases hle:lo<ph+2
    .have t4:decide ((lo:Int)<(ph:Int)+2)=true:=τ;go_wp2_with fail;refine aq (Below.refl wr wr) κ κ ?_
     repeat (go_big_quiet_step (fail))
     refine wpQuiet_nil ?_;intro w2 hw';have ew:Below wr.heap.size wr w2:=by obtain ⟨d9,rfl⟩:=hw';exact d9.ah
     have dr:=Z (HB.out.trans (ew.mono HB.out.size));clear hw' ew d0 d1 d2 d3;go_wp2_with fail;go_ret;refine ⟨ae ?_,dr.out⟩;have sa:k - 1=p:=by have:=Ug.out.1;omega
     rw[<-HR.out,nC HL.out.1 (.inr ⟨by have:=Ug.out.1;omega,by
      have e1:(rs[k - 1]'(by have:=HL.out.1;omega)).2=ph:=by simp only[sa];exact Ug.out.2.2
      rw[e1];have:=HL.out.2;omega⟩)];rfl
    .have t4:decide ((lo:Int)<(ph:Int)+2)=false:=θ;go_wp2_with fail;refine aq (Below.refl wr wr) κ κ ?_
     repeat (go_big_quiet_step (fail))
     refine wpQuiet_nil ?_;intro w2 hw';have ew:Below wr.heap.size wr w2:=by obtain ⟨d9,rfl⟩:=hw';exact d9.ah
     have dr:=Z (HB.out.trans (ew.mono HB.out.size));clear hw' ew d0 d1 d2 d3;go_wp2_with fail;go_roundw
     case rel=>
      refine ⟨k+1,Y,by go_num,?_,λh0=>⟨by simpa using HL.out.1,by simp only[Nat.add_sub_cancel];have:=HL.out.2;have:=HL.out.3;omega⟩,dr.out⟩
      have sa:k - 1=p:=by have:=Ug.out.1;omega
      refine (kX HL.out.1 (by have:=HL.out.2;have:=HL.out.3;omega) (λh0=>⟨HPP.out.2,?_⟩)).trans HR.out
      have e1:(rs[k - 1]'(by have:=HL.out.1;omega)).2=ph:=by simp only[sa];exact Ug.out.2.2
      rw[e1];have:=HL.out.2;omega
     case measure=>exact μ
  .obtain rfl:k=n:=Y;have hd:decide ((k:Int)<(k:Int))=false:=θ;have cX:decide (k<k)=false:=θ;have he:dU rs=true:=by
    rw[<-HR.out,<-HN.out];exact xZ λh0=>by
     obtain ⟨h2,h3⟩:=(HP (by have:=HN.out;omega)).out
     have hkk:rs.length - 1=k - 1:=by rw[HN.out]
     exact ⟨Y,by simp only[hkk];exact h3⟩
   have HE:=Z he;clear he;by_cases h0:k=0
   .have e0:decide (0<(k:Int))=false:=θ;have e0n:decide (0<k)=false:=θ;have HK:=Z h0;clear h0;go_wp2_with fail;go_ret;exact ⟨ae (by rw[HE.out,List.length_eq_zero_iff.1 (HN.out.trans HK.out)];rfl),HB.out⟩
   .have e0:decide (0<(k:Int))=true:=τ;have e0n:decide (0<k)=true:=τ;have HK:=Z h0;clear h0;go_wp2_with fail;go_ret;refine ⟨ae ?_,HB.out⟩;rw[HE.out]
    cases y7:rs with
    |nil=>exact absurd (by rw[<-HN.out,y7];rfl) HK.out
    |cons a r=>rfl
theorem JS(nd:Nd)(vs:List Value)(w:World)(hn:bT w nd vs):Calls Tryz.prog 87 #[.agg vs.toArray] w λe w'=>e=.returned (.bool (vl nd))/\Below w.heap.size w w':=by
 obtain ⟨op,rs,kids,mn,mx⟩:=nd;obtain ⟨v1,v2,rfl,hr,A,c,rfl,hc,hk⟩:=hn;obtain ⟨A1,c1,rfl,lY,-⟩:=hr;obtain ⟨rl,lA⟩:∃n,rs.length=n:=⟨_,rfl⟩;obtain ⟨kl,aU⟩:∃n,kids.length=n:=⟨_,rfl⟩;have HK:=Z hk;have HL:=Z (H lA aU);rw[lA]at lY|-;rw[aU]at hc|-;clear lA aU hk
 go_enter Tryz.func87,Tryz.ntmps87
 go_wp2_with fail;refine dD λW0 aP=>?_;have hb0:Below w.heap.size w W0:=by rw[aP];exact υ.alloc I _
 have gJ:W0.heap[w.heap.size]?=some (.cells #[.int .i64 op,.slice A1 rl c1,.slice A kl c,.int .i64 mn,.int .i64 mx] 41 (0,0)):=by rw[aP];exact heap_alloc_new w _
 have cH:=Z (H hb0 gJ);clear aP hb0 gJ;go_loopw [3] (λiv wr=>∃(k:Nat),k<=kl/\iv=.int .i64 (k:Int)/\Hid (((kids.take k).any λx=>x.op == op)=false)/\Hid (Below w.heap.size w wr/\wr.heap[w.heap.size]?=some (.cells #[.int .i64 op,.slice A1 rl c1,.slice A kl c,.int .i64 mn,.int .i64 mx] 41 (0,0)))) (λiv _=>kl - (intOf iv).toNat)
 case atStart=>exact ⟨0,Y,rfl,rfl,cH.out⟩
 case round=>
  obtain ⟨k,hkk,rfl,HO,HB⟩:=hrel;obtain ⟨b0,b1,b2,b3,b4⟩:=aw HB.out.2;have lb:w.heap.size<wr.heap.size:=(γ HB.out.2).1;by_cases hlt:k<kl
  .have hd:decide ((k:Int)<(kl:Int))=true:=τ;have cX:decide (k<kl)=true:=decide_eq_true hlt;have aU:k<kids.length:=by rw[HL.out.2];exact hlt
   obtain ⟨g,f,hA,hg,bS⟩:=HK.out.resolve_left (by intro e;rw[e]at aU;simp at aU)
   subst hA;obtain ⟨vs,hcv,bc⟩:=bS.at k aU;obtain ⟨B1,e1,B2,e2,rfl,-,-,-⟩:=bc.form;obtain ⟨ko,IA⟩:∃o,kids[k].op=o:=⟨_,rfl⟩;rw[IA]at hcv;have q0:wr.cell? ⟨g,f+k*5,none⟩=some (.int .i64 ko):=by
    have h9:=(HB.out.1.cl g (f+k*5+0) hg).trans (hcv 0 Y);rw[Nat.add_zero]at h9;exact h9
   have lg:g<wr.heap.size:=Nat.lt_of_lt_of_le hg HB.out.1.size;have d0:∀d:aN wr.heap.size wr,d.val.cell? ⟨g,f+k*5,none⟩=some (.int .i64 ko):=λd=>(d.ah.cl g (f+k*5) lg).trans q0;have d1:∀d:aN wr.heap.size wr,d.val.cell? ⟨w.heap.size,0,none⟩=some (.int .i64 op):=λd=>(d.ah.cl w.heap.size 0 lb).trans b0;have d2:∀d:aN wr.heap.size wr,d.val.cell? ⟨w.heap.size,2,none⟩=some (.slice (some ⟨g,f,none⟩) kl c):=λd=>(d.ah.cl w.heap.size 2 lb).trans b2;have d3:∀d:aN wr.heap.size wr,w.heap.size<d.val.heap.size:=λd=>Nat.lt_of_lt_of_le lb d.ah.size;have d4:∀d:aN wr.heap.size wr,g<d.val.heap.size:=λd=>Nat.lt_of_lt_of_le lg d.ah.size;have cB:((kids.take (k+1)).any λx=>x.op == op)=(ko == op):=by
    rw[List.take_succ_eq_append_getElem aU,List.any_append,HO.out];simp[IA]
   have jG:=Z cB;have HKL:=Z aU;clear hcv bc bS IA q0 cB aU;by_cases he:ko=op
   .have t1:(ko == op)=true:=by simp[he]
    have HE:=Z t1;clear he;go_wp2_with fail;refine aq (Below.refl wr wr) κ κ ?_
    repeat (go_big_quiet_step (fail))
    refine wpQuiet_nil ?_;intro w2 hw';have ew:Below wr.heap.size wr w2:=by obtain ⟨d9,rfl⟩:=hw';exact d9.ah
    have dr:=Z (HB.out.1.trans (ew.mono HB.out.1.size));clear hw' ew d0 d1 d2 d3 d4 b0 b1 b2 b3 b4;go_wp2_with fail;go_ret;refine ⟨ae ?_,dr.out⟩;have h9:(kids.any λx=>x.op == op)=true:=by
     have h8:=jG.out.trans HE.out;rw[List.any_eq_true]at h8|-;obtain ⟨x,hx,fZ⟩:=h8;exact ⟨x,List.mem_of_mem_take hx,fZ⟩
    show false=(decide (2<=kids.length) && (rs.isEmpty && (decide (mn=0) && (decide (mx=0) && !(kids.any λx=>x.op == op)))));rw[h9];simp
   .have t1:(ko == op)=false:=by simp[he]
    have HE:=Z t1;clear he;go_wp2_with fail;refine aq (Below.refl wr wr) κ κ ?_
    repeat (go_big_quiet_step (fail))
    refine wpQuiet_nil ?_;intro w2 hw';have ew:Below wr.heap.size wr w2:=by obtain ⟨d9,rfl⟩:=hw';exact d9.ah
    have dr:=Z (H (HB.out.1.trans (ew.mono HB.out.1.size)) ((ew.block w.heap.size lb).trans HB.out.2));clear hw' ew d0 d1 d2 d3 d4 b0 b1 b2 b3 b4;go_wp2_with fail;go_roundw
    case rel=>exact ⟨k+1,Y,by go_num,jG.out.trans HE.out,dr.out⟩
    case measure=>exact μ
  .obtain rfl:k=kl:=Y;have hd:decide ((k:Int)<(k:Int))=false:=θ;have cX:decide (k<k)=false:=θ;have pD:(kids.any λx=>x.op == op)=false:=by have h9:=HO.out;rw[List.take_of_length_le (by have:=HL.out.2;omega)]at h9;exact h9
   have hsv:vl (.mk op rs kids mn mx)=(decide (2<=k) && (decide (rl=0) && (decide (mn=0) && decide (mx=0)))):=by
    show (decide (2<=kids.length) && (rs.isEmpty && (decide (mn=0) && (decide (mx=0) && !(kids.any λx=>x.op == op)))))=_;rw[pD,HL.out.2,<-HL.out.1]
    cases rs <;> simp
   have HSV:=Z hsv;clear pD hsv;by_cases h1:2<=k
   .have t1:decide ((2:Int)<=(k:Int))=true:=τ;have PG:decide (2<=k)=true:=decide_eq_true h1;by_cases h2:rl=0
    .have t2:((rl:Int) == 0)=true:=by simp[h2]
     have H2:=Z h2;clear h2;by_cases h3:mn=0
     .have t3:(mn == 0)=true:=by simp[h3]
      have H3:=Z h3;clear h3;by_cases h4:mx=0
      .have t4:(mx == 0)=true:=by simp[h4]
       have H4:=Z h4;clear h4;go_wp2_with fail;go_ret;exact ⟨ae (by rw[HSV.out,decide_eq_true h1,decide_eq_true H2.out,decide_eq_true H3.out,decide_eq_true H4.out];rfl),HB.out.1⟩
      .have t4:(mx == 0)=false:=by simp[h4]
       have H4:=Z h4;clear h4;go_wp2_with fail;go_ret;exact ⟨ae (by rw[HSV.out,decide_eq_false H4.out];simp),HB.out.1⟩
     .have t3:(mn == 0)=false:=by simp[h3]
      have H3:=Z h3;clear h3;go_wp2_with fail;go_ret;exact ⟨ae (by rw[HSV.out,decide_eq_false H3.out];simp),HB.out.1⟩
    .have t2:((rl:Int) == 0)=false:=ψ;have H2:=Z h2;clear h2;go_wp2_with fail;go_ret;exact ⟨ae (by rw[HSV.out,decide_eq_false H2.out];simp),HB.out.1⟩
   .have t1:decide ((2:Int)<=(k:Int))=false:=θ;have PG:decide (2<=k)=false:=decide_eq_false h1;go_wp2_with fail;go_ret;exact ⟨ae (by rw[HSV.out,PG];rfl),HB.out.1⟩
theorem Fz:∀(m:Nat) (nd:Nd) (vs:List Value) (w:World),au nd<=m->bT w nd vs->Calls Tryz.prog 59 #[.agg vs.toArray] w λe w'=>e=.returned (.bool (aA nd))/\Below w.heap.size w w':=by
 intro m
 induction m with
 |zero=>intro nd vs w h;cases nd;rw[au]at h;omega
 |succ m ih=>
  rintro ⟨op,rs,kids,mn,mx⟩ vs w h hn;have HN:=Z hn;obtain ⟨v1,v2,rfl,hr,A,c,rfl,hc,hk⟩:=hn;have Po:=Z hr;obtain ⟨A1,c1,rfl,lY,-⟩:=hr;have hT:au (.mk op rs kids mn mx)=1+aV kids:=by rw[au]
  rw[hT]at h;have HM:=Z h;obtain ⟨rl,lA⟩:∃n,rs.length=n:=⟨_,rfl⟩;obtain ⟨kl,aU⟩:∃n,kids.length=n:=⟨_,rfl⟩;have HK:=Z hk;have HL:=Z (H lA aU);have oa:=Z (show aA (.mk op rs kids mn mx)=(cU (.mk op rs kids mn mx) && aO kids) by rw[aA])
  rw[lA]at lY Po|-;rw[aU]at hc|-;clear lA aU hk hT h
  go_enter Tryz.func59,Tryz.ntmps59
  by_cases o1:op=1
  .subst o1;have kg:Hid (cU (.mk 1 rs kids mn mx)=((dU rs && !rs.isEmpty) && (decide (kl=0) && (decide (mn=0) && decide (mx=0))))):=by
    show _=_;rw[CF rfl];unfold zt;show (dU rs && (!rs.isEmpty && (decide (kids.length=0) && (decide (mn=0) && decide (mx=0)))))=_;rw[HL.out.2]
    cases dU rs <;> cases rs.isEmpty <;> rfl
   go_wp2_with fail;refine aH λW0 aP=>?_;have hb0:Below w.heap.size w W0:=by rw[aP];exact υ.alloc I _
   have gJ:W0.heap[w.heap.size]?=some (.cells #[.int .i64 1,.slice A1 rl c1,.slice A kl c,.int .i64 mn,.int .i64 mx] 41 (0,0)):=by rw[aP];exact heap_alloc_new w _
   have lb0:w.heap.size<W0.heap.size:=(γ gJ).1;have cH:=Z (H hb0 gJ);obtain ⟨b0,b1,b2,b3,b4⟩:=aw gJ;clear aP hb0 gJ;have HRA:=Z (CV _ rs W0 (Po.out.later cH.out.1));obtain ⟨x,hx⟩:=ν (dU rs && !rs.isEmpty);rw[hx]at kg HRA;clear hx;refine (HRA.out).mono ?_;rintro e w1 ⟨rfl,hb1⟩;have aX:=Z (H (cH.out.1.trans (hb1.mono cH.out.1.size)) ((hb1.block _ lb0).trans cH.out.2));clear hb1 b0 b1 b2 b3 b4;obtain ⟨b0,b1,b2,b3,b4⟩:=aw aX.out.2;have Um:w.heap.size<w1.heap.size:=(γ aX.out.2).1
   cases x with
   |false=>
    go_wp2_with fail;refine wp_loop_rounds 1 ?_;rw[rounds_succ];by_cases h0:0<kl
    .have z1:decide ((0:Int)<(kl:Int))=true:=τ;have rF:decide (0<kl)=true:=decide_eq_true h0;go_wp2_with fail;go_ret;exact ⟨ae (by rw[oa.out,kg.out];simp),aX.out.1⟩
    .have z1:decide ((0:Int)<(kl:Int))=false:=θ;have rF:decide (0<kl)=false:=decide_eq_false h0;go_wp2_with fail;go_ret;exact ⟨ae (by rw[oa.out,kg.out];simp),aX.out.1⟩
   |true=>
    by_cases c1h:kl=0
    .have t1:((kl:Int) == 0)=true:=by simp[c1h]
     have Sv:=Z c1h;clear c1h;by_cases c2h:mn=0
     .have t2:(mn == 0)=true:=by simp[c2h]
      have Sw:=Z c2h;clear c2h;by_cases c3h:mx=0
      .have t3:(mx == 0)=true:=by simp[c3h]
       have Sy:=Z c3h;clear c3h;go_wp2_with fail;have Hb:=Z (show aA (.mk 1 rs kids mn mx)=aO kids by rw[oa.out,kg.out,decide_eq_true Sv.out,decide_eq_true Sw.out,decide_eq_true Sy.out];rfl)
       go_loopw [4,3] (λiv ov wr=>∃(k:Nat) (b:Bool),k<=kl/\iv=.int .i64 (k:Int)/\ov=.bool b/\Hid ((b && aO (kids.drop k))=aO kids)/\Hid (Below w.heap.size w wr/\wr.heap[w.heap.size]?=some (.cells #[.int .i64 1,.slice A1 rl c1,.slice A kl c,.int .i64 mn,.int .i64 mx] 41 (0,0)))) (λiv _ _=>kl - (intOf iv).toNat)
       case atStart=>exact ⟨0,true,Y,rfl,rfl,rfl,aX.out⟩
       case round=>
        obtain ⟨k,b,hkk,rfl,rfl,HO,HB⟩:=hrel;obtain ⟨b0,b1,b2,b3,b4⟩:=aw HB.out.2;have lb:w.heap.size<wr.heap.size:=(γ HB.out.2).1;by_cases hlt:k<kl
        .have hd:decide ((k:Int)<(kl:Int))=true:=τ;have cX:decide (k<kl)=true:=decide_eq_true hlt
         cases b with
         |false=>
          go_wp2_with fail;go_ret;exact ⟨ae (by rw[Hb.out,<-HO.out];rfl),HB.out.1⟩
         |true=>
          have aU:k<kids.length:=by rw[HL.out.2];exact hlt
          obtain ⟨g,f,hA,hg,bS⟩:=HK.out.resolve_left (by intro e;rw[e]at aU;simp at aU)
          subst hA;obtain ⟨vs,hcv,bc⟩:=bS.at k aU;have aZ:=aF (List.getElem_mem aU);have hdr:aO (kids.drop k)=(aA kids[k] && aO (kids.drop (k+1))):=by rw[List.drop_eq_getElem_cons aU,aO]
          obtain ⟨kd,bK⟩:=ν (kids[k]);rw[bK]at bc aZ hdr;obtain ⟨B1,e1,B2,e2,rfl,-,-,-⟩:=bc.form;have q:∀j,j<5->wr.cell? ⟨g,f+k*5+j,none⟩=([.int .i64 kd.op,.slice B1 kd.rs.length e1,.slice B2 kd.kids.length e2,.int .i64 kd.mn,.int .i64 kd.mx]:List Value)[j]?:=λj hj=>(HB.out.1.cl g (f+k*5+j) hg).trans (hcv j hj);have q0:=q 0 Y;have q1:=q 1 Y;have q2:=q 2 Y;have q3:=q 3 Y;have q4:=q 4 Y;simp only[Nat.add_zero,List.getElem?_cons_zero,List.getElem?_cons_succ]at q0 q1 q2 q3 q4;have lg:g<wr.heap.size:=Nat.lt_of_lt_of_le hg HB.out.1.size;have HI:=Z (ih kd _ wr (by have:=HM.out;omega) (bc.later HB.out.1))
          have HD:=Z hdr;clear q hcv bc bK bS hdr aU;go_wp2_with fail;refine HI.out.mono ?_;rintro e w7 ⟨rfl,dT⟩;obtain ⟨x,hx⟩:=ν (aA kd);rw[hx];have HX:=Z hx;have xS:=Z (H (HB.out.1.trans (dT.mono HB.out.1.size)) ((dT.block _ lb).trans HB.out.2));clear dT hx aZ q0 q1 q2 q3 q4 b0 b1 b2 b3 b4;go_wp2_with fail;go_roundw
          case rel=>exact ⟨k+1,x,Y,by go_num,rfl,by have h9:=HO.out;rw[Bool.true_and,HD.out,HX.out]at h9;exact h9,xS⟩
          case measure=>exact μ
        .obtain rfl:k=kl:=Y;have hd:decide ((k:Int)<(k:Int))=false:=θ;have cX:decide (k<k)=false:=θ;go_wp2_with fail;go_ret;exact ⟨ae (by have h9:=HO.out; rw[List.drop_of_length_le (by have:=HL.out.2; omega)]at h9; rw[Hb.out,<-h9]; cases b <;> rfl),HB.out.1⟩
      .have t3:(mx == 0)=false:=by simp[c3h]
       have Sy:=Z c3h;clear c3h;go_wp2_with fail;refine wp_loop_rounds 1 ?_;rw[rounds_succ];by_cases h0:0<kl
       .have z1:decide ((0:Int)<(kl:Int))=true:=τ;have rF:decide (0<kl)=true:=decide_eq_true h0;go_wp2_with fail;go_ret;exact ⟨ae (by rw[oa.out,kg.out,decide_eq_false Sy.out];simp),aX.out.1⟩
       .have z1:decide ((0:Int)<(kl:Int))=false:=θ;have rF:decide (0<kl)=false:=decide_eq_false h0;go_wp2_with fail;go_ret;exact ⟨ae (by rw[oa.out,kg.out,decide_eq_false Sy.out];simp),aX.out.1⟩
     .have t2:(mn == 0)=false:=by simp[c2h]
      have Sw:=Z c2h;clear c2h;go_wp2_with fail;refine wp_loop_rounds 1 ?_;rw[rounds_succ];by_cases h0:0<kl
      .have z1:decide ((0:Int)<(kl:Int))=true:=τ;have rF:decide (0<kl)=true:=decide_eq_true h0;go_wp2_with fail;go_ret;exact ⟨ae (by rw[oa.out,kg.out,decide_eq_false Sw.out];simp),aX.out.1⟩
      .have z1:decide ((0:Int)<(kl:Int))=false:=θ;have rF:decide (0<kl)=false:=decide_eq_false h0;go_wp2_with fail;go_ret;exact ⟨ae (by rw[oa.out,kg.out,decide_eq_false Sw.out];simp),aX.out.1⟩
    .have t1:((kl:Int) == 0)=false:=ψ;have Sv:=Z c1h;clear c1h;go_wp2_with fail;refine wp_loop_rounds 1 ?_;rw[rounds_succ];by_cases h0:0<kl
     .have z1:decide ((0:Int)<(kl:Int))=true:=τ;have rF:decide (0<kl)=true:=decide_eq_true h0;go_wp2_with fail;go_ret;exact ⟨ae (by rw[oa.out,kg.out,decide_eq_false Sv.out];simp),aX.out.1⟩
     .have z1:decide ((0:Int)<(kl:Int))=false:=θ;have rF:decide (0<kl)=false:=decide_eq_false h0;go_wp2_with fail;go_ret;exact ⟨ae (by rw[oa.out,kg.out,decide_eq_false Sv.out];simp),aX.out.1⟩
  .have n1:(op == 1)=false:=by simp[o1]
   by_cases Yf:op=2\/op=3
   .have kg:=Z (qs (nd:=.mk op rs kids mn mx) Yf);have PF:=Z λW (hb:Below w.heap.size w W)=>JS (.mk op rs kids mn mx) _ W (HN.out.later hb);obtain ⟨x,hx⟩:=ν (vl (.mk op rs kids mn mx));rw[hx]at kg PF;rw[HL.out.1,HL.out.2]at PF;clear hx;by_cases o2:op=2
    .have n2:(op == 2)=true:=by simp[o2]
     clear o1 o2 Yf;go_wp2_with fail;refine aH λW0 aP=>?_;have hb0:Below w.heap.size w W0:=by rw[aP];exact υ.alloc I _
     have gJ:W0.heap[w.heap.size]?=some (.cells #[.int .i64 op,.slice A1 rl c1,.slice A kl c,.int .i64 mn,.int .i64 mx] 41 (0,0)):=by rw[aP];exact heap_alloc_new w _
     have lb0:w.heap.size<W0.heap.size:=(γ gJ).1;have cH:=Z (H hb0 gJ);obtain ⟨b0,b1,b2,b3,b4⟩:=aw gJ;clear aP hb0 gJ;refine (PF.out W0 cH.out.1).mono ?_;rintro e w1 ⟨rfl,hb1⟩;have aX:=Z (H (cH.out.1.trans (hb1.mono cH.out.1.size)) ((hb1.block _ lb0).trans cH.out.2));clear hb1 b0 b1 b2 b3 b4;obtain ⟨b0,b1,b2,b3,b4⟩:=aw aX.out.2;have Um:w.heap.size<w1.heap.size:=(γ aX.out.2).1
     cases x with
     |false=>
      go_wp2_with fail;refine wp_loop_rounds 1 ?_;rw[rounds_succ];by_cases h0:0<kl
      .have z1:decide ((0:Int)<(kl:Int))=true:=τ;have rF:decide (0<kl)=true:=decide_eq_true h0;go_wp2_with fail;go_ret;exact ⟨ae (by rw[oa.out,kg.out];rfl),aX.out.1⟩
      .have z1:decide ((0:Int)<(kl:Int))=false:=θ;have rF:decide (0<kl)=false:=decide_eq_false h0;go_wp2_with fail;go_ret;exact ⟨ae (by rw[oa.out,kg.out];rfl),aX.out.1⟩
     |true=>
      go_wp2_with fail;have Hb:=Z (show aA (.mk op rs kids mn mx)=aO kids by rw[oa.out,kg.out];rfl)
      go_loopw [4,3] (λiv ov wr=>∃(k:Nat) (b:Bool),k<=kl/\iv=.int .i64 (k:Int)/\ov=.bool b/\Hid ((b && aO (kids.drop k))=aO kids)/\Hid (Below w.heap.size w wr/\wr.heap[w.heap.size]?=some (.cells #[.int .i64 op,.slice A1 rl c1,.slice A kl c,.int .i64 mn,.int .i64 mx] 41 (0,0)))) (λiv _ _=>kl - (intOf iv).toNat)
      case atStart=>exact ⟨0,true,Y,rfl,rfl,rfl,aX.out⟩
      case round=>
       obtain ⟨k,b,hkk,rfl,rfl,HO,HB⟩:=hrel;obtain ⟨b0,b1,b2,b3,b4⟩:=aw HB.out.2;have lb:w.heap.size<wr.heap.size:=(γ HB.out.2).1;by_cases hlt:k<kl
       .have hd:decide ((k:Int)<(kl:Int))=true:=τ;have cX:decide (k<kl)=true:=decide_eq_true hlt
        cases b with
        |false=>
         go_wp2_with fail;go_ret;exact ⟨ae (by rw[Hb.out,<-HO.out];rfl),HB.out.1⟩
        |true=>
         have aU:k<kids.length:=by rw[HL.out.2];exact hlt
         obtain ⟨g,f,hA,hg,bS⟩:=HK.out.resolve_left (by intro e;rw[e]at aU;simp at aU)
         subst hA;obtain ⟨vs,hcv,bc⟩:=bS.at k aU;have aZ:=aF (List.getElem_mem aU);have hdr:aO (kids.drop k)=(aA kids[k] && aO (kids.drop (k+1))):=by rw[List.drop_eq_getElem_cons aU,aO]
         obtain ⟨kd,bK⟩:=ν (kids[k]);rw[bK]at bc aZ hdr;obtain ⟨B1,e1,B2,e2,rfl,-,-,-⟩:=bc.form;have q:∀j,j<5->wr.cell? ⟨g,f+k*5+j,none⟩=([.int .i64 kd.op,.slice B1 kd.rs.length e1,.slice B2 kd.kids.length e2,.int .i64 kd.mn,.int .i64 kd.mx]:List Value)[j]?:=λj hj=>(HB.out.1.cl g (f+k*5+j) hg).trans (hcv j hj);have q0:=q 0 Y;have q1:=q 1 Y;have q2:=q 2 Y;have q3:=q 3 Y;have q4:=q 4 Y;simp only[Nat.add_zero,List.getElem?_cons_zero,List.getElem?_cons_succ]at q0 q1 q2 q3 q4;have lg:g<wr.heap.size:=Nat.lt_of_lt_of_le hg HB.out.1.size;have HI:=Z (ih kd _ wr (by have:=HM.out;omega) (bc.later HB.out.1))
         have HD:=Z hdr;clear q hcv bc bK bS hdr aU;go_wp2_with fail;refine HI.out.mono ?_;rintro e w7 ⟨rfl,dT⟩;obtain ⟨x,hx⟩:=ν (aA kd);rw[hx];have HX:=Z hx;have xS:=Z (H (HB.out.1.trans (dT.mono HB.out.1.size)) ((dT.block _ lb).trans HB.out.2));clear dT hx aZ q0 q1 q2 q3 q4 b0 b1 b2 b3 b4;go_wp2_with fail;go_roundw
         case rel=>exact ⟨k+1,x,Y,by go_num,rfl,by have h9:=HO.out;rw[Bool.true_and,HD.out,HX.out]at h9;exact h9,xS⟩
         case measure=>exact μ
       .obtain rfl:k=kl:=Y;have hd:decide ((k:Int)<(k:Int))=false:=θ;have cX:decide (k<k)=false:=θ;go_wp2_with fail;go_ret;exact ⟨ae (by have h9:=HO.out; rw[List.drop_of_length_le (by have:=HL.out.2; omega)]at h9; rw[Hb.out,<-h9]; cases b <;> rfl),HB.out.1⟩
    .have n2:(op == 2)=false:=by simp[o2]
     have n3:(op == 3)=true:=by
      have:op=3:=Y;simp[this]
     clear o1 o2 Yf;go_wp2_with fail;refine aH λW0 aP=>?_;have hb0:Below w.heap.size w W0:=by rw[aP];exact υ.alloc I _
     have gJ:W0.heap[w.heap.size]?=some (.cells #[.int .i64 op,.slice A1 rl c1,.slice A kl c,.int .i64 mn,.int .i64 mx] 41 (0,0)):=by rw[aP];exact heap_alloc_new w _
     have lb0:w.heap.size<W0.heap.size:=(γ gJ).1;have cH:=Z (H hb0 gJ);obtain ⟨b0,b1,b2,b3,b4⟩:=aw gJ;clear aP hb0 gJ;refine (PF.out W0 cH.out.1).mono ?_;rintro e w1 ⟨rfl,hb1⟩;have aX:=Z (H (cH.out.1.trans (hb1.mono cH.out.1.size)) ((hb1.block _ lb0).trans cH.out.2));clear hb1 b0 b1 b2 b3 b4;obtain ⟨b0,b1,b2,b3,b4⟩:=aw aX.out.2;have Um:w.heap.size<w1.heap.size:=(γ aX.out.2).1
     cases x with
     |false=>
      go_wp2_with fail;refine wp_loop_rounds 1 ?_;rw[rounds_succ];by_cases h0:0<kl
      .have z1:decide ((0:Int)<(kl:Int))=true:=τ;have rF:decide (0<kl)=true:=decide_eq_true h0;go_wp2_with fail;go_ret;exact ⟨ae (by rw[oa.out,kg.out];rfl),aX.out.1⟩
      .have z1:decide ((0:Int)<(kl:Int))=false:=θ;have rF:decide (0<kl)=false:=decide_eq_false h0;go_wp2_with fail;go_ret;exact ⟨ae (by rw[oa.out,kg.out];rfl),aX.out.1⟩
     |true=>
      go_wp2_with fail;have Hb:=Z (show aA (.mk op rs kids mn mx)=aO kids by rw[oa.out,kg.out];rfl)
      go_loopw [4,3] (λiv ov wr=>∃(k:Nat) (b:Bool),k<=kl/\iv=.int .i64 (k:Int)/\ov=.bool b/\Hid ((b && aO (kids.drop k))=aO kids)/\Hid (Below w.heap.size w wr/\wr.heap[w.heap.size]?=some (.cells #[.int .i64 op,.slice A1 rl c1,.slice A kl c,.int .i64 mn,.int .i64 mx] 41 (0,0)))) (λiv _ _=>kl - (intOf iv).toNat)
      case atStart=>exact ⟨0,true,Y,rfl,rfl,rfl,aX.out⟩
      case round=>
       obtain ⟨k,b,hkk,rfl,rfl,HO,HB⟩:=hrel;obtain ⟨b0,b1,b2,b3,b4⟩:=aw HB.out.2;have lb:w.heap.size<wr.heap.size:=(γ HB.out.2).1;by_cases hlt:k<kl
       .have hd:decide ((k:Int)<(kl:Int))=true:=τ;have cX:decide (k<kl)=true:=decide_eq_true hlt
        cases b with
        |false=>
         go_wp2_with fail;go_ret;exact ⟨ae (by rw[Hb.out,<-HO.out];rfl),HB.out.1⟩
        |true=>
         have aU:k<kids.length:=by rw[HL.out.2];exact hlt
         obtain ⟨g,f,hA,hg,bS⟩:=HK.out.resolve_left (by intro e;rw[e]at aU;simp at aU)
         subst hA;obtain ⟨vs,hcv,bc⟩:=bS.at k aU;have aZ:=aF (List.getElem_mem aU);have hdr:aO (kids.drop k)=(aA kids[k] && aO (kids.drop (k+1))):=by rw[List.drop_eq_getElem_cons aU,aO]
         obtain ⟨kd,bK⟩:=ν (kids[k]);rw[bK]at bc aZ hdr;obtain ⟨B1,e1,B2,e2,rfl,-,-,-⟩:=bc.form;have q:∀j,j<5->wr.cell? ⟨g,f+k*5+j,none⟩=([.int .i64 kd.op,.slice B1 kd.rs.length e1,.slice B2 kd.kids.length e2,.int .i64 kd.mn,.int .i64 kd.mx]:List Value)[j]?:=λj hj=>(HB.out.1.cl g (f+k*5+j) hg).trans (hcv j hj);have q0:=q 0 Y;have q1:=q 1 Y;have q2:=q 2 Y;have q3:=q 3 Y;have q4:=q 4 Y;simp only[Nat.add_zero,List.getElem?_cons_zero,List.getElem?_cons_succ]at q0 q1 q2 q3 q4;have lg:g<wr.heap.size:=Nat.lt_of_lt_of_le hg HB.out.1.size;have HI:=Z (ih kd _ wr (by have:=HM.out;omega) (bc.later HB.out.1))
         have HD:=Z hdr;clear q hcv bc bK bS hdr aU;go_wp2_with fail;refine HI.out.mono ?_;rintro e w7 ⟨rfl,dT⟩;obtain ⟨x,hx⟩:=ν (aA kd);rw[hx];have HX:=Z hx;have xS:=Z (H (HB.out.1.trans (dT.mono HB.out.1.size)) ((dT.block _ lb).trans HB.out.2));clear dT hx aZ q0 q1 q2 q3 q4 b0 b1 b2 b3 b4;go_wp2_with fail;go_roundw
         case rel=>exact ⟨k+1,x,Y,by go_num,rfl,by have h9:=HO.out;rw[Bool.true_and,HD.out,HX.out]at h9;exact h9,xS⟩
         case measure=>exact μ
       .obtain rfl:k=kl:=Y;have hd:decide ((k:Int)<(k:Int))=false:=θ;have cX:decide (k<k)=false:=θ;go_wp2_with fail;go_ret;exact ⟨ae (by have h9:=HO.out; rw[List.drop_of_length_le (by have:=HL.out.2; omega)]at h9; rw[Hb.out,<-h9]; cases b <;> rfl),HB.out.1⟩
   .have n2:(op == 2)=false:=ψ;have n3:(op == 3)=false:=ψ;by_cases o4:op=4
    .subst o4;have kg:Hid (cU (.mk 4 rs kids mn mx)=(decide (kl=1) && (decide (rl=0) && (decide (0<=mn) && (decide (1<=mx) && (decide (mn<=mx) && (decide (mx<=64) && !(decide (mn=1) && decide (mx=1))))))))):=by
      show _=_;rw[vo rfl];show (decide (kids.length=1) && (rs.isEmpty && (decide (0<=mn) && (decide (1<=mx) && (decide (mn<=mx) && (decide (mx<=64) && !(decide (mn=1) && decide (mx=1))))))))=_;rw[HL.out.2,<-HL.out.1]
      congr 2
      cases rs <;> simp
     clear n1 n2 n3 o1 Yf;have hb0:Below w.heap.size w (w.alloc (.cells #[.int .i64 4,.slice A1 rl c1,.slice A kl c,.int .i64 mn,.int .i64 mx] 41)):=υ.alloc I _;have cH:=Z (H hb0 (heap_alloc_new w (.cells #[.int .i64 4,.slice A1 rl c1,.slice A kl c,.int .i64 mn,.int .i64 mx] 41)));clear hb0;by_cases g1:kl=1
     .have t1:((kl:Int) == 1)=true:=ψ;have Yg:=Z g1;clear g1;by_cases g2:rl=0
      .have t2:((rl:Int) == 0)=true:=ψ;have Yh:=Z g2;clear g2;by_cases g3:0<=mn
       .have t3:decide (0<=mn)=true:=decide_eq_true g3;have Yi:=Z g3;clear g3;by_cases g4:1<=mx
        .have t4:decide (1<=mx)=true:=decide_eq_true g4;have Yj:=Z g4;clear g4;by_cases g5:mn<=mx
         .have t5:decide (mn<=mx)=true:=decide_eq_true g5;have Yk:=Z g5;clear g5;by_cases g6:mx<=64
          .have t6:decide (mx<=64)=true:=decide_eq_true g6;have Yl:=Z g6;clear g6;by_cases g7:mn=1
           .have t7:(mn != 1)=false:=by simp[g7]
            have Hg7:=Z g7;clear g7;by_cases g8:mx=1
            .have t8:(mx != 1)=false:=by simp[g8]
             have Hg8:=Z g8;clear g8;go_wp2_with fail;refine wp_loop_rounds 1 ?_;rw[rounds_succ];by_cases h0:0<kl
             .have z1:decide ((0:Int)<(kl:Int))=true:=τ;have rF:decide (0<kl)=true:=decide_eq_true h0;go_wp2_with fail;go_ret;exact ⟨ae (by rw[oa.out,kg.out,decide_eq_true Yg.out,decide_eq_true Yh.out,decide_eq_true Yi.out,decide_eq_true Yj.out,decide_eq_true Yk.out,decide_eq_true Yl.out,decide_eq_true Hg7.out,decide_eq_true Hg8.out];simp),cH.out.1⟩
             .have z1:decide ((0:Int)<(kl:Int))=false:=θ;have rF:decide (0<kl)=false:=decide_eq_false h0;go_wp2_with fail;go_ret;exact ⟨ae (by rw[oa.out,kg.out,decide_eq_true Yg.out,decide_eq_true Yh.out,decide_eq_true Yi.out,decide_eq_true Yj.out,decide_eq_true Yk.out,decide_eq_true Yl.out,decide_eq_true Hg7.out,decide_eq_true Hg8.out];simp),cH.out.1⟩
            .have t8:(mx != 1)=true:=by simp[g8]
             have Hg8:=Z g8;clear g8;go_wp2_with fail;have Hb:=Z (show aA (.mk 4 rs kids mn mx)=aO kids by rw[oa.out,kg.out,decide_eq_true Yg.out,decide_eq_true Yh.out,decide_eq_true Yi.out,decide_eq_true Yj.out,decide_eq_true Yk.out,decide_eq_true Yl.out,decide_eq_false Hg8.out];simp)
             go_loopw [4,3] (λiv ov wr=>∃(k:Nat) (b:Bool),k<=kl/\iv=.int .i64 (k:Int)/\ov=.bool b/\Hid ((b && aO (kids.drop k))=aO kids)/\Hid (Below w.heap.size w wr/\wr.heap[w.heap.size]?=some (.cells #[.int .i64 4,.slice A1 rl c1,.slice A kl c,.int .i64 mn,.int .i64 mx] 41 (0,0)))) (λiv _ _=>kl - (intOf iv).toNat)
             case atStart=>exact ⟨0,true,Y,rfl,rfl,rfl,cH.out⟩
             case round=>
              obtain ⟨k,b,hkk,rfl,rfl,HO,HB⟩:=hrel;obtain ⟨b0,b1,b2,b3,b4⟩:=aw HB.out.2;have lb:w.heap.size<wr.heap.size:=(γ HB.out.2).1;by_cases hlt:k<kl
              .have hd:decide ((k:Int)<(kl:Int))=true:=τ;have cX:decide (k<kl)=true:=decide_eq_true hlt
               cases b with
               |false=>
                go_wp2_with fail;go_ret;exact ⟨ae (by rw[Hb.out,<-HO.out];rfl),HB.out.1⟩
               |true=>
                have aU:k<kids.length:=by rw[HL.out.2];exact hlt
                obtain ⟨g,f,hA,hg,bS⟩:=HK.out.resolve_left (by intro e;rw[e]at aU;simp at aU)
                subst hA;obtain ⟨vs,hcv,bc⟩:=bS.at k aU;have aZ:=aF (List.getElem_mem aU);have hdr:aO (kids.drop k)=(aA kids[k] && aO (kids.drop (k+1))):=by rw[List.drop_eq_getElem_cons aU,aO]
                obtain ⟨kd,bK⟩:=ν (kids[k]);rw[bK]at bc aZ hdr;obtain ⟨B1,e1,B2,e2,rfl,-,-,-⟩:=bc.form;have q:∀j,j<5->wr.cell? ⟨g,f+k*5+j,none⟩=([.int .i64 kd.op,.slice B1 kd.rs.length e1,.slice B2 kd.kids.length e2,.int .i64 kd.mn,.int .i64 kd.mx]:List Value)[j]?:=λj hj=>(HB.out.1.cl g (f+k*5+j) hg).trans (hcv j hj);have q0:=q 0 Y;have q1:=q 1 Y;have q2:=q 2 Y;have q3:=q 3 Y;have q4:=q 4 Y;simp only[Nat.add_zero,List.getElem?_cons_zero,List.getElem?_cons_succ]at q0 q1 q2 q3 q4;have lg:g<wr.heap.size:=Nat.lt_of_lt_of_le hg HB.out.1.size;have HI:=Z (ih kd _ wr (by have:=HM.out;omega) (bc.later HB.out.1))
                have HD:=Z hdr;clear q hcv bc bK bS hdr aU;go_wp2_with fail;refine HI.out.mono ?_;rintro e w7 ⟨rfl,dT⟩;obtain ⟨x,hx⟩:=ν (aA kd);rw[hx];have HX:=Z hx;have xS:=Z (H (HB.out.1.trans (dT.mono HB.out.1.size)) ((dT.block _ lb).trans HB.out.2));clear dT hx aZ q0 q1 q2 q3 q4 b0 b1 b2 b3 b4;go_wp2_with fail;go_roundw
                case rel=>exact ⟨k+1,x,Y,by go_num,rfl,by have h9:=HO.out;rw[Bool.true_and,HD.out,HX.out]at h9;exact h9,xS⟩
                case measure=>exact μ
              .obtain rfl:k=kl:=Y;have hd:decide ((k:Int)<(k:Int))=false:=θ;have cX:decide (k<k)=false:=θ;go_wp2_with fail;go_ret;exact ⟨ae (by have h9:=HO.out; rw[List.drop_of_length_le (by have:=HL.out.2; omega)]at h9; rw[Hb.out,<-h9]; cases b <;> rfl),HB.out.1⟩
           .have t7:(mn != 1)=true:=by simp[g7]
            have Hg7:=Z g7;clear g7;go_wp2_with fail;have Hb:=Z (show aA (.mk 4 rs kids mn mx)=aO kids by rw[oa.out,kg.out,decide_eq_true Yg.out,decide_eq_true Yh.out,decide_eq_true Yi.out,decide_eq_true Yj.out,decide_eq_true Yk.out,decide_eq_true Yl.out,decide_eq_false Hg7.out];simp)
            go_loopw [4,3] (λiv ov wr=>∃(k:Nat) (b:Bool),k<=kl/\iv=.int .i64 (k:Int)/\ov=.bool b/\Hid ((b && aO (kids.drop k))=aO kids)/\Hid (Below w.heap.size w wr/\wr.heap[w.heap.size]?=some (.cells #[.int .i64 4,.slice A1 rl c1,.slice A kl c,.int .i64 mn,.int .i64 mx] 41 (0,0)))) (λiv _ _=>kl - (intOf iv).toNat)
            case atStart=>exact ⟨0,true,Y,rfl,rfl,rfl,cH.out⟩
            case round=>
             obtain ⟨k,b,hkk,rfl,rfl,HO,HB⟩:=hrel;obtain ⟨b0,b1,b2,b3,b4⟩:=aw HB.out.2;have lb:w.heap.size<wr.heap.size:=(γ HB.out.2).1;by_cases hlt:k<kl
             .have hd:decide ((k:Int)<(kl:Int))=true:=τ;have cX:decide (k<kl)=true:=decide_eq_true hlt
              cases b with
              |false=>
               go_wp2_with fail;go_ret;exact ⟨ae (by rw[Hb.out,<-HO.out];rfl),HB.out.1⟩
              |true=>
               have aU:k<kids.length:=by rw[HL.out.2];exact hlt
               obtain ⟨g,f,hA,hg,bS⟩:=HK.out.resolve_left (by intro e;rw[e]at aU;simp at aU)
               subst hA;obtain ⟨vs,hcv,bc⟩:=bS.at k aU;have aZ:=aF (List.getElem_mem aU);have hdr:aO (kids.drop k)=(aA kids[k] && aO (kids.drop (k+1))):=by rw[List.drop_eq_getElem_cons aU,aO]
               obtain ⟨kd,bK⟩:=ν (kids[k]);rw[bK]at bc aZ hdr;obtain ⟨B1,e1,B2,e2,rfl,-,-,-⟩:=bc.form;have q:∀j,j<5->wr.cell? ⟨g,f+k*5+j,none⟩=([.int .i64 kd.op,.slice B1 kd.rs.length e1,.slice B2 kd.kids.length e2,.int .i64 kd.mn,.int .i64 kd.mx]:List Value)[j]?:=λj hj=>(HB.out.1.cl g (f+k*5+j) hg).trans (hcv j hj);have q0:=q 0 Y;have q1:=q 1 Y;have q2:=q 2 Y;have q3:=q 3 Y;have q4:=q 4 Y;simp only[Nat.add_zero,List.getElem?_cons_zero,List.getElem?_cons_succ]at q0 q1 q2 q3 q4;have lg:g<wr.heap.size:=Nat.lt_of_lt_of_le hg HB.out.1.size;have HI:=Z (ih kd _ wr (by have:=HM.out;omega) (bc.later HB.out.1))
               have HD:=Z hdr;clear q hcv bc bK bS hdr aU;go_wp2_with fail;refine HI.out.mono ?_;rintro e w7 ⟨rfl,dT⟩;obtain ⟨x,hx⟩:=ν (aA kd);rw[hx];have HX:=Z hx;have xS:=Z (H (HB.out.1.trans (dT.mono HB.out.1.size)) ((dT.block _ lb).trans HB.out.2));clear dT hx aZ q0 q1 q2 q3 q4 b0 b1 b2 b3 b4;go_wp2_with fail;go_roundw
               case rel=>exact ⟨k+1,x,Y,by go_num,rfl,by have h9:=HO.out;rw[Bool.true_and,HD.out,HX.out]at h9;exact h9,xS⟩
               case measure=>exact μ
             .obtain rfl:k=kl:=Y;have hd:decide ((k:Int)<(k:Int))=false:=θ;have cX:decide (k<k)=false:=θ;go_wp2_with fail;go_ret;exact ⟨ae (by have h9:=HO.out; rw[List.drop_of_length_le (by have:=HL.out.2; omega)]at h9; rw[Hb.out,<-h9]; cases b <;> rfl),HB.out.1⟩
          .have t6:decide (mx<=64)=false:=decide_eq_false g6;have Yl:=Z g6;clear g6;go_wp2_with fail;refine wp_loop_rounds 1 ?_;rw[rounds_succ];by_cases h0:0<kl
           .have z1:decide ((0:Int)<(kl:Int))=true:=τ;have rF:decide (0<kl)=true:=decide_eq_true h0;go_wp2_with fail;go_ret;exact ⟨ae (by rw[oa.out,kg.out,decide_eq_false (show ¬(mx<=64) from by have:=Yl.out;omega)];simp),cH.out.1⟩
           .have z1:decide ((0:Int)<(kl:Int))=false:=θ;have rF:decide (0<kl)=false:=decide_eq_false h0;go_wp2_with fail;go_ret;exact ⟨ae (by rw[oa.out,kg.out,decide_eq_false (show ¬(mx<=64) from by have:=Yl.out;omega)];simp),cH.out.1⟩
         .have t5:decide (mn<=mx)=false:=decide_eq_false g5;have Yk:=Z g5;clear g5;go_wp2_with fail;refine wp_loop_rounds 1 ?_;rw[rounds_succ];by_cases h0:0<kl
          .have z1:decide ((0:Int)<(kl:Int))=true:=τ;have rF:decide (0<kl)=true:=decide_eq_true h0;go_wp2_with fail;go_ret;exact ⟨ae (by rw[oa.out,kg.out,decide_eq_false (show ¬(mn<=mx) from by have:=Yk.out;omega)];simp),cH.out.1⟩
          .have z1:decide ((0:Int)<(kl:Int))=false:=θ;have rF:decide (0<kl)=false:=decide_eq_false h0;go_wp2_with fail;go_ret;exact ⟨ae (by rw[oa.out,kg.out,decide_eq_false (show ¬(mn<=mx) from by have:=Yk.out;omega)];simp),cH.out.1⟩
        .have t4:decide (1<=mx)=false:=decide_eq_false g4;have Yj:=Z g4;clear g4;go_wp2_with fail;refine wp_loop_rounds 1 ?_;rw[rounds_succ];by_cases h0:0<kl
         .have z1:decide ((0:Int)<(kl:Int))=true:=τ;have rF:decide (0<kl)=true:=decide_eq_true h0;go_wp2_with fail;go_ret;exact ⟨ae (by rw[oa.out,kg.out,decide_eq_false (show ¬(1<=mx) from by have:=Yj.out;omega)];simp),cH.out.1⟩
         .have z1:decide ((0:Int)<(kl:Int))=false:=θ;have rF:decide (0<kl)=false:=decide_eq_false h0;go_wp2_with fail;go_ret;exact ⟨ae (by rw[oa.out,kg.out,decide_eq_false (show ¬(1<=mx) from by have:=Yj.out;omega)];simp),cH.out.1⟩
       .have t3:decide (0<=mn)=false:=decide_eq_false g3;have Yi:=Z g3;clear g3;go_wp2_with fail;refine wp_loop_rounds 1 ?_;rw[rounds_succ];by_cases h0:0<kl
        .have z1:decide ((0:Int)<(kl:Int))=true:=τ;have rF:decide (0<kl)=true:=decide_eq_true h0;go_wp2_with fail;go_ret;exact ⟨ae (by rw[oa.out,kg.out,decide_eq_false (show ¬(0<=mn) from by have:=Yi.out;omega)];simp),cH.out.1⟩
        .have z1:decide ((0:Int)<(kl:Int))=false:=θ;have rF:decide (0<kl)=false:=decide_eq_false h0;go_wp2_with fail;go_ret;exact ⟨ae (by rw[oa.out,kg.out,decide_eq_false (show ¬(0<=mn) from by have:=Yi.out;omega)];simp),cH.out.1⟩
      .have t2:((rl:Int) == 0)=false:=ψ;have Yh:=Z g2;clear g2;go_wp2_with fail;refine wp_loop_rounds 1 ?_;rw[rounds_succ];by_cases h0:0<kl
       .have z1:decide ((0:Int)<(kl:Int))=true:=τ;have rF:decide (0<kl)=true:=decide_eq_true h0;go_wp2_with fail;go_ret;exact ⟨ae (by rw[oa.out,kg.out,decide_eq_false (show ¬(rl=0) from by have:=Yh.out;omega)];simp),cH.out.1⟩
       .have z1:decide ((0:Int)<(kl:Int))=false:=θ;have rF:decide (0<kl)=false:=decide_eq_false h0;go_wp2_with fail;go_ret;exact ⟨ae (by rw[oa.out,kg.out,decide_eq_false (show ¬(rl=0) from by have:=Yh.out;omega)];simp),cH.out.1⟩
     .have t1:((kl:Int) == 1)=false:=ψ;have Yg:=Z g1;clear g1;go_wp2_with fail;refine wp_loop_rounds 1 ?_;rw[rounds_succ];by_cases h0:0<kl
      .have z1:decide ((0:Int)<(kl:Int))=true:=τ;have rF:decide (0<kl)=true:=decide_eq_true h0;go_wp2_with fail;go_ret;exact ⟨ae (by rw[oa.out,kg.out,decide_eq_false (show ¬(kl=1) from by have:=Yg.out;omega)];simp),cH.out.1⟩
      .have z1:decide ((0:Int)<(kl:Int))=false:=θ;have rF:decide (0<kl)=false:=decide_eq_false h0;go_wp2_with fail;go_ret;exact ⟨ae (by rw[oa.out,kg.out,decide_eq_false (show ¬(kl=1) from by have:=Yg.out;omega)];simp),cH.out.1⟩
    .have n4:(op == 4)=false:=by simp[o4]
     have kg:=Z (CG (nd:=.mk op rs kids mn mx) o1 (λe=>Yf (.inl e)) (λe=>Yf (.inr e)) o4);clear o1 Yf o4;have hb0:Below w.heap.size w (w.alloc (.cells #[.int .i64 op,.slice A1 rl c1,.slice A kl c,.int .i64 mn,.int .i64 mx] 41)):=υ.alloc I _;have cH:=Z (H hb0 (heap_alloc_new w (.cells #[.int .i64 op,.slice A1 rl c1,.slice A kl c,.int .i64 mn,.int .i64 mx] 41)));clear hb0;go_wp2_with fail;refine wp_loop_rounds 1 ?_;rw[rounds_succ];by_cases h0:0<kl
     .have z1:decide ((0:Int)<(kl:Int))=true:=τ;have rF:decide (0<kl)=true:=decide_eq_true h0;go_wp2_with fail;go_ret;exact ⟨ae (by rw[oa.out,kg.out];simp),cH.out.1⟩
     .have z1:decide ((0:Int)<(kl:Int))=false:=θ;have rF:decide (0<kl)=false:=decide_eq_false h0;go_wp2_with fail;go_ret;exact ⟨ae (by rw[oa.out,kg.out];simp),cH.out.1⟩
theorem CW:∀l:List Nd,cP l<=1025*l.length
 | []=>by rw[cP];exact Nat.zero_le _
 |k::r=>by rw[cP,List.length_cons];have:=eG k;have:=CW r;omega
theorem JT:∀(m:Nat) (nd:Nd) (vs:List Value) (w:World),au nd<=m->au nd<=200->aA nd=true->bT w nd vs->Calls Tryz.prog 60 #[.agg vs.toArray,.bool true] w λe w'=>e=.returned (.int .i64 ((bj nd:Nat):Int))/\Below w.heap.size w w':=by
 intro m
 induction m with
 |zero=>intro nd vs w h;cases nd;rw[au]at h;omega
 |succ m ih=>
  rintro ⟨op,rs,kids,mn,mx⟩ vs w h kB hrt hn;obtain ⟨v1,v2,rfl,hr,A,c,rfl,hc,hk⟩:=hn;obtain ⟨A1,c1,rfl,lY,-⟩:=hr;have hT:au (.mk op rs kids mn mx)=1+aV kids:=by rw[au]
  rw[hT]at h kB;have HM:=Z (H h kB);obtain ⟨ke,y7⟩:=dm hrt;have sQ:=Z y7;obtain ⟨rl,lA⟩:∃n,rs.length=n:=⟨_,rfl⟩;obtain ⟨kl,aU⟩:∃n,kids.length=n:=⟨_,rfl⟩;have bX:op=3->1<=kl:=λe=>by
   have h1:=hrt;rw[aA,Bool.and_eq_true]at h1;have h2:=h1.1;rw[qs (nd:=.mk op rs kids mn mx) (.inr e)]at h2;have h3:(decide (2<=kids.length) && _)=true:=h2;rw[Bool.and_eq_true,decide_eq_true_eq]at h3;omega
  have HK:=Z hk;have HL:=Z (H lA aU);have sX:=Z (show bj (.mk op rs kids mn mx)=min (if op=1 then 1 else if op=2 then cP kids else if op=3 then cW kids else mx.toNat*qq kids) 1025 by rw[bj])
  rw[aU]at ke;rw[lA]at lY|-;rw[aU]at hc|-;clear lA aU hk hT h kB hrt y7
  go_enter Tryz.func60,Tryz.ntmps60
  rcases ke with o1|o2|o3|⟨o4,k1,m0,m1,m64⟩
  .subst o1;go_wp2_with fail;go_ret;exact ⟨aC (by rw[sX.out];rfl),υ.alloc I _⟩
  .subst o2;rw[if_neg O,if_pos rfl]at sX;go_wp2_with fail;refine dD λW0 aP=>?_;have hb0:Below w.heap.size w W0:=by rw[aP];exact υ.alloc I _
   have gJ:W0.heap[w.heap.size]?=some (.cells #[.int .i64 2,.slice A1 rl c1,.slice A kl c,.int .i64 mn,.int .i64 mx] 41 (0,0)):=by rw[aP];exact heap_alloc_new w _
   have cH:=Z (H hb0 gJ);clear aP hb0 gJ;have zW:cP kids<=1025*kl:=by rw[<-HL.out.2];exact CW kids
   have sR:kl<=200:=by have h1:=kW kids;have h2:=HM.out;have h3:=HL.out.2;omega
   go_loopw [6,5] (λiv ov wr=>∃(k o:Nat),k<=kl/\iv=.int .i64 (k:Int)/\ov=.int .i64 (o:Int)/\o<=205000/\Hid (o+cP (kids.drop k)=cP kids)/\Hid (Below w.heap.size w wr/\wr.heap[w.heap.size]?=some (.cells #[.int .i64 2,.slice A1 rl c1,.slice A kl c,.int .i64 mn,.int .i64 mx] 41 (0,0)))) (λiv _ _=>kl - (intOf iv).toNat)
   case atStart=>exact ⟨0,0,Y,rfl,rfl,Y,by show 0+cP (kids.drop 0)=_;rw[List.drop_zero];omega,cH.out⟩
   case round=>
    obtain ⟨k,o,hkk,rfl,rfl,ho,HO,HB⟩:=hrel;obtain ⟨b0,b1,b2,b3,b4⟩:=aw HB.out.2;have lb:w.heap.size<wr.heap.size:=(γ HB.out.2).1;by_cases hlt:k<kl
    .have hd:decide ((k:Int)<(kl:Int))=true:=τ;have cX:decide (k<kl)=true:=decide_eq_true hlt;have aU:k<kids.length:=by rw[HL.out.2];omega
     obtain ⟨g,f,hA,hg,bS⟩:=HK.out.resolve_left (by intro e;rw[e]at aU;simp at aU)
     subst hA;obtain ⟨vs,hcv,bc⟩:=bS.at k aU;have aZ:=aF (List.getElem_mem aU);have et:=aM sQ.out (List.getElem_mem aU);have hdr:cP (kids.drop k)=bj kids[k]+cP (kids.drop (k+1)):=by rw[List.drop_eq_getElem_cons aU,cP]
     obtain ⟨kd,bK⟩:=ν (kids[k]);rw[bK]at bc aZ hdr et;obtain ⟨B1,e1,B2,e2,rfl,-,-,-⟩:=bc.form;have q:∀j,j<5->wr.cell? ⟨g,f+k*5+j,none⟩=([.int .i64 kd.op,.slice B1 kd.rs.length e1,.slice B2 kd.kids.length e2,.int .i64 kd.mn,.int .i64 kd.mx]:List Value)[j]?:=λj hj=>(HB.out.1.cl g (f+k*5+j) hg).trans (hcv j hj);have q0:=q 0 Y;have q1:=q 1 Y;have q2:=q 2 Y;have q3:=q 3 Y;have q4:=q 4 Y;simp only[Nat.zero_mul,Nat.add_zero,List.getElem?_cons_zero,List.getElem?_cons_succ]at q0 q1 q2 q3 q4;have lg:g<wr.heap.size:=Nat.lt_of_lt_of_le hg HB.out.1.size;have HI:=Z (ih kd _ wr (by have:=HM.out.1;omega) (by have:=HM.out.2;omega) et (bc.later HB.out.1))
     have HD:=Z hdr;have tC:=eG kd;clear q hcv bc bK bS hdr et;go_wp2_with fail;refine HI.out.mono ?_;rintro e w7 ⟨rfl,dT⟩;obtain ⟨x,hx⟩:=ν (bj kd);rw[hx]at tC|-;have HX:=Z hx;have xS:=Z (H (HB.out.1.trans (dT.mono HB.out.1.size)) ((dT.block _ lb).trans HB.out.2));clear dT hx aZ q0 q1 q2 q3 q4 b0 b1 b2 b3 b4;have hox:o+x<=205000:=by have h1:=HO.out;have h2:=HD.out;have h3:=HX.out;omega
     go_wp2_with fail;go_roundw
     case rel=>exact ⟨k+1,o+x,Y,by go_num,by go_num,hox,by have h1:=HO.out;have h2:=HD.out;have h3:=HX.out;show o+x+cP (kids.drop (k+1))=cP kids;omega,xS⟩
     case measure=>exact μ
    .obtain rfl:k=kl:=Y;have hd:decide ((k:Int)<(k:Int))=false:=θ;have cX:decide (k<k)=false:=θ;have HE:=Z (show o=cP kids by have h1:=HO.out;rw[List.drop_of_length_le (by have:=HL.out.2;omega),cP]at h1;omega)
     obtain ⟨z,hz⟩:∃z:Nat,z=min o 1025:=⟨_,rfl⟩;have hz2:min (o:Int) 1025=(z:Int):=Y;have HZ:=Z hz;clear hz;go_wp2_with fail;go_ret;exact ⟨aC (by rw[sX.out,HZ.out,HE.out]),HB.out.1⟩
  .subst o3;rw[if_neg O,if_neg O,if_pos rfl]at sX;have dS:=bX rfl;clear bX;have sR:kl<=200:=by have h1:=kW kids;have h2:=HM.out;have h3:=HL.out.2;omega
   have aU:0<kids.length:=by rw[HL.out.2];omega
   obtain ⟨g,f,hA,hg,bS⟩:=HK.out.resolve_left (by intro e;rw[e]at aU;simp at aU)
   subst hA;obtain ⟨vs,hcv,bc⟩:=bS.at 0 aU;have aZ:=aF (List.getElem_mem aU);have et:=aM sQ.out (List.getElem_mem aU);have hdr:cW kids=max (bj kids[0]) (cW (kids.drop 1)):=by
    have e9:=List.drop_eq_getElem_cons aU;rw[List.drop_zero]at e9
    conv=>lhs;rw[e9]
    rw[cW]
   obtain ⟨kd,bK⟩:=ν (kids[0]);rw[bK]at bc aZ hdr et;obtain ⟨B1,e1,B2,e2,rfl,-,-,-⟩:=bc.form;have q0:w.cell? ⟨g,f,none⟩=some (.int .i64 kd.op):=hcv 0 Y;have q1:w.cell? ⟨g,f+1,none⟩=some (.slice B1 kd.rs.length e1):=hcv 1 Y;have q2:w.cell? ⟨g,f+2,none⟩=some (.slice B2 kd.kids.length e2):=hcv 2 Y;have q3:w.cell? ⟨g,f+3,none⟩=some (.int .i64 kd.mn):=hcv 3 Y;have q4:w.cell? ⟨g,f+4,none⟩=some (.int .i64 kd.mx):=hcv 4 Y;have lg2:g<w.heap.size+1:=Y;have ng:g≠w.heap.size:=Y;have HI:=Z λW (hb:Below w.heap.size w W)=>ih kd _ W (by have:=HM.out.1;omega) (by have:=HM.out.2;omega) et (bc.later hb)
   have HD:=Z hdr;have I5:=Z bS;have tC:=eG kd;clear hcv bc bK bS hdr et aU;go_wp2_with fail;refine aH λW0 aP=>?_;have hb0:Below w.heap.size w W0:=by rw[aP];exact υ.alloc I _
   have gJ:W0.heap[w.heap.size]?=some (.cells #[.int .i64 3,.slice A1 rl c1,.slice (some ⟨g,f,none⟩) kl c,.int .i64 mn,.int .i64 mx] 41 (0,0)):=by rw[aP];exact heap_alloc_new w _
   have HB:=Z (H hb0 gJ);have lb:w.heap.size<W0.heap.size:=(γ gJ).1;clear aP hb0 gJ;refine (HI.out W0 HB.out.1).mono ?_;rintro e w7 ⟨rfl,dT⟩;obtain ⟨x,hx⟩:=ν (bj kd);rw[hx]at tC|-;have HX:=Z hx;have xS:=Z (H (HB.out.1.trans (dT.mono HB.out.1.size)) ((dT.block _ lb).trans HB.out.2));clear dT hx aZ q0 q1 q2 q3 q4 lg2 ng HB lb;have cH:=xS;go_wp2_with fail;go_loopw [7,5] (λiv ov wr=>∃(k o:Nat),1<=k/\k<=kl/\iv=.int .i64 (k:Int)/\ov=.int .i64 (o:Int)/\o<=1025/\Hid (max o (cW (kids.drop k))=cW kids)/\Hid (Below w.heap.size w wr/\wr.heap[w.heap.size]?=some (.cells #[.int .i64 3,.slice A1 rl c1,.slice (some ⟨g,f,none⟩) kl c,.int .i64 mn,.int .i64 mx] 41 (0,0)))) (λiv _ _=>kl - (intOf iv).toNat)
   case atStart=>exact ⟨1,x,Y,Y,rfl,rfl,tC,by have h1:=HD.out;have h2:=HX.out;rw[h2]at h1;exact h1.symm,cH.out⟩
   case round=>
    obtain ⟨k,o,dS,hkk,rfl,rfl,ho,HO,HB⟩:=hrel;obtain ⟨b0,b1,b2,b3,b4⟩:=aw HB.out.2;have lb:w.heap.size<wr.heap.size:=(γ HB.out.2).1;by_cases hlt:k<kl
    .have hd:decide ((k:Int)<(kl:Int))=true:=τ;have cX:decide (k<kl)=true:=decide_eq_true hlt;have aU:k<kids.length:=by rw[HL.out.2];omega
     have bS:=I5.out;obtain ⟨vs,hcv,bc⟩:=bS.at k aU;have aZ:=aF (List.getElem_mem aU);have et:=aM sQ.out (List.getElem_mem aU);have hdr:cW (kids.drop k)=max (bj kids[k]) (cW (kids.drop (k+1))):=by rw[List.drop_eq_getElem_cons aU,cW]
     clear HI HD HX tC;obtain ⟨kd,bK⟩:=ν (kids[k]);rw[bK]at bc aZ hdr et;obtain ⟨B1,e1,B2,e2,rfl,-,-,-⟩:=bc.form;have q:∀j,j<5->wr.cell? ⟨g,f+k*5+j,none⟩=([.int .i64 kd.op,.slice B1 kd.rs.length e1,.slice B2 kd.kids.length e2,.int .i64 kd.mn,.int .i64 kd.mx]:List Value)[j]?:=λj hj=>(HB.out.1.cl g (f+k*5+j) hg).trans (hcv j hj);have q0:=q 0 Y;have q1:=q 1 Y;have q2:=q 2 Y;have q3:=q 3 Y;have q4:=q 4 Y;simp only[Nat.zero_mul,Nat.add_zero,List.getElem?_cons_zero,List.getElem?_cons_succ]at q0 q1 q2 q3 q4;have lg:g<wr.heap.size:=Nat.lt_of_lt_of_le hg HB.out.1.size;have HI:=Z (ih kd _ wr (by have:=HM.out.1;omega) (by have:=HM.out.2;omega) et (bc.later HB.out.1))
     have HD:=Z hdr;have tC:=eG kd;clear q hcv bc bK bS hdr et;go_wp2_with fail;refine HI.out.mono ?_;rintro e w7 ⟨rfl,dT⟩;obtain ⟨x,hx⟩:=ν (bj kd);rw[hx]at tC|-;have HX:=Z hx;have xS:=Z (H (HB.out.1.trans (dT.mono HB.out.1.size)) ((dT.block _ lb).trans HB.out.2));clear dT hx aZ q0 q1 q2 q3 q4 b0 b1 b2 b3 b4;by_cases hox:o<x
     .have t1:decide ((o:Int)<(x:Int))=true:=τ;have PG:decide (o<x)=true:=decide_eq_true hox;go_wp2_with fail;go_roundw
      case rel=>exact ⟨k+1,x,Y,Y,by go_num,rfl,tC,by have h1:=HO.out;have h2:=HD.out;have h3:=HX.out;show max x (cW (kids.drop (k+1)))=cW kids;omega,xS⟩
      case measure=>exact μ
     .have t1:decide ((o:Int)<(x:Int))=false:=θ;have PG:decide (o<x)=false:=decide_eq_false hox;go_wp2_with fail;go_roundw
      case rel=>exact ⟨k+1,o,Y,Y,by go_num,rfl,ho,by have h1:=HO.out;have h2:=HD.out;have h3:=HX.out;show max o (cW (kids.drop (k+1)))=cW kids;omega,xS⟩
      case measure=>exact μ
    .obtain rfl:k=kl:=Y;have hd:decide ((k:Int)<(k:Int))=false:=θ;have cX:decide (k<k)=false:=θ;have HE:=Z (show o=cW kids by have h1:=HO.out;rw[List.drop_of_length_le (by have:=HL.out.2;omega),cW]at h1;omega)
     obtain ⟨z,hz⟩:∃z:Nat,z=min o 1025:=⟨_,rfl⟩;have hz2:min (o:Int) 1025=(z:Int):=Y;have HZ:=Z hz;clear hz;go_wp2_with fail;go_ret;exact ⟨aC (by rw[sX.out,HZ.out,HE.out]),HB.out.1⟩
  .subst o4;have ZW:=Z k1;clear k1;rw[if_neg O,if_neg O,if_neg O]at sX;clear bX;have aU:0<kids.length:=by have:=HL.out.2;have:=ZW.out;omega
   obtain ⟨g,f,hA,hg,bS⟩:=HK.out.resolve_left (by intro e;rw[e]at aU;simp at aU)
   subst hA;obtain ⟨vs,hcv,bc⟩:=bS.at 0 aU;have aZ:=aF (List.getElem_mem aU);have et:=aM sQ.out (List.getElem_mem aU);have hdr:qq kids=bj kids[0]:=by
    have e9:=List.drop_eq_getElem_cons aU;rw[List.drop_zero]at e9
    conv=>lhs;rw[e9]
    rw[qq]
   obtain ⟨kd,bK⟩:=ν (kids[0]);rw[bK]at bc aZ hdr et;obtain ⟨B1,e1,B2,e2,rfl,-,-,-⟩:=bc.form;have q0:w.cell? ⟨g,f,none⟩=some (.int .i64 kd.op):=hcv 0 Y;have q1:w.cell? ⟨g,f+1,none⟩=some (.slice B1 kd.rs.length e1):=hcv 1 Y;have q2:w.cell? ⟨g,f+2,none⟩=some (.slice B2 kd.kids.length e2):=hcv 2 Y;have q3:w.cell? ⟨g,f+3,none⟩=some (.int .i64 kd.mn):=hcv 3 Y;have q4:w.cell? ⟨g,f+4,none⟩=some (.int .i64 kd.mx):=hcv 4 Y;have lg2:g<w.heap.size+1:=Y;have ng:g≠w.heap.size:=Y;have HI:=Z λW (hb:Below w.heap.size w W)=>ih kd _ W (by have:=HM.out.1;omega) (by have:=HM.out.2;omega) et (bc.later hb)
   have HD:=Z hdr;have I5:=Z bS;have tC:=eG kd;clear hcv bc bK bS hdr et aU;have auo:0<kl:=by have:=ZW.out;omega
   go_wp2_with fail;refine aH λW0 aP=>?_;have hb0:Below w.heap.size w W0:=by rw[aP];exact υ.alloc I _
   have gJ:W0.heap[w.heap.size]?=some (.cells #[.int .i64 4,.slice A1 rl c1,.slice (some ⟨g,f,none⟩) kl c,.int .i64 mn,.int .i64 mx] 41 (0,0)):=by rw[aP];exact heap_alloc_new w _
   have HB:=Z (H hb0 gJ);have lb:w.heap.size<W0.heap.size:=(γ gJ).1;clear aP hb0 gJ;refine (HI.out W0 HB.out.1).mono ?_;rintro e w7 ⟨rfl,dT⟩;obtain ⟨x,hx⟩:=ν (bj kd);rw[hx]at tC|-;have HX:=Z hx;have xS:=Z (H (HB.out.1.trans (dT.mono HB.out.1.size)) ((dT.block _ lb).trans HB.out.2));clear dT hx aZ q0 q1 q2 q3 q4 lg2 ng HB lb;obtain ⟨t,ht⟩:∃t:Nat,(t:Int)=mx:=⟨mx.toNat,Y⟩;subst ht;have GJ:t*x<=64*1025:=Nat.mul_le_mul Y tC;obtain ⟨o,ke⟩:=ν (t*x);have hmul:(t:Int)*(x:Int)=(o:Int):=by rw[<-ke];exact (Int.natCast_mul t x).symm
   have HE:=Z (show o=(t:Int).toNat*qq kids by rw[HD.out,HX.out,<-ke];rfl)
   rw[ke]at GJ;have HB:=xS;clear ke;obtain ⟨z,hz⟩:∃z:Nat,z=min o 1025:=⟨_,rfl⟩;have hz2:min (o:Int) 1025=(z:Int):=Y;have HZ:=Z hz;clear hz;go_wp2_with fail;go_ret;exact ⟨aC (by rw[sX.out,HZ.out,HE.out]),HB.out.1⟩
theorem FA(nd:Nd)(vs:List Value)(w:World)(hn:bT w nd vs):Calls Tryz.prog 57 #[.agg vs.toArray] w λe w'=>e=.returned (.int .i64 ((min (au nd) 201:Nat):Int))/\Below w.heap.size w w':=by
 have HC:=Z λW (hb:Below w.heap.size w W)=>Fx _ nd vs W 0 O I (hn.later hb);obtain ⟨A1,c1,A2,c2,rfl,-⟩:=hn.form;clear hn;obtain ⟨y,hy⟩:∃y:Nat,min (au nd) 201=y:=⟨_,rfl⟩;have YV:min (0+au nd) 201=y:=by rw[Nat.zero_add];exact hy
 rw[YV]at HC;rw[hy];have Di:min (y:Int) 201=(y:Int):=Y;clear hy YV
 go_enter Tryz.func57,Tryz.ntmps57
 go_wp2_with fail;refine aH λW0 aP=>?_;have hb0:Below w.heap.size w W0:=by rw[aP];exact υ.alloc I _
 have HB:=Z hb0;clear aP hb0;refine (HC.out W0 HB.out).mono ?_;rintro e w1 ⟨rfl,hb1⟩;have aX:=Z (HB.out.trans (hb1.mono HB.out.size));clear hb1;go_wp2_with fail;go_ret;exact ⟨rfl,aX.out⟩
theorem A0(nd:Nd)(vs:List Value)(w:World)(hn:bT w nd vs):Calls Tryz.prog 28 #[.agg vs.toArray] w λe w'=>e=.returned (.int .i64 (aR nd))/\Below w.heap.size w w':=by
 have TJ:=Z λW (hb:Below w.heap.size w W)=>FA nd vs W (hn.later hb);have HDE:=Z λW (hb:Below w.heap.size w W) (h:au nd<=200)=>Fy _ nd vs W I Y (hn.later hb);have HRI:=Z λW (hb:Below w.heap.size w W)=>Fz _ nd vs W I (hn.later hb);have HSI:=Z λW (hb:Below w.heap.size w W) (h:au nd<=200) (hr:aA nd=true)=>JT _ nd vs W I h hr (hn.later hb);obtain ⟨A1,c1,A2,c2,rfl,-⟩:=hn.form;clear hn
 go_enter Tryz.func28,Tryz.ntmps28
 go_wp2_with fail;refine aH λW0 aP=>?_;have hb0:Below w.heap.size w W0:=by rw[aP];exact υ.alloc I _
 have gJ:W0.heap[w.heap.size]?=some (.cells #[.int .i64 nd.op,.slice A1 nd.rs.length c1,.slice A2 nd.kids.length c2,.int .i64 nd.mn,.int .i64 nd.mx] 41 (0,0)):=by rw[aP];exact heap_alloc_new w _
 have cH:=Z (H hb0 gJ);clear aP hb0 gJ;refine (TJ.out W0 cH.out.1).mono ?_;rintro e w1 ⟨rfl,hb1⟩;have aX:=Z (H (cH.out.1.trans (hb1.mono cH.out.1.size)) ((hb1.block _ (γ cH.out.2).1).trans cH.out.2));clear hb1;obtain ⟨b0,b1,b2,b3,b4⟩:=aw aX.out.2;have lb:w.heap.size<w1.heap.size:=(γ aX.out.2).1;obtain ⟨x,hx⟩:=ν (min (au nd) 201);rw[hx];by_cases h1:200<au nd
 .have d1:decide (200<(x:Int))=true:=τ;have Iz:decide (200<x)=true:=τ;have HV:=Z (show aR nd=3 by unfold aR;rw[if_pos h1])
  clear h1 hx;go_wp2_with fail;go_ret;exact ⟨aC HV.out.symm,aX.out.1⟩
 have d1:decide (200<(x:Int))=false:=θ;have Iz:decide (200<x)=false:=θ;have Kg:=Z (show au nd<=200 by omega)
 clear hx;go_wp2_with fail;clear b0 b1 b2 b3 b4 lb;refine (HDE.out w1 aX.out.1 Kg.out).mono ?_;rintro e w2 ⟨rfl,aJ⟩;have dr:=Z (H (aX.out.1.trans (aJ.mono aX.out.1.size)) ((aJ.block _ (γ aX.out.2).1).trans aX.out.2));clear aJ;obtain ⟨b0,b1,b2,b3,b4⟩:=aw dr.out.2;have lb:w.heap.size<w2.heap.size:=(γ dr.out.2).1;obtain ⟨y,hy⟩:=ν (bP nd);have Di:y<=200:=by have h9:=vF nd;have h8:=Kg.out;omega
 rw[hy];by_cases h2:20<y
 .have d2:decide (20<(y:Int))=true:=τ;have Vg:decide (20<y)=true:=decide_eq_true h2;have HV:=Z (show aR nd=9 by unfold aR;rw[if_neg h1,hy,if_pos h2])
  clear h1 h2 hy;go_wp2_with fail;go_ret;exact ⟨aC HV.out.symm,dr.out.1⟩
 have d2:decide (20<(y:Int))=false:=θ;have Vg:decide (20<y)=false:=decide_eq_false h2;have HY:=Z (H h1 (H hy h2));clear h1 h2 hy;go_wp2_with fail;clear b0 b1 b2 b3 b4 lb;refine (HRI.out w2 dr.out.1).mono ?_;rintro e w3 ⟨rfl,bW⟩;have jN:=Z (H (dr.out.1.trans (bW.mono dr.out.1.size)) ((bW.block _ (γ dr.out.2).1).trans dr.out.2));clear bW;obtain ⟨b0,b1,b2,b3,b4⟩:=aw jN.out.2;have lb:w.heap.size<w3.heap.size:=(γ jN.out.2).1
 cases hr:aA nd with
 |false=>
  have HV:=Z (show aR nd=1 by unfold aR;rw[if_neg HY.out.1,HY.out.2.1,if_neg HY.out.2.2,if_pos hr])
  clear hr;go_wp2_with fail;go_ret;exact ⟨aC HV.out.symm,jN.out.1⟩
 |true=>
  have HR:=Z hr;clear hr;go_wp2_with fail;clear b0 b1 b2 b3 b4 lb;refine (HSI.out w3 jN.out.1 Kg.out HR.out).mono ?_;rintro e w4 ⟨rfl,dM⟩;have sO:=Z (H (jN.out.1.trans (dM.mono jN.out.1.size)) ((dM.block _ (γ jN.out.2).1).trans jN.out.2));clear dM;obtain ⟨b0,b1,b2,b3,b4⟩:=aw sO.out.2;have lb:w.heap.size<w4.heap.size:=(γ sO.out.2).1;obtain ⟨z,hz⟩:=ν (bj nd);have hzb:z<=1025:=by rw[<-hz];exact eG nd
  rw[hz];by_cases h4:1024<z
  .have d4:decide (1024<(z:Int))=true:=τ;have d4n:decide (1024<z)=true:=decide_eq_true h4;have HV:=Z (show aR nd=3 by unfold aR;rw[if_neg HY.out.1,HY.out.2.1,if_neg HY.out.2.2,if_neg (by rw[HR.out];decide),hz,if_pos h4])
   clear h4 hz;go_wp2_with fail;go_ret;exact ⟨aC HV.out.symm,sO.out.1⟩
  .have d4:decide (1024<(z:Int))=false:=θ;have d4n:decide (1024<z)=false:=decide_eq_false h4;have HV:=Z (show aR nd=0 by unfold aR;rw[if_neg HY.out.1,HY.out.2.1,if_neg HY.out.2.2,if_neg (by rw[HR.out];decide),hz,if_neg h4])
   clear h4 hz;go_wp2_with fail;go_ret;exact ⟨aC HV.out.symm,sO.out.1⟩
theorem Sz(v:Value)(rs:List (Nat×Nat))(c:Nat)(w:World)(h:jK w v rs):Calls Tryz.prog 61 #[v,.int .u8 (c:Int)] w λe w'=>e=.returned (.bool (lu rs c))/\w'=w:=by
 obtain ⟨A,cc,rfl,⟨lY,qD⟩,hcell⟩:=h;obtain ⟨n,hn⟩:=ν rs.length;have HN:=Z hn;have HC:=Z hcell;rw[hn]at lY|-;clear hn hcell
 go_enter Tryz.func61,Tryz.ntmps61
 go_wp2_with fail;go_loopw [5] (λiv wr=>∃k:Nat,k<=n/\iv=.int .i64 (k:Int)/\wr=w/\Hid (lu (rs.drop k) c=lu rs c)) (λiv _=>n - (intOf iv).toNat)
 case atStart=>exact ⟨0,Y,rfl,rfl,rfl⟩
 case round=>
  obtain ⟨k,hk,rfl,rfl,HR⟩:=hrel;by_cases hlt:k<n
  .have hd:decide ((k:Int)<(n:Int))=true:=τ;have cX:decide (k<n)=true:=decide_eq_true hlt;have aU:k<rs.length:=by rw[HN.out];exact hlt
   obtain ⟨g,f,hA,hg,hrow⟩:=HC.out.resolve_left (by intro e;rw[e]at aU;simp at aU)
   subst hA;obtain ⟨⟨c0,c1⟩,hb1,aJ⟩:=hrow k aU;obtain ⟨lo,dy⟩:∃lo:Nat,rs[k].1=lo:=⟨_,rfl⟩;obtain ⟨hi,uL⟩:∃hi:Nat,rs[k].2=hi:=⟨_,rfl⟩;have cB:lu (rs.drop k) c=((decide (lo<=c) && decide (c<=hi)) || lu (rs.drop (k+1)) c):=by
    rw[List.drop_eq_getElem_cons aU];unfold lu;rw[List.any_cons,dy,uL]
   rw[dy]at c0;rw[uL]at c1;have jG:=Z cB;clear cB hrow dy uL hb1 aJ aU;by_cases h1:lo<=c
   .have t1:decide ((lo:Int)<=(c:Int))=true:=τ;have PG:decide (lo<=c)=true:=decide_eq_true h1;by_cases h2:c<=hi
    .have t2:decide ((c:Int)<=(hi:Int))=true:=τ;have t2n:decide (c<=hi)=true:=decide_eq_true h2;go_wp2_with fail;go_ret;exact ⟨ae (by rw[<-HR.out,jG.out,PG,t2n];rfl),rfl⟩
    .have t2:decide ((c:Int)<=(hi:Int))=false:=θ;have t2n:decide (c<=hi)=false:=decide_eq_false h2;have HX:=Z (show lu (rs.drop (k+1)) c=lu rs c by rw[<-HR.out,jG.out,t2n,Bool.and_false,Bool.false_or])
     go_wp2_with fail;go_roundw
     case rel=>exact ⟨k+1,Y,by go_num,by first|rfl|trivial,HX⟩
     case measure=>exact μ
   .have t1:decide ((lo:Int)<=(c:Int))=false:=θ;have PG:decide (lo<=c)=false:=decide_eq_false h1;have HX:=Z (show lu (rs.drop (k+1)) c=lu rs c by rw[<-HR.out,jG.out,PG,Bool.false_and,Bool.false_or])
    go_wp2_with fail;go_roundw
    case rel=>exact ⟨k+1,Y,by go_num,by first|rfl|trivial,HX⟩
    case measure=>exact μ
  .obtain rfl:k=n:=Y;have hd:decide ((k:Int)<(k:Int))=false:=θ;have cX:decide (k<k)=false:=θ;go_wp2_with fail;go_ret;exact ⟨ae (by rw[<-HR.out,List.drop_of_length_le (by have:=HN.out;omega)];rfl),rfl⟩
end Go.Proofs.YtdmoogjddmdmbaaGreatDoor
