/- Walks. -/
import Derived.Test.YtdmoogjddmdmbaaGreatDoorX09
import Derived.StillTailTactics
import Derived.Deep.RegionHeld3
import Derived.Test.YtdmoogjddmdmbaaGreatDoorX10
import Derived.Test.YtdmoogjddmdmbaaGreatDoorX04
import Derived.Test.YtdmoogjddmdmbaaGreatDoorX02
import Derived.Test.YtdmoogjddmdmbaaGreatDoorX07
import Derived.Test.YtdmoogjddmdmbaaGreatDoorX08
set_option maxRecDepth 100000
set_option maxHeartbeats 16000000
set_option linter.unusedVariables false
set_option linter.unusedSimpArgs false
namespace Go.Proofs.YtdmoogjddmdmbaaGreatDoor
open Go.RowKit
theorem cells3{w:World}{b:Nat}{T:TypeId}{a0 a1 a2:Value}(h:w.heap[b]?=some (.cells #[a0,a1,a2] T (0,0))):
  w.cell? ⟨b,0,none⟩=some a0/\w.cell? ⟨b,1,none⟩=some a1/\w.cell? ⟨b,2,none⟩=some a2:=by
 refine ⟨?_,?_,?_⟩ <;> (rw[cell_of_row _ _ _ _ _ _ h]; rfl)
theorem aB(w:World)(o:Obj)(k:Nat)(h:k<w.heap.size):(w.alloc o).heap[k]?=w.heap[k]?:=((Below.refl w w).alloc I o).block k h
theorem yu(l:List Nat):∀(ps:List Nat) (fol:List (List Nat)) (K:Nat),(∀x∈fol,x.length<=K)->∀x∈kj l ps fol,x.length<=K+ps.length*l.length
 | [],fol,K,h=>λx hx=>by have:=h x hx;simp;omega
 |p::r,fol,K,h=>λx hx=>by
  rw[kj]at hx;have:=yu l r (fol.set p ((fol[p]?).getD []++l)) (K+l.length) (λy hy=>by
   rcases List.mem_or_eq_of_mem_set hy with h1|h1
   .have:=h y h1;omega
   .rw[h1,List.length_append]
    cases hp:fol[p]? with
    |none=>simp
    |some z=>have:=h z (List.mem_of_getElem? hp);simp;omega) x hx
  rw[List.length_cons,Nat.succ_mul];omega
theorem Aw.Qb{w0:World}{s:Nat}{x2 x3 x4:Value}{b:Pb}{vs vf:Value}{rows sv:List Value}{w:World}(h:Aw w0 s x2 x3 x4 b vs vf rows sv w)(hp:0<b.fol.length):∃gf cf,vf=.slice (some ⟨gf,0,none⟩) b.fol.length cf/\gf<w.heap.size/\b.fol.length<=cf/\cf<=9223372036854775807:=by
 rcases h.fol.2 with ⟨-,h2⟩|⟨g,cap,cur,h1,-,h3,h4,h5,-⟩
 .omega
 .exact ⟨g,cap,h1,(γ h3).1,h4,by unfold maxLen at h5;omega⟩
theorem ar{w:World}{B:Nat}{e:TypeId}{k:Nat}{v:Value}{n:Nat}{xs:List Value}(h:w.ownsRow B e k v n xs):∃A c,v=.slice A n c/\n<=c/\c<=9223372036854775807:=by
 rcases h.2 with ⟨h1,h2⟩|⟨g,cap,cur,h1,-,h3,h4,h5,-⟩
 .exact ⟨none,0,by rw[h1,h2],Y,O⟩
 .exact ⟨_,cap,h1,h4,by unfold maxLen at h5;omega⟩
theorem xi(v:Value):aL [] v:=λ_ _ h=>by cases h
theorem Aw.UI{w0:World}{s:Nat}{x2 x3 x4:Value}{b:Pb}{vs vf:Value}{rows sv:List Value}{w:World}(h:Aw w0 s x2 x3 x4 b vs vf rows sv w){q:Nat}{v:Value}(hv:rows[q]?=some v){gf:Nat}(hf:vf.ownBlock=some gf):v.ownBlock≠some gf:=by
 have bc:=h.nd;rw[List.nodup_cons,List.nodup_append]at bc;obtain ⟨-,-,n3,-⟩:=bc;rw[List.nodup_append]at n3;exact λe=>n3.2.2 gf (aI.2 hf) gf (List.mem_flatMap.2 ⟨v,List.mem_of_getElem? hv,aI.2 e⟩) rfl
def aaC(wr:World)(row:Option Nat)(c:Bool)(w':World):Prop:=wr.grownBy w' row/\(c=false->Below wr.heap.size wr w')
def DJ(w0 wr:World)(s gf nf cf gy fy ly cy B1 q m:Nat)(Ar:Option Addr)(cr:Nat)(xs:List Value):Nat->Value->World->Prop
 |0,x,w=>x=.pointer (some ⟨s,0,none⟩)
 |1,x,w=>x=.pointer (some ⟨s,0,none⟩)
 |2,x,w=>x=.pointer (some ⟨s,1,none⟩)
 |3,x,w=>x=.slice (some ⟨gf,0,none⟩) nf cf
 |4,x,w=>x=.int .i64 (q:Int)
 |5,x,w=>x=.pointer (some ⟨s,0,none⟩)
 |6,x,w=>x=.pointer (some ⟨s,0,none⟩)
 |7,x,w=>x=.pointer (some ⟨s,1,none⟩)
 |8,x,w=>x=.slice (some ⟨gf,0,none⟩) nf cf
 |9,x,w=>x=.int .i64 (q:Int)
 |10,x,w=>x=.pointer (some ⟨gf,q,none⟩)
 |11,x,w=>x=.slice Ar m cr
 |12,x,w=>x=.pointer (some ⟨B1,0,none⟩)
 |13,x,w=>x=.slice (some ⟨gy,fy,none⟩) ly cy
 |14,x,w=>∃A' c',x=.slice A' (m+ly) c'/\w.ownsRow w0.heap.size 3 1 x (m+ly) xs/\(x.ownBlock=(Value.slice Ar m cr).ownBlock\/∃g,x.ownBlock=some g/\wr.heap.size<=g)
 |15,x,w=>x=.pointer (some ⟨gf,q,none⟩)
 |_,_,_=>True
theorem Ib(w0 wr:World)(s gf nf cf gy fy ly cy B1 q m:Nat)(Ar:Option Addr)(cr:Nat)(xs:List Value):∀(i j:Nat) (x:Value) (u u':World),j≠i->(i≠14->u'=u)->DJ w0 wr s gf nf cf gy fy ly cy B1 q m Ar cr xs j x u->DJ w0 wr s gf nf cf gy fy ly cy B1 q m Ar cr xs j x u':=by
 intro i j x u u' AU hR h;by_cases hi:i=14
 .subst hi
  match j with
  |0|1|2|3|4|5|6|7|8|9|10|11|12|13|15=>exact h
  |14=>exact absurd rfl AU
  |_+16=>exact trivial
 .rw[hR hi];exact h
theorem fj(w:World)(r:Option Nat):w.grownBy w r:=⟨rfl,rfl,rfl,I,λ_ _ _=>rfl⟩
theorem AW{a b c:World}{r:Option Nat}(h:a.grownBy b r)(k:b.grownBy c r):a.grownBy c r:=
 ⟨k.os.trans h.os,k.tape.trans h.tape,k.output.trans h.output,Nat.le_trans h.size k.size,λi hi hn=>(k.block i (Nat.lt_of_lt_of_le hi h.size) hn).trans (h.block i hi hn)⟩
theorem mN{a b:World}{r:Option Nat}(h:Below a.heap.size a b):a.grownBy b r:=⟨h.os,h.tape,h.output,h.size,λk hk _=>h.block k hk⟩
theorem fu{a b:World}{r:Option Nat}(h:a.grownBy b r)(o:Obj):a.grownBy (b.alloc o) r:=AW h (World.grownBy_alloc b o r)
theorem ec{a b:World}{N:Nat}(h:a.grownBy b (some N))(o:Nat)(u:Value):a.grownBy (b.setCell ⟨N,o,none⟩ u) (some N):=
 AW h ⟨rfl,rfl,rfl,by simp[World.setCell],λk _ hk=>Below.heap_setCell _ _ _ _ λe=>hk (by rw[e])⟩
theorem mO{a b:World}{r:Option Nat}(h:a.grownBy b r){p:Addr}(hp:a.heap.size<=p.block)(u:Value):a.grownBy (b.setCell p u) r:=
 ⟨h.os,h.tape,h.output,by simp[World.setCell];exact h.size,λk hk hn=>(Below.heap_setCell _ _ _ _ Y).trans (h.block k hk hn)⟩
theorem gY{a b:World}{r:Option Nat}(h:a.grownBy b r):a.grownBy b.drew r:=⟨h.os,h.tape,h.output,h.size,h.block⟩
theorem jM{L:List Nat}{a b:World}(h:aj L L a b)(o:Obj):aj L L a (b.alloc o):=h.trans (aj.aa (υ.alloc I o))
theorem oM{L:List Nat}{a b:World}(h:aj L L a b){p:Addr}(hp:p.block∈L)(u:Value):aj L L a (b.setCell p u):=
 h.trans ⟨rfl,rfl,rfl,by simp[World.setCell],λk _ hn=>Below.heap_setCell _ _ _ _ λe=>hn (by rw[e];exact hp),λ_ h=>.inl h⟩
theorem pF{L:List Nat}{a b:World}(h:aj L L a b):aj L L a b.drew:=⟨h.os,h.tape,h.output,h.size,h.blk,h.new⟩
theorem tQ{w1 W:World}{B N2 N9:Nat}{v:Value}{l:List Nat}{rQ:List Nat}{n:Nat}(h:w1.ownsRow B 3 1 v n (bV l))(hl:l≠[])(h2:N2<B)(h9:N9<B)(hf:∀k∈rQ,k<B)(hk:aj [N2,N9] [N2,N9] w1 W):IL W v l/\aL rQ v:=by
 have ho:∀g,v.ownBlock=some g->B<=g:=λg hg=>(h.lt g hg).1;refine ⟨(IL.keep (IL.fO h λ_=>hl) (λg hg hm=>?_) hk).1,λg hg hm=>?_⟩
 .have:=ho g hg;simp at hm;omega
 .have:=ho g hg;have:=hf g hm;omega
theorem aS{w:World}{G e:Nat}{cs:Array Value}{m:Nat×Nat}(h:w.heap[G]?=some (.cells cs e m))(j:Nat)(v:Value):(w.setCell ⟨G,j,none⟩ v).heap[G]?=some (.cells (cs.setIfInBounds j v) e m):=by
 simp[World.setCell,Array.getElem?_modify,h]
theorem az{P:Program}{fn:Func}{R:Ending->World->Prop}{x:Exit}{a:Act}{w:World}(h:∀W,W=w->bodyPost P fn R x a W):bodyPost P fn R x a w:=h w rfl
theorem fY{w0:World}{s:Nat}{x2 x3 x4:Value}{b:Pb}{fp rQ:List Nat}{w wr W:World}{N:Nat}(hb:pq w0 s x2 x3 x4 b rQ wr)(hk:aj fp rQ w wr)(hw:w0.heap.size<=w.heap.size)(hN:w.heap.size<=N)(hN2:N<wr.heap.size)(hn:N∉rQ)(hg:wr.grownBy W (some N)):pq w0 s x2 x3 x4 b rQ W/\aj fp rQ w W:=by
 have hlt:=hb.lt;have aT:=hb.eP;refine ⟨?_,⟨hg.os.trans hk.os,hg.tape.trans hk.tape,hg.output.trans hk.output,Nat.le_trans hk.size hg.size,λk h1 h2=>(hg.block k (Nat.lt_of_lt_of_le h1 hk.size) (λe=>by injection e with e;omega)).trans (hk.blk k h1 h2),λk h=>hk.new k h⟩⟩
 obtain ⟨vs,vf,rows,sv,rfl,h⟩:=hb;refine ⟨vs,vf,rows,sv,rfl,h.same (λk hk'=>hg.block k (hlt k hk').2 (λe=>by injection e with e;subst e;exact hn hk')) ?_⟩
 refine h.eP.trans ⟨hg.os,hg.tape,hg.output,hg.size,λk hk'=>hg.block k (by have:=aT.size;omega) (λe=>?_)⟩
 injection e with e;subst e;omega
def ag4(w0:World)(s:Nat)(x2 x3 x4:Value)(b:Pb)(x:dC)(fp:List Nat)(w:World)(e:Ending)(w':World):Prop:=∃fp' v1 v2,e=.returned (.agg #[v1,v2,.bool x.emp])/\pq w0 s x2 x3 x4 b fp' w'/\aj fp fp' w w'/\IL w' v1 x.first/\aL fp' v1/\IL w' v2 x.last/\aL fp' v2
theorem tR(w0:World)(s:Nat)(x2 x3 x4:Value)(b:Pb)(fp:List Nat)(w:World)(x y:dC)(YG YH YI YJ:Value)(K:Nat)(oN:pq w0 s x2 x3 x4 b fp w)
  (jt:IL w YG x.first) (ox1:aL fp YG) (fZ:IL w YH x.last) (ox2:aL fp YH) (K9:IL w YI y.first) (oy1:aL fp YI) (AX:IL w YJ y.last) (oy2:aL fp YJ)
  (Ti:y.first≠[]) (Tj:y.last≠[]) (zQ:∀p∈x.last,p<b.fol.length) (h1:x.first.length<=50000) (h2:x.last.length<=50000) (h3:y.first.length<=50000) (h4:y.last.length<=50000) (hK:∀l∈b.fol,l.length<=K) (AY:K<=10000000000) :
  Calls Tryz.prog 161 #[.pointer (some ⟨s,0,none⟩),.agg #[YG,YH,.bool x.emp],.agg #[YI,YJ,.bool y.emp]] w (ag4 w0 s x2 x3 x4 (dj b x y) (bD x y) fp w):=by
 obtain ⟨A1,c1,rfl,lY⟩:=jt.form;obtain ⟨A2,c2,rfl,qD⟩:=fZ.form;obtain ⟨gy,fy,cy,rfl,-,hgy,hcy,La⟩:=K9.resolve_left (λh=>Ti h.1);obtain ⟨B2,d2,rfl,kc⟩:=AX.form;have hlt:=oN.lt;have aaD:=oN.eP;have qK:Below w.heap.size w (((w.alloc (.cells #[.slice A1 x.first.length c1,.slice A2 x.last.length c2,.bool x.emp] 184)).alloc (.cells #[.slice (some ⟨gy,fy,none⟩) y.first.length cy,.slice B2 y.last.length d2,.bool y.emp] 184)).alloc (.cells #[.slice none 0 0,.slice none 0 0,.bool false] 184)):=((υ.alloc I _).alloc ξ _).alloc ψ _;have wa:=Z (H jt (H fZ (H K9 AX)));have O7:=Z oN;have Lb:=Z hlt;have Tk:=Z qK;have HK:=Z hK;have YK:=Z zQ;have O8:=Z (H ox1 (H ox2 (H oy1 oy2)));have HY:=Z La;clear jt fZ K9 AX oN hlt qK hK zQ ox1 ox2 oy1 oy2 La aaD;obtain ⟨i0,hi,hz0,hz1,hz2⟩:=info_parts gp
 go_enter Tryz.func161,Tryz.ntmps161
 go_wp2_with fail;go_loopw [13] (λiv wr=>∃k gI rQ,k<=x.last.length/\iv=.int .i64 (k:Int)/\Hid (kj y.first (x.last.drop k) gI=kj y.first x.last b.fol/\gI.length=b.fol.length/\∀l∈gI,l.length<=K+k*y.first.length)/\Hid (pq w0 s x2 x3 x4 ⟨b.sets,gI⟩ rQ wr/\aj fp rQ w wr/\∀q∈rQ,q<w.heap.size\/w.heap.size+3<=q)/\Hid (wr.heap[w.heap.size]?=some (.cells #[.slice A1 x.first.length c1,.slice A2 x.last.length c2,.bool x.emp] 184 (0,0))/\wr.heap[w.heap.size+1]?=some (.cells #[.slice (some ⟨gy,fy,none⟩) y.first.length cy,.slice B2 y.last.length d2,.bool y.emp] 184 (0,0))/\wr.heap[w.heap.size+1+1]?=some (.cells #[.slice none 0 0,.slice none 0 0,.bool false] 184 (0,0)))/\w.heap.size+3<=wr.heap.size) (λiv _=>x.last.length - (intOf iv).toNat)
 case atStart=>
  refine ⟨0,b.fol,fp,Y,rfl,⟨by rw[List.drop_zero],rfl,λl hl=>by have:=HK.out l hl;omega⟩,⟨?_,aj.aa Tk.out,λq hq=>.inl (Lb.out q hq).2⟩,⟨?_,?_,?_⟩,ξ⟩
  .exact O7.out.later Tk.out
  .rw[aB _ _ _ ψ,aB _ _ _ ξ];exact heap_alloc_new w _
  .rw[aB _ _ _ ξ];simpa using heap_alloc_new (w.alloc _) _
  .simpa using heap_alloc_new ((w.alloc _).alloc _) _
 case round=>
  obtain ⟨k,gI,rQ,hk,rfl,HF,HB,HX,hsz⟩:=hrel;have UJ:=wa.out.2.1;obtain ⟨UK,aaE⟩:=UJ.keep O8.out.2.1 HB.out.2.1;by_cases hlt:k<x.last.length
  .have hd:decide ((k:Int)<(x.last.length:Int))=true:=τ;have cX:decide (k<x.last.length)=true:=decide_eq_true hlt;obtain ⟨g2,f2,c2',hv2,-,mg,-,mh⟩:=UK.resolve_left (λh=>by rw[h.1]at hlt;simp at hlt)
   injection hv2 with e1 e2 e3;subst e1 e3;obtain ⟨q,hq⟩:=ν (x.last[k]);have hqc:=mh k hlt;have hqn:=YK.out x.last[k] (List.getElem_mem hlt);rw[hq]at hqc hqn;have HQ:=Z hq;clear hq mh UJ UK aaE;obtain ⟨vs,vf,rows,sv,vP,dL⟩:=HB.out.1;have YL:=Z HF.out.2.1;obtain ⟨gf,cf,rfl,Df,Ke,aaH⟩:=dL.Qb (by have:=YL.out;show 0<gI.length;omega)
   obtain ⟨v,hv,hown⟩:=dL.DB q (by have:=YL.out;show q<gI.length;omega)
   obtain ⟨Ar,cr,rfl,ag5,UL⟩:=ar hown;have qM:wr.cell? ⟨s,1,none⟩=some (.slice (some ⟨gf,0,none⟩) gI.length cf):=by rw[cell_of_row _ _ _ _ _ _ dL.cs];rfl
   have hrow:=dL.fol.cellAt q (by have:=YL.out;rw[Nat.mul_one];show q<gI.length;omega)
   rw[hv]at hrow;have we:=dL.fol.frozenAt q;obtain ⟨y0,y1,y2⟩:=cells3 HX.out.2.1;have hqf:q<gI.length:=by have:=YL.out;omega
   have cB:kj y.first (x.last.drop (k+1)) (gI.set q (gI[q]++y.first))=kj y.first x.last b.fol:=by
    rw[<-HF.out.1,List.drop_eq_getElem_cons hlt,HQ.out,kj,List.getElem?_eq_getElem hqf];rfl
   have hlen:(gI[q]).length<=K+k*y.first.length:=HF.out.2.2 _ (List.getElem_mem hqf);have Lc:k*y.first.length<=50000*50000:=Nat.mul_le_mul Y h3;have aqC:gf≠w.heap.size+1:=λe=>by
    have:=HB.out.2.2 gf (by rw[vP];unfold jE;simp[blk,Value.ownBlock]);omega
   have aqD:s≠w.heap.size+1:=λe=>by
    have:=HB.out.2.2 s (by rw[vP];unfold jE;simp);omega
   have hyc:=IL.keep wa.out.2.2.1 O8.out.2.2.1 HB.out.2.1;have qJ:w0.heap.size<=wr.heap.size:=dL.eP.size;have UM:gy<wr.heap.size/\∀i (h:i<y.first.length),wr.cell? ⟨gy,fy+i,none⟩=some (.int .i64 (y.first[i]:Int)):=by
    obtain ⟨gy',fy',cy',Kf,-,iV,-,YM⟩:=hyc.1.resolve_left (λh=>Ti h.1);injection Kf with e1 e2 e3;injection e1 with e1;injection e1 with e1 e4;subst e1 e4;exact ⟨iV,YM⟩
   have ag7:=UM.1;have HYC:=Z UM.2;have xj:=Z dL;have HOW:=Z hown;have HV:=Z hv;have jG:=Z cB;have HFP:=Z vP;obtain ⟨m,hm⟩:=ν ((gI[q]).length);rw[hm]at hlen ag5 hrow HOW HV;have HM:=Z hm;have aqF:(q:Int)<(gI.length:Int):=Y;have Ld:gI.length<=9223372036854775807:=Nat.le_trans Ke aaH;have hlt':=dL.lt;rw[<-vP]at hlt';have hsl:s<wr.heap.size:=(γ dL.cs).1;have aaI:∀z,some z=(Value.slice Ar m cr).ownBlock->z∈rQ:=λz hz=>by
    rw[vP];unfold jE;refine List.mem_cons_of_mem _ (List.mem_append_right _ (List.mem_append_right _ (List.mem_flatMap.2 ⟨_,List.mem_of_getElem? HV.out,aI.2 hz.symm⟩)))
   have vQ:some s≠(Value.slice Ar m cr).ownBlock:=λe=>by
    have bc:=dL.nd;rw[List.nodup_cons]at bc;exact bc.1 (List.mem_append_right _ (List.mem_append_right _ (List.mem_flatMap.2 ⟨_,List.mem_of_getElem? HV.out,aI.2 e.symm⟩)))
   have od:some gf≠(Value.slice Ar m cr).ownBlock:=λe=>dL.UI HV.out rfl e.symm;have ag9:w.heap.size+1<wr.heap.size:=Y;have UN:some (w.heap.size+1)≠(Value.slice Ar m cr).ownBlock:=λe=>by have:=HB.out.2.2 _ (aaI _ e);omega
   have jH:aaC wr (Value.slice Ar m cr).ownBlock false wr.drew:=⟨⟨rfl,rfl,rfl,I,λ_ _ _=>rfl⟩,λ_=>υ.drew⟩;have YN:=Z (H vQ (H od UN));clear dL hown hv cB hyc UM hm vP hlt' aaI;go_wp2_with fail;refine tS 16 14 O (λi u u'=>i≠14->u'=u) (λc w'=>aaC wr (Value.slice Ar m cr).ownBlock c w') (DJ w0 wr s gf gI.length cf gy fy y.first.length cy (w.heap.size+1) q m Ar cr (bV gI[q]++bV y.first)) κ κ κ κ O jH (Ib w0 wr s gf gI.length cf gy fy y.first.length cy (w.heap.size+1) q m Ar cr (bV gI[q]++bV y.first)) ?_ ?_
   .simp only[eK,eL];refine cM.cons ?_ (cM.cons ?_ (cM.cons ?_ (cM.cons ?_ (cM.cons ?_ (cM.cons ?_ (cM.cons ?_ (cM.cons ?_ (cM.cons ?_ (cM.cons ?_ (cM.cons ?_ (cM.cons ?_ (cM.cons ?_ (cM.cons ?_ (cM.cons ?_ (cM.cons ?_ cM.nil)))))))))))))))
    all_goals (intro v wz c hc hS hE K hK;simp only[ay,Act.put,gU,gV,gW,Nat.zero_add,Nat.reduceAdd,eK,eL]at hK|-)
    .have HX:=Z hS;clear hS hE hc;go_wp2_with fail;exact hK.out _ _ HX.out (λ_=>rfl) rfl
    .have e0:v 0=_:=hE.1 rfl;rw[e0]at hK|-;have HX:=Z hS;clear hS hE hc;go_wp2_with fail;exact hK.out _ _ HX.out (λ_=>rfl) rfl
    .have e1:v 1=_:=hE.1 rfl;rw[e1]at hK|-;have HX:=Z hS;clear hS hE hc;go_wp2_with fail;exact hK.out _ _ HX.out (λ_=>rfl) rfl
    .have e2:v 2=_:=hE.1 rfl;rw[e2]at hK|-;have c1:=(χ s 1 (hS.1.block s hsl vQ)).trans qM;have HX:=Z hS;clear hS hE hc;go_wp2_with fail;exact hK.out _ _ HX.out (λ_=>rfl) rfl
    .have HX:=Z hS;clear hS hE hc;go_wp2_with fail;exact hK.out _ _ HX.out (λ_=>rfl) rfl
    .have HX:=Z hS;clear hS hE hc;go_wp2_with fail;exact hK.out _ _ HX.out (λ_=>rfl) rfl
    .have e5:v 5=_:=hE.1 rfl;rw[e5]at hK|-;have HX:=Z hS;clear hS hE hc;go_wp2_with fail;exact hK.out _ _ HX.out (λ_=>rfl) rfl
    .have e6:v 6=_:=hE.1 rfl;rw[e6]at hK|-;have HX:=Z hS;clear hS hE hc;go_wp2_with fail;exact hK.out _ _ HX.out (λ_=>rfl) rfl
    .have e7:v 7=_:=hE.1 rfl;rw[e7]at hK|-;have c1:=(χ s 1 (hS.1.block s hsl vQ)).trans qM;have HX:=Z hS;clear hS hE hc;go_wp2_with fail;exact hK.out _ _ HX.out (λ_=>rfl) rfl
    .have HX:=Z hS;clear hS hE hc;go_wp2_with fail;exact hK.out _ _ HX.out (λ_=>rfl) rfl
    .have e8:v 8=_:=hE.1 rfl;have e9:v 9=_:=hE.2.1 rfl;rw[e8,e9]at hK|-;have HX:=Z hS;clear hS hE hc;go_wp2_with fail;exact hK.out _ _ HX.out (λ_=>rfl) rfl
    .have qE:v 10=_:=hE.1 rfl;rw[qE]at hK|-;have c1:=(χ gf q (hS.1.block gf Df od)).trans hrow;have HX:=Z hS;clear hS hE hc;go_wp2_with fail;exact hK.out _ _ HX.out (λ_=>rfl) rfl
    .have HX:=Z hS;clear hS hE hc;go_wp2_with fail;exact hK.out _ _ HX.out (λ_=>rfl) rfl
    .have tl:v 12=_:=hE.1 rfl;rw[tl]at hK|-;have c1:=(χ (w.heap.size+1) 0 (hS.1.block (w.heap.size+1) ag9 UN)).trans y0;have HX:=Z hS;clear hS hE hc;go_wp2_with fail;exact hK.out _ _ HX.out (λ_=>rfl) rfl
    .have wj:v 11=_:=hE.1 rfl;have wq:v 13=_:=hE.2.1 rfl;rw[wj,wq]at hK|-;have Ke:=hc rfl;subst Ke;have dA:=hS.2 rfl;have aaJ:wz.ownsRow w0.heap.size 3 1 (.slice Ar m cr) m (bV gI[q]):=aG HOW.out λg hg=>dA.block g (HOW.out.lt g hg).2;have hcy:=eN (w:=wz) (l:=y.first) (g:=gy) (f:=fy) (λi hi=>(χ gy (fy+i) (dA.block gy ag7)).trans (HYC.out i hi));have hBz:w0.heap.size<=wz.heap.size:=Nat.le_trans qJ dA.size;have HZ:=Z dA;have HX:=Z hS;clear hS hE hc dA;go_wp2_with (at_builtin;refine cQ rfl _ _ 22 rfl w0.heap.size 3 i0 (.int .i64 0) 1 8 Tryz.underlying22 hi hz0 hz1 hz2 rfl O _ m (bV gI[q]) rfl aaJ ⟨gy,fy,none⟩ y.first.length cy (bV y.first) rfl (by rw[iD];omega) hcy (pG _) (by unfold maxLen;omega) Y hBz ?_)
     intro v' w1 hown1 fH dY;have mg:wr.grownBy w1 (Value.slice Ar m cr).ownBlock:=⟨fH.os.trans HX.out.1.os,fH.tape.trans HX.out.1.tape,fH.output.trans HX.out.1.output,Nat.le_trans HX.out.1.size fH.size,λk hk hn=>(fH.block k (Nat.lt_of_lt_of_le hk HX.out.1.size) hn).trans (HX.out.1.block k hk hn)⟩;obtain ⟨A',c',rfl,-,-⟩:=ar hown1;exact hK.out _ _ ⟨mg,λh=>by cases h⟩ (λh=>absurd rfl h) ⟨A',c',rfl,hown1,dY.imp id (λ⟨g,h1,h2⟩=>⟨g,h1,Nat.le_trans HZ.out.size h2⟩)⟩
    .have e3:v 3=_:=hE.1 rfl;have e4:v 4=_:=hE.2.1 rfl;rw[e3,e4]at hK|-;have HX:=Z hS;clear hS hE hc;go_wp2_with fail;exact hK.out _ _ HX.out (λ_=>rfl) rfl
   .intro v wz hS hF;have e0:v 0=_:=hF 0 O;have e1:v 1=_:=hF 1 O;have e2:v 2=_:=hF 2 O;have e3:v 3=_:=hF 3 O;have e4:v 4=_:=hF 4 O;have e5:v 5=_:=hF 5 O;have e6:v 6=_:=hF 6 O;have e7:v 7=_:=hF 7 O;have e8:v 8=_:=hF 8 O;have e9:v 9=_:=hF 9 O;have qE:v 10=_:=hF 10 O;have wj:v 11=_:=hF 11 O;have tl:v 12=_:=hF 12 O;have wq:v 13=_:=hF 13 O;have FK:v 15=_:=hF 15 O;have E14:=hF 14 O;simp only[ay,Act.put,gU,gV,gW,Nat.zero_add,Nat.reduceAdd,eK,eL,List.drop_succ_cons,List.drop_zero,e0,e1,e2,e3,e4,e5,e6,e7,e8,e9,qE,wj,tl,wq,FK];clear hF e0 e1 e2 e3 e4 e5 e6 e7 e8 e9 qE wj tl wq FK;obtain ⟨A',c',Kf,hown1,dY⟩:=E14;rw[Kf]at hown1 dY|-;obtain ⟨A'',c'',e',aqH,aqI⟩:=ar hown1;injection e' with e1 e2 e3;subst e3;have UO:wz.cell? ⟨gf,q,none⟩=some (.slice Ar m cr):=(χ gf q (hS.1.block gf Df od)).trans hrow;have aqJ:wz.frozen? ⟨gf,q,none⟩=false:=(World.frozen?_of_block (a:=⟨gf,q,none⟩) (hS.1.block gf Df od)).trans we;have lC:=Z (H hown1 (H hS.1 dY));clear hown1 hS dY qM hqc y0 y1 y2 hrow we Kf e1 e2 vQ od UN;go_wp2_with fail;go_roundw
    case rel=>
     obtain ⟨hown1,fH,dY⟩:=lC.out;have hm:=HM.out;subst hm;obtain ⟨r1,r2⟩:=xj.out.UQ (p:=q) hqf y.first HV.out hown1 fH dY rfl;have vP:=HFP.out;have Le:∀z,w.heap.size<=z->z<w.heap.size+3->z∉jE s vs (.slice (some ⟨gf,0,none⟩) gI.length cf) rows:=λz h1 h2 hm=>by
      have:=HB.out.2.2 z (by rw[vP];exact hm);omega
     refine ⟨k+1,_,_,Y,by go_num,⟨jG.out,by have:=YL.out;simp;omega,λl hl=>?_⟩,⟨⟨_,_,_,_,rfl,r1⟩,(by rw[vP]at HB;exact HB.out.2.1.trans r2),λz hz=>?_⟩,⟨?_,?_,?_⟩,?_⟩
     .rw[Nat.succ_mul];rcases List.mem_or_eq_of_mem_set hl with h1|h1
      .have:=HF.out.2.2 l h1;omega
      .rw[h1,List.length_append];omega
     .rcases r2.new z hz with h1|h1
      .exact HB.out.2.2 z (by rw[vP];exact h1)
      .right;omega
     .exact (r2.blk _ Y (Le _ Y Y)).trans HX.out.1
     .exact (r2.blk _ Y (Le _ Y Y)).trans HX.out.2.1
     .exact (r2.blk _ Y (Le _ Y Y)).trans HX.out.2.2
     .exact Nat.le_trans hsz r2.size
    case measure=>exact μ
  .obtain rfl:k=x.last.length:=Y;have hfe:gI=kj y.first x.last b.fol:=by
    have:=HF.out.1;rw[List.drop_length]at this;exact this
   have Lf:(⟨b.sets,gI⟩:Pb)=dj b x y:=by rw[hfe];rfl
   have wu:=HB.out.1;rw[Lf]at wu;have vR:=Z wu;have YO:=Z HB.out.2.1;have HFN:=Z HB.out.2.2;have UR:=IL.keep wa.out.1 O8.out.1 HB.out.2.1;have US:=IL.keep wa.out.2.1 O8.out.2.1 HB.out.2.1;have ha3:=IL.keep wa.out.2.2.1 O8.out.2.2.1 HB.out.2.1;have ha4:=IL.keep wa.out.2.2.2 O8.out.2.2.2 HB.out.2.1;have HA:=Z (H UR (H US (H ha3 ha4)));obtain ⟨p0,p1,p2⟩:=cells3 HX.out.1;obtain ⟨y0,y1,y2⟩:=cells3 HX.out.2.1;have mP:=HX.out.2.2;have hHF:Hid True:=trivial;clear hfe Lf wu UR US ha3 ha4 UK aaE UJ HF HB;obtain ⟨ex,hex⟩:=ν x.emp;obtain ⟨ey,hey⟩:=ν y.emp;rw[hex]at p2|-;rw[hey]at y2|-;have HE:=Z (H hex hey);clear hex hey;have n1:¬w.heap.size=wr.heap.size:=Y;have n2:¬wr.heap.size=w.heap.size:=Y;have n3:¬w.heap.size+1=wr.heap.size:=Y;have n4:¬wr.heap.size=w.heap.size+1:=Y;have n5:¬w.heap.size+1+1=wr.heap.size:=Y;have n6:¬wr.heap.size=w.heap.size+1+1:=Y;have l1:w.heap.size<wr.heap.size:=Y;have l2:w.heap.size+1<wr.heap.size:=Y;have l3:w.heap.size+1+1<wr.heap.size:=Y;have ahc:=cells3 mP;obtain ⟨r0,r1,r2⟩:=ahc;have hrz:wr.frozen? ⟨w.heap.size+1+1,0,none⟩=false:=by simp[World.frozen?,mP]
   have rM:=Z mP;clear mP hrz;have f0:wr.frozen? ⟨w.heap.size+1+1,0,none⟩=false:=by simp[World.frozen?,rM.out]
   have f1:wr.frozen? ⟨w.heap.size+1+1,1,none⟩=false:=by simp[World.frozen?,rM.out]
   have f2:wr.frozen? ⟨w.heap.size+1+1,2,none⟩=false:=by simp[World.frozen?,rM.out]
   have Lh:=λ(va vb:Value) (la lb:List Nat) (W:World) (g c:Nat) (hW:Below wr.heap.size wr W) (ha:IL wr va la) (hb:IL wr vb lb) (FL:lb≠[]) (zM:la.length<=50000) (aqK:lb.length<=50000) (hg:g<W.heap.size) (hc:2<=c/\c<=9223372036854775807) (c0:W.cell? ⟨g,0,none⟩=some va) (c1:W.cell? ⟨g,1,none⟩=some vb)=>oO va vb la lb g c W (ha.later hW) (hb.later hW) FL Y hg hc c0 c1;have Qc:=Z Lh;have Kg:=Z (show w.heap.size+1+1∉rQ from λhm=>by have:=HFN.out _ hm;omega)
   have UT:=Z (show w0.heap.size<=w.heap.size from O7.out.eP.size);clear Lh
   cases ex
   .cases ey
    .go_wp2_with fail;refine az λW hW=>?_;obtain ⟨q1,q2⟩:=fY vR.out YO.out UT.out Y l3 Kg.out (W:=W) (by rw[hW];repeat (first|exact fj _ _|exact HGB.out|refine fu ?_ _|refine ec ?_ _ _|refine mO ?_ ξ _|refine gY ?_))
     refine bodyPost_ret (v:=.agg #[.slice A1 x.first.length c1,.slice B2 y.last.length d2,.bool false]) (by rw[hW];simp[results,Tryz.results161,go_sem,r0,r1,r2,l3];try rfl) rfl ?_
     refine ⟨rQ,.slice A1 x.first.length c1,.slice B2 y.last.length d2,?_,q1,q2,?_⟩
     .unfold bD;rw[HE.out.1,HE.out.2];rfl
     .have i1:=wa.out.1.keep O8.out.1 q2;have i2:=wa.out.2.2.2.keep O8.out.2.2.2 q2;have e1:(bD x y).first=x.first:=by unfold bD;rw[HE.out.1];rfl
      have e2:(bD x y).last=y.last:=by unfold bD;rw[HE.out.2];rfl
      rw[e1,e2];exact ⟨i1.1,i1.2,i2.1,i2.2⟩
    .go_wp2_with fail;refine (Qc.out _ _ x.last y.last _ _ _ ((υ.alloc I _).alloc ξ _) HA.out.2.1.1 HA.out.2.2.2.1 Tj h2 h4 ξ O (by go_simp) (by go_simp)).mono ?_
     rintro e w1 ⟨v1,rfl,hown1,hb1⟩;have aY:Below wr.heap.size wr w1:=((υ.alloc I _).alloc ξ _).trans (hb1.mono ψ);have c9:w1.heap[wr.heap.size]?=some (.cells #[.slice A1 x.first.length c1,.slice B2 y.last.length d2,.bool false] 184 (0,0)):=(hb1.block _ ψ).trans (by rw[aB _ _ _ ξ];exact heap_alloc_new wr _)
     obtain ⟨t0,t1,t2⟩:=cells3 c9;have u0:w1.frozen? ⟨wr.heap.size,0,none⟩=false:=by simp[World.frozen?,c9]
     have u1:w1.frozen? ⟨wr.heap.size,1,none⟩=false:=by simp[World.frozen?,c9]
     have z9:wr.heap.size<w1.heap.size:=(γ c9).1;have z1:w.heap.size<w1.heap.size:=Y;have z2:w.heap.size+1<w1.heap.size:=Y;have z3:w.heap.size+1+1<w1.heap.size:=Y;have p0':=(aY.cl w.heap.size 0 l1).trans p0;have YP:=(aY.cl w.heap.size 1 l1).trans p1;have p2':=(aY.cl w.heap.size 2 l1).trans p2;have y0':=(aY.cl (w.heap.size+1) 0 l2).trans y0;have y1':=(aY.cl (w.heap.size+1) 1 l2).trans y1;have y2':=(aY.cl (w.heap.size+1) 2 l2).trans y2;have Tl:=(aY.cl (w.heap.size+1+1) 0 l3).trans r0;have Tm:=(aY.cl (w.heap.size+1+1) 1 l3).trans r1;have Tn:=(aY.cl (w.heap.size+1+1) 2 l3).trans r2;have f0':=(aY.frozen (p:=⟨w.heap.size+1+1,0,none⟩) l3).trans f0;have f1':=(aY.frozen (p:=⟨w.heap.size+1+1,1,none⟩) l3).trans f1;have f2':=(aY.frozen (p:=⟨w.heap.size+1+1,2,none⟩) l3).trans f2;obtain ⟨Av,cv,rfl,-,-⟩:=ar hown1;have FF:=Z hown1;have b8:=Z aY;have HGB:=Z (mN (r:=some (w.heap.size+1+1)) aY);have To:=Z (show wr.heap.size+2<=w1.heap.size by have:=hb1.size;simp at this;omega)
     have DK:w1.heap.size=w1.heap.size:=rfl;clear hown1 hb1 aY c9 p0 p1 p2 y0 y1 y2 r0 r1 r2 f0 f1 f2 DK;go_wp2_with fail;refine az λW hW=>?_;obtain ⟨q1,q2⟩:=fY vR.out YO.out UT.out Y l3 Kg.out (W:=W) (by rw[hW];repeat (first|exact fj _ _|exact HGB.out|refine fu ?_ _|refine ec ?_ _ _|refine mO ?_ ξ _|refine gY ?_))
     refine bodyPost_ret (v:=.agg #[.slice A1 x.first.length c1,.slice Av (x.last++y.last).length cv,.bool false]) (by rw[hW];simp[results,Tryz.results161,go_sem,Tl,Tm,Tn,t0,t1,t2,z3,z9,n5,n6];try rfl) rfl ?_
     refine ⟨rQ,.slice A1 x.first.length c1,.slice Av (x.last++y.last).length cv,?_,q1,q2,?_⟩
     .unfold bD;rw[HE.out.1,HE.out.2];rfl
     .have i1:=wa.out.1.keep O8.out.1 q2;have i2:=tQ (N2:=w.heap.size+1+1) (N9:=wr.heap.size) (W:=W) FF.out (by intro h;exact Tj (List.append_eq_nil_iff.1 h).2) ψ ψ (λk hk=>by have:=(vR.out.lt k hk).2;simp;omega) (by rw[hW];repeat (first|exact aj.refl _ _|refine jM ?_ _|refine oM ?_ ξ _|refine pF ?_))
      have e1:(bD x y).first=x.first:=by unfold bD;rw[HE.out.1];rfl
      have e2:(bD x y).last=x.last++y.last:=by unfold bD;rw[HE.out.2];rfl
      rw[e1,e2];exact ⟨i1.1,i1.2,i2.1,i2.2⟩
   .cases ey
    .go_wp2_with fail;refine (Qc.out _ _ x.first y.first _ _ _ ((υ.alloc I _).alloc ξ _) HA.out.1.1 HA.out.2.2.1.1 Ti h1 h3 ξ O (by go_simp) (by go_simp)).mono ?_
     rintro e w1 ⟨v1,rfl,hown1,hb1⟩;have aY:Below wr.heap.size wr w1:=((υ.alloc I _).alloc ξ _).trans (hb1.mono ψ);have c9:w1.heap[wr.heap.size]?=some (.cells #[.slice A1 x.first.length c1,.slice B2 y.last.length d2,.bool false] 184 (0,0)):=(hb1.block _ ψ).trans (by rw[aB _ _ _ ξ];exact heap_alloc_new wr _)
     obtain ⟨t0,t1,t2⟩:=cells3 c9;have u0:w1.frozen? ⟨wr.heap.size,0,none⟩=false:=by simp[World.frozen?,c9]
     have u1:w1.frozen? ⟨wr.heap.size,1,none⟩=false:=by simp[World.frozen?,c9]
     have z9:wr.heap.size<w1.heap.size:=(γ c9).1;have z1:w.heap.size<w1.heap.size:=Y;have z2:w.heap.size+1<w1.heap.size:=Y;have z3:w.heap.size+1+1<w1.heap.size:=Y;have p0':=(aY.cl w.heap.size 0 l1).trans p0;have YP:=(aY.cl w.heap.size 1 l1).trans p1;have p2':=(aY.cl w.heap.size 2 l1).trans p2;have y0':=(aY.cl (w.heap.size+1) 0 l2).trans y0;have y1':=(aY.cl (w.heap.size+1) 1 l2).trans y1;have y2':=(aY.cl (w.heap.size+1) 2 l2).trans y2;have Tl:=(aY.cl (w.heap.size+1+1) 0 l3).trans r0;have Tm:=(aY.cl (w.heap.size+1+1) 1 l3).trans r1;have Tn:=(aY.cl (w.heap.size+1+1) 2 l3).trans r2;have f0':=(aY.frozen (p:=⟨w.heap.size+1+1,0,none⟩) l3).trans f0;have f1':=(aY.frozen (p:=⟨w.heap.size+1+1,1,none⟩) l3).trans f1;have f2':=(aY.frozen (p:=⟨w.heap.size+1+1,2,none⟩) l3).trans f2;obtain ⟨Av,cv,rfl,-,-⟩:=ar hown1;have FF:=Z hown1;have b8:=Z aY;have HGB:=Z (mN (r:=some (w.heap.size+1+1)) aY);have To:=Z (show wr.heap.size+2<=w1.heap.size by have:=hb1.size;simp at this;omega)
     have DK:w1.heap.size=w1.heap.size:=rfl;clear hown1 hb1 aY c9 p0 p1 p2 y0 y1 y2 r0 r1 r2 f0 f1 f2 DK;go_wp2_with fail;refine az λW hW=>?_;obtain ⟨q1,q2⟩:=fY vR.out YO.out UT.out Y l3 Kg.out (W:=W) (by rw[hW];repeat (first|exact fj _ _|exact HGB.out|refine fu ?_ _|refine ec ?_ _ _|refine mO ?_ ξ _|refine gY ?_))
     refine bodyPost_ret (v:=.agg #[.slice Av (x.first++y.first).length cv,.slice B2 y.last.length d2,.bool false]) (by rw[hW];simp[results,Tryz.results161,go_sem,Tl,Tm,Tn,t0,t1,t2,z3,z9,n5,n6];try rfl) rfl ?_
     refine ⟨rQ,.slice Av (x.first++y.first).length cv,.slice B2 y.last.length d2,?_,q1,q2,?_⟩
     .unfold bD;rw[HE.out.1,HE.out.2];rfl
     .have i1:=tQ (N2:=w.heap.size+1+1) (N9:=wr.heap.size) (W:=W) FF.out (by intro h;exact Ti (List.append_eq_nil_iff.1 h).2) ψ ψ (λk hk=>by have:=(vR.out.lt k hk).2;simp;omega) (by rw[hW];repeat (first|exact aj.refl _ _|refine jM ?_ _|refine oM ?_ ξ _|refine pF ?_))
      have i2:=wa.out.2.2.2.keep O8.out.2.2.2 q2;have e1:(bD x y).first=x.first++y.first:=by unfold bD;rw[HE.out.1];rfl
      have e2:(bD x y).last=y.last:=by unfold bD;rw[HE.out.2];rfl
      rw[e1,e2];exact ⟨i1.1,i1.2,i2.1,i2.2⟩
    .go_wp2_with fail;refine (Qc.out _ _ x.first y.first _ _ _ ((υ.alloc I _).alloc ξ _) HA.out.1.1 HA.out.2.2.1.1 Ti h1 h3 ξ O (by go_simp) (by go_simp)).mono ?_
     rintro e w1 ⟨v1,rfl,hown1,hb1⟩;rw[List.length_append]at hown1;have aY:Below wr.heap.size wr w1:=((υ.alloc I _).alloc ξ _).trans (hb1.mono ψ);have c9:w1.heap[wr.heap.size]?=some (.cells #[.slice A1 x.first.length c1,.slice B2 y.last.length d2,.bool true] 184 (0,0)):=(hb1.block _ ψ).trans (by rw[aB _ _ _ ξ];exact heap_alloc_new wr _)
     obtain ⟨t0,t1,t2⟩:=cells3 c9;have u0:w1.frozen? ⟨wr.heap.size,0,none⟩=false:=by simp[World.frozen?,c9]
     have u1:w1.frozen? ⟨wr.heap.size,1,none⟩=false:=by simp[World.frozen?,c9]
     have z9:wr.heap.size<w1.heap.size:=(γ c9).1;have z1:w.heap.size<w1.heap.size:=Y;have z2:w.heap.size+1<w1.heap.size:=Y;have z3:w.heap.size+1+1<w1.heap.size:=Y;have p0':=(aY.cl w.heap.size 0 l1).trans p0;have YP:=(aY.cl w.heap.size 1 l1).trans p1;have p2':=(aY.cl w.heap.size 2 l1).trans p2;have y0':=(aY.cl (w.heap.size+1) 0 l2).trans y0;have y1':=(aY.cl (w.heap.size+1) 1 l2).trans y1;have y2':=(aY.cl (w.heap.size+1) 2 l2).trans y2;have Tl:=(aY.cl (w.heap.size+1+1) 0 l3).trans r0;have Tm:=(aY.cl (w.heap.size+1+1) 1 l3).trans r1;have Tn:=(aY.cl (w.heap.size+1+1) 2 l3).trans r2;have f0':=(aY.frozen (p:=⟨w.heap.size+1+1,0,none⟩) l3).trans f0;have f1':=(aY.frozen (p:=⟨w.heap.size+1+1,1,none⟩) l3).trans f1;have f2':=(aY.frozen (p:=⟨w.heap.size+1+1,2,none⟩) l3).trans f2;obtain ⟨Av,cv,rfl,-,-⟩:=ar hown1;have FF:=Z hown1;have b8:=Z aY;have HGB:=Z (mN (r:=some (w.heap.size+1+1)) aY);have To:=Z (show wr.heap.size+2<=w1.heap.size by have:=hb1.size;simp at this;omega)
     have DK:w1.heap.size=w1.heap.size:=rfl;have C9:=Z c9;clear hown1 hb1 aY c9 p0 p1 p2 y0 y1 y2 r0 r1 r2 f0 f1 f2 DK;go_wp2_with fail;have hbS:Below wr.heap.size wr (w1.setCell ⟨wr.heap.size,0,none⟩ (.slice Av (x.first.length+y.first.length) cv)):=b8.out.sc wr.heap.size 0 I _;have Qd:=Z hbS;have c9s:=aS C9.out 0 (.slice Av (x.first.length+y.first.length) cv);have C9S:=Z c9s;have hzS:(w1.setCell ⟨wr.heap.size,0,none⟩ (.slice Av (x.first.length+y.first.length) cv)).heap.size=w1.heap.size:=by simp[World.setCell]
     have YQ:=Z hzS;clear hbS c9s hzS;refine (Qc.out _ _ x.last y.last _ _ _ (Qd.out.alloc Qd.out.size _) HA.out.2.1.1 HA.out.2.2.2.1 Tj h2 h4 (by have:=YQ.out;simp;try omega) O (by go_simp) (by go_simp)).mono ?_
     rintro e w2 ⟨v2,rfl,bh,aJ⟩;rw[List.length_append]at bh;have DL:Below wr.heap.size wr w2:=(Qd.out.alloc Qd.out.size _).trans (aJ.mono (by have:=YQ.out;simp;omega))
     have c92:w2.heap[wr.heap.size]?=some (.cells #[.slice Av (x.first.length+y.first.length) cv,.slice B2 y.last.length d2,.bool true] 184 (0,0)):=(aJ.block _ (by have:=YQ.out;simp;omega)).trans ((aB _ _ _ (by have:=YQ.out;omega)).trans C9S.out)
     have k1:IL w2 (.slice Av (x.first.length+y.first.length) cv) (x.first++y.first):=by
      have:=(IL.fO FF.out λ_=>(by intro h;exact Ti (List.append_eq_nil_iff.1 h).2)).keep (fp:=[wr.heap.size]) (fp':=[wr.heap.size]) (w':=w2) (λg hg hm=>?_) ?_
      .exact this.1
      .have:=(FF.out.lt g hg).1;simp at hm this;omega
      .exact (jM (oM (aj.refl _ _) ξ _) _).trans (aj.aa aJ)
     have O1:=Z k1;have V1G:=Z (λg hg=>(FF.out.lt g hg).1);have V1L:=Z (λg hg=>(FF.out.lt g hg).2);clear t0 t1 t2 u0 u1 z9 z1 z2 z3 p0' YP p2' y0' y1' y2';obtain ⟨t0,t1,t2⟩:=cells3 c92;have u0:w2.frozen? ⟨wr.heap.size,0,none⟩=false:=by simp[World.frozen?,c92]
     have u1:w2.frozen? ⟨wr.heap.size,1,none⟩=false:=by simp[World.frozen?,c92]
     have z9:wr.heap.size<w2.heap.size:=(γ c92).1;have z3:w.heap.size+1+1<w2.heap.size:=Y;have Li:=(DL.block _ l3).trans rM.out;clear Tl Tm Tn f0' f1' f2';obtain ⟨Tl,Tm,Tn⟩:=cells3 Li;have f0':w2.frozen? ⟨w.heap.size+1+1,0,none⟩=false:=by simp[World.frozen?,Li]
     have f1':w2.frozen? ⟨w.heap.size+1+1,1,none⟩=false:=by simp[World.frozen?,Li]
     have f2':w2.frozen? ⟨w.heap.size+1+1,2,none⟩=false:=by simp[World.frozen?,Li]
     obtain ⟨UU,UW,rfl,-,-⟩:=ar bh;have FM:=Z bh;have ahh:=Z (mN (r:=some (w.heap.size+1+1)) DL);clear bh aJ DL c92 Li k1;go_wp2_with fail;refine az λW hW=>?_;obtain ⟨q1,q2⟩:=fY vR.out YO.out UT.out Y l3 Kg.out (W:=W) (by rw[hW];repeat (first|exact fj _ _|exact ahh.out|refine fu ?_ _|refine ec ?_ _ _|refine mO ?_ ξ _|refine gY ?_))
     refine bodyPost_ret (v:=.agg #[.slice Av (x.first.length+y.first.length) cv,.slice UU (x.last.length+y.last.length) UW,.bool true]) (by rw[hW];simp[results,Tryz.results161,go_sem,Tl,Tm,Tn,t0,t1,t2,z3,z9,n5,n6];try rfl) rfl ?_
     refine ⟨rQ,.slice Av (x.first.length+y.first.length) cv,.slice UU (x.last.length+y.last.length) UW,?_,q1,q2,?_⟩
     .unfold bD;rw[HE.out.1,HE.out.2];rfl
     .have i1:=O1.out.keep (fp:=[w.heap.size+1+1,wr.heap.size]) (fp':=[w.heap.size+1+1,wr.heap.size]) (w':=W) (λg hg hm=>by have:=V1G.out g hg;simp at hm this;omega) (by rw[hW];repeat (first|exact aj.refl _ _|refine jM ?_ _|refine oM ?_ ξ _|refine pF ?_))
      have i1':aL rQ (.slice Av (x.first.length+y.first.length) cv):=λg hg hm=>by have:=V1G.out g hg;have:=(vR.out.lt g hm).2;simp at *;omega
      have i2:=tQ (N2:=w.heap.size+1+1) (N9:=wr.heap.size) (W:=W) FM.out (by intro h;exact Tj (List.append_eq_nil_iff.1 h).2) (by have:=YQ.out;have:=To.out;simp;omega) (by have:=YQ.out;have:=To.out;simp;omega) (λk hk=>by have:=(vR.out.lt k hk).2;have:=To.out;simp;omega) (by rw[hW];repeat (first|exact aj.refl _ _|refine jM ?_ _|refine oM ?_ ξ _|refine pF ?_))
      have e1:(bD x y).first=x.first++y.first:=by unfold bD;rw[HE.out.1];rfl
      have e2:(bD x y).last=x.last++y.last:=by unfold bD;rw[HE.out.2];rfl
      rw[e1,e2];exact ⟨i1.1,i1',i2.1,i2.2⟩
section
open Go.Maps (Keyed)
def vp(gs:List (List Nat))(l:List Nat):Option Value:=if l∈gs then some (.int .i64 ((gs.idxOf l:Nat):Int)) else none
def Hk(F:Lit->Option Value)(gs:List (List Nat)):Prop:=∀l,F (.string (dP l))=vp gs l
theorem Hk.put{F:Lit->Option Value}{gs:List (List Nat)}(h:Hk F gs)(l:List Nat)(hl:l∉gs)(n:Int)(hn:n=(gs.length:Int)):Hk (jQ F (.string (dP l)) (some (.int .i64 n))) (gs++[l]):=by
 intro x;subst hn;unfold jQ;by_cases e:x=l
 .subst e;rw[if_pos (by simp[Lit.sameKey])]
  unfold vp;rw[if_pos ξ,List.idxOf_append,if_neg hl];simp
 .rw[if_neg (by simp only[Lit.sameKey,beq_iff_eq];exact λh=>e (xX h)),h x]
  unfold vp;by_cases hx:x∈gs
  .rw[if_pos hx,if_pos (by simp[hx]),List.idxOf_append,if_pos hx]
  .rw[if_neg hx,if_neg (by simp[hx,e])]
def TI(w:World)(v:Value):Prop:=∀g,v.ownBlock=some g->∃cs m,w.heap[g]?=some (.cells cs 3 m)
theorem TI.keep{fp fp':List Nat}{w w':World}{v:Value}(h:TI w v)(ho:aL fp v)(hk:aj fp fp' w w'):TI w' v:=λg hg=>by
 obtain ⟨cs,m,e⟩:=h g hg;exact ⟨cs,m,(hk.blk g (γ e).1 (ho g hg)).trans e⟩
theorem TI.later{w w':World}{v:Value}(h:TI w v)(hb:Below w.heap.size w w'):TI w' v:=h.keep (fp:=[]) (fp':=[]) (λ_ _ h=>by cases h) (aj.aa hb)
theorem TI.fO{w:World}{B:Nat}{k:Nat}{v:Value}{n:Nat}{xs:List Value}(h:w.ownsRow B 3 k v n xs):TI w v:=λg hg=>by
 rcases h.2 with ⟨h1,-⟩|⟨g',cap,cur,h1,-,xk,-⟩
 .subst h1;simp[Value.ownBlock]at hg
 .subst h1;simp[Value.ownBlock]at hg;subst hg;exact ⟨_,_,xk⟩
theorem TI.nil(w:World):TI w (.slice none 0 0):=λg hg=>by simp[Value.ownBlock]at hg
theorem TI.ne{w:World}{v u:Value}(h:TI w v){B k n:Nat}{e:TypeId}{xs:List Value}(hu:w.ownsRow B e k u n xs)(he:e≠3):∀g,v.ownBlock=some g->u.ownBlock≠some g:=λg hg hug=>by
 obtain ⟨cs,m,h1⟩:=h g hg;rcases hu.2 with ⟨h2,-⟩|⟨g',cap,cur,h2,-,xk,-⟩
 .subst h2;simp[Value.ownBlock]at hug
 .subst h2;simp[Value.ownBlock]at hug;subst hug;rw[xk]at h1;injection h1 with h1;injection h1 with _ h3 _;exact he h3
def iH(s mb:Nat)(vg:Value):List Nat:=s::mb::blk vg
structure RY (B s mb:Nat) (v0 v1 v2:Value) (gs:List (List Nat)) (vg:Value) (gv:List Value) (F:Lit->Option Value) (w:World):Prop where
 ne:s≠mb/\vg.ownBlock≠some s/\vg.ownBlock≠some mb
 hs:B<=s/\B<=mb/\B<=w.heap.size
 cs:w.heap[s]?=some (.cells #[v0,v1,v2,.map (some mb),vg] 182 (0,0))
 mv:MV Tryz.prog 9 mb gs.length F w
 says:Hk F gs
 own:w.ownsRow B 22 1 vg gs.length gv
 QM:∀i (h:i<gs.length),∃v,gv[i]?=some v/\IL w v gs[i]/\aL (iH s mb vg) v/\TI w v
def rX(B s mb:Nat)(v0 v1 v2:Value)(gs:List (List Nat))(fp:List Nat)(w:World):Prop:=∃vg gv F,fp=iH s mb vg/\RY B s mb v0 v1 v2 gs vg gv F w
section
variable {B s mb:Nat} {v0 v1 v2:Value} {gs:List (List Nat)} {vg:Value} {gv:List Value} {F:Lit->Option Value} {w w':World} {fp:List Nat}
theorem RY.lt(h:RY B s mb v0 v1 v2 gs vg gv F w):∀k∈iH s mb vg,B<=k/\k<w.heap.size:=by
 intro k hk;unfold iH at hk;rcases List.mem_cons.1 hk with rfl|hk
 .exact ⟨h.hs.1,(γ h.cs).1⟩
 .rcases List.mem_cons.1 hk with rfl|hk
  .exact ⟨h.hs.2.1,h.mv.lt⟩
  .exact h.own.lt k (aI.1 hk)
theorem rX.lt(h:rX B s mb v0 v1 v2 gs fp w):∀k∈fp,B<=k/\k<w.heap.size:=by
 obtain ⟨vg,gv,F,rfl,h⟩:=h;exact h.lt
theorem RY.same(h:RY B s mb v0 v1 v2 gs vg gv F w)(hk:∀k∈iH s mb vg,w'.heap[k]?=w.heap[k]?)(hz:w.heap.size<=w'.heap.size)(eW:∀v l,IL w v l->aL (iH s mb vg) v->TI w v->IL w' v l/\TI w' v):RY B s mb v0 v1 v2 gs vg gv F w':=by
 refine ⟨h.ne,⟨h.hs.1,h.hs.2.1,Nat.le_trans h.hs.2.2 hz⟩,(hk s (by simp[iH])).trans h.cs,h.mv.kept (hk mb (by simp[iH])),h.says,aG h.own λg hg=>hk g (by simp[iH,aI,hg]),λi hi=>?_⟩
 obtain ⟨v,h1,h2,h3,h4⟩:=h.QM i hi;exact ⟨v,h1,(eW v _ h2 h3 h4).1,h3,(eW v _ h2 h3 h4).2⟩
theorem rX.later(h:rX B s mb v0 v1 v2 gs fp w)(hb:Below w.heap.size w w'):rX B s mb v0 v1 v2 gs fp w':=by
 obtain ⟨vg,gv,F,rfl,h⟩:=h;exact ⟨vg,gv,F,rfl,h.same (λk hk=>hb.block k (h.lt k hk).2) hb.size λv l hi _ ht=>⟨hi.later hb,ht.later hb⟩⟩
end
theorem RY.add{B s mb:Nat}{v0 v1 v2:Value}{gs:List (List Nat)}{vg:Value}{gv:List Value}{F:Lit->Option Value}{w w1 w2 w3:World}(h:RY B s mb v0 v1 v2 gs vg gv F w){l:List Nat}{v vg':Value}(hv:IL w v l)(ho:aL (iH s mb vg) v)(ht:TI w v)(hl:l∉gs)
  {n:Int} (hn:n=(gs.length:Int)) (fH:w.grownBy w1 (some mb)) (hm:MV Tryz.prog 9 mb (gs.length+1) (jQ F (.string (dP l)) (some (.int .i64 n))) w1)
  (hb:Below w1.heap.size w1 w2) (mg:w2.grownBy w3 vg.ownBlock) (hown:w3.ownsRow B 22 1 vg' (gs.length+1) (gv++[v])) (hf:vg'.ownBlock=vg.ownBlock\/∃g,vg'.ownBlock=some g/\w2.heap.size<=g) :
  rX B s mb v0 v1 v2 (gs++[l]) (iH s mb vg') (w3.setCell ⟨s,4,none⟩ vg')/\aj (iH s mb vg) (iH s mb vg') w (w3.setCell ⟨s,4,none⟩ vg'):=by
 obtain ⟨n1,n2,n3⟩:=h.ne;have hlt:=h.lt;have Zt:s<w.heap.size:=(hlt s (by simp[iH])).2
 have hlm:mb<w.heap.size:=(hlt mb (by simp[iH])).2
 have z1:=fH.size;have z2:=hb.size;have z3:=mg.size;have Dl:(w3.setCell ⟨s,4,none⟩ vg').heap.size=w3.heap.size:=by simp[World.setCell]
 have hblk:∀k,k<w.heap.size->k∉iH s mb vg->(w3.setCell ⟨s,4,none⟩ vg').heap[k]?=w.heap[k]?:=λk hk hn=>by
  unfold iH at hn;simp only[List.mem_cons,not_or,aI]at hn;rw[Below.heap_setCell _ _ _ _ hn.1,mg.block k Y (λe=>hn.2.2 e.symm),hb.block k Y,fH.block k hk (λe=>hn.2.1 (by injection e))]
 have lO:∀g,vg'.ownBlock=some g->vg.ownBlock=some g\/w.heap.size<=g:=λg hg=>by
  rcases hf with hf|⟨g',hf,xk⟩
  .left;rw[<-hf];exact hg
  .right;rw[hf]at hg;injection hg with hg;omega
 have ox:aj (iH s mb vg) (iH s mb vg') w (w3.setCell ⟨s,4,none⟩ vg'):=by
  refine ⟨mg.os.trans (hb.os.trans fH.os),mg.tape.trans (hb.tape.trans fH.tape),mg.output.trans (hb.output.trans fH.output),by rw[Dl];omega,hblk,λk hk=>?_⟩
  unfold iH at hk|-;simp only[List.mem_cons,aI]at hk|-;rcases hk with hk|hk|hk
  .exact .inl (.inl hk)
  .exact .inl (.inr (.inl hk))
  .exact (lO k hk).imp (λh=>.inr (.inr h)) id
 have Eo:vg'.ownBlock≠some s:=λe=>(lO s e).elim n2 λh=>Y;have qF:vg'.ownBlock≠some mb:=λe=>(lO mb e).elim n3 λh=>Y;refine ⟨⟨vg',gv++[v],_,rfl,⟨n1,Eo,qF⟩,⟨h.hs.1,h.hs.2.1,by rw[Dl];have:=h.hs.2.2;omega⟩,?_,?_,h.says.put l hl n hn,?_,λi hi=>?_⟩,ox⟩
 .have e1:w3.heap[s]?=some (.cells #[v0,v1,v2,.map (some mb),vg] 182 (0,0)):=by
   rw[mg.block s Y (λe=>n2 e.symm),hb.block s Y,fH.block s Zt (λe=>n1 (by injection e)),h.cs]
  have:=aS e1 4 vg';simpa using this
 .rw[List.length_append];exact hm.kept (by rw[Below.heap_setCell _ _ _ _ (λe=>n1 e.symm),mg.block mb Y (λe=>n3 e.symm),hb.block mb Y])
 .rw[List.length_append];exact aG hown λg hg=>Below.heap_setCell _ _ _ _ (λe=>Eo (by rw[hg,e]))
 .rw[List.length_append,List.length_singleton]at hi;have dR:gv.length=gs.length:=by have:=h.own.1;omega
  by_cases eW:i<gs.length
  .obtain ⟨u,u1,u2,u3,u4⟩:=h.QM i eW;obtain ⟨k1,k2⟩:=u2.keep u3 ox;refine ⟨u,by rw[List.getElem?_append_left Y];exact u1,?_,k2,u4.keep u3 ox⟩
   rw[List.getElem_append_left eW];exact k1
  .have:i=gs.length:=Y;subst this;obtain ⟨k1,k2⟩:=hv.keep ho ox;refine ⟨v,by rw[<-dR];simp,?_,k2,ht.keep ho ox⟩
   rw[List.getElem_append_right I];simpa using k1
theorem rX.cells{B s mb:Nat}{v0 v1 v2:Value}{gs:List (List Nat)}{fp:List Nat}{w:World}(h:rX B s mb v0 v1 v2 gs fp w):s<w.heap.size/\w.cell? ⟨s,0,none⟩=some v0/\w.cell? ⟨s,1,none⟩=some v1/\w.cell? ⟨s,2,none⟩=some v2:=by
 obtain ⟨vg,gv,F,rfl,h⟩:=h;refine ⟨(γ h.cs).1,?_,?_,?_⟩ <;> (rw[cell_of_row _ _ _ _ _ _ h.cs]; rfl)
theorem rX.grown{B s mb:Nat}{v0 v1 v2:Value}{gs:List (List Nat)}{fp:List Nat}{w w':World}(h:rX B s mb v0 v1 v2 gs fp w){B1 k n:Nat}{e:TypeId}{u:Value}{xs:List Value}(hu:w.ownsRow B1 e k u n xs)(he:e≠3)(ho:aL fp u)(hg:w.grownBy w' u.ownBlock):rX B s mb v0 v1 v2 gs fp w':=by
 obtain ⟨vg,gv,F,rfl,h⟩:=h;refine ⟨vg,gv,F,rfl,h.same (λk hk=>hg.block k (h.lt k hk).2 λe=>ho k e.symm hk) hg.size λv l hi _ ht=>?_⟩;have hn:=ht.ne hu he;refine ⟨?_,λg Bb=>?_⟩
 .rcases hi with hi|⟨g,f,c,rfl,h0,xk,hc,hcell⟩
  .exact .inl hi
  .exact .inr ⟨g,f,c,rfl,h0,Nat.lt_of_lt_of_le xk hg.size,hc,λi hi=>(χ g (f+i) (hg.block g xk λe=>hn g rfl e.symm)).trans (hcell i hi)⟩
 .obtain ⟨cs,m,e1⟩:=ht g Bb;exact ⟨cs,m,(hg.block g (γ e1).1 λe=>hn g Bb e.symm).trans e1⟩
theorem aj.grown{fp fp':List Nat}{w w1 w':World}{r:Option Nat}(hk:aj fp fp' w w1)(hg:w1.grownBy w' r)(hr:∀g,r=some g->w.heap.size<=g):aj fp fp' w w':=
 ⟨hg.os.trans hk.os,hg.tape.trans hk.tape,hg.output.trans hk.output,Nat.le_trans hk.size hg.size,λk h1 h2=>(hg.block k (Nat.lt_of_lt_of_le h1 hk.size) λe=>by have:=hr k e.symm;omega).trans (hk.blk k h1 h2),hk.new⟩
end
theorem _root_.Go.World.ownsRow.jW{w:World}{B B':Nat}{e:TypeId}{k:Nat}{v:Value}{n:Nat}{xs:List Value}(h:w.ownsRow B e k v n xs)(hB:B'<=B):w.ownsRow B' e k v n xs:=by
 refine ⟨h.1,?_⟩;rcases h.2 with h1|⟨g,cap,cur,h1,h2,rest⟩
 .exact .inl h1
 .exact .inr ⟨g,cap,cur,h1,Nat.le_trans hB h2,rest⟩
theorem bw{w w':World}{B:Nat}{e:TypeId}{k:Nat}{v:Value}{n:Nat}{xs:List Value}(h:w.ownsRow B e k v n xs)(hb:Below w.heap.size w w'):w'.ownsRow B e k v n xs:=aG h λg hg=>hb.block g (h.lt g hg).2
def Es(N B0:Nat)(A1 A2 B1 B2:Option Addr)(n1 c1 n2 c2 m1 d1 m2 d2:Nat)(ex ey:Bool)(xf xl yf yl:List Nat):Nat->Nat->Value->World->Prop
 |c,0,x,w=>x=.pointer (some ⟨N,0,none⟩)
 |c,1,x,w=>x=.slice A1 n1 c1
 |c,2,x,w=>x=.pointer (some ⟨N+1,0,none⟩)
 |c,3,x,w=>x=.slice B1 m1 d1
 |c,4,x,w=>∃g,x=.slice (some ⟨g,0,none⟩) 2 2/\g<w.heap.size/\w.cell? ⟨g,0,none⟩=some (.slice A1 n1 c1)/\w.cell? ⟨g,1,none⟩=some (.slice B1 m1 d1)
 |c,5,x,w=>∃A c',x=.slice A (n1+m1) c'/\w.ownsRow B0 3 1 x (n1+m1) (bV (xf++yf))
 |c,6,x,w=>x=.pointer (some ⟨N,1,none⟩)
 |c,7,x,w=>x=.slice A2 n2 c2
 |c,8,x,w=>x=.pointer (some ⟨N+1,1,none⟩)
 |c,9,x,w=>x=.slice B2 m2 d2
 |c,10,x,w=>∃g,x=.slice (some ⟨g,0,none⟩) 2 2/\g<w.heap.size/\w.cell? ⟨g,0,none⟩=some (.slice A2 n2 c2)/\w.cell? ⟨g,1,none⟩=some (.slice B2 m2 d2)
 |c,11,x,w=>∃A c',x=.slice A (n2+m2) c'/\w.ownsRow B0 3 1 x (n2+m2) (bV (xl++yl))
 |c,12,x,w=>x=.pointer (some ⟨N,2,none⟩)
 |c,13,x,w=>x=.bool ex
 |c,14,x,w=>x=.bool ex
 |c,15,x,w=>x=cond ex undef (.pointer (some ⟨N+1,2,none⟩))
 |c,16,x,w=>x=cond ex undef (.bool ey)
 | c,17,x,w=>x=.bool (ex || ey)
 | c,18,x,w=>∃a1 k1 a2 k2,x=.agg #[.slice a1 (n1+m1) k1,.slice a2 (n2+m2) k2,.bool (ex || ey)]/\w.ownsRow B0 3 1 (.slice a1 (n1+m1) k1) (n1+m1) (bV (xf++yf))/\w.ownsRow B0 3 1 (.slice a2 (n2+m2) k2) (n2+m2) (bV (xl++yl))
 |_,_,_,_=>True
theorem ni{N B0:Nat}{A1 A2 B1 B2:Option Addr}{n1 c1 n2 c2 m1 d1 m2 d2:Nat}{ex ey:Bool}{xf xl yf yl:List Nat}{u u':World}(hb:Below u.heap.size u u'){c j:Nat}{x:Value}
  (h:Es N B0 A1 A2 B1 B2 n1 c1 n2 c2 m1 d1 m2 d2 ex ey xf xl yf yl c j x u):Es N B0 A1 A2 B1 B2 n1 c1 n2 c2 m1 d1 m2 d2 ex ey xf xl yf yl c j x u':=by
 match j with
 |0|1|2|3|6|7|8|9|12|13|14|15|16|17=>exact h
 |4|10=>
  obtain ⟨g,e,hg,h0,h1⟩:=h;exact ⟨g,e,Nat.lt_of_lt_of_le hg hb.size,(hb.cl g 0 hg).trans h0,(hb.cl g 1 hg).trans h1⟩
 |5|11=>
  obtain ⟨A,c',e,ho⟩:=h;exact ⟨A,c',e,bw ho hb⟩
 |18=>
  obtain ⟨a1,k1,a2,k2,e,h1,h2⟩:=h;exact ⟨a1,k1,a2,k2,e,bw h1 hb,bw h2 hb⟩
 |_+19=>exact trivial
theorem uD(xf xl yf yl:List Nat)(ex ey:Bool)(YG YH YI YJ:Value)(w:World)(jt:IL w YG xf)(fZ:IL w YH xl)(K9:IL w YI yf)(AX:IL w YJ yl)(Ti:yf≠[])(Tj:yl≠[])
  (h1:xf.length<=10000000) (h2:xl.length<=10000000) (h3:yf.length<=10000000) (h4:yl.length<=10000000) :
  Calls Tryz.prog 162 #[.agg #[YG,YH,.bool ex],.agg #[YI,YJ,.bool ey]] w λe w'=>∃v1 v2,e=.returned (.agg #[v1,v2,.bool (ex || ey)])/\w'.ownsRow w.heap.size 3 1 v1 (xf.length+yf.length) (bV (xf++yf))/\w'.ownsRow w.heap.size 3 1 v2 (xl.length+yl.length) (bV (xl++yl))/\Below w.heap.size w w':=by
 obtain ⟨A1,c1,rfl,lY⟩:=jt.form;obtain ⟨A2,c2,rfl,qD⟩:=fZ.form;obtain ⟨B1,d1,rfl,hd1⟩:=K9.form;obtain ⟨B2,d2,rfl,kc⟩:=AX.form;have HI:=Z (H jt (H fZ (H K9 AX)));obtain ⟨n1,uq⟩:∃n,xf.length=n:=⟨_,rfl⟩;obtain ⟨n2,mX⟩:∃n,xl.length=n:=⟨_,rfl⟩;obtain ⟨m1,mo⟩:∃n,yf.length=n:=⟨_,rfl⟩;obtain ⟨m2,zY⟩:∃n,yl.length=n:=⟨_,rfl⟩;rw[uq,mX,mo,zY]at HI;rw[uq]at h1 lY|-;rw[mX]at h2 qD|-;rw[mo]at h3 hd1|-;rw[zY]at h4 kc|-;have HN:=Z (H uq (H mX (H mo zY)));clear jt fZ K9 AX uq mX mo zY
 go_enter Tryz.func162,Tryz.ntmps162
 go_wp2_with fail;obtain ⟨N,hN⟩:∃N,N=w.heap.size:=⟨_,rfl⟩;obtain ⟨WA,Wh⟩:∃W,W=(((w.alloc (.cells #[.slice A1 n1 c1,.slice A2 n2 c2,.bool ex] 184)).alloc (.cells #[.slice B1 m1 d1,.slice B2 m2 d2,.bool ey] 184)).alloc (.cells #[.slice none 0 0,.slice none 0 0,.bool false] 184)):=⟨_,rfl⟩;have IU:Below w.heap.size w WA:=by rw[Wh];exact ((υ.alloc I _).alloc ξ _).alloc ψ _
 have We:WA.heap.size=w.heap.size+3:=by rw[Wh];simp
 have r0:WA.heap[w.heap.size]?=some (.cells #[.slice A1 n1 c1,.slice A2 n2 c2,.bool ex] 184 (0,0)):=by rw[Wh,aB _ _ _ ψ,aB _ _ _ ξ];exact heap_alloc_new w _
 have r1:WA.heap[w.heap.size+1]?=some (.cells #[.slice B1 m1 d1,.slice B2 m2 d2,.bool ey] 184 (0,0)):=by rw[Wh,aB _ _ _ ξ];simpa using heap_alloc_new (w.alloc _) _
 have r2:WA.heap[w.heap.size+1+1]?=some (.cells #[.slice none 0 0,.slice none 0 0,.bool false] 184 (0,0)):=by rw[Wh];simpa using heap_alloc_new ((w.alloc _).alloc _) _
 rw[<-Wh];obtain ⟨p0,p1,p2⟩:=cells3 r0;obtain ⟨q0,q1,q2⟩:=cells3 r1;have I1:=Z (HI.out.1.later IU);have I2:=Z (HI.out.2.1.later IU);have J1:=Z (HI.out.2.2.1.later IU);have J2:=Z (HI.out.2.2.2.later IU);have Ps:=Z IU;have hsz:w.heap.size<=WA.heap.size:=Y;rw[<-hN]at r2 p0 p1 p2 q0 q1 q2|-;have rM:=Z r2;have l1:N<WA.heap.size:=Y;have l2:N+1<WA.heap.size:=Y;have l3:N+1+1<WA.heap.size:=Y;have kg:=Z hN;have jH:Below WA.heap.size WA WA.drew:=υ.drew;clear IU We r0 r1 r2 Wh hN;refine aQ 19 [] (Es N WA.heap.size A1 A2 B1 B2 n1 c1 n2 c2 m1 d1 m2 d2 ex ey xf xl yf yl) (λ_ w'=>Below WA.heap.size WA w') κ κ κ κ κ κ O jH ?_ ?_
 .simp only[eK,eL];refine ag.pure O ?_ (ag.pure O ?_ (ag.pure O ?_ (ag.pure O ?_ (ag.free O ?_ (ag.free O ?_ (ag.pure O ?_ (ag.pure O ?_ (ag.pure O ?_ (ag.pure O ?_ (ag.free O ?_ (ag.free O ?_ (ag.pure O ?_ (ag.pure O ?_ (ag.pure O ?_ (ag.pure O ?_ (ag.pure O ?_ (ag.pure O ?_ (ag.pure O ?_ (ag.nil)))))))))))))))))))
  all_goals first | (with_reducible intro v wz c dy hS hE K hK;simp only[ay,Act.put,gU,gV,gW,Nat.zero_add,Nat.reduceAdd,eK,eL]at hK|-) | (intro v wz hS hE K hK;simp only[ay,Act.put,gU,gV,gW,Nat.zero_add,Nat.reduceAdd,eK,eL]at hK|-)
  .exact ζ
  .have e0:v 0=_:=hE.1 rfl;rw[e0]at hK|-;have c1:=(hS.cl N 0 l1).trans p0;exact ζ
  .exact ζ
  .have e2:v 2=_:=hE.1 rfl;rw[e2]at hK|-;have c1:=(hS.cl (N+1) 0 l2).trans q0;exact ζ
  .have e1:v 1=_:=hE.1 rfl;have e3:v 3=_:=hE.2.1 rfl;rw[e1,e3]at hK|-;have dA:Below wz.heap.size wz (wz.alloc (.cells #[.slice A1 n1 c1,.slice B1 m1 d1] 22)):=υ.alloc I _;have HX:=Z hS;have vU:=Z dA;clear hS hE dy dA;go_wp2_with fail;exact hK.out _ _ (λj y _ h=>ni vU.out h) (HX.out.trans (vU.out.mono HX.out.size)) ⟨wz.heap.size,rfl,ξ,by go_simp,by go_simp⟩
  .have E4:=hE.1 rfl;obtain ⟨g,e4,hg,g0,g1⟩:=E4;rw[e4]at hK|-;have hz:=hS.size;have mI:=oO _ _ xf yf g 2 wz (I1.out.later hS) (J1.out.later hS) Ti (by have:=HN.out;omega) hg O g0 g1
   have My:=Z mI;have HX:=Z hS;clear hS hE dy mI g0 g1;go_wp2_with fail;refine My.out.mono ?_;rintro e w1 ⟨v1,rfl,hown,hb⟩;rw[List.length_append,HN.out.1,HN.out.2.2.1]at hown;have bh:w1.ownsRow WA.heap.size 3 1 v1 _ _:=hown.jW hz;obtain ⟨A',c',rfl,-,-⟩:=ar bh;have HO:=Z bh;have HB:=Z hb;clear hown bh hb;go_wp2_with fail;exact hK.out _ _ (λj y _ h=>ni HB.out h) (HX.out.trans (HB.out.mono HX.out.size)) ⟨A',c',rfl,HO.out⟩
  .exact ζ
  .have e6:v 6=_:=hE.1 rfl;rw[e6]at hK|-;have c1:=(hS.cl N 1 l1).trans p1;exact ζ
  .exact ζ
  .have e8:v 8=_:=hE.1 rfl;rw[e8]at hK|-;have c1:=(hS.cl (N+1) 1 l2).trans q1;exact ζ
  .have e7:v 7=_:=hE.1 rfl;have e9:v 9=_:=hE.2.1 rfl;rw[e7,e9]at hK|-;have dA:Below wz.heap.size wz (wz.alloc (.cells #[.slice A2 n2 c2,.slice B2 m2 d2] 22)):=υ.alloc I _;have HX:=Z hS;have vU:=Z dA;clear hS hE dy dA;go_wp2_with fail;exact hK.out _ _ (λj y _ h=>ni vU.out h) (HX.out.trans (vU.out.mono HX.out.size)) ⟨wz.heap.size,rfl,ξ,by go_simp,by go_simp⟩
  .have E10:=hE.1 rfl;obtain ⟨g,e4,hg,g0,g1⟩:=E10;rw[e4]at hK|-;have hz:=hS.size;have mI:=oO _ _ xl yl g 2 wz (I2.out.later hS) (J2.out.later hS) Tj (by have:=HN.out;omega) hg O g0 g1
   have My:=Z mI;have HX:=Z hS;clear hS hE dy mI g0 g1;go_wp2_with fail;refine My.out.mono ?_;rintro e w1 ⟨v1,rfl,hown,hb⟩;rw[List.length_append,HN.out.2.1,HN.out.2.2.2]at hown;have bh:w1.ownsRow WA.heap.size 3 1 v1 _ _:=hown.jW hz;obtain ⟨A',c',rfl,-,-⟩:=ar bh;have HO:=Z bh;have HB:=Z hb;clear hown bh hb;go_wp2_with fail;exact hK.out _ _ (λj y _ h=>ni HB.out h) (HX.out.trans (HB.out.mono HX.out.size)) ⟨A',c',rfl,HO.out⟩
  .exact ζ
  .have tl:v 12=_:=hE.1 rfl;rw[tl]at hK|-;have c1:=(hS.cl N 2 l1).trans p2;exact ζ
  .have wq:v 13=_:=hE.1 rfl;rw[wq]at hK|-;exact ζ
  .have xD:v 14=_:=hE.1 rfl;rw[xD]at hK|-
   cases ex
   all_goals
    exact ζ
  .have FK:v 15=_:=hE.1 rfl;have xD:v 14=_:=hE.2.1 rfl;rw[FK,xD]at hK|-;have c1:=(hS.cl (N+1) 2 l2).trans q2
   cases ex
   all_goals
    exact ζ
  .have xD:v 14=_:=hE.1 rfl;have e16:v 16=_:=hE.2.1 rfl;rw[xD,e16]at hK|-
   cases ex
   all_goals
    exact ζ
  .have e17:v 17=_:=hE.2.2.1 rfl;rw[e17]at hK|-;have E5:=hE.1 rfl;have LX:=hE.2.1 rfl;obtain ⟨a1,k1,h5,o5⟩:=E5;obtain ⟨a2,k2,Wi,Wj⟩:=LX;rw[h5]at o5;rw[Wi]at Wj;rw[h5,Wi]at hK|-;have HO:=Z (H o5 Wj);have HX:=Z hS;clear hS hE dy o5 Wj h5 Wi;go_wp2_with fail;exact hK.out _ ⟨a1,k1,a2,k2,rfl,HO.out.1,HO.out.2⟩
 .intro v wz hS hF;have e0:v 0=_:=hF 0 O;have e1:v 1=_:=hF 1 O;have e2:v 2=_:=hF 2 O;have e3:v 3=_:=hF 3 O;have e6:v 6=_:=hF 6 O;have e7:v 7=_:=hF 7 O;have e8:v 8=_:=hF 8 O;have e9:v 9=_:=hF 9 O;have tl:v 12=_:=hF 12 O;have wq:v 13=_:=hF 13 O;have xD:v 14=_:=hF 14 O;have FK:v 15=_:=hF 15 O;have e16:v 16=_:=hF 16 O;have e17:v 17=_:=hF 17 O;have E4:=hF 4 O;have E5:=hF 5 O;have E10:=hF 10 O;have LX:=hF 11 O;have Wk:=hF 18 O;simp only[ay,Act.put,gU,gV,gW,Nat.zero_add,Nat.reduceAdd,eK,eL,List.drop_succ_cons,List.drop_zero,e0,e1,e2,e3,e6,e7,e8,e9,tl,wq,xD,FK,e16,e17];clear hF e0 e1 e2 e3 e6 e7 e8 e9 tl wq xD FK e16 e17;obtain ⟨a1,k1,a2,k2,e18,o1,o2⟩:=Wk;rw[e18];have hr:=(hS.block _ l3).trans rM.out;obtain ⟨t0,t1,t2⟩:=cells3 hr;have f0:wz.frozen? ⟨N+1+1,0,none⟩=false:=by simp[World.frozen?,hr]
  have f1:wz.frozen? ⟨N+1+1,1,none⟩=false:=by simp[World.frozen?,hr]
  have f2:wz.frozen? ⟨N+1+1,2,none⟩=false:=by simp[World.frozen?,hr]
  have HO:=Z (H o1 (H o2 (H hS hr)));clear hS o1 o2 e18 E4 E5 E10 LX hr;go_wp2_with fail;refine az λW hW=>?_;refine bodyPost_ret (v:=.agg #[.slice a1 (n1+m1) k1,.slice a2 (n2+m2) k2,.bool (ex || ey)]) (by rw[hW];simp[results,Tryz.results162,go_sem,t0,t1,t2];try rfl) rfl ?_
  have hne:=kg.out;have xn:wz.grownBy W (some (N+1+1)):=by rw[hW];repeat (first|exact fj _ _|refine fu ?_ _|refine ec ?_ _ _|refine gY ?_)
  have tW:∀{v:Value} {n:Nat} {xs:List Value},wz.ownsRow WA.heap.size 3 1 v n xs->W.ownsRow w.heap.size 3 1 v n xs:=λh=>(aG h λg hg=>xn.block g (h.lt g hg).2 (λe=>by injection e with e;have:=(h.lt g hg).1;omega)).jW hsz
  exact ⟨_,_,rfl,tW HO.out.1,tW HO.out.2.1,(Ps.out.trans (HO.out.2.2.1.mono Ps.out.size)).grown xn (by have:=HO.out.2.2.1.size;omega) (λk hk=>by injection hk with hk;omega)⟩
-- How much longer the followers of a position may become.
mutual
def eU:Nd->Nat
 | .mk op _ kids _ mx=>if op=1 then 0 else if op=4 then mx.toNat*(VY kids+360000) else dK kids
def dK:List Nd->Nat
 | []=>0
 |k::r=>(eU k+360000)+dK r
def VY:List Nd->Nat
 | []=>0
 |k::_=>eU k
end
theorem j7:∀{l:List Nd} {k:Nd},k∈l->aW k<=b9 l
 |a::r,k,h=>by
  rw[b9];rcases List.mem_cons.1 h with rfl|h
  .omega
  .have:=j7 h;omega
theorem nO{rs:List (Nat×Nat)}{kids:List Nd}{op mn mx:Int}(hR:aA (.mk op rs kids mn mx)=true)(h:op=2\/op=3):2<=kids.length:=by
 have h1:=((iR _).1 hR).1;rw[qs (nd:=.mk op rs kids mn mx) h]at h1;simp only[vl,Bool.and_eq_true,decide_eq_true_eq]at h1;exact h1.1
theorem Gg:∀(m:Nat) (n:Nd),au n<=m->aA n=true->1<=aW n:=by
 intro m
 induction m with
 |zero=>intro n h;cases n;rw[au]at h;omega
 |succ m ih=>
  rintro ⟨op,rs,kids,mn,mx⟩ h hR;obtain ⟨ke,uB⟩:=dm hR;rw[au]at h;have wX:∀k∈kids,1<=aW k:=λk hk=>ih k (by have:=aF hk;omega) (aM uB hk)
  have Jb:2<=kids.length->1<=b9 kids:=λh2=>by
   match kids,h2 with
   |a::r,_=>have:=wX a ξ;have:=j7 (show a∈a::r by simp);omega
  rw[aW];rcases ke with rfl|rfl|rfl|⟨rfl,dS,Du,mo,zY⟩
  .simp
  .have:=Jb (nO hR (.inl rfl));simp;omega
  .have:=Jb (nO hR (.inr rfl));simp;omega
  .match kids,dS with
   | [a],_=>
    have h1:=wX a ξ;have h2:1*1<=mx.toNat*aW a:=Nat.mul_le_mul Y h1;simp[yY];omega
theorem jn{rs:List (Nat×Nat)}{kids:List Nd}{op mn mx:Int}(h:op=2\/op=3)(hp:aW (.mk op rs kids mn mx)<=600):aW (.mk op rs kids mn mx)=b9 kids:=by
 rw[aW]at hp|-;rw[if_neg Y,if_neg Y]at hp|-;omega
theorem tF{rs:List (Nat×Nat)}{kids:List Nd}{mn mx:Int}(hp:aW (.mk 4 rs kids mn mx)<=600):aW (.mk 4 rs kids mn mx)=mx.toNat*yY kids:=by
 rw[aW]at hp|-;rw[if_neg O,if_pos rfl]at hp|-;omega
theorem Vq:∀(m:Nat) (n:Nd),au n<=m->aA n=true->aW n<=600->eU n<=360000*(bP n*aW n):=by
 intro m
 induction m with
 |zero=>intro n h;cases n;rw[au]at h;omega
 |succ m ih=>
  rintro ⟨op,rs,kids,mn,mx⟩ h hR hp;have wI:=hp;obtain ⟨ke,uB⟩:=dm hR;rw[au]at h;have hpos:∀k∈kids,1<=aW k:=λk hk=>Gg _ k I (aM uB hk);have xK:∀(l:List Nd) (D:Nat),(∀k∈l,k∈kids)->(∀k∈l,bP k<=D)->(∀k∈l,aW k<=600)->dK l<=360000*((1+D)*b9 l):=by
   intro l D
   induction l with
   |nil=>intro _ _ _;rw[dK];exact Nat.zero_le _
   |cons a r ihl=>
    intro h1 h2 h3;have i1:=ihl (λk hk=>h1 k (by simp[hk])) (λk hk=>h2 k (by simp[hk])) (λk hk=>h3 k (by simp[hk]))
    have i2:=ih a (by have:=aF (h1 a ξ);omega) (aM uB (h1 a ξ)) (h3 a ξ)
    have i3:=hpos a (h1 a ξ);have i4:bP a*aW a<=D*aW a:=Nat.mul_le_mul_right _ (h2 a ξ);rw[dK,b9,Nat.mul_add,Nat.mul_add];have i5:(1+D)*aW a=aW a+D*aW a:=by rw[Nat.add_mul,Nat.one_mul]
    omega
  have hdk:∀(l:List Nd),∀k∈l,bP k<=bG l:=by
   intro l
   induction l with
   |nil=>intro k hk;cases hk
   |cons a r ihl=>
    intro k hk;rw[bG];rcases List.mem_cons.1 hk with rfl|hk
    .omega
    .have:=ihl k hk;omega
  rw[eU,bP];rcases ke with rfl|rfl|rfl|⟨rfl,dS,Du,mo,zY⟩
  .rw[if_pos rfl];exact Nat.zero_le _
  .rw[if_neg O,if_neg O,jn (.inl rfl) wI];rw[jn (.inl rfl) wI]at hp;exact xK kids _ (λ_ h=>h) (hdk kids) λk hk=>Nat.le_trans (j7 hk) hp
  .rw[if_neg O,if_neg O,jn (.inr rfl) wI];rw[jn (.inr rfl) wI]at hp;exact xK kids _ (λ_ h=>h) (hdk kids) λk hk=>Nat.le_trans (j7 hk) hp
  .rw[if_neg O,if_pos rfl,tF wI];rw[tF wI]at hp
   match kids,dS with
   | [a],_=>
    simp only[yY]at hp;simp only[VY,yY,bG,Nat.max_zero];have i1:=hpos a ξ;have i6:1*aW a<=mx.toNat*aW a:=Nat.mul_le_mul_right _ Y;have i2:=ih a (by have:=aF (show a∈[a] by simp);omega) (aM uB (show a∈[a] by simp)) Y
    have i7:eU a+360000<=360000*((1+bP a)*aW a):=by
     have:(1+bP a)*aW a=aW a+bP a*aW a:=by rw[Nat.add_mul,Nat.one_mul]
     omega
    have i8:=Nat.mul_le_mul_left mx.toNat i7;have e:mx.toNat*(360000*((1+bP a)*aW a))=360000*((1+bP a)*(mx.toNat*aW a)):=by
     rw[Nat.mul_left_comm,Nat.mul_left_comm mx.toNat]
    rw[<-e];exact i8
theorem Wr.iff{b b':Pb}{x:dC}{K K':LA}(h:Wr b b' x K)(hk:∀w,K.l w↔K'.l w)(ha:K.a=K'.a:=by rfl):Wr b b' x K':=⟨h.len,h.sets,h.fol,h.good,λw=>(h.gG w).trans (hk w),ha▸h.zO⟩
theorem Wr.amx{b b1:Pb}{y:dC}{a:Nd}{r:List Nd}(h:Wr b b1 y (gN a)):Wr b b1 y (gC (a::r) 1):=by
 obtain ⟨L,hL⟩:=h.zO;refine ⟨h.len,h.sets,h.fol,h.good,λw=>(h.gG w).trans ?_,_,hL.one (pV rfl)⟩;show bg a w↔(bg a w\/fM [] w);simp[fM]
theorem kC:∀{l:List Nat} {a n:Nat},l.Pairwise (·<·)->(∀p∈l,a<=p/\p<a+n)->l.length<=n
 | [],_,_,_,_=>Nat.zero_le _
 |p::r,a,n,h,hb=>by
  rw[List.pairwise_cons]at h;have hp:=hb p ξ;have:=kC (a:=p+1) (n:=a+n - (p+1)) h.2 (λq hq=>by have:=h.1 q hq;have:=hb q (by simp[hq]);omega)
  rw[List.length_cons];omega
def Qw(w0:World)(s:Nat)(x2 x3 x4:Value)(b:Pb)(fp:List Nat)(Lg:LA)(n K:Nat)(w:World)(e:Ending)(w':World):Prop:=
 ∃b' x fp' v1 v2,e=.returned (.agg #[v1,v2,.bool x.emp])/\pq w0 s x2 x3 x4 b' fp' w'/\aj fp fp' w w'/\(IL w' v1 x.first/\aL fp' v1)/\(IL w' v2 x.last/\aL fp' v2)/\Wr b b' x Lg/\b'.fol.length=b.fol.length+n/\(x.first≠[]/\x.last≠[])/\(x.first.length<=n/\x.last.length<=n)/\∀l∈b'.fol,l.length<=K
def jy(w0:World)(s:Nat)(x2 x3 x4:Value)(nd:Nd)(vs:List Value):Prop:=∀w b fp K,pq w0 s x2 x3 x4 b fp w->b.sets.length=b.fol.length->b.fol.length+aW nd<=600->(∀l∈b.fol,l.length<=K)->K+eU nd<=10000000000->
 Calls Tryz.prog 135 #[.pointer (some ⟨s,0,none⟩),.agg vs.toArray] w (Qw w0 s x2 x3 x4 b fp (gN nd) (aW nd) (K+eU nd) w)
theorem IL.pP{w:World}{v:Value}{l:List Nat}(h:IL w v l)(hl:l≠[]){N:Nat}{A1 A2:Option Addr}{n1 c1 n2 c2:Nat}{e:Bool}{T:TypeId}(hN:w.heap[N]?=some (.cells #[.slice A1 n1 c1,.slice A2 n2 c2,.bool e] T (0,0))):v.ownBlock≠some N:=by
 rcases h with ⟨h1,-⟩|⟨g,f,c,rfl,h0,hg,hc,hcell⟩
 .exact absurd h1 hl
 .intro e;simp[Value.ownBlock]at e;subst e;have h0':0<l.length:=by cases l with|nil=>exact absurd rfl hl|cons a r=>simp
  have h1:=hcell 0 h0';rw[cell_of_row _ _ _ _ _ _ hN]at h1
  match f,h1 with
  |0,h1=>simp at h1
  |1,h1=>simp at h1
  |2,h1=>simp at h1
  |f+3,h1=>simp at h1
theorem aj.oR{f1 f2:List Nat}{a b:World}(h:aj f1 f2 a b):aj f1 [] a b:=⟨h.os,h.tape,h.output,h.size,h.blk,λk hk=>by cases hk⟩
def I3(fp:List Nat)(W:World)(c:Nat)(wz:World):Prop:=aj fp [] W wz/\(c=0->Below W.heap.size W wz)
def CpR(w0:World)(s:Nat)(x2 x3 x4:Value)(b:Pb)(fp:List Nat)(Lg:LA)(pk KK:Nat)(xo:dC)(W:World)(x:Value)(w:World):Prop:=
 ∃b' y nU u1 u2,x=.agg #[u1,u2,.bool (bD xo y).emp]/\pq w0 s x2 x3 x4 (dj b' xo y) nU w/\aj fp nU W w/\(IL w u1 (bD xo y).first/\aL nU u1)/\(IL w u2 (bD xo y).last/\aL nU u2)/\Wr b b' y Lg/\b'.fol.length=b.fol.length+pk/\(y.first≠[]/\y.last≠[])/\(y.first.length<=pk/\y.last.length<=pk)/\∀l∈b'.fol,l.length<=KK
def VV(w0:World)(s:Nat)(x2 x3 x4:Value)(b:Pb)(fp:List Nat)(Lg:LA)(pk KK:Nat)(W:World)(N g f cK:Nat)(kF kH:Value)(eo:Bool)(kv:Value)(xo:dC):Nat->Nat->Value->World->Prop
 |c,0,x,w=>x=.pointer (some ⟨s,0,none⟩)
 |c,1,x,w=>x=.agg #[kF,kH,.bool eo]
 |c,2,x,w=>x=.pointer (some ⟨s,0,none⟩)
 |c,3,x,w=>x=.pointer (some ⟨N,2,none⟩)
 |c,4,x,w=>x=.slice (some ⟨g,f,none⟩) 1 cK
 |c,5,x,w=>x=.pointer (some ⟨g,f,none⟩)
 |c,6,x,w=>x=kv
 |c,7,x,w=>c=1->Qw w0 s x2 x3 x4 b fp Lg pk KK W (.returned x) w
 |c,8,x,w=>c=2->CpR w0 s x2 x3 x4 b fp Lg pk KK xo W x w
 |_,_,_,_=>True
def I4(b bi:Pb)(Lg:LA)(j i pk:Nat)(xo xa:dC):Prop:=
 Wr b bi xo (Mj Lg i)/\bi.fol.length=b.fol.length+i*pk/\(xo.first.length<=i*pk/\xo.last.length<=i*pk)/\(xa.first.length<=i*(i*pk)/\xa.last.length<=i*(i*pk))/\(i=0\/(xo.first≠[]/\xo.last≠[]))/\(i<j\/(yU b bi Lg j i xo xa/\xa.first≠[]/\xa.last≠[]))
theorem I4.step{b bi b':Pb}{Lg:LA}{j i pk:Nat}{xo xa y:dC}(h:I4 b bi Lg j i pk xo xa)(hy:Wr bi b' y Lg)(hl:b'.fol.length=bi.fol.length+pk)(hne:y.first≠[]/\y.last≠[])(lI:y.first.length<=pk/\y.last.length<=pk)(hj:1<=j):
  (i+1<j->I4 b (dj b' xo y) Lg j (i+1) pk (bD xo y) xa)/\(i+1=j->I4 b (dj b' xo y) Lg j (i+1) pk (bD xo y) (bD xo y))/\(j<i+1->I4 b (dj b' xo y) Lg j (i+1) pk (bD xo y) (lZ xa (bD xo y))/\xa.first≠[]/\xa.last≠[]):=by
 obtain ⟨hw,qG,ho,ha,h0,eH⟩:=h;have FG:Wr b (dj b' xo y) (bD xo y) (Mj Lg (i+1)):=hw.beh hy (n:=i) (F:=λ_=>Lg.a) rfl rfl;have VW:(dj b' xo y).fol.length=b.fol.length+(i+1)*pk:=by
  unfold dj;rw[iC,hl,qG,Nat.succ_mul];omega
 have gX:(bD xo y).first.length<=(i+1)*pk/\(bD xo y).last.length<=(i+1)*pk:=by
  unfold bD;rw[Nat.succ_mul];constructor
  .simp only;split
   .rw[List.length_append];omega
   .omega
  .simp only;split
   .rw[List.length_append];omega
   .omega
 have vX:(bD xo y).first≠[]/\(bD xo y).last≠[]:=by
  unfold bD;constructor
  .simp only;split
   .intro e;exact hne.1 (List.append_eq_nil_iff.1 e).2
   .next he=>
    rcases h0 with h0|h0
    .subst h0;exact absurd ((hw.gG []).2 rfl) he
    .exact h0.1
  .simp only;split
   .intro e;exact hne.2 (List.append_eq_nil_iff.1 e).2
   .exact hne.2
 have hq:i*(i*pk)<=(i+1)*((i+1)*pk):=Nat.mul_le_mul Y (Nat.mul_le_mul_right _ Y);have hq2:(i+1)*pk<=(i+1)*((i+1)*pk):=by
  have:=Nat.mul_le_mul_right ((i+1)*pk) (show 1<=i+1 by omega)
  rwa [Nat.one_mul]at this
 have hq3:i*(i*pk)+(i+1)*pk<=(i+1)*((i+1)*pk):=by
  have h1:i*(i*pk)<=i*((i+1)*pk):=Nat.mul_le_mul_left _ (Nat.mul_le_mul_right _ Y);have h2:(i+1)*((i+1)*pk)=i*((i+1)*pk)+(i+1)*pk:=Nat.succ_mul _ _;omega
 refine ⟨λhlt=>⟨FG,VW,gX,Y,.inr vX,.inl hlt⟩,λhe=>⟨FG,VW,gX,Y,.inr vX,.inr ⟨?_,vX⟩⟩,λhgt=>?_⟩
 .rw[he];rw[he]at FG;exact yU.start FG hj
 .have hr:=eH.resolve_left Y;refine ⟨⟨FG,VW,gX,?_,.inr vX,.inr ⟨hr.1.step hy Y hj,?_,?_⟩⟩,hr.2⟩
  .unfold lZ;simp only[List.length_append];omega
  .unfold lZ;intro e;exact hr.2.1 (List.append_eq_nil_iff.1 e).1
  .unfold lZ;intro e;exact hr.2.2 (List.append_eq_nil_iff.1 e).1
abbrev tE (w:World) (k:Nat) (a b c:Value):World:=((w.setCell ⟨k,0,none⟩ a).setCell ⟨k,1,none⟩ b).setCell ⟨k,2,none⟩ c
theorem yV{w:World}{k:Nat}{T:TypeId}{x y z:Value}(h:w.heap[k]?=some (.cells #[x,y,z] T (0,0)))(a b c:Value):(tE w k a b c).heap[k]?=some (.cells #[a,b,c] T (0,0)):=by
 have h1:=aS h 0 a;have h2:=aS h1 1 b;have h3:=aS h2 2 c;simpa using h3
theorem ic{w:World}{k k':Nat}(h:k'≠k)(a b c:Value):(tE w k a b c).heap[k']?=w.heap[k']?:=by
 unfold tE;rw[Below.heap_setCell _ _ _ _ h,Below.heap_setCell _ _ _ _ h,Below.heap_setCell _ _ _ _ h]
theorem pU(w:World)(k:Nat)(a b c:Value):(tE w k a b c).heap.size=w.heap.size:=by simp[tE,World.setCell]
theorem Ej(w:World)(k:Nat)(a b c:Value):w.grownBy (tE w k a b c) (some k):=ec (ec (ec (fj _ _) _ _) _ _) _ _
theorem IL.tE{w:World}{v:Value}{l:List Nat}(h:IL w v l){k:Nat}(hk:l≠[]->v.ownBlock≠some k)(a b c:Value):IL (tE w k a b c) v l:=by
 rcases h with h|⟨g,f,c',rfl,h0,hg,hc,hcell⟩
 .exact .inl h
 .have Zj:g≠k:=λe=>hk h0 (by rw[e];rfl)
  exact .inr ⟨g,f,c',rfl,h0,by rw[pU];exact hg,hc,λi hi=>(χ g (f+i) (ic Zj a b c)).trans (hcell i hi)⟩
structure gQ (w0:World) (s:Nat) (x2 x3 x4:Value) (fp:List Nat) (w:World) (nb:Array Value) (bi:Pb) (ep:List Nat) (xo:dC) (kF kH:Value) (xa:dC) (xy wK:Value) (wr:World):Prop where
 bu:pq w0 s x2 x3 x4 bi ep wr
 kf:aj fp ep w wr
 ap:∀q∈ep,q<w.heap.size\/w.heap.size+4<=q
 n0:wr.heap[w.heap.size]?=some (.cells nb 41 (0,0))
 n1:wr.heap[w.heap.size+1]?=some (.cells #[.slice none 0 0,.slice none 0 0,.bool false] 184 (0,0))
 n2:wr.heap[w.heap.size+1+1]?=some (.cells #[kF,kH,.bool xo.emp] 184 (0,0))
 n3:wr.heap[w.heap.size+1+1+1]?=some (.cells #[xy,wK,.bool xa.emp] 184 (0,0))
 sz:w.heap.size+4<=wr.heap.size
 o1:IL wr kF xo.first/\aL ep kF
 o2:IL wr kH xo.last/\aL ep kH
 a1:IL wr xy xa.first/\aL ep xy
 a2:IL wr wK xa.last/\aL ep wK
section
variable {w0:World} {s:Nat} {x2 x3 x4:Value} {fp:List Nat} {w:World} {nb:Array Value} {bi:Pb} {ep:List Nat} {xo:dC} {kF kH:Value} {xa:dC} {xy wK:Value} {wr:World}
theorem gQ.later(h:gQ w0 s x2 x3 x4 fp w nb bi ep xo kF kH xa xy wK wr){W:World}(hb:Below wr.heap.size wr W):gQ w0 s x2 x3 x4 fp w nb bi ep xo kF kH xa xy wK W:=by
 have hz:=h.sz;exact ⟨h.bu.later hb,h.kf.trans (aj.aa hb),h.ap,(hb.block _ Y).trans h.n0,(hb.block _ Y).trans h.n1,(hb.block _ Y).trans h.n2,(hb.block _ Y).trans h.n3,Nat.le_trans hz hb.size,⟨h.o1.1.later hb,h.o1.2⟩,⟨h.o2.1.later hb,h.o2.2⟩,⟨h.a1.1.later hb,h.a1.2⟩,⟨h.a2.1.later hb,h.a2.2⟩⟩
theorem eA(h:gQ w0 s x2 x3 x4 fp w nb bi ep xo kF kH xa xy wK wr)(k:Nat)(h1:w.heap.size<=k)(h2:k<w.heap.size+4):k∉ep:=λhm=>by have:=h.ap k hm;omega
theorem IL.apart{W:World}{v:Value}{l:List Nat}(h:IL W v l){k:Nat}{A1 A2:Option Addr}{m1 c1 m2 c2:Nat}{e:Bool}{T:TypeId}(hk:W.heap[k]?=some (.cells #[.slice A1 m1 c1,.slice A2 m2 c2,.bool e] T (0,0))):l≠[]->v.ownBlock≠some k:=λhl=>h.pP hl hk
theorem gQ.out(h:gQ w0 s x2 x3 x4 fp w nb bi ep xo kF kH xa xy wK wr){b2:Pb}{x':dC}{nU:List Nat}{u1 u2:Value}{wz:World}(aJ:pq w0 s x2 x3 x4 b2 nU wz)(bX:aj ep nU wr wz)(hu1:IL wz u1 x'.first/\aL nU u1)(uz:IL wz u2 x'.last/\aL nU u2)(hw:w0.heap.size<=w.heap.size):
  gQ w0 s x2 x3 x4 fp w nb b2 nU x' u1 u2 xa xy wK (tE wz (w.heap.size+1+1) u1 u2 (.bool x'.emp)):=by
 have hz:=h.sz;have hz2:=bX.size;have lO:∀q∈nU,q<w.heap.size\/w.heap.size+4<=q:=λq hq=>(bX.new q hq).elim (h.ap q) λh=>.inr Y;have hn:∀k,w.heap.size<=k->k<w.heap.size+4->k∉nU:=λk h1 h2 hm=>by have:=lO k hm;omega
 have m0:=(bX.blk _ Y (eA h _ I Y)).trans h.n0;have m1:=(bX.blk _ Y (eA h _ Y Y)).trans h.n1;have m2:=(bX.blk _ Y (eA h _ Y Y)).trans h.n2;have m3:=(bX.blk _ Y (eA h _ Y Y)).trans h.n3;have a1:=h.a1.1.keep h.a1.2 bX;have a2:=h.a2.1.keep h.a2.2 bX;obtain ⟨q1,q2⟩:=fY aJ (h.kf.trans bX) hw (show w.heap.size<=w.heap.size+1+1 by omega) Y (hn _ Y Y) (Ej wz (w.heap.size+1+1) u1 u2 (.bool x'.emp))
 obtain ⟨Dq,Dr,e1,-⟩:=h.o1.1.form;obtain ⟨Ds,Dt,e2,-⟩:=h.o2.1.form;rw[e1,e2]at m2;exact ⟨q1,q2,lO,(ic Y _ _ _).trans m0,(ic Y _ _ _).trans m1,yV m2 _ _ _,(ic Y _ _ _).trans m3,by rw[pU];omega,
  ⟨hu1.1.tE (hu1.1.apart m2) _ _ _,hu1.2⟩,⟨uz.1.tE (uz.1.apart m2) _ _ _,uz.2⟩,⟨a1.1.tE (a1.1.apart m2) _ _ _,a1.2⟩,⟨a2.1.tE (a2.1.apart m2) _ _ _,a2.2⟩⟩
theorem gQ.all(h:gQ w0 s x2 x3 x4 fp w nb bi ep xo kF kH xa xy wK wr){x':dC}{u1 u2:Value}(hu1:IL wr u1 x'.first/\aL ep u1)(uz:IL wr u2 x'.last/\aL ep u2)(hw:w0.heap.size<=w.heap.size):
  gQ w0 s x2 x3 x4 fp w nb bi ep xo kF kH x' u1 u2 (tE wr (w.heap.size+1+1+1) u1 u2 (.bool x'.emp)):=by
 have hz:=h.sz;have m3:=h.n3;obtain ⟨q1,q2⟩:=fY h.bu h.kf hw (show w.heap.size<=w.heap.size+1+1+1 by omega) Y (eA h _ Y Y) (Ej wr (w.heap.size+1+1+1) u1 u2 (.bool x'.emp))
 obtain ⟨Dq,Dr,e1,-⟩:=h.a1.1.form;obtain ⟨Ds,Dt,e2,-⟩:=h.a2.1.form;rw[e1,e2]at m3;exact ⟨q1,q2,h.ap,(ic Y _ _ _).trans h.n0,(ic Y _ _ _).trans h.n1,(ic Y _ _ _).trans h.n2,yV m3 _ _ _,by rw[pU];omega,
  ⟨h.o1.1.tE (h.o1.1.apart m3) _ _ _,h.o1.2⟩,⟨h.o2.1.tE (h.o2.1.apart m3) _ _ _,h.o2.2⟩,⟨hu1.1.tE (hu1.1.apart m3) _ _ _,hu1.2⟩,⟨uz.1.tE (uz.1.apart m3) _ _ _,uz.2⟩⟩
theorem gQ.emp(h:gQ w0 s x2 x3 x4 fp w nb bi ep xo kF kH xa xy wK wr)(e:Bool)(hw:w0.heap.size<=w.heap.size):gQ w0 s x2 x3 x4 fp w nb bi ep xo kF kH ⟨xa.first,xa.last,e⟩ xy wK (wr.setCell ⟨w.heap.size+1+1+1,2,none⟩ (.bool e)):=by
 have hz:=h.sz;have m3:=h.n3;have ho:∀k,k≠w.heap.size+1+1+1->(wr.setCell ⟨w.heap.size+1+1+1,2,none⟩ (.bool e)).heap[k]?=wr.heap[k]?:=λk hk=>Below.heap_setCell _ _ _ _ hk;have hsz:(wr.setCell ⟨w.heap.size+1+1+1,2,none⟩ (.bool e)).heap.size=wr.heap.size:=by simp[World.setCell]
 obtain ⟨q1,q2⟩:=fY h.bu h.kf hw (show w.heap.size<=w.heap.size+1+1+1 by omega) Y (eA h _ Y Y) (ec (fj wr _) 2 (.bool e))
 obtain ⟨Dq,Dr,e1,-⟩:=h.a1.1.form;obtain ⟨Ds,Dt,e2,-⟩:=h.a2.1.form;have eW:∀{v:Value} {l:List Nat},IL wr v l->IL (wr.setCell ⟨w.heap.size+1+1+1,2,none⟩ (.bool e)) v l:=λ{v l} hi=>by
  have xz:=hi;rw[e1,e2]at m3;have hne:=hi.apart m3;rcases hi with hi|⟨g,f,c',rfl,h0,hg,hc,hcell⟩
  .exact .inl hi
  .have Zj:g≠w.heap.size+1+1+1:=λe=>hne h0 (by rw[e];rfl)
   exact .inr ⟨g,f,c',rfl,h0,by rw[hsz];exact hg,hc,λi hi=>(χ g (f+i) (ho g Zj)).trans (hcell i hi)⟩
 exact ⟨q1,q2,h.ap,(ho _ Y).trans h.n0,(ho _ Y).trans h.n1,(ho _ Y).trans h.n2,by have:=aS h.n3 2 (.bool e);simpa using this,by rw[hsz];omega,
  ⟨eW h.o1.1,h.o1.2⟩,⟨eW h.o2.1,h.o2.2⟩,⟨eW h.a1.1,h.a1.2⟩,⟨eW h.a2.1,h.a2.2⟩⟩
end
theorem dB{c:Code}{P:Program}{Q:Exit->Act->World->Prop}{a:Act}{w:World}(h:∀W,W=w->c.wp P Q a W):c.wp P Q a w:=h w rfl
theorem VX{w0:World}{s:Nat}{x2 x3 x4:Value}{b:Pb}{fp rQ L L':List Nat}{w wr W:World}(hb:pq w0 s x2 x3 x4 b rQ wr)(hk:aj fp rQ w wr)(hw:w0.heap.size<=w.heap.size)(hL:∀k∈L,w.heap.size<=k/\k∉rQ)(hg:aj L L' wr W):pq w0 s x2 x3 x4 b rQ W/\aj fp rQ w W:=by
 have hlt:=hb.lt;have aT:=hb.eP;refine ⟨?_,⟨hg.os.trans hk.os,hg.tape.trans hk.tape,hg.output.trans hk.output,Nat.le_trans hk.size hg.size,λk h1 h2=>(hg.blk k (Nat.lt_of_lt_of_le h1 hk.size) (λhm=>by have:=(hL k hm).1;omega)).trans (hk.blk k h1 h2),λk h=>hk.new k h⟩⟩
 obtain ⟨vs,vf,rows,sv,rfl,h⟩:=hb;refine ⟨vs,vf,rows,sv,rfl,h.same (λk hk'=>hg.blk k (hlt k hk').2 (λhm=>(hL k hm).2 hk')) ?_⟩;exact h.eP.trans (hg.below (λk hm=>by have:=(hL k hm).1;omega) aT.size)
def yX(N3 B0:Nat)(W:World)(xy wK:Value)(l1 l2:List Nat)(ee:Bool):Nat->Nat->Value->World->Prop
 |c,0,x,w=>x=.pointer (some ⟨N3,0,none⟩)
 |c,1,x,w=>x=xy
 |c,2,x,w=>∃A c' r,x=.slice A r.length c'/\ku l1 r/\w.ownsRow B0 3 1 x r.length (bV r)
 |c,3,x,w=>x=.pointer (some ⟨N3,1,none⟩)
 |c,4,x,w=>x=wK
 |c,5,x,w=>∃A c' r,x=.slice A r.length c'/\ku l2 r/\w.ownsRow B0 3 1 x r.length (bV r)
 |c,6,x,w=>x=.pointer (some ⟨N3,0,none⟩)
 |c,7,x,w=>c=1->∃A c' r,ku l1 r/\w.ownsRow B0 3 1 (.slice A r.length c') r.length (bV r)/\w.heap[N3]?=some (.cells #[.slice A r.length c',wK,.bool ee] 184 (0,0))/\aj [N3] [] W w
 |c,8,x,w=>x=.pointer (some ⟨N3,1,none⟩)
 |_,_,_,_=>True
theorem uA{N3 B0:Nat}{W:World}{xy wK:Value}{l1 l2:List Nat}{ee:Bool}{u u':World}(hb:Below u.heap.size u u'){c j:Nat}{x:Value}(h:yX N3 B0 W xy wK l1 l2 ee c j x u):yX N3 B0 W xy wK l1 l2 ee c j x u':=by
 match j with
 |0|1|3|4|6|8=>exact h
 |2|5=>
  obtain ⟨A,c',r,e,hs,ho⟩:=h;exact ⟨A,c',r,e,hs,bw ho hb⟩
 |7=>
  intro hc;obtain ⟨A,c',r,hs,ho,hr,hk⟩:=h hc;exact ⟨A,c',r,hs,bw ho hb,(hb.block _ (γ hr).1).trans hr,hk.trans ⟨hb.os,hb.tape,hb.output,hb.size,λk hk _=>hb.block k hk,λk hk=>by cases hk⟩⟩
 |_+9=>exact trivial
theorem Ek(w0:World)(s:Nat)(x2 x3 x4:Value)(rs:List (Nat×Nat))(kd:Nd)(mn mx:Int)(A1:Option Addr)(c1 g f c:Nat)(wL:List Value)(hR:aA (.mk 4 rs [kd] mn mx)=true)(hpos:aW (.mk 4 rs [kd] mn mx)<=600)
  (hg:g<w0.heap.size) (hc:1<=c/\c<=9223372036854775807) (bS:bT w0 kd wL) (rY:∀j,j<5->w0.cell? ⟨g,f+j,none⟩=wL[j]?) (hw:jy w0 s x2 x3 x4 kd wL) (w:World) (b:Pb) (fp:List Nat) (K:Nat)
  (oN:pq w0 s x2 x3 x4 b fp w) (lI:b.sets.length=b.fol.length) (jF:b.fol.length+aW (.mk 4 rs [kd] mn mx)<=600) (hK:∀l∈b.fol,l.length<=K) (AY:K+eU (.mk 4 rs [kd] mn mx)<=10000000000) :
  Calls Tryz.prog 163 #[.pointer (some ⟨s,0,none⟩),.agg #[.int .i64 4,.slice A1 rs.length c1,.slice (some ⟨g,f,none⟩) 1 c,.int .i64 mn,.int .i64 mx]] w (Qw w0 s x2 x3 x4 b fp (gN (.mk 4 rs [kd] mn mx)) (aW (.mk 4 rs [kd] mn mx)) (K+eU (.mk 4 rs [kd] mn mx)) w):=by
 obtain ⟨B1,e1,B2,e2,rfl,-,-,-⟩:=bS.form;obtain ⟨ke,uB⟩:=dm hR;have hle:=El hR rfl;obtain ⟨-,-,Du,mo,zY⟩:(4:Int)=4/\[kd].length=1/\0<=mn/\1<=mx/\mx<=64:=by
  rcases ke with h|h|h|h
  .cases h
  .cases h
  .cases h
  .exact h
 obtain ⟨M,rfl⟩:=Int.eq_ofNat_of_zero_le (show 0<=mx by omega)
 obtain ⟨m,rfl⟩:=Int.eq_ofNat_of_zero_le Du;have vW:aW (.mk 4 rs [kd] m M)=M*aW kd:=by rw[tF hpos];simp[yY]
 have hce:eU (.mk 4 rs [kd] m M)=M*(eU kd+360000):=by rw[eU,if_neg O,if_pos rfl];simp[VY]
 rw[vW]at hpos jF|-;rw[hce]at AY|-;have rZ:∀z,bg (.mk 4 rs [kd] m M) z↔∃k,m<=k/\k<=M/\kh (bg kd) k z:=λz=>by
  simp only[bg,TN];rw[if_neg O,if_neg O,if_neg O];constructor
  .rintro ⟨k,h1,h2,h3⟩;exact ⟨k,Y,Y,h3⟩
  .rintro ⟨k,h1,h2,h3⟩;exact ⟨k,Y,Y,h3⟩
 obtain ⟨N,hN⟩:∃N,N=w.heap.size:=⟨_,rfl⟩;have vP:=oN.lt;have qJ:=oN.eP.size;have aiL:=Z oN;have ab4:=Z rZ;have aiM:=Z (show Hx m M 0 (gN kd).a=(gN (.mk 4 rs [kd] m M)).a by
  show _=TP (.mk 4 rs [kd] m M);rw[TP,if_neg O,if_neg O,if_neg O,pV (l:=[kd]) rfl,Int.toNat_natCast,Int.toNat_natCast];rfl)
 have HW:=Z hw;have HKC:=Z rY;have HK:=Z hK;have HFP:=Z vP;clear hR uB ke vW hce rZ oN hw rY hK vP bS
 go_enter Tryz.func163,Tryz.ntmps163
 go_wp2_with fail;obtain ⟨j,hj⟩:∃j,j=max m 1:=⟨_,rfl⟩;have hjm:max (m:Int) 1=(j:Int):=Y;have tv:1<=j:=Y;have hjM:j<=M:=Y;have ud:1<=M:=Y;have ar6:M<=64:=Y;have HJ:=Z hj;obtain ⟨pk,sa⟩:=ν (aW kd);obtain ⟨cs,hcs⟩:=ν (eU kd);rw[sa]at hpos jF|-;rw[hcs]at AY|-;have QN:=Z (H sa hcs);have ar7:M*pk<=600:=hpos;clear sa hcs hj;go_loopw [11] (λiv wr=>∃(i:Nat) (bi:Pb) (ep:List Nat) (xo:dC) (kF kH:Value) (xa:dC) (xy wK:Value),i<=M/\iv=.int .i64 (i:Int)/\Hid (gQ w0 s x2 x3 x4 fp w #[.int .i64 4,.slice A1 rs.length c1,.slice (some ⟨g,f,none⟩) 1 c,.int .i64 m,.int .i64 M] bi ep xo kF kH xa xy wK wr)/\Hid (I4 b bi (gN kd) j i pk xo xa/\∀l∈bi.fol,l.length<=K+i*(cs+360000))) (λiv _=>M - (intOf iv).toNat)
 case atStart=>
  refine ⟨0,b,fp,⟨[],[],true⟩,.slice none 0 0,.slice none 0 0,⟨[],[],false⟩,.slice none 0 0,.slice none 0 0,Y,rfl,?_,?_⟩
  .have hB:=(((((Below.refl w w).alloc I (.cells #[.int .i64 4,.slice A1 rs.length c1,.slice (some ⟨g,f,none⟩) 1 c,.int .i64 m,.int .i64 M] 41)).alloc ξ (.cells #[.slice none 0 0,.slice none 0 0,.bool false] 184)).alloc (by simp <;> omega) (.cells #[.slice none 0 0,.slice none 0 0,.bool true] 184)).alloc (by simp <;> omega) (.cells #[.slice none 0 0,.slice none 0 0,.bool false] 184))
   have hnil:∀(W:World) (fq:List Nat),IL W (.slice none 0 0) []/\aL fq (.slice none 0 0):=λW fq=>⟨.inl ⟨rfl,rfl⟩,λg hg=>by simp[Value.ownBlock]at hg⟩
   refine ⟨aiL.out.later hB,aj.aa hB,λq hq=>.inl (HFP.out q hq).2,?_,?_,?_,?_,ξ,hnil _ _,hnil _ _,hnil _ _,hnil _ _⟩
   .rw[aB _ _ _ (by simp <;> omega),aB _ _ _ (by simp <;> omega),aB _ _ _ ξ]; exact heap_alloc_new w _
   .rw[aB _ _ _ (by simp <;> omega),aB _ _ _ ξ]; simpa using heap_alloc_new (w.alloc _) _
   .rw[aB _ _ _ ξ];simpa using heap_alloc_new ((w.alloc _).alloc _) _
   .simpa using heap_alloc_new (((w.alloc _).alloc _).alloc _) _
  .refine ⟨⟨Wr.nil b lI _,by rw[Nat.zero_mul,Nat.add_zero],⟨Nat.zero_le _,Nat.zero_le _⟩,⟨Nat.zero_le _,Nat.zero_le _⟩,.inl rfl,.inl tv⟩,λl hl=>by rw[Nat.zero_mul,Nat.add_zero];exact HK.out l hl⟩
 case round=>
  obtain ⟨i,bi,ep,xo,kF,kH,xa,xy,wK,hi,rfl,HM,HI⟩:=hrel;by_cases hlt:i<M
  .have hd:decide ((i:Int)<(M:Int))=true:=τ;have cX:decide (i<M)=true:=decide_eq_true hlt;obtain ⟨Dq,Dr,rfl,-⟩:=HM.out.o1.1.form;obtain ⟨Ds,Dt,rfl,-⟩:=HM.out.o2.1.form;obtain ⟨Zk,Zl,rfl,-⟩:=HM.out.a1.1.form;obtain ⟨Zm,Zn,rfl,-⟩:=HM.out.a2.1.form;obtain ⟨eo,Ml⟩:=ν xo.emp;have hbi:=HM.out.bu;have jH:I3 ep wr 0 wr.drew:=⟨(aj.aa υ.drew).oR,λ_=>υ.drew⟩;have hsz:=HM.out.sz;have l0:w.heap.size<wr.heap.size:=Y;have l2:w.heap.size+1+1<wr.heap.size:=Y;have n0:=eA HM.out w.heap.size I Y;have n2:=eA HM.out (w.heap.size+1+1) Y Y;obtain ⟨b0,b1,b2,b3,b4⟩:=aw HM.out.n0;have mX:=HM.out.n2;rw[Ml]at mX;obtain ⟨o0,o1,o2⟩:=cells3 mX;have Pp:g∉ep:=λhm=>by have:=(hbi.lt g hm).1;omega
   have dR:g<wr.heap.size:=by have:=hbi.eP.size;omega
   have rY:=λ(wz:World) (h:wz.heap[g]?=wr.heap[g]?)=>(λj (hj:j<5)=>(χ g (f+j) (h.trans (hbi.eP.block g hg))).trans (HKC.out j hj));have aiO:=Z (show ∀wz:World,wz.heap[g]?=wr.heap[g]?->wz.cell? ⟨g,f,none⟩=some (.int .i64 kd.op)/\wz.cell? ⟨g,f+1,none⟩=some (.slice B1 kd.rs.length e1)/\wz.cell? ⟨g,f+2,none⟩=some (.slice B2 kd.kids.length e2)/\wz.cell? ⟨g,f+3,none⟩=some (.int .i64 kd.mn)/\wz.cell? ⟨g,f+4,none⟩=some (.int .i64 kd.mx) from
    λwz h=>⟨rY wz h 0 Y,rY wz h 1 Y,rY wz h 2 Y,rY wz h 3 Y,rY wz h 4 Y⟩)
   have O7:=Z hbi;have Gl:=Z (H HM.out.o1.1 (H HM.out.o1.2 (H HM.out.o2.1 HM.out.o2.2)));have vV:=HI.out.1;have hlen:=vV.1.len;have aiP:i*pk+pk<=M*pk:=by have:=Nat.mul_le_mul_right pk hlt;rwa [Nat.succ_mul]at this
   have qG:=vV.2.1;have jf:bi.fol.length+aW kd<=600:=by rw[QN.out.1,qG];omega
   have zQ:∀p∈xo.last,p<bi.fol.length:=λp hp=>(vV.1.good.ka p hp).2;have pj:=vV.2.2.1;obtain ⟨K0,nW⟩:∃K0,K0=K+i*(cs+360000):=⟨_,rfl⟩;have hKi:i*(cs+360000)+(cs+360000)<=M*(cs+360000):=by have:=Nat.mul_le_mul_right (cs+360000) hlt;rwa [Nat.succ_mul]at this
   have hKc:K0+eU kd<=10000000000:=by rw[QN.out.2];omega
   have QO:=Z (show ∀l∈bi.fol,l.length<=K0 from λl hl=>by rw[nW];exact HI.out.2 l hl)
   have YK:=Z zQ;have zZ:=Z pj;have TQ:=Z Ml;have Vr:=Z HW.out;have yZ:pk<=600:=Y;have ab7:aW kd<=600:=by rw[QN.out.1];exact yZ
   have I5:=Z nW;have YL:=Z qG;have fJ:=Z (H jf hlen);clear hbi rY vV qG zQ pj nW Ml mX;go_wp2_with fail;refine aQ 9 [7,8] (VV w0 s x2 x3 x4 bi ep (gN kd) (aW kd) (K0+eU kd) wr w.heap.size g f c (.slice Dq xo.first.length Dr) (.slice Ds xo.last.length Dt) eo (.agg #[.int .i64 kd.op,.slice B1 kd.rs.length e1,.slice B2 kd.kids.length e2,.int .i64 kd.mn,.int .i64 kd.mx]) xo) (λc w'=>I3 ep wr c w') κ κ κ κ κ κ O jH ?_ ?_
   .simp only[eK,eL];refine ag.pure O ?_ (ag.pure O ?_ (ag.pure O ?_ (ag.pure O ?_ (ag.pure O ?_ (ag.pure O ?_ (ag.pure O ?_ (ag.ur 0 rfl ?_ (ag.ur 1 rfl ?_ (ag.nil)))))))))
    all_goals first | (with_reducible intro v wz c dy hS hE K hK;simp only[ay,Act.put,gU,gV,gW,Nat.zero_add,Nat.reduceAdd,eK,eL]at hK|-) | (intro v wz hS hE K hK;simp only[ay,Act.put,gU,gV,gW,Nat.zero_add,Nat.reduceAdd,eK,eL]at hK|-)
    .exact ζ
    .have cx0:=(χ (w.heap.size+1+1) 0 (hS.1.blk (w.heap.size+1+1) l2 n2)).trans o0;have cx1:=(χ (w.heap.size+1+1) 1 (hS.1.blk (w.heap.size+1+1) l2 n2)).trans o1;have cx2:=(χ (w.heap.size+1+1) 2 (hS.1.blk (w.heap.size+1+1) l2 n2)).trans o2;exact ζ
    .exact ζ
    .exact ζ
    .have e3:v 3=_:=hE.1 rfl;rw[e3]at hK|-;have cn2:=(χ w.heap.size 2 (hS.1.blk w.heap.size l0 n0)).trans b2;exact ζ
    .have e4:v 4=_:=hE.1 rfl;rw[e4]at hK|-;exact ζ
    .have e5:v 5=_:=hE.1 rfl;rw[e5]at hK|-;obtain ⟨k0,k1,k2,k3,k4⟩:=aiO.out wz (hS.1.blk g dR Pp);exact ζ
    .have e2:v 2=_:=hE.1 rfl;have e6:v 6=_:=hE.2.1 rfl;rw[e2,e6]at hK|-;have hz:=hS.2 rfl;have aK:=Vr.out wz bi ep K0 (O7.out.later hz) fJ.out.2 fJ.out.1 QO.out hKc;have HC:=Z aK;have HX:=Z hS;clear hS hE aK;go_wp2_with fail;refine HC.out.mono ?_;rintro e wy ⟨b',y,fp',v1,v2,rfl,hb',hk',iW,eS,hw',iV,dW,eV,hK'⟩;have HP:=Z (H hb' (H hk' (H iW (H eS (H hw' (H iV (H dW (H eV hK'))))))));clear hb' hk' iW eS hw' iV dW eV hK';go_wp2_with fail;refine hK.out _ _ (λj z hj h=>?_) ⟨((aj.aa (HX.out.2 rfl)).trans HP.out.2.1).oR,λh=>by cases h⟩ (λ_=>⟨b',y,fp',v1,v2,rfl,HP.out.1,(aj.aa (HX.out.2 rfl)).trans HP.out.2.1,HP.out.2.2.1,HP.out.2.2.2.1,HP.out.2.2.2.2.1,HP.out.2.2.2.2.2.1,HP.out.2.2.2.2.2.2.1,HP.out.2.2.2.2.2.2.2.1,HP.out.2.2.2.2.2.2.2.2⟩)
     match j with
     |0|1|2|3|4|5|6=>exact h
     |7=>exact absurd rfl hj
     |8=>exact λh=>by cases h
     |_+9=>exact trivial
    .have e0:v 0=_:=hE.1 rfl;have e1:v 1=_:=hE.2.1 rfl;rw[e0,e1]at hK|-;have E7:=hE.2.2.1 rfl;obtain ⟨b',y,fp',v1,v2,ev,hb',hk',iW,eS,hw',iV,dW,eV,hK'⟩:=E7 rfl;injection ev with ev;rw[ev]at hK|-;have i1:=Gl.out.1.keep Gl.out.2.1 hk';have i2:=Gl.out.2.2.1.keep Gl.out.2.2.2 hk';have zQ:∀p∈xo.last,p<b'.fol.length:=λp hp=>by have:=YK.out p hp;omega
     have aK:=tR w0 s x2 x3 x4 b' fp' wz xo y _ _ v1 v2 _ hb' i1.1 i1.2 i2.1 i2.2 iW.1 iW.2 eS.1 eS.2 dW.1 dW.2 zQ (by have:=zZ.out;omega) (by have:=zZ.out;omega) Y Y hK' Y
     rw[TQ.out]at aK;have HC:=Z aK;have HX:=Z hS;have HP:=Z (H hb' (H hk' (H hw' (H iV (H dW (H eV hK'))))));clear hS hE aK hb' hk' iW eS hw' iV dW eV hK' i1 i2 zQ E7 ev;go_wp2_with fail;refine HC.out.mono ?_;rintro e wy ⟨nU,u1,u2,rfl,aJ,bX,j1,j2,j3,j4⟩;have HQ:=Z (H aJ (H bX (H j1 (H j2 (H j3 j4)))));clear aJ bX j1 j2 j3 j4;go_wp2_with fail;refine hK.out _ _ (λj z hj h=>?_) ⟨(HP.out.2.1.trans HQ.out.2.1).oR,λh=>by cases h⟩ (λ_=>⟨b',y,nU,u1,u2,rfl,HQ.out.1,HP.out.2.1.trans HQ.out.2.1,⟨HQ.out.2.2.1,HQ.out.2.2.2.1⟩,⟨HQ.out.2.2.2.2.1,HQ.out.2.2.2.2.2⟩,HP.out.2.2.1,HP.out.2.2.2.1,HP.out.2.2.2.2.1,HP.out.2.2.2.2.2.1,HP.out.2.2.2.2.2.2⟩)
     match j with
     |0|1|2|3|4|5|6=>exact h
     |7=>exact λh=>by cases h
     |8=>exact absurd rfl hj
     |_+9=>exact trivial
   .intro v wz hS hF;have e0:v 0=_:=hF 0 O;have e1:v 1=_:=hF 1 O;have e2:v 2=_:=hF 2 O;have e3:v 3=_:=hF 3 O;have e4:v 4=_:=hF 4 O;have e5:v 5=_:=hF 5 O;have e6:v 6=_:=hF 6 O;have E7:=hF 7 O;have E8:=hF 8 O;simp only[ay,Act.put,gU,gV,gW,Nat.zero_add,Nat.reduceAdd,eK,eL,List.drop_succ_cons,List.drop_zero,e0,e1,e2,e3,e4,e5,e6];clear hF e0 e1 e2 e3 e4 e5 e6;obtain ⟨b',y,nU,u1,u2,ev,aJ,bX,hu1,uz,Mm,iV,dW,eV,hK'⟩:=E8 rfl;rw[ev];obtain ⟨Au1,cu1,rfl,VZ⟩:=hu1.1.form;obtain ⟨Au2,V2,rfl,V3⟩:=uz.1.form;have kI:w0.heap.size<=w.heap.size:=qJ;have ud:=HM.out.out (x':=bD xo y) aJ bX hu1 uz kI;have tG:=Z ud;have gT:=HI.out.1.step Mm (by rw[iV,QN.out.1]) dW (by rw[QN.out.1]at eV;exact eV) tv
    have yF:∀l∈(dj b' xo y).fol,l.length<=K+(i+1)*(cs+360000):=λl hl=>by
     have h1:=yu y.first xo.last b'.fol _ hK' l hl;have h2:xo.last.length*y.first.length<=600*600:=Nat.mul_le_mul (by have:=zZ.out;omega) Y
     have h3:=I5.out;have h4:=QN.out.2;have h5:(i+1)*(cs+360000)=i*(cs+360000)+(cs+360000):=Nat.succ_mul _ _;omega
    have jG:=Z (H gT yF);obtain ⟨X,hX⟩:=ν (bD xo y);obtain ⟨B',hB'⟩:=ν (dj b' xo y);rw[hX,hB']at tG jG;rw[hX]at VZ V3|-;have hXl:X.first.length<=600/\X.last.length<=600:=by
     have h1:(i+1)*pk<=M*pk:=Nat.mul_le_mul_right _ hlt;rcases Nat.lt_trichotomy (i+1) j with h|h|h
     .have:=(jG.out.1.1 h).2.2.1;omega
     .have:=(jG.out.1.2.1 h).2.2.1;omega
     .have:=(jG.out.1.2.2 h).1.2.2.1;omega
    have hz0:=(bX.blk _ l0 n0).trans HM.out.n0;have hz2:=(bX.blk _ l2 n2).trans HM.out.n2;have Dl:=(bX.blk _ Y (eA HM.out (w.heap.size+1+1+1) Y Y)).trans HM.out.n3;obtain ⟨z0,z1,z2,z3,z4⟩:=aw hz0;obtain ⟨q0,q1,q2⟩:=cells3 hz2;obtain ⟨t0,t1,t2⟩:=cells3 Dl;have f0:wz.frozen? ⟨w.heap.size+1+1,0,none⟩=false:=by simp[World.frozen?,hz2]
    have f1:wz.frozen? ⟨w.heap.size+1+1,1,none⟩=false:=by simp[World.frozen?,hz2]
    have f2:wz.frozen? ⟨w.heap.size+1+1,2,none⟩=false:=by simp[World.frozen?,hz2]
    have g0:wz.frozen? ⟨w.heap.size+1+1+1,0,none⟩=false:=by simp[World.frozen?,Dl]
    have g1:wz.frozen? ⟨w.heap.size+1+1+1,1,none⟩=false:=by simp[World.frozen?,Dl]
    have g2:wz.frozen? ⟨w.heap.size+1+1+1,2,none⟩=false:=by simp[World.frozen?,Dl]
    clear hS E7 E8 ev aJ bX hu1 uz Mm iV dW eV hK' ud gT yF hz0 hz2 Dl b0 b1 b2 b3 b4 o0 o1 o2 hX hB' jH;rcases Nat.lt_trichotomy (i+1) j with Dg|Dg|Dg
    .have d1:((i:Int)+1 == (j:Int))=false:=ψ;have d2:decide ((m:Int)<(i:Int)+1)=false:=decide_eq_false (by have:=HJ.out;omega)
     have Kq:=Z Dg;clear Dg;go_wp2_with fail;go_roundw
     case rel=>
      exact ⟨i+1,_,_,_,_,_,_,_,_,Y,by go_num,tG,⟨jG.out.1.1 Kq.out,jG.out.2⟩⟩
     case measure=>exact μ
    .have d1:((i:Int)+1 == (j:Int))=true:=ψ;have Kq:=Z Dg;have uC:=tG.out.all tG.out.o1 tG.out.o2 kI;have z8:=Z uC;clear Dg uC;go_wp2_with fail;go_roundw
     case rel=>
      exact ⟨i+1,_,_,_,_,_,_,_,_,Y,by go_num,z8,⟨jG.out.1.2.1 Kq.out,jG.out.2⟩⟩
     case measure=>exact μ
    .have d1:((i:Int)+1 == (j:Int))=false:=ψ;have d2:decide ((m:Int)<(i:Int)+1)=true:=decide_eq_true (by have:=HJ.out;omega)
     have V4:=jG.out.1.2.2 Dg;have Mn:xa.first.length<=10000000/\xa.last.length<=10000000:=by
      have h1:=HI.out.1.2.2.2.1;have h2:i*(i*pk)<=64*(64*600):=Nat.mul_le_mul Y (Nat.mul_le_mul Y yZ);omega
     have QP:X.first≠[]/\X.last≠[]:=V4.1.2.2.2.2.1.resolve_left Y;have aK:∀W,W=tE wz (w.heap.size+1+1) (.slice Au1 X.first.length cu1) (.slice Au2 X.last.length V2) (.bool X.emp)->Calls Tryz.prog 162 #[.agg #[.slice Zk xa.first.length Zl,.slice Zm xa.last.length Zn,.bool xa.emp],.agg #[.slice Au1 X.first.length cu1,.slice Au2 X.last.length V2,.bool X.emp]] W _:=λW h=>by
      subst h;exact uD xa.first xa.last X.first X.last xa.emp X.emp _ _ _ _ _ tG.out.a1.1 tG.out.a2.1 tG.out.o1.1 tG.out.o2.1 QP.1 QP.2 Mn.1 Mn.2 Y Y
     have mJ:=Z aK;have HS3:=Z V4;have Kq:=Z Dg;have HXN:=Z QP;clear Dg V4 aK QP;go_wp2_with fail;refine (mJ.out _ rfl).mono ?_;rintro e w2 ⟨v1,v2,rfl,yM,sM,aY⟩;have uC:=tG.out.later aY;obtain ⟨Av1,cv1,rfl,-,-⟩:=ar yM;obtain ⟨UU,UW,rfl,-,-⟩:=ar sM;have hfq:∀q∈nU,q<(tE wz (w.heap.size+1+1) (.slice Au1 X.first.length cu1) (.slice Au2 X.last.length V2) (.bool X.emp)).heap.size:=λq hq=>(tG.out.bu.lt q hq).2;have TR:=uC.all (x':=lZ xa X) ⟨IL.fO yM (λ_ h=>HXN.out.1 (List.append_eq_nil_iff.1 h).2),λq hq hm=>by have:=(yM.lt q hq).1;have:=hfq q hm;omega⟩ ⟨IL.fO sM (λ_ h=>HXN.out.2 (List.append_eq_nil_iff.1 h).2),λq hq hm=>by have:=(sM.lt q hq).1;have:=hfq q hm;omega⟩ kI
     have V5:=Z TR;obtain ⟨t0',t1',t2'⟩:=cells3 uC.n3;have g0':w2.frozen? ⟨w.heap.size+1+1+1,0,none⟩=false:=by simp[World.frozen?,uC.n3]
     have g1':w2.frozen? ⟨w.heap.size+1+1+1,1,none⟩=false:=by simp[World.frozen?,uC.n3]
     have g2':w2.frozen? ⟨w.heap.size+1+1+1,2,none⟩=false:=by simp[World.frozen?,uC.n3]
     clear yM sM aY uC TR hfq t0 t1 t2 g0 g1 g2 q0 q1 q2 f0 f1 f2 z0 z1 z2 z3 z4;go_wp2_with fail;go_roundw
     case rel=>
      exact ⟨i+1,_,_,_,_,_,_,_,_,Y,by go_num,V5,⟨HS3.out.1,jG.out.2⟩⟩
     case measure=>exact μ
  .obtain rfl:i=M:=Y;obtain ⟨Dq,Dr,rfl,-⟩:=HM.out.o1.1.form;obtain ⟨Ds,Dt,rfl,-⟩:=HM.out.o2.1.form;obtain ⟨Zk,Zl,rfl,-⟩:=HM.out.a1.1.form;obtain ⟨Zm,Zn,rfl,-⟩:=HM.out.a2.1.form;obtain ⟨b0,b1,b2,b3,b4⟩:=aw HM.out.n0;obtain ⟨t0,t1,t2⟩:=cells3 HM.out.n3;obtain ⟨r0,r1,r2⟩:=cells3 HM.out.n1;have g2:wr.frozen? ⟨w.heap.size+1+1+1,2,none⟩=false:=by simp[World.frozen?,HM.out.n3]
   have kI:w0.heap.size<=w.heap.size:=qJ;have TS:=HI.out.1.2.2.2.2.2.resolve_left Y;have Mn:xa.first.length<=10000000/\xa.last.length<=10000000:=by
    have h1:=HI.out.1.2.2.2.1;have h2:i*(i*pk)<=64*600:=Nat.mul_le_mul Y Y;omega
   have HXR:=Z (H TS Mn);obtain ⟨ea,hea⟩:=ν xa.emp;rw[hea]at t2;have HEA:=Z hea;clear TS Mn hea;have fK:∀W,gQ w0 s x2 x3 x4 fp w #[.int .i64 4,.slice A1 rs.length c1,.slice (some ⟨g,f,none⟩) 1 c,.int .i64 m,.int .i64 i] bi ep xo (.slice Dq xo.first.length Dr) (.slice Ds xo.last.length Dt) ⟨xa.first,xa.last,(xa.emp || m == 0)⟩ (.slice Zk xa.first.length Zl) (.slice Zm xa.last.length Zn) W->w.heap.size+1+1+1<W.heap.size/\w.heap.size+1<W.heap.size:=λW h=>by have:=h.sz;omega
   have HPO:=Z fK;have Ko:∀(e:Bool) (W:World),(xa.emp || m == 0)=e->W=wr.setCell ⟨w.heap.size+1+1+1,2,none⟩ (.bool e)->gQ w0 s x2 x3 x4 fp w #[.int .i64 4,.slice A1 rs.length c1,.slice (some ⟨g,f,none⟩) 1 c,.int .i64 m,.int .i64 i] bi ep xo (.slice Dq xo.first.length Dr) (.slice Ds xo.last.length Dt) ⟨xa.first,xa.last,(xa.emp || m == 0)⟩ (.slice Zk xa.first.length Zl) (.slice Zm xa.last.length Zn) W:=λe W h1 h2=>by
    subst h1 h2;exact HM.out.emp _ kI
   have HE:=Z Ko;clear fK Ko;obtain ⟨q,d1⟩:∃q,((m:Int) == 0)=q:=⟨_,rfl⟩;have hq:(xa.emp || m == 0)=(ea || q):=by
    rw[HEA.out,<-d1]
    congr 1
    rw[Bool.eq_iff_iff];simp
   have HQ:=Z hq;clear hq
   cases ea <;> cases q
   all_goals
    go_wp2_with fail;refine dB λW hW=>?_;have hM:=HE.out _ W HQ.out hW;obtain ⟨l3,l1⟩:=HPO.out W hM;obtain ⟨q0,q1,q2⟩:=cells3 hM.n3;obtain ⟨Tl,Tm,Tn⟩:=cells3 hM.n1;clear hW t0 t1 t2 r0 r1 r2 b0 b1 b2 b3 b4 g2;have t0:=q0;have t1:=q1;have Eb:=Z hM;have HIA:=Z (show IL W (.slice Zk xa.first.length Zl) xa.first/\IL W (.slice Zm xa.last.length Zn) xa.last from ⟨hM.a1.1,hM.a2.1⟩);have aiW:=Z HIA.out.1;have aiX:=Z HIA.out.2;have HXA:=Z HXR.out.2;have HN3:=Z hM.n3;have jH:(0=0->Below W.heap.size W W.drew):=λ_=>υ.drew;clear hM q0 q1 q2;refine aQ 9 [7] (yX (w.heap.size+1+1+1) W.heap.size W (.slice Zk xa.first.length Zl) (.slice Zm xa.last.length Zn) xa.first xa.last (xa.emp || m == 0)) (λc w'=>c=0->Below W.heap.size W w') κ κ κ κ κ κ O jH ?_ ?_
    .simp only[eK,eL];refine ag.pure O ?_ (ag.pure O ?_ (ag.free O ?_ (ag.pure O ?_ (ag.pure O ?_ (ag.free O ?_ (ag.pure O ?_ (ag.ur 0 rfl ?_ (ag.pure O ?_ (ag.nil)))))))))
     all_goals first | (with_reducible intro v wz c dy hS hE K hK;simp only[ay,Act.put,gU,gV,gW,Nat.zero_add,Nat.reduceAdd,eK,eL]at hK|-) | (intro v wz hS hE K hK;simp only[ay,Act.put,gU,gV,gW,Nat.zero_add,Nat.reduceAdd,eK,eL]at hK|-)
     .exact ζ
     .have e0:v 0=_:=hE.1 rfl;rw[e0]at hK|-;have lW:c=0:=Nat.le_zero.1 (dy 0 κ);subst lW;have hz:=hS rfl;have c1:=(hz.cl (w.heap.size+1+1+1) 0 l3).trans t0;clear hz;exact ζ
     .have e1:v 1=_:=hE.1 rfl;rw[e1]at hK|-;have lW:c=0:=Nat.le_zero.1 (dy 0 κ);subst lW;have hz:=hS rfl;have aK:=iF _ xa.first wz (aiW.out.later hz) (by have:=HXA.out;omega)
      have HC:=Z aK;have HX:=Z hz;clear hS hE dy aK hz;go_wp2_with fail;refine HC.out.mono ?_;rintro e w1 ⟨v1,r,rfl,vQ,hown,-,hb⟩;have bh:w1.ownsRow W.heap.size 3 1 v1 _ _:=hown.jW HX.out.size;obtain ⟨A',c',rfl,-,-⟩:=ar bh;have HO:=Z bh;have HB:=Z hb;have YN:=Z vQ;clear hown bh hb vQ;go_wp2_with fail;exact hK.out _ _ (λj y _ h=>uA HB.out h) (λ_=>HX.out.trans (HB.out.mono HX.out.size)) ⟨A',c',r,rfl,YN.out,HO.out⟩
     .exact ζ
     .have e3:v 3=_:=hE.1 rfl;rw[e3]at hK|-;have lW:c=0:=Nat.le_zero.1 (dy 0 κ);subst lW;have hz:=hS rfl;have c1:=(hz.cl (w.heap.size+1+1+1) 1 l3).trans t1;clear hz;exact ζ
     .have e4:v 4=_:=hE.1 rfl;rw[e4]at hK|-;have lW:c=0:=Nat.le_zero.1 (dy 0 κ);subst lW;have hz:=hS rfl;have aK:=iF _ xa.last wz (aiX.out.later hz) (by have:=HXA.out;omega)
      have HC:=Z aK;have HX:=Z hz;clear hS hE dy aK hz;go_wp2_with fail;refine HC.out.mono ?_;rintro e w1 ⟨v1,r,rfl,vQ,hown,-,hb⟩;have bh:w1.ownsRow W.heap.size 3 1 v1 _ _:=hown.jW HX.out.size;obtain ⟨A',c',rfl,-,-⟩:=ar bh;have HO:=Z bh;have HB:=Z hb;have YN:=Z vQ;clear hown bh hb vQ;go_wp2_with fail;exact hK.out _ _ (λj y _ h=>uA HB.out h) (λ_=>HX.out.trans (HB.out.mono HX.out.size)) ⟨A',c',r,rfl,YN.out,HO.out⟩
     .exact ζ
     .have e6:v 6=_:=hE.1 rfl;rw[e6]at hK|-;have E2:=hE.2.1 rfl;obtain ⟨A,c',r,ev,vQ,ho⟩:=E2;rw[ev]at hK ho|-;have hz:=hS rfl;have Gh:=(hz.block _ l3).trans HN3.out;obtain ⟨c0',c1',c2'⟩:=cells3 Gh;have fz:wz.frozen? ⟨w.heap.size+1+1+1,0,none⟩=false:=by simp[World.frozen?,Gh]
      have HO:=Z ho;have HX:=Z hz;have HR:=Z Gh;have YN:=Z vQ;clear hS hE hz ho Gh vQ ev;go_wp2_with fail;have bo:∀k,k≠w.heap.size+1+1+1->(wz.setCell ⟨w.heap.size+1+1+1,0,none⟩ (.slice A r.length c')).heap[k]?=wz.heap[k]?:=λk hk=>Below.heap_setCell _ _ _ _ hk;have hoo:∀{v:Value} {n:Nat} {xs:List Value},wz.ownsRow W.heap.size 3 1 v n xs->(wz.setCell ⟨w.heap.size+1+1+1,0,none⟩ (.slice A r.length c')).ownsRow W.heap.size 3 1 v n xs:=λh=>aG h λg hg=>bo g (by have:=(h.lt g hg).1;omega)
      refine hK.out undef _ (λj z hj h=>?_) (λh=>by cases h) (λ_=>⟨A,c',r,YN.out,hoo HO.out,by have:=aS HR.out 0 (.slice A r.length c');simpa using this,?_⟩)
      .match j with
       |0|1|3|4|6|8=>exact h
       |2|5=>
        obtain ⟨A1',aaS,r1,e,hs,ho⟩:=h;exact ⟨A1',aaS,r1,e,hs,hoo ho⟩
       |7=>exact absurd rfl hj
       |_+9=>exact trivial
      .exact ⟨HX.out.os,HX.out.tape,HX.out.output,by simpa [World.setCell] using HX.out.size,λk hk hn=>(bo k (λe=>hn (by rw[e];simp))).trans (HX.out.block k hk),λk hk=>by cases hk⟩
     .exact ζ
    .intro v wz hS hF;have e0:v 0=_:=hF 0 O;have e1:v 1=_:=hF 1 O;have e3:v 3=_:=hF 3 O;have e4:v 4=_:=hF 4 O;have e6:v 6=_:=hF 6 O;have e8:v 8=_:=hF 8 O;have E2:=hF 2 O;have E5:=hF 5 O;have E7:=hF 7 O;simp only[ay,Act.put,gU,gV,gW,Nat.zero_add,Nat.reduceAdd,eK,eL,List.drop_succ_cons,List.drop_zero,e0,e1,e3,e4,e6,e8];clear hF e0 e1 e3 e4 e6 e8;obtain ⟨A7,c7,r1,acb,yM,hrow,ox⟩:=E7 rfl;obtain ⟨A5,c5,r2,ev5,acd,sM⟩:=E5;rw[ev5]at sM|-;obtain ⟨z0,z1,z2⟩:=cells3 hrow;have fz0:wz.frozen? ⟨w.heap.size+1+1+1,0,none⟩=false:=by simp[World.frozen?,hrow]
     have fz1:wz.frozen? ⟨w.heap.size+1+1+1,1,none⟩=false:=by simp[World.frozen?,hrow]
     have uE:=(ox.blk _ l1 ξ).trans Eb.out.n1;obtain ⟨y0,y1,y2⟩:=cells3 uE;have fy0:wz.frozen? ⟨w.heap.size+1,0,none⟩=false:=by simp[World.frozen?,uE]
     have fy1:wz.frozen? ⟨w.heap.size+1,1,none⟩=false:=by simp[World.frozen?,uE]
     have fy2:wz.frozen? ⟨w.heap.size+1,2,none⟩=false:=by simp[World.frozen?,uE]
     have HZ:=Z (H acb (H yM (H acd (H sM (H hrow ox)))));clear hS E2 E7 ev5 acb yM acd sM hrow ox uE;go_wp2_with fail;refine az λWf bY=>?_;have Zo:aj [w.heap.size+1+1+1,w.heap.size+1] [w.heap.size+1+1+1,w.heap.size+1] wz Wf:=by
      rw[bY];repeat (first|exact aj.refl _ _|refine jM ?_ _|refine oM ?_ ξ _|refine pF ?_)
     have ai0:aj [w.heap.size+1+1+1,w.heap.size+1] [] W Wf:=by
      have h1:=HZ.out.2.2.2.2.2;exact ⟨Zo.os.trans h1.os,Zo.tape.trans h1.tape,Zo.output.trans h1.output,Nat.le_trans h1.size Zo.size,λk hk hn=>(Zo.blk k (Nat.lt_of_lt_of_le hk h1.size) hn).trans (h1.blk k hk (λhm=>hn (by simp at hm;simp[hm]))),λk hk=>by cases hk⟩
     obtain ⟨q1,q2⟩:=VX Eb.out.bu Eb.out.kf kI (λk hk=>by
      simp at hk;exact ⟨Y,eA Eb.out k Y Y⟩) ai0
     refine bodyPost_ret (v:=.agg #[.slice A7 r1.length c7,.slice A5 r2.length c5,.bool (xa.emp || m == 0)]) (by rw[bY];simp[results,Tryz.results163,go_sem,y0,y1,y2,z0,z1,z2,l1,l3];try rfl) rfl ?_
     have hown:∀{v:Value} {n:Nat} {l:List Nat},wz.ownsRow W.heap.size 3 1 v n (bV l)->l≠[]->IL Wf v l/\aL ep v:=λ{v n l} h hl=>by
      have hsz:=Eb.out.sz;refine ⟨(IL.keep (IL.fO h λ_=>hl) (λg hg hm=>?_) Zo).1,λg hg hm=>?_⟩
      .have:=(h.lt g hg).1;simp at hm;omega
      .have:=(h.lt g hg).1;have:=(Eb.out.bu.lt g hm).2;omega
     have vV:=HI.out.1;have TS:=HXR.out.1;have hsA:=HZ.out.1;have hsB:=HZ.out.2.2.1;have PV:r1≠[]:=λe=>by
      cases hf:xa.first with
      |nil=>exact TS.2.1 hf
      |cons p l=>have:=(hsA.2 p).2 (by rw[hf];simp);rw[e]at this;cases this
     have vX:r2≠[]:=λe=>by
      cases hf:xa.last with
      |nil=>exact TS.2.2 hf
      |cons p l=>have:=(hsB.2 p).2 (by rw[hf];simp);rw[e]at this;cases this
     have qG:=vV.2.1;have DK:r1.length<=i*pk:=kC (a:=b.fol.length) hsA.1 λp hp=>by
      have:=vV.1.good.fst p (TS.1.fst p ((hsA.2 p).1 hp));omega
     have QQ:r2.length<=i*pk:=kC (a:=b.fol.length) hsB.1 λp hp=>by
      have:=TS.1.ka p ((hsB.2 p).1 hp);omega
     have aci:=TS.1.done ⟨r1,r2,(xa.emp || m == 0)⟩ hsA.2 hsB.2 m HJ.out Y rfl;obtain ⟨i1,o1⟩:=hown HZ.out.2.1 PV;obtain ⟨i2,o2⟩:=hown HZ.out.2.2.2.1 vX;refine ⟨bi,⟨r1,r2,(xa.emp || m == 0)⟩,ep,_,_,rfl,q1,q2,⟨i1,o1⟩,⟨i2,o2⟩,aci.iff (λz=>(ab4.out z).symm) aiM.out,by rw[QN.out.1];exact qG,⟨PV,vX⟩,by rw[QN.out.1];exact ⟨DK,QQ⟩,by rw[QN.out.2];exact HI.out.2⟩
def sC(rb:Nat)(w w':World):Prop:=aj [rb] [rb] w w'
theorem sC.tr{rb:Nat}{a b c:World}(h:sC rb a b)(k:sC rb b c):sC rb a c:=aj.trans h k
theorem bH{rb:Nat}{a b:World}(h:Below a.heap.size a b):sC rb a b:=aj.aa h
theorem iq{rb:Nat}{w:World}{o:Nat}{v:Value}:sC rb w (w.setCell ⟨rb,o,none⟩ v):=oM (aj.refl _ _) ξ _
theorem aH{P:Program}{f:FuncId}{args:Array Value}{Q:Ending->World->Prop}{w:World}(h:∀W,W=w->Calls P f args W Q):Calls P f args w Q:=h w rfl
def jd(pb:Nat)(t:ByteArray)(k:Int)(bad:Bool)(w:World):Prop:=w.heap[pb]?=some (.cells #[.string t,.int .i64 k,.bool bad] 143 (0,0))
section
variable {pb:Nat} {t:ByteArray} {k:Int} {bad:Bool} {w w':World}
theorem jd.later(h:jd pb t k bad w)(hb:Below w.heap.size w w'):jd pb t k bad w':=(hb.block pb (γ h).1).trans h
theorem jd.cells(h:jd pb t k bad w):(w.cell? ⟨pb,0,none⟩=some (.string t)/\w.cell? ⟨pb,1,none⟩=some (.int .i64 k)/\w.cell? ⟨pb,2,none⟩=some (.bool bad))/\(w.frozen? ⟨pb,1,none⟩=false/\w.frozen? ⟨pb,2,none⟩=false)/\pb<w.heap.size:=
 ⟨cells3 h,⟨by simp[World.frozen?,show w.heap[pb]?=_ from h],by simp[World.frozen?,show w.heap[pb]?=_ from h]⟩,(γ h).1⟩
theorem jd.at_(h:jd pb t k bad w)(k1:Int):jd pb t k1 bad (w.setCell ⟨pb,1,none⟩ (.int .i64 k1)):=by
 have:=aS h 1 (.int .i64 k1);simpa [jd] using this
theorem jd.XT(h:jd pb t k bad w)(b:Bool):jd pb t k b (w.setCell ⟨pb,2,none⟩ (.bool b)):=by
 have:=aS h 2 (.bool b);simpa [jd] using this
end
theorem st5{w Wf:World}{b:Nat}{a0 a1 a2 a3 a4:Value}(h:Wf=((((w.setCell ⟨b,0,none⟩ a0).setCell ⟨b,1,none⟩ a1).setCell ⟨b,2,none⟩ a2).setCell ⟨b,3,none⟩ a3).setCell ⟨b,4,none⟩ a4):(∀k,k≠b->Wf.heap[k]?=w.heap[k]?)/\Wf.heap.size=w.heap.size/\(Wf.os=w.os/\Wf.tape=w.tape/\Wf.output=w.output)/\
  ∀{o0 o1 o2 o3 o4:Value} {T:TypeId},w.heap[b]?=some (.cells #[o0,o1,o2,o3,o4] T (0,0))->Wf.heap[b]?=some (.cells #[a0,a1,a2,a3,a4] T (0,0)):=by
 subst h;refine ⟨λk hk=>?_,by simp[World.setCell],⟨rfl,rfl,rfl⟩,λ{o0 o1 o2 o3 o4 T} hb=>?_⟩
 .exact (Below.heap_setCell _ ⟨b,4,none⟩ _ k hk).trans ((Below.heap_setCell _ ⟨b,3,none⟩ _ k hk).trans ((Below.heap_setCell _ ⟨b,2,none⟩ _ k hk).trans ((Below.heap_setCell _ ⟨b,1,none⟩ _ k hk).trans (Below.heap_setCell _ ⟨b,0,none⟩ _ k hk))))
 .have:=aS (aS (aS (aS (aS hb 0 a0) 1 a1) 2 a2) 3 a3) 4 a4;simpa using this
theorem nI{pb b:Nat}{w w2 W9:World}(h:sC pb w w2)(hb:w.heap.size<=b)(h1:∀k,k≠b->W9.heap[k]?=w2.heap[k]?)(hs:W9.heap.size=w2.heap.size)(ho:W9.os=w2.os/\W9.tape=w2.tape/\W9.output=w2.output):sC pb w W9:=
 ⟨ho.1.trans h.os,ho.2.1.trans h.tape,ho.2.2.trans h.output,by rw[hs];exact h.size,λk hk hn=>(h1 k Y).trans (h.blk k hk hn),λk hk=>.inl hk⟩
theorem CN{w:World}{b:Nat}{cs:Array Value}{T:TypeId}(h:w.heap[b]?=some (.cells cs T (0,0))):w.frozen? ⟨b,0,none⟩=false/\w.frozen? ⟨b,1,none⟩=false/\w.frozen? ⟨b,2,none⟩=false/\w.frozen? ⟨b,3,none⟩=false/\w.frozen? ⟨b,4,none⟩=false:=
 ⟨by simp[World.frozen?,h],by simp[World.frozen?,h],by simp[World.frozen?,h],by simp[World.frozen?,h],by simp[World.frozen?,h]⟩
theorem gd(pb:Nat)(t:ByteArray)(k c:Int)(bad:Bool)(w:World)(h:jd pb t k bad w)(hlt:decide ((t.size:Int)<=k)=false)(XU:∀w,(Instr.index 9 (.string t) (.int .i64 k)).run Tryz.prog w=.ok (.int .u8 c) w):
  Calls Tryz.prog 116 #[.pointer (some ⟨pb,0,none⟩)] w λe w'=>e=.returned (.int .u8 c)/\Below w.heap.size w w':=by
 have d0:∀d:aN w.heap.size w,d.val.cell? ⟨pb,0,none⟩=some (.string t):=λd=>(h.later d.ah).cells.1.1;have d1:∀d:aN w.heap.size w,d.val.cell? ⟨pb,1,none⟩=some (.int .i64 k):=λd=>(h.later d.ah).cells.1.2.1;have d2:∀d:aN w.heap.size w,pb<d.val.heap.size:=λd=>(h.later d.ah).cells.2.2;have HP:=Z h;clear h
 go_enter Tryz.func116,Tryz.ntmps116
 go_wp2_with fail;refine aq (Below.refl w w) κ κ ?_
 repeat (go_big_quiet_step (fail))
 refine wpQuiet_nil ?_;intro w1 hw';have hw1:Below w.heap.size w w1:=by obtain ⟨d9,rfl⟩:=hw';exact d9.ah
 have HB:=Z hw1;clear hw' hw1 d0 d1 d2;have d0:∀d:aN w1.heap.size w1,d.val.cell? ⟨pb,0,none⟩=some (.string t):=λd=>((HP.out.later HB.out).later d.ah).cells.1.1;have d1:∀d:aN w1.heap.size w1,d.val.cell? ⟨pb,1,none⟩=some (.int .i64 k):=λd=>((HP.out.later HB.out).later d.ah).cells.1.2.1;have d2:∀d:aN w1.heap.size w1,pb<d.val.heap.size:=λd=>((HP.out.later HB.out).later d.ah).cells.2.2;go_wp2_with fail;refine aq (Below.refl w1 w1) κ κ ?_
 repeat (go_big_quiet_step (fail))
 refine wpQuiet_nil ?_;intro w2 hw';have ew:Below w1.heap.size w1 w2:=by obtain ⟨d9,rfl⟩:=hw';exact d9.ah
 have dr:=Z (HB.out.trans (ew.mono HB.out.size));clear hw' ew d0 d1 d2;go_wp2_with fail;go_ret;exact ⟨rfl,dr.out⟩
theorem N0(pb:Nat)(t:ByteArray)(k:Int)(bad:Bool)(w:World)(h:jd pb t k bad w)(hlt:decide ((t.size:Int)<=k)=true):
  Calls Tryz.prog 116 #[.pointer (some ⟨pb,0,none⟩)] w λe w'=>e=.returned (.int .u8 0)/\Below w.heap.size w w':=by
 have d0:∀d:aN w.heap.size w,d.val.cell? ⟨pb,0,none⟩=some (.string t):=λd=>(h.later d.ah).cells.1.1;have d1:∀d:aN w.heap.size w,d.val.cell? ⟨pb,1,none⟩=some (.int .i64 k):=λd=>(h.later d.ah).cells.1.2.1;have d2:∀d:aN w.heap.size w,pb<d.val.heap.size:=λd=>(h.later d.ah).cells.2.2;clear h
 go_enter Tryz.func116,Tryz.ntmps116
 go_wp2_with fail;refine aq (Below.refl w w) κ κ ?_
 repeat (go_big_quiet_step (fail))
 refine wpQuiet_nil ?_;intro w1 hw';have hw1:Below w.heap.size w w1:=by obtain ⟨d9,rfl⟩:=hw';exact d9.ah
 have HB:=Z hw1;clear hw' hw1 d0 d1 d2;go_wp2_with fail;go_ret;exact ⟨rfl,HB.out⟩
theorem Sd(pb:Nat)(t:ByteArray)(k k1 c:Int)(bad:Bool)(w:World)(h:jd pb t k bad w)(hlt:decide ((t.size:Int)<=k)=false)(XU:∀w,(Instr.index 9 (.string t) (.int .i64 k)).run Tryz.prog w=.ok (.int .u8 c) w)
  (hk:IntKind.i64.wrap (k+1)=k1) (hc:(c != 92)=true) :
  Calls Tryz.prog 197 #[.pointer (some ⟨pb,0,none⟩)] w λe w'=>e=.returned (.int .u8 c)/\jd pb t k1 bad w'/\sC pb w w':=by
 have HC:=Z (gd pb t k c bad w h hlt XU);have HP:=Z h;clear h XU hlt
 go_enter Tryz.func197,Tryz.ntmps197
 go_wp2_with fail;refine HC.out.mono ?_;rintro e w1 ⟨rfl,hb1⟩;obtain ⟨⟨c0,c1,c2⟩,⟨f1,f2⟩,hl⟩:=(HP.out.later hb1).cells;have HB:=Z hb1;clear hb1;go_wp2_with fail;refine az λWf bY=>?_;subst bY;refine bodyPost_ret (v:=.int .u8 c) (by simp[results,Tryz.results197,go_sem];try rfl) rfl ?_
 exact ⟨rfl,(HP.out.later HB.out).at_ k1,(bH HB.out).tr iq⟩
def tA:ByteArray:=⟨#[97,123,49,44,50,125]⟩
theorem Ft:decide ((tA.size:Int)<=0)=false:=O
theorem Fu(w:World):(Instr.index 9 (.string tA) (.int .i64 0)).run Tryz.prog w=.ok (.int .u8 97) w:=κ
theorem XV:decide ((tA.size:Int)<=1)=false:=O
theorem XW(w:World):(Instr.index 9 (.string tA) (.int .i64 1)).run Tryz.prog w=.ok (.int .u8 123) w:=κ
theorem XX:decide ((tA.size:Int)<=2)=false:=O
theorem XY(w:World):(Instr.index 9 (.string tA) (.int .i64 2)).run Tryz.prog w=.ok (.int .u8 49) w:=κ
theorem N1:decide ((tA.size:Int)<=3)=false:=O
theorem N4(w:World):(Instr.index 9 (.string tA) (.int .i64 3)).run Tryz.prog w=.ok (.int .u8 44) w:=κ
theorem XZ:decide ((tA.size:Int)<=4)=false:=O
theorem X0(w:World):(Instr.index 9 (.string tA) (.int .i64 4)).run Tryz.prog w=.ok (.int .u8 50) w:=κ
theorem N5:decide ((tA.size:Int)<=5)=false:=O
theorem N6(w:World):(Instr.index 9 (.string tA) (.int .i64 5)).run Tryz.prog w=.ok (.int .u8 125) w:=κ
theorem X1:decide ((tA.size:Int)<=6)=true:=O
theorem Sg(pb:Nat)(w:World)(h:jd pb tA 2 false w):Calls Tryz.prog 174 #[.pointer (some ⟨pb,0,none⟩)] w λe w'=>e=.returned (.int .i64 1)/\jd pb tA 3 false w'/\sC pb w w':=by
 have P1:=Z λW (h:jd pb tA 2 false W)=>gd pb tA 2 49 false W h XX XY;have P2:=Z λW (h:jd pb tA 3 false W)=>gd pb tA 3 44 false W h N1 N4;have HP:=Z h;have d0:∀d:aN w.heap.size w,d.val.cell? ⟨pb,1,none⟩=some (.int .i64 2):=λd=>(h.later d.ah).cells.1.2.1;have d1:∀d:aN w.heap.size w,pb<d.val.heap.size:=λd=>(h.later d.ah).cells.2.2;clear h
 go_enter Tryz.func174,Tryz.ntmps174
 go_wp2_with fail;refine aq (Below.refl w w) κ κ ?_
 repeat (go_big_quiet_step (fail))
 refine wpQuiet_nil ?_;intro w1 hw';have hw1:Below w.heap.size w w1:=by obtain ⟨d9,rfl⟩:=hw';exact d9.ah
 have aX:=Z hw1;clear hw' hw1 d0 d1;go_wp2_with fail;refine wp_loop_rounds 2 ?_;rw[rounds_succ];go_wp2_with fail;refine (P1.out w1 (HP.out.later aX.out)).mono ?_;rintro e w2 ⟨rfl,aJ⟩;have dr:=Z (aX.out.trans (aJ.mono aX.out.size));clear aJ;go_wp2_with fail;refine (P1.out w2 (HP.out.later dr.out)).mono ?_;rintro e w3 ⟨rfl,bW⟩;have jN:=Z (dr.out.trans (bW.mono dr.out.size));obtain ⟨⟨c0,c1,c2⟩,⟨f1,f2⟩,hl⟩:=(HP.out.later jN.out).cells;clear bW;go_wp2_with fail;clear c0 c1 c2 f1 f2 hl;refine (P1.out w3 (HP.out.later jN.out)).mono ?_;rintro e w4 ⟨rfl,dM⟩;have sO:=Z (jN.out.trans (dM.mono jN.out.size));obtain ⟨⟨c0,c1,c2⟩,⟨f1,f2⟩,hl⟩:=(HP.out.later sO.out).cells;clear dM;go_wp2_with fail;rw[rounds_succ];go_wp2_with fail;have Kl:jd pb tA 3 false (w4.setCell ⟨pb,1,none⟩ (.int .i64 3)):=(HP.out.later sO.out).at_ 3;have HK5:=Z ((bH sO.out).tr (iq (rb:=pb) (w:=w4) (o:=1) (v:=.int .i64 3)));refine (P2.out _ Kl).mono ?_;rintro e w6 ⟨rfl,oQ⟩;have HP6:=Z (Kl.later oQ);have HK6:=Z (HK5.out.tr (bH oQ));clear oQ Kl c0 c1 c2 f1 f2 hl;have HP7:=HP6;have HK7:=HK6;obtain ⟨⟨c0,c1,c2⟩,⟨f1,f2⟩,hl⟩:=HP7.out.cells;go_wp2_with fail;refine az λWf bY=>?_;subst bY;refine bodyPost_ret (v:=.int .i64 1) (by simp[results,Tryz.results174,go_sem];try rfl) rfl ?_
 exact ⟨rfl,HP7.out.XT false,HK7.out.tr iq⟩
theorem Sh(pb:Nat)(w:World)(h:jd pb tA 4 false w):Calls Tryz.prog 174 #[.pointer (some ⟨pb,0,none⟩)] w λe w'=>e=.returned (.int .i64 2)/\jd pb tA 5 false w'/\sC pb w w':=by
 have P1:=Z λW (h:jd pb tA 4 false W)=>gd pb tA 4 50 false W h XZ X0;have P2:=Z λW (h:jd pb tA 5 false W)=>gd pb tA 5 125 false W h N5 N6;have HP:=Z h;have d0:∀d:aN w.heap.size w,d.val.cell? ⟨pb,1,none⟩=some (.int .i64 4):=λd=>(h.later d.ah).cells.1.2.1;have d1:∀d:aN w.heap.size w,pb<d.val.heap.size:=λd=>(h.later d.ah).cells.2.2;clear h
 go_enter Tryz.func174,Tryz.ntmps174
 go_wp2_with fail;refine aq (Below.refl w w) κ κ ?_
 repeat (go_big_quiet_step (fail))
 refine wpQuiet_nil ?_;intro w1 hw';have hw1:Below w.heap.size w w1:=by obtain ⟨d9,rfl⟩:=hw';exact d9.ah
 have aX:=Z hw1;clear hw' hw1 d0 d1;go_wp2_with fail;refine wp_loop_rounds 2 ?_;rw[rounds_succ];go_wp2_with fail;refine (P1.out w1 (HP.out.later aX.out)).mono ?_;rintro e w2 ⟨rfl,aJ⟩;have dr:=Z (aX.out.trans (aJ.mono aX.out.size));clear aJ;go_wp2_with fail;refine (P1.out w2 (HP.out.later dr.out)).mono ?_;rintro e w3 ⟨rfl,bW⟩;have jN:=Z (dr.out.trans (bW.mono dr.out.size));obtain ⟨⟨c0,c1,c2⟩,⟨f1,f2⟩,hl⟩:=(HP.out.later jN.out).cells;clear bW;go_wp2_with fail;clear c0 c1 c2 f1 f2 hl;refine (P1.out w3 (HP.out.later jN.out)).mono ?_;rintro e w4 ⟨rfl,dM⟩;have sO:=Z (jN.out.trans (dM.mono jN.out.size));obtain ⟨⟨c0,c1,c2⟩,⟨f1,f2⟩,hl⟩:=(HP.out.later sO.out).cells;clear dM;go_wp2_with fail;rw[rounds_succ];go_wp2_with fail;have Kl:jd pb tA 5 false (w4.setCell ⟨pb,1,none⟩ (.int .i64 5)):=(HP.out.later sO.out).at_ 5;have HK5:=Z ((bH sO.out).tr (iq (rb:=pb) (w:=w4) (o:=1) (v:=.int .i64 5)));refine (P2.out _ Kl).mono ?_;rintro e w6 ⟨rfl,oQ⟩;have HP6:=Z (Kl.later oQ);have HK6:=Z (HK5.out.tr (bH oQ));clear oQ Kl c0 c1 c2 f1 f2 hl;go_wp2_with fail;refine (P2.out _ HP6.out).mono ?_;rintro e w7 ⟨rfl,dT⟩;have HP7:=Z (HP6.out.later dT);have HK7:=Z (HK6.out.tr (bH dT));clear dT;obtain ⟨⟨c0,c1,c2⟩,⟨f1,f2⟩,hl⟩:=HP7.out.cells;go_wp2_with fail;refine az λWf bY=>?_;subst bY;refine bodyPost_ret (v:=.int .i64 2) (by simp[results,Tryz.results174,go_sem];try rfl) rfl ?_
 exact ⟨rfl,HP7.out.XT false,HK7.out.tr iq⟩
def lfA(q:Nat):Value:=.agg #[.int .i64 1,.slice (some ⟨q,0,none⟩) 1 1,.slice none 0 0,.int .i64 0,.int .i64 0]
def Uq(q:Nat)(w:World):Prop:=w.heap[q]?=some (.cells #[.int .u8 97,.int .u8 97] 84 (0,0))
theorem X2(pb:Nat)(w:World)(h:jd pb tA 0 false w):Calls Tryz.prog 173 #[.pointer (some ⟨pb,0,none⟩)] w λe w'=>∃q,e=.returned (.agg #[.int .i64 1,.slice (some ⟨q,0,none⟩) 1 1,.slice none 0 0,.int .i64 0,.int .i64 0])/\w.heap.size<=q/\Uq q w'/\jd pb tA 1 false w'/\sC pb w w':=by
 have P1:=Z λW (h:jd pb tA 0 false W)=>gd pb tA 0 97 false W h Ft Fu;have P2:=Z λW (h:jd pb tA 0 false W)=>Sd pb tA 0 1 97 false W h Ft Fu rfl rfl;have HP:=Z h;have hl:=h.cells.2.2;clear h
 go_enter Tryz.func173,Tryz.ntmps173
 go_wp2_with fail;refine aH λW0 aP=>?_;have hb0:Below w.heap.size w W0:=by rw[aP];exact υ.alloc I _
 have hX:W0.heap[w.heap.size]?=some (.cells #[.int .i64 0,.slice none 0 0,.slice none 0 0,.int .i64 0,.int .i64 0] 41 (0,0)):=by rw[aP];exact heap_alloc_new w _
 have H0:=Z (H hb0 hX);clear aP hb0 hX;refine (P1.out W0 (HP.out.later H0.out.1)).mono ?_;rintro e w1 ⟨rfl,hb1⟩;have aX:=Z (H0.out.1.trans (hb1.mono H0.out.1.size));have IG:=Z ((hb1.block _ (γ H0.out.2).1).trans H0.out.2);clear hb1;go_wp2_with fail;refine (P2.out w1 (HP.out.later aX.out)).mono ?_;rintro e w2 ⟨rfl,sj,bX⟩;have vB:=(bX.blk _ (γ IG.out).1 (λhm=>by rw[List.mem_singleton]at hm;omega)).trans IG.out
 obtain ⟨x0,x1,x2,x3,x4⟩:=aw vB;have lx:w.heap.size<w2.heap.size:=(γ vB).1;obtain ⟨g0,g1,g2,g3,g4⟩:=CN vB;have H2:=Z (H sj (H bX vB));clear sj bX vB;go_wp2_with fail;refine az λWf bY=>?_;refine bodyPost_ret (v:=.agg #[.int .i64 1,.slice (some ⟨w2.heap.size,0,none⟩) 1 1,.slice none 0 0,.int .i64 0,.int .i64 0]) (by rw[bY];simp[results,Tryz.results173,go_sem,x0,x1,x2,x3,x4,lx];try rfl) rfl ?_
 obtain ⟨W9,qT⟩:∃W,W=((((w2.setCell ⟨w.heap.size,0,none⟩ (.int .i64 1)).setCell ⟨w.heap.size,1,none⟩ (.slice (some ⟨w2.heap.size,0,none⟩) 1 1)).setCell ⟨w.heap.size,2,none⟩ (.slice none 0 0)).setCell ⟨w.heap.size,3,none⟩ (.int .i64 0)).setCell ⟨w.heap.size,4,none⟩ (.int .i64 0):=⟨_,rfl⟩;rw[<-qT]at bY;obtain ⟨s1,s2,s3,-⟩:=st5 qT;have pR:sC pb w W9:=nI ((bH aX.out).tr H2.out.2.1) I s1 s2 s3;have ja:Below W9.heap.size W9 Wf:=by rw[bY];exact υ.alloc I _
 exact ⟨_,rfl,Y,by rw[bY,<-s2];exact heap_alloc_new W9 _,jd.later ((s1 pb Y).trans H2.out.1) ja,pR.tr (bH ja)⟩
def om(g q:Nat)(w:World):Prop:=w.heap[g]?=some (.cells #[.int .i64 1,.slice (some ⟨q,0,none⟩) 1 1,.slice none 0 0,.int .i64 0,.int .i64 0] 41 (0,0))/\Uq q w
theorem om.later{g q:Nat}{w w':World}(h:om g q w)(hb:Below w.heap.size w w'):om g q w':=
 ⟨(hb.block g (γ h.1).1).trans h.1,(hb.block q (γ h.2).1).trans h.2⟩
theorem om.kf{g q pb:Nat}{w w':World}(h:om g q w)(hk:sC pb w w')(hg:g≠pb)(hq:q≠pb):om g q w':=
 ⟨(hk.blk g (γ h.1).1 (by simpa using hg)).trans h.1,(hk.blk q (γ h.2).1 (by simpa using hq)).trans h.2⟩
theorem oH{pb b:Nat}{w w':World}{o:Obj}(hk:sC pb w w')(hb:b≠pb)(h:w.heap[b]?=some o):w'.heap[b]?=some o:=(hk.blk b (γ h).1 (by simpa using hb)).trans h
theorem X3(pb:Nat)(w:World)(h:jd pb tA 0 false w):Calls Tryz.prog 142 #[.pointer (some ⟨pb,0,none⟩)] w λe w'=>∃g q,e=.returned (.agg #[.int .i64 4,.slice none 0 0,.slice (some ⟨g,0,none⟩) 1 1,.int .i64 1,.int .i64 2])/\(w.heap.size<=g/\w.heap.size<=q)/\om g q w'/\jd pb tA 6 false w'/\sC pb w w':=by
 have hl:=h.cells.2.2;have HP:=Z h;clear h
 go_enter Tryz.func142,Tryz.ntmps142
 go_wp2_with fail;refine aH λW0 aP=>?_;have hb0:Below w.heap.size w W0:=by rw[aP];exact υ.alloc I _
 have hX:W0.heap[w.heap.size]?=some (.cells #[.int .i64 0,.slice none 0 0,.slice none 0 0,.int .i64 0,.int .i64 0] 41 (0,0)):=by rw[aP];exact heap_alloc_new w _
 have H0:=Z (H hb0 hX);clear aP hb0 hX;refine (X2 pb W0 (HP.out.later H0.out.1)).mono ?_;rintro e w1 ⟨q,rfl,hq,yq,ZA,dS⟩;have hz0:=H0.out.1.size;have hzX:=(γ H0.out.2).1;have aet:sC pb w w1:=(bH H0.out.1).tr dS;have iM:=oH dS Y H0.out.2;have H1:=Z (H yq (H ZA (H aet iM)));have hz1:=dS.size;clear yq ZA dS aet iM;go_wp2_with fail;refine aH λW2 gK=>?_;have aJ:Below w1.heap.size w1 W2:=by rw[gK];exact υ.alloc I _
 have hY:W2.heap[w1.heap.size]?=some (.cells #[.int .i64 1,.slice (some ⟨q,0,none⟩) 1 1,.slice none 0 0,.int .i64 0,.int .i64 0] 41 (0,0)):=by rw[gK];exact heap_alloc_new w1 _
 have H2:=Z (H aJ hY);clear gK aJ hY;refine (gd pb tA 1 123 false W2 (H1.out.2.1.later H2.out.1) XV XW).mono ?_;rintro e w3 ⟨rfl,bW⟩;have nY:Below w1.heap.size w1 w3:=H2.out.1.trans (bW.mono H2.out.1.size);have hp3:=H1.out.2.1.later nY;have Si:=(bW.block _ (γ H2.out.2).1).trans H2.out.2;obtain ⟨y0,y1,y2,y3,y4⟩:=aw Si;obtain ⟨⟨c0,c1,c2⟩,⟨f1,f2⟩,lp⟩:=hp3.cells;have ly:w1.heap.size<w3.heap.size:=(γ Si).1;have ne1:w1.heap.size≠pb:=Y;have ne2:pb≠w1.heap.size:=Y;have H3:=Z (H nY hp3);clear bW nY hp3 Si;go_wp2_with fail;refine aH λW4 hW4=>?_;have Ho:(w3.setCell ⟨pb,1,none⟩ (.int .i64 2)).heap.size=w3.heap.size:=by simp[World.setCell]
 have dM:Below w3.heap.size (w3.setCell ⟨pb,1,none⟩ (.int .i64 2)) W4:=by rw[hW4];exact (υ.alloc (by rw[Ho];exact I) _).alloc (by simp[World.setCell]) _
 have hG:W4.heap[w3.heap.size]?=some (.cells #[.int .i64 1,.slice (some ⟨q,0,none⟩) 1 1,.slice none 0 0,.int .i64 0,.int .i64 0] 41 (0,0)):=by
  rw[hW4,aB _ _ _ (by simp[World.setCell])]
  have h9:=heap_alloc_new (w3.setCell ⟨pb,1,none⟩ (.int .i64 2)) (.cells #[.int .i64 1,.slice (some ⟨q,0,none⟩) 1 1,.slice none 0 0,.int .i64 0,.int .i64 0] 41);rw[Ho]at h9;exact h9
 have hR:W4.heap[w3.heap.size+1]?=some (.cells #[.int .i64 4,.slice none 0 0,.slice (some ⟨w3.heap.size,0,none⟩) 1 1,.int .i64 0,.int .i64 0] 41 (0,0)):=by
  rw[hW4];have h9:=heap_alloc_new ((w3.setCell ⟨pb,1,none⟩ (.int .i64 2)).alloc (.cells #[.int .i64 1,.slice (some ⟨q,0,none⟩) 1 1,.slice none 0 0,.int .i64 0,.int .i64 0] 41)) (.cells #[.int .i64 4,.slice none 0 0,.slice (some ⟨w3.heap.size,0,none⟩) 1 1,.int .i64 0,.int .i64 0] 41);simpa [World.setCell] using h9
 have Z0:jd pb tA 2 false W4:=((H3.out.2.at_ 2).later (dM.mono (by rw[Ho];exact I)))
 have hk4:sC pb w W4:=((H1.out.2.2.1.tr (bH H3.out.1)).tr iq).tr (bH (dM.mono (by rw[Ho];exact I)))
 have KE:W4.heap[w.heap.size]?=_:=(dM.block _ Y).trans ((Below.heap_setCell w3 ⟨pb,1,none⟩ (.int .i64 2) w.heap.size (by show w.heap.size≠pb;omega)).trans ((H3.out.1.block _ Y).trans H1.out.2.2.2))
 have hq4:Uq q W4:=(dM.block _ (by have:=(γ H1.out.1).1;omega)).trans ((Below.heap_setCell w3 ⟨pb,1,none⟩ (.int .i64 2) q (by show q≠pb;omega)).trans ((H3.out.1.block _ (γ H1.out.1).1).trans H1.out.1))
 obtain ⟨g,hg⟩:=ν w3.heap.size;have hgw:w.heap.size<g:=Y;have hqg:q<g:=by have:=(γ H1.out.1).1;have:=H3.out.1.size;omega
 rw[hg]at hG hR|-;have H4:=Z (H Z0 (H hk4 (H KE (H (show om g q W4 from ⟨hG,hq4⟩) hR))));have hqw:w.heap.size<=q:=Y;clear hW4 dM hG hR Z0 hk4 KE hq4 y0 y1 y2 y3 y4 c0 c1 c2 f1 f2 lp ly ne1 ne2 Ho;refine (Sg pb W4 H4.out.1).mono ?_;rintro e w5 ⟨rfl,hp5,PA⟩;have Kd:=oH PA Y H4.out.2.2.2.2;have H5:=Z (H hp5 (H (H4.out.2.1.tr PA) (H (oH PA Y H4.out.2.2.1) (H (H4.out.2.2.2.1.kf PA Y Y) Kd))));obtain ⟨r0,r1,r2,r3,r4⟩:=aw Kd;obtain ⟨z0,z1,z2,z3,z4⟩:=CN Kd;have lr:g+1<w5.heap.size:=(γ Kd).1;clear hp5 PA Kd;go_wp2_with fail;refine aH λW6 BC=>?_;have hR6:W6.heap[g+1]?=some (.cells #[.int .i64 4,.slice none 0 0,.slice (some ⟨g,0,none⟩) 1 1,.int .i64 1,.int .i64 1] 41 (0,0)):=by
  rw[BC];have:=aS (aS H5.out.2.2.2.2 3 (.int .i64 1)) 4 (.int .i64 1);simpa using this
 have Uh:∀k,k≠g+1->W6.heap[k]?=w5.heap[k]?:=λk hk=>by rw[BC];exact (Below.heap_setCell _ ⟨g+1,4,none⟩ _ k hk).trans (Below.heap_setCell _ ⟨g+1,3,none⟩ _ k hk)
 have hz6:W6.heap.size=w5.heap.size:=by rw[BC];simp[World.setCell]
 have ho6:W6.os=w5.os/\W6.tape=w5.tape/\W6.output=w5.output:=by rw[BC];exact ⟨rfl,rfl,rfl⟩
 have hp6:jd pb tA 3 false W6:=(Uh pb Y).trans H5.out.1;have H6:=Z (H hp6 (H (nI H5.out.2.1 Y Uh hz6 ho6) (H ((Uh _ Y).trans H5.out.2.2.1) (H (show om g q W6 from ⟨(Uh g Y).trans H5.out.2.2.2.1.1,(Uh q Y).trans H5.out.2.2.2.1.2⟩) hR6))));clear BC hR6 Uh hz6 ho6 hp6 r0 r1 r2 r3 r4 z0 z1 z2 z3 z4 lr;refine (gd pb tA 3 44 false W6 H6.out.1 N1 N4).mono ?_;rintro e w7 ⟨rfl,dT⟩;have hp7:=H6.out.1.later dT;obtain ⟨⟨c0,c1,c2⟩,⟨f1,f2⟩,lp⟩:=hp7.cells;have GM:=(dT.block _ (γ H6.out.2.2.2.2).1).trans H6.out.2.2.2.2;have H7:=Z (H hp7 (H (H6.out.2.1.tr (bH dT)) (H ((dT.block _ (γ H6.out.2.2.1).1).trans H6.out.2.2.1) (H (H6.out.2.2.2.1.later dT) GM))));clear dT hp7 GM;go_wp2_with fail;refine aH λW8 hW8=>?_;have N7:sC pb w7 W8:=by rw[hW8];exact iq
 have hp8:jd pb tA 4 false W8:=by rw[hW8];exact H7.out.1.at_ 4
 have H8:=Z (H hp8 (H (H7.out.2.1.tr N7) (H (oH N7 Y H7.out.2.2.1) (H (H7.out.2.2.2.1.kf N7 Y Y) (oH N7 Y H7.out.2.2.2.2)))));clear hW8 N7 hp8 c0 c1 c2 f1 f2 lp;refine (Sh pb W8 H8.out.1).mono ?_;rintro e w9 ⟨rfl,Sj,pR⟩;have Pt:=oH pR Y H8.out.2.2.2.2;have H9:=Z (H Sj (H (H8.out.2.1.tr pR) (H (oH pR Y H8.out.2.2.1) (H (H8.out.2.2.2.1.kf pR Y Y) Pt))));obtain ⟨r0,r1,r2,r3,r4⟩:=aw Pt;obtain ⟨z0,z1,z2,z3,z4⟩:=CN Pt;have lr:g+1<w9.heap.size:=(γ Pt).1;obtain ⟨⟨c0,c1,c2⟩,⟨f1,f2⟩,lp⟩:=Sj.cells;have ne1:g+1≠pb:=Y;have ne2:pb≠g+1:=Y;clear Sj pR Pt;go_wp2_with fail;refine aH λSk N8=>?_;have aeu:Sk.heap[g+1]?=some (.cells #[.int .i64 4,.slice none 0 0,.slice (some ⟨g,0,none⟩) 1 1,.int .i64 1,.int .i64 2] 41 (0,0)):=by
  rw[N8];have:=aS H9.out.2.2.2.2 4 (.int .i64 2);simpa using this
 have JO:∀k,k≠g+1->Sk.heap[k]?=w9.heap[k]?:=λk hk=>by rw[N8];exact Below.heap_setCell _ ⟨g+1,4,none⟩ _ k hk
 have aev:Sk.heap.size=w9.heap.size:=by rw[N8];simp[World.setCell]
 have aew:Sk.os=w9.os/\Sk.tape=w9.tape/\Sk.output=w9.output:=by rw[N8];exact ⟨rfl,rfl,rfl⟩
 have aex:jd pb tA 5 false Sk:=(JO pb Y).trans H9.out.1;have Ap:=Z (H aex (H (nI H9.out.2.1 Y JO aev aew) (H ((JO _ Y).trans H9.out.2.2.1) (H (show om g q Sk from ⟨(JO g Y).trans H9.out.2.2.2.1.1,(JO q Y).trans H9.out.2.2.2.1.2⟩) aeu))));clear N8 aeu JO aev aew aex r0 r1 r2 r3 r4 z0 z1 z2 z3 z4 lr c0 c1 c2 f1 f2 lp;refine (gd pb tA 5 125 false Sk Ap.out.1 N5 N6).mono ?_;rintro e w11 ⟨rfl,oZ⟩;have X4:=Ap.out.1.later oZ;obtain ⟨⟨c0,c1,c2⟩,⟨f1,f2⟩,lp⟩:=X4.cells;have Sm:=(oZ.block _ (γ Ap.out.2.2.2.2).1).trans Ap.out.2.2.2.2;have Oa:=(oZ.block _ (γ Ap.out.2.2.1).1).trans Ap.out.2.2.1;obtain ⟨r0,r1,r2,r3,r4⟩:=aw Sm;obtain ⟨x0,x1,x2,x3,x4⟩:=aw Oa;obtain ⟨z0,z1,z2,z3,z4⟩:=CN Oa;have lr:g+1<w11.heap.size:=(γ Sm).1;have lx:w.heap.size<w11.heap.size:=(γ Oa).1;have ne3:w.heap.size≠pb:=Y;have ne4:pb≠w.heap.size:=Y;have H11:=Z (H X4 (H (Ap.out.2.1.tr (bH oZ)) (H Oa (H (Ap.out.2.2.2.1.later oZ) Sm))));clear oZ X4 Sm Oa;go_wp2_with fail;refine az λWf bY=>?_;refine bodyPost_ret (v:=.agg #[.int .i64 4,.slice none 0 0,.slice (some ⟨g,0,none⟩) 1 1,.int .i64 1,.int .i64 2]) (by rw[bY];simp[results,Tryz.results142,go_sem,x0,x1,x2,x3,x4,lx,ne3,ne4];try rfl) rfl ?_
 obtain ⟨V,hV⟩:∃V,V=(w11.setCell ⟨pb,2,none⟩ (.bool false)).setCell ⟨pb,1,none⟩ (.int .i64 6):=⟨_,rfl⟩;rw[<-hV]at bY;obtain ⟨s1,s2,s3,-⟩:=st5 bY;have hkV:sC pb w11 V:=by rw[hV];exact iq.tr iq
 have hpV:jd pb tA 6 false V:=by rw[hV];exact (H11.out.1.XT false).at_ 6
 have pR:sC pb w Wf:=nI (H11.out.2.1.tr hkV) I s1 s2 s3;have hLV:=H11.out.2.2.2.1.kf hkV Y Y;exact ⟨g,q,rfl,⟨Y,Y⟩,⟨(s1 g Y).trans hLV.1,(s1 q Y).trans hLV.2⟩,(s1 pb Y).trans hpV,pR⟩
theorem Ob:(Tryz.prog.info? 41).map (λi=>(i.zero,i.size,i.bytes))=some (some (.agg #[.int .i64 0,.slice none 0 0,.slice none 0 0,.int .i64 0,.int .i64 0]),5,72):=κ
theorem dD{P:Program}{c:Code}{Q:Exit->Act->World->Prop}{a:Act}{w:World}(h:∀W,W=w->c.wp P Q a W):c.wp P Q a w:=h w rfl
theorem Sn{w:World}{B n c:Nat}{e:TypeId}{xs:List Value}{A:Option Addr}(h:w.ownsRow B e 5 (.slice A n c) n xs)(hn:0<n):∃g,A=some ⟨g,0,none⟩/\B<=g/\g<w.heap.size/\∀j,j<5->w.cell? ⟨g,j,none⟩=xs[j]?:=by
 rcases h.2 with ⟨h1,h2⟩|⟨g,cap,cur,h1,hB,hg,-⟩
 .exfalso;injection h1 with h1 h1';omega
 .injection h1 with h1 _ h3;subst h1;exact ⟨g,rfl,hB,(γ hg).1,λj hj=>World.ownsRow.cellAt h j Y⟩
theorem aey(pb:Nat)(w:World)(h:jd pb tA 0 false w):Calls Tryz.prog 115 #[.pointer (some ⟨pb,0,none⟩)] w λe w'=>∃g q,e=.returned (.agg #[.int .i64 4,.slice none 0 0,.slice (some ⟨g,0,none⟩) 1 1,.int .i64 1,.int .i64 2])/\(w.heap.size<=g/\w.heap.size<=q)/\om g q w'/\jd pb tA 6 false w'/\sC pb w w':=by
 have hl:=h.cells.2.2;have HP:=Z h;obtain ⟨ie,rJ,hZ,dS,bX⟩:=info_parts Ob;clear h
 go_enter Tryz.func115,Tryz.ntmps115
 go_wp2_with fail;refine dD λW0 aP=>?_;have hb0:Below w.heap.size w W0:=by rw[aP];exact υ.alloc I _
 have hX:W0.heap[w.heap.size]?=some (.cells #[.int .i64 0,.slice none 0 0,.slice none 0 0,.int .i64 0,.int .i64 0] 41 (0,0)):=by rw[aP];exact heap_alloc_new w _
 have Oc:=HP.out.later hb0;have d0:∀d:aN W0.heap.size W0,d.val.cell? ⟨pb,0,none⟩=some (.string tA):=λd=>(Oc.later d.ah).cells.1.1;have d1:∀d:aN W0.heap.size W0,d.val.cell? ⟨pb,1,none⟩=some (.int .i64 0):=λd=>(Oc.later d.ah).cells.1.2.1;have d2:∀d:aN W0.heap.size W0,d.val.cell? ⟨pb,2,none⟩=some (.bool false):=λd=>(Oc.later d.ah).cells.1.2.2;have d3:∀d:aN W0.heap.size W0,pb<d.val.heap.size:=λd=>(Oc.later d.ah).cells.2.2;have K1:=Z λd:aN W0.heap.size W0=>gd pb tA 0 97 false d.val (Oc.later d.ah) Ft Fu;have t0:decide ((0:Int)<(tA.size:Int))=true:=O;have t0n:decide (0<tA.size)=true:=O;have H0:=Z (H hb0 (H hX Oc));clear aP hb0 hX Oc;refine wp_loop_rounds 2 ?_;rw[rounds_succ];go_wp2_with fail;refine aq (Below.refl W0 W0) κ κ ?_
 repeat (go_big_quiet_step (fail))
 go_big_quiet_step ((go_at_call 116;exact Calls.bZ I (K1.out _)))
 repeat (go_big_quiet_step (fail))
 go_big_quiet_step ((go_at_call 116;exact Calls.bZ I (K1.out _)))
 repeat (go_big_quiet_step (fail))
 refine wpQuiet_nil ?_;intro w1 hw';have hw1:Below W0.heap.size W0 w1:=by obtain ⟨d9,rfl⟩:=hw';exact d9.ah
 have iM:=(hw1.block _ (γ H0.out.2.1).1).trans H0.out.2.1;have H1:=Z (H (bH (H0.out.1.trans (hw1.mono H0.out.1.size)):sC pb w w1) (H iM (H0.out.2.2.later hw1)));clear hw' hw1 d0 d1 d2 d3 t0 t0n K1 iM;go_wp2_with fail;refine (X3 pb w1 H1.out.2.2).mono ?_;rintro e w2 ⟨g,q,rfl,⟨hg,hq⟩,rO,sj,zC⟩;have hzw:=H1.out.1.size;have hz1:=(γ H1.out.2.1).1;have H2:=Z (H (H1.out.1.tr zC) (H (oH zC Y H1.out.2.1) (H rO sj)));have hz2:=zC.size;clear rO sj zC;have hown:(w2.alloc (.cells #[.int .i64 4,.slice none 0 0,.slice (some ⟨g,0,none⟩) 1 1,.int .i64 1,.int .i64 2] 41)).ownsRow w2.heap.size 41 5 (.slice none 0 0) 0 []:=World.ownsRow_nil _ _ _ _;have iY:∀j u,[Value.int .i64 4,.slice none 0 0,.slice (some ⟨g,0,none⟩) 1 1,.int .i64 1,.int .i64 2][j]?=some u->(w2.alloc (.cells #[.int .i64 4,.slice none 0 0,.slice (some ⟨g,0,none⟩) 1 1,.int .i64 1,.int .i64 2] 41)).cell? ((⟨w2.heap.size,0,none⟩:Addr).add j)=some u:=by
  intro j u hj;rw[Addr.add_lit,Nat.zero_add,World.cell?_alloc_mark];simpa using hj
 have dA:w2.heap.size<=(w2.alloc (.cells #[.int .i64 4,.slice none 0 0,.slice (some ⟨g,0,none⟩) 1 1,.int .i64 1,.int .i64 2] 41)).heap.size:=ξ;go_wp2_with (at_builtin; refine cQ rfl _ _ 39 rfl w2.heap.size 41 ie _ 5 72 Tryz.underlying39 rJ hZ dS bX rfl O _ 0 [] rfl hown ⟨w2.heap.size,0,none⟩ 1 1 [.int .i64 4,.slice none 0 0,.slice (some ⟨g,0,none⟩) 1 1,.int .i64 1,.int .i64 2] rfl rfl iY (by intro u hu; simp only[List.mem_cons,List.not_mem_nil,or_false]at hu; rcases hu with rfl|rfl|rfl|rfl|rfl <;> rfl) (by unfold maxLen; omega) Y dA ?_)
 intro v9 w9 cT sL wA;obtain ⟨A9,c9,rfl,-,-⟩:=ar cT;obtain ⟨g9,rfl,Kj,hl9,hc9⟩:=Sn cT Y;have ja:Below w2.heap.size w2 w9:=(υ.alloc I _).grown sL ξ (λk hk=>by simp[Value.ownBlock]at hk)
 have Sj:=H2.out.2.2.2.later ja;have hX9:=(ja.block _ (γ H2.out.2.1).1).trans H2.out.2.1;have d0:∀d:aN w9.heap.size w9,d.val.cell? ⟨pb,0,none⟩=some (.string tA):=λd=>(Sj.later d.ah).cells.1.1;have d1:∀d:aN w9.heap.size w9,d.val.cell? ⟨pb,1,none⟩=some (.int .i64 6):=λd=>(Sj.later d.ah).cells.1.2.1;have d2:∀d:aN w9.heap.size w9,pb<d.val.heap.size:=λd=>(Sj.later d.ah).cells.2.2;have t0:decide ((6:Int)<(tA.size:Int))=false:=O;have t0n:decide (6<tA.size)=false:=O;have HC:=Z hc9;have H9:=Z (H (H2.out.1.tr (bH ja)) (H hX9 (H (H2.out.2.2.1.later ja) Sj)));clear cT sL wA ja Sj hX9 hc9 hown iY dA;go_wp2_with fail;rw[rounds_succ];go_wp2_with fail;refine aq (Below.refl w9 w9) κ κ ?_
 repeat (go_big_quiet_step (fail))
 refine wpQuiet_nil ?_;intro GK hw';have qw:Below w9.heap.size w9 GK:=by obtain ⟨d9,rfl⟩:=hw';exact d9.ah
 have vC:=(qw.block _ (γ H9.out.2.1).1).trans H9.out.2.1;have hy:=λj hj=>(qw.cl g9 j hl9).trans (HC.out j hj);have y0:GK.cell? ⟨g9,0,none⟩=some (.int .i64 4):=hy 0 O;have y1:GK.cell? ⟨g9,1,none⟩=some (.slice none 0 0):=hy 1 O;have y2:GK.cell? ⟨g9,2,none⟩=some (.slice (some ⟨g,0,none⟩) 1 1):=hy 2 O;have y3:GK.cell? ⟨g9,3,none⟩=some (.int .i64 1):=hy 3 O;have y4:GK.cell? ⟨g9,4,none⟩=some (.int .i64 2):=hy 4 O;have ly:g9<GK.heap.size:=by have:=qw.size;omega
 obtain ⟨x0,x1,x2,x3,x4⟩:=aw vC;obtain ⟨z0,z1,z2,z3,z4⟩:=CN vC;have lx:w.heap.size<GK.heap.size:=(γ vC).1;have Ap:=Z (H (H9.out.1.tr (bH qw)) (H vC (H (H9.out.2.2.1.later qw) (H9.out.2.2.2.later qw))));clear hw' qw d0 d1 d2 t0 t0n vC hy;go_wp2_with fail;refine az λWf bY=>?_;refine bodyPost_ret (v:=.agg #[.int .i64 4,.slice none 0 0,.slice (some ⟨g,0,none⟩) 1 1,.int .i64 1,.int .i64 2]) (by rw[bY];simp[results,Tryz.results115,go_sem,x0,x1,x2,x3,x4,lx];try rfl) rfl ?_
 obtain ⟨s1,s2,s3,-⟩:=st5 bY;have pR:sC pb w Wf:=nI Ap.out.1 I s1 s2 s3;exact ⟨g,q,rfl,⟨Y,Y⟩,⟨(s1 g Y).trans Ap.out.2.2.1.1,(s1 q Y).trans Ap.out.2.2.1.2⟩,(s1 pb Y).trans Ap.out.2.2.2,pR⟩
theorem Od(pb:Nat)(w:World)(h:jd pb tA 0 false w):Calls Tryz.prog 88 #[.pointer (some ⟨pb,0,none⟩)] w λe w'=>∃g q,e=.returned (.agg #[.int .i64 4,.slice none 0 0,.slice (some ⟨g,0,none⟩) 1 1,.int .i64 1,.int .i64 2])/\(w.heap.size<=g/\w.heap.size<=q)/\om g q w'/\jd pb tA 6 false w'/\sC pb w w':=by
 have hl:=h.cells.2.2;have HP:=Z h;clear h
 go_enter Tryz.func88,Tryz.ntmps88
 go_wp2_with fail;refine aH λW0 aP=>?_;have hb0:Below w.heap.size w W0:=by rw[aP];exact υ.alloc I _
 have hX:W0.heap[w.heap.size]?=some (.cells #[.int .i64 0,.slice none 0 0,.slice none 0 0,.int .i64 0,.int .i64 0] 41 (0,0)):=by rw[aP];exact heap_alloc_new w _
 have H0:=Z (H hb0 (H hX (HP.out.later hb0)));clear aP hb0 hX;refine (aey pb W0 H0.out.2.2).mono ?_;rintro e w2 ⟨g,q,rfl,⟨hg,hq⟩,rO,sj,zC⟩;have hzw:=H0.out.1.size;have hz1:=(γ H0.out.2.1).1;have H2:=Z (H ((bH H0.out.1).tr zC) (H (oH zC Y H0.out.2.1) (H rO sj)));have hz2:=zC.size;clear rO sj zC;go_wp2_with fail;refine dD λW3 mK=>?_;have bW:Below w2.heap.size w2 W3:=by rw[mK];exact υ.alloc I _
 have Si:W3.heap[w2.heap.size]?=some (.cells #[.int .i64 4,.slice none 0 0,.slice (some ⟨g,0,none⟩) 1 1,.int .i64 1,.int .i64 2] 41 (0,0)):=by rw[mK];exact heap_alloc_new w2 _
 have H3:=Z (H (H2.out.1.tr (bH bW)) (H ((bW.block _ (γ H2.out.2.1).1).trans H2.out.2.1) (H (H2.out.2.2.1.later bW) (H (H2.out.2.2.2.later bW) Si))));clear mK bW Si;refine wp_loop_rounds 1 ?_;rw[rounds_succ];go_wp2_with fail;refine (N0 pb tA 6 false W3 H3.out.2.2.2.1 X1).mono ?_;rintro e GK ⟨rfl,qw⟩;have vC:=(qw.block _ (γ H3.out.2.1).1).trans H3.out.2.1;have X5:=(qw.block _ (γ H3.out.2.2.2.2).1).trans H3.out.2.2.2.2;obtain ⟨y0,y1,y2,y3,y4⟩:=aw X5;have ly:w2.heap.size<GK.heap.size:=(γ X5).1;obtain ⟨x0,x1,x2,x3,x4⟩:=aw vC;obtain ⟨z0,z1,z2,z3,z4⟩:=CN vC;have lx:w.heap.size<GK.heap.size:=(γ vC).1;have Ap:=Z (H (H3.out.1.tr (bH qw)) (H vC (H (H3.out.2.2.1.later qw) (H3.out.2.2.2.1.later qw))));clear qw vC X5;go_wp2_with fail;refine az λWf bY=>?_;refine bodyPost_ret (v:=.agg #[.int .i64 4,.slice none 0 0,.slice (some ⟨g,0,none⟩) 1 1,.int .i64 1,.int .i64 2]) (by rw[bY];simp[results,Tryz.results88,go_sem,x0,x1,x2,x3,x4,lx];try rfl) rfl ?_
 obtain ⟨s1,s2,s3,-⟩:=st5 bY;have pR:sC pb w Wf:=nI Ap.out.1 I s1 s2 s3;exact ⟨g,q,rfl,⟨Y,Y⟩,⟨(s1 g Y).trans Ap.out.2.2.1.1,(s1 q Y).trans Ap.out.2.2.1.2⟩,(s1 pb Y).trans Ap.out.2.2.2,pR⟩
def fN(w:World):List (Array Value×TypeId)->World
 | []=>w
 |o::r=>fN (w.alloc (.cells o.1 o.2)) r
theorem Ay:∀(os:List (Array Value×TypeId)) (w:World),(fN w os).heap.size=w.heap.size+os.length
 | [],w=>rfl
 |o::r,w=>by rw[fN,Ay r];simp;omega
theorem dZ:∀(os:List (Array Value×TypeId)) (w:World),Below w.heap.size w (fN w os)
 | [],w=>υ
 |o::r,w=>by
  rw[fN];have h1:Below w.heap.size w (w.alloc (.cells o.1 o.2)):=υ.alloc I _;exact h1.trans ((dZ r _).mono ξ)
theorem tM:∀(os:List (Array Value×TypeId)) (w:World) (i:Nat) (h:i<os.length),(fN w os).heap[w.heap.size+i]?=some (.cells os[i].1 os[i].2 (0,0))
 |o::r,w,0,h=>by
  rw[fN,(dZ r _).block _ ξ];exact heap_alloc_new w (.cells o.1 o.2)
 |o::r,w,i+1,h=>by
  have:=tM r (w.alloc (.cells o.1 o.2)) i (by simpa using h)
  rw[fN];have e:(w.alloc (.cells o.1 o.2)).heap.size+i=w.heap.size+(i+1):=ψ;rw[e]at this;exact this
theorem cJ{os:List (Array Value×TypeId)}{w:World}(i:Nat){cs:Array Value}{T:TypeId}(h:os[i]?=some (cs,T)):(fN w os).heap[w.heap.size+i]?=some (.cells cs T (0,0)):=by
 obtain ⟨hi,e⟩:=List.getElem?_eq_some_iff.1 h;rw[tM os w i hi,e]
theorem PK:(Tryz.prog.info? 38).map (λi=>(i.zero,i.size,i.bytes))=some (some (.slice none 0 0),1,24):=κ
theorem FD:(Tryz.prog.info? 22).map (λi=>(i.zero,i.size,i.bytes))=some (some (.slice none 0 0),1,24):=κ
def di(v' v:Value)(N:Nat):Prop:=v'.ownBlock=v.ownBlock\/∃g,v'.ownBlock=some g/\N<=g
theorem Aw.UC{w0:World}{s:Nat}{x2 x3 x4:Value}{b:Pb}{vs vf:Value}{rows sv:List Value}{w w':World}(h:Aw w0 s x2 x3 x4 b vs vf rows sv w){PL PM rv:Value}{rs:List (Nat×Nat)}
  (hcs:w'.heap[s]?=some (.cells #[PL,PM,x2,x3,x4] 182 (0,0))) (hos:w'.ownsRow w0.heap.size 38 1 PL (b.sets.length+1) (sv++[rv])) (hof:w'.ownsRow w0.heap.size 22 1 PM (b.fol.length+1) (rows++[.slice none 0 0]))
  (Td:di PL vs w.heap.size) (hff:di PM vf w.heap.size) (hne:∀g,PL.ownBlock=some g->PM.ownBlock≠some g) (hk:aj (s::(blk vs++blk vf)) [] w w') (yq:jK w0 rv rs/\dU rs=true) :
  Aw w0 s x2 x3 x4 ⟨b.sets++[rs],b.fol++[[]]⟩ PL PM (rows++[.slice none 0 0]) (sv++[rv]) w'/\aj (jE s vs vf rows) (jE s PL PM (rows++[.slice none 0 0])) w w':=by
 have hlt:=h.lt;have bc:=h.nd;rw[List.nodup_cons,List.nodup_append]at bc;obtain ⟨n1,n2,n3,n4⟩:=bc;rw[List.nodup_append]at n3;obtain ⟨n5,n6,n7⟩:=n3;have lA:rows.length=b.fol.length:=by have:=h.fol.1;omega
 have hsl:sv.length=b.sets.length:=by have:=h.sets.1;omega
 have hnil:blk (Value.slice none 0 0)=[]:=rfl;have xh:(rows++[Value.slice none 0 0]).flatMap blk=rows.flatMap blk:=by simp[List.flatMap_append,hnil]
 have hS:∀g∈blk PL,g∈blk vs\/w.heap.size<=g:=λg hg=>Td.elim (λe=>.inl (by unfold blk at hg|-;rw[<-e];exact hg)) λ⟨g',e,h2⟩=>.inr (by unfold blk at hg;rw[e]at hg;simp at hg;omega)
 have hF:∀g∈blk PM,g∈blk vf\/w.heap.size<=g:=λg hg=>hff.elim (λe=>.inl (by unfold blk at hg|-;rw[<-e];exact hg)) λ⟨g',e,h2⟩=>.inr (by unfold blk at hg;rw[e]at hg;simp at hg;omega)
 have lS:∀g∈blk vs,g<w.heap.size:=λg hg=>(hlt g (by unfold jE;simp[hg])).2
 have lF:∀g∈blk vf,g<w.heap.size:=λg hg=>(hlt g (by unfold jE;simp[hg])).2
 have lR:∀g∈rows.flatMap blk,g<w.heap.size:=λg hg=>(hlt g (by unfold jE;simp only[List.mem_cons,List.mem_append];exact .inr (.inr (.inr hg)))).2
 have ls:s<w.heap.size:=(hlt s (by simp[jE])).2
 have hkn:aj (jE s vs vf rows) (jE s PL PM (rows++[.slice none 0 0])) w w':=by
  refine ⟨hk.os,hk.tape,hk.output,hk.size,λk h1 h2=>hk.blk k h1 λhm=>h2 ?_,λk hm=>?_⟩
  .unfold jE;simp only[List.mem_cons,List.mem_append]at hm|-;rcases hm with hm|hm|hm
   .exact .inl hm
   .exact .inr (.inl hm)
   .exact .inr (.inr (.inl hm))
  .unfold jE at hm|-;rw[xh]at hm;simp only[List.mem_cons,List.mem_append]at hm|-;rcases hm with hm|hm|hm|hm
   .exact .inl (.inl hm)
   .exact (hS k hm).imp (λh=>.inr (.inl h)) id
   .exact (hF k hm).imp (λh=>.inr (.inr (.inl h))) id
   .exact .inl (.inr (.inr (.inr hm)))
 refine ⟨⟨?_,h.hs,hcs,by simpa using hos,λi hi=>?_,by simpa using hof,λi hi=>?_,h.eP.trans (hkn.below (λk hk=>(hlt k hk).1) h.eP.size)⟩,hkn⟩
 .rw[xh,List.nodup_cons,List.nodup_append,List.nodup_append];refine ⟨λhm=>?_,?_,⟨?_,n6,λx hx y hy=>?_⟩,λx hx y hy=>?_⟩
  .rcases List.mem_append.1 hm with hm|hm
   .rcases hS s hm with h1|h1
    .exact n1 (List.mem_append_left _ h1)
    .omega
   .rcases List.mem_append.1 hm with hm|hm
    .rcases hF s hm with h1|h1
     .exact n1 (List.mem_append_right _ (List.mem_append_left _ h1))
     .omega
    .exact n1 (List.mem_append_right _ (List.mem_append_right _ hm))
  .unfold blk; cases PL.ownBlock <;> simp
  .unfold blk; cases PM.ownBlock <;> simp
  .rcases hF x hx with h1|h1
   .exact n7 x h1 y hy
   .have:=lR y hy;omega
  .rcases List.mem_append.1 hy with hy|hy
   .exact λe=>hne x (aI.1 hx) (by rw[e];exact aI.1 hy)
   .rcases hS x hx with h1|h1
    .exact n4 x h1 y (List.mem_append_right _ hy)
    .have:=lR y hy;omega
 .by_cases oL:i<b.sets.length
  .obtain ⟨v,v1,v2⟩:=h.Ax i oL;refine ⟨v,by rw[List.getElem?_append_left Y];exact v1,?_⟩
   simp only[List.getElem_append_left oL];exact v2
  .simp only[List.length_append,List.length_cons,List.length_nil]at hi;have rJ:i=b.sets.length:=Y;subst rJ;refine ⟨rv,by rw[List.getElem?_append_right Y,hsl];simp,?_⟩
   simp only[List.getElem_append_right I,Nat.sub_self,List.getElem_cons_zero];exact yq
 .by_cases oL:i<b.fol.length
  .obtain ⟨v,v1,v2⟩:=h.DB i oL;refine ⟨v,by rw[List.getElem?_append_left Y];exact v1,?_⟩
   simp only[List.getElem_append_left oL];refine aG v2 λg hg=>hk.blk g (v2.lt g hg).2 λhm=>?_;have od:g∈rows.flatMap blk:=List.mem_flatMap.2 ⟨v,List.mem_of_getElem? v1,aI.2 hg⟩;rcases List.mem_cons.1 hm with e|hm
   .exact n1 (List.mem_append_right _ (List.mem_append_right _ (by rw[<-e];exact od)))
   .rcases List.mem_append.1 hm with hm|hm
    .exact n4 g hm g (List.mem_append_right _ od) rfl
    .exact n7 g hm g od rfl
  .simp only[List.length_append,List.length_cons,List.length_nil]at hi;have rJ:i=b.fol.length:=Y;subst rJ;refine ⟨.slice none 0 0,by rw[List.getElem?_append_right Y,lA];simp,?_⟩
   simp only[List.getElem_append_right I,Nat.sub_self,List.getElem_cons_zero];exact World.ownsRow_nil _ _ _ _
end Go.Proofs.YtdmoogjddmdmbaaGreatDoor
