/- Walks. -/
import Derived.Test.YtdmoogjddmdmbaaGreatDoorV10
import Derived.StillTailTactics
import Derived.Deep.RegionHeld3
import Derived.Test.YtdmoogjddmdmbaaGreatDoorV11
import Derived.Test.YtdmoogjddmdmbaaGreatDoorV08
import Derived.Test.YtdmoogjddmdmbaaGreatDoorV09
set_option maxRecDepth 100000
set_option maxHeartbeats 16000000
set_option linter.unusedVariables false
set_option linter.unusedSimpArgs false
namespace Go.Proofs.YtdmoogjddmdmbaaGreatDoor
open Go.RowKit
section
set_option linter.unusedVariables false
set_option linter.unusedSimpArgs false
open Go.RowKit
theorem aR {w:World} {b:Nat} {T:TypeId} {a0 a1 a2:Value} (h:w.heap[b]?=some (.cells #[a0,a1,a2] T (0,0))) :
  w.cell? ⟨b,0,none⟩=some a0/\w.cell? ⟨b,1,none⟩=some a1/\w.cell? ⟨b,2,none⟩=some a2:=by
 refine ⟨?_,?_,?_⟩ <;> (rw[cell_of_row _ _ _ _ _ _ h]; rfl)
theorem au (w:World) (o:Obj) (k:Nat) (h:k<w.heap.size):(w.alloc o).heap[k]?=w.heap[k]?:=((Below.refl w.heap.size w).alloc (Nat.le_refl _) o).block k h
theorem yT (l:List Nat):∀(ps:List Nat) (fol:List (List Nat)) (K:Nat),(∀x∈fol,x.length<=K)->∀x∈kz l ps fol,x.length<=K+ps.length*l.length
 | [],fol,K,h=>λx hx=>by have:=h x hx;simp;omega
 | p::r,fol,K,h=>λx hx=>by
  rw[kz]at hx;have:=yT l r (fol.set p ((fol[p]?).getD []++l)) (K+l.length) (λy hy=>by
   rcases List.mem_or_eq_of_mem_set hy with h1 | h1
   .have:=h y h1;omega
   .rw[h1,List.length_append]
    cases hp:fol[p]? with
    | none=>simp
    | some z=>have:=h z (List.mem_of_getElem? hp);simp;omega) x hx
  rw[List.length_cons,Nat.succ_mul];omega
theorem Bs.Qm {w0:World} {s:Nat} {x2 x3 x4:Value} {b:Pb} {vs vf:Value} {rows sv:List Value} {w:World} (h:Bs w0 s x2 x3 x4 b vs vf rows sv w) (hp:0<b.fol.length):∃gf cf,vf = .slice (some ⟨gf,0,none⟩) b.fol.length cf/\gf<w.heap.size/\b.fol.length<=cf/\cf<=9223372036854775807:=by
 rcases h.fol.2 with ⟨-,h2⟩ | ⟨g,cap,cur,h1,-,h3,h4,h5,-⟩
 .omega
 .exact ⟨g,cap,h1,(Array.getElem?_eq_some_iff.1 h3).1,h4,by unfold maxLen at h5;omega⟩
theorem ag {w:World} {B:Nat} {e:TypeId} {k:Nat} {v:Value} {n:Nat} {xs:List Value} (h:w.ownsRow B e k v n xs):∃A c,v = .slice A n c/\n<=c/\c<=9223372036854775807:=by
 rcases h.2 with ⟨h1,h2⟩ | ⟨g,cap,cur,h1,-,h3,h4,h5,-⟩
 .exact ⟨none,0,by rw[h1,h2],by omega,by decide⟩
 .exact ⟨_,cap,h1,h4,by unfold maxLen at h5;omega⟩
theorem xw (v:Value):aG [] v:=λ_ _ h=>by cases h
theorem Bs.UL {w0:World} {s:Nat} {x2 x3 x4:Value} {b:Pb} {vs vf:Value} {rows sv:List Value} {w:World} (h:Bs w0 s x2 x3 x4 b vs vf rows sv w) {q:Nat} {v:Value} (hv:rows[q]?=some v) {gf:Nat} (hf:vf.ownBlock=some gf):v.ownBlock≠some gf:=by
 have bL:=h.nd;rw[List.nodup_cons,List.nodup_append]at bL;obtain ⟨-,-,n3,-⟩:=bL;rw[List.nodup_append]at n3;exact λe=>n3.2.2 gf (aA.2 hf) gf (List.mem_flatMap.2 ⟨v,List.mem_of_getElem? hv,aA.2 e⟩) rfl
def aaq (wr:World) (row:Option Nat) (c:Bool) (w':World):Prop:=wr.grownBy w' row/\(c=false->Below wr.heap.size wr w')
def En (w0 wr:World) (s gf nf cf gy fy ly cy B1 q m:Nat) (Ar:Option Addr) (cr:Nat) (xs:List Value):Nat->Value->World->Prop
 | 0,x,w=>x = .pointer (some ⟨s,0,none⟩)
 | 1,x,w=>x = .pointer (some ⟨s,0,none⟩)
 | 2,x,w=>x = .pointer (some ⟨s,1,none⟩)
 | 3,x,w=>x = .slice (some ⟨gf,0,none⟩) nf cf
 | 4,x,w=>x = .int .i64 (q:Int)
 | 5,x,w=>x = .pointer (some ⟨s,0,none⟩)
 | 6,x,w=>x = .pointer (some ⟨s,0,none⟩)
 | 7,x,w=>x = .pointer (some ⟨s,1,none⟩)
 | 8,x,w=>x = .slice (some ⟨gf,0,none⟩) nf cf
 | 9,x,w=>x = .int .i64 (q:Int)
 | 10,x,w=>x = .pointer (some ⟨gf,q,none⟩)
 | 11,x,w=>x = .slice Ar m cr
 | 12,x,w=>x = .pointer (some ⟨B1,0,none⟩)
 | 13,x,w=>x = .slice (some ⟨gy,fy,none⟩) ly cy
 | 14,x,w=>∃A' c',x = .slice A' (m+ly) c'/\w.ownsRow w0.heap.size 3 1 x (m+ly) xs/\(x.ownBlock=(Value.slice Ar m cr).ownBlock\/∃g,x.ownBlock=some g/\wr.heap.size<=g)
 | 15,x,w=>x = .pointer (some ⟨gf,q,none⟩)
 | _,_,_=>True
theorem IE (w0 wr:World) (s gf nf cf gy fy ly cy B1 q m:Nat) (Ar:Option Addr) (cr:Nat) (xs:List Value):∀(i j:Nat) (x:Value) (u u':World),j≠i->(i≠14->u'=u)->En w0 wr s gf nf cf gy fy ly cy B1 q m Ar cr xs j x u->En w0 wr s gf nf cf gy fy ly cy B1 q m Ar cr xs j x u':=by
 intro i j x u u' Gk hR h;by_cases hi:i=14
 .subst hi
  match j with
  | 0 | 1 | 2 | 3 | 4 | 5 | 6 | 7 | 8 | 9 | 10 | 11 | 12 | 13 | 15=>exact h
  | 14=>exact absurd rfl Gk
  | _+16=>exact trivial
 .rw[hR hi];exact h
theorem fh (w:World) (r:Option Nat):w.grownBy w r:=⟨rfl,rfl,rfl,Nat.le_refl _,λ_ _ _=>rfl⟩
theorem BH {a b c:World} {r:Option Nat} (h:a.grownBy b r) (k:b.grownBy c r):a.grownBy c r:=
 ⟨k.os.trans h.os,k.tape.trans h.tape,k.output.trans h.output,Nat.le_trans h.size k.size,λi hi hn=>(k.block i (Nat.lt_of_lt_of_le hi h.size) hn).trans (h.block i hi hn)⟩
theorem mP {a b:World} {r:Option Nat} (h:Below a.heap.size a b):a.grownBy b r:=⟨h.os,h.tape,h.output,h.size,λk hk _=>h.block k hk⟩
theorem fj {a b:World} {r:Option Nat} (h:a.grownBy b r) (o:Obj):a.grownBy (b.alloc o) r:=BH h (World.grownBy_alloc b o r)
theorem dS {a b:World} {N:Nat} (h:a.grownBy b (some N)) (o:Nat) (u:Value):a.grownBy (b.setCell ⟨N,o,none⟩ u) (some N):=
 BH h ⟨rfl,rfl,rfl,by simp[World.setCell],λk _ hk=>Below.heap_setCell _ _ _ _ λe=>hk (by rw[e])⟩
theorem mQ {a b:World} {r:Option Nat} (h:a.grownBy b r) {p:Addr} (hp:a.heap.size<=p.block) (u:Value):a.grownBy (b.setCell p u) r:=
 ⟨h.os,h.tape,h.output,by simp[World.setCell];exact h.size,λk hk hn=>(Below.heap_setCell _ _ _ _ (by omega)).trans (h.block k hk hn)⟩
theorem ig {a b:World} {r:Option Nat} (h:a.grownBy b r):a.grownBy b.drew r:=⟨h.os,h.tape,h.output,h.size,h.block⟩
theorem jQ {L:List Nat} {a b:World} (h:ah L L a b) (o:Obj):ah L L a (b.alloc o):=h.trans (ah.aa ((Below.refl _ _).alloc (Nat.le_refl _) o))
theorem qQ {L:List Nat} {a b:World} (h:ah L L a b) {p:Addr} (hp:p.block∈L) (u:Value):ah L L a (b.setCell p u):=
 h.trans ⟨rfl,rfl,rfl,by simp[World.setCell],λk _ hn=>Below.heap_setCell _ _ _ _ λe=>hn (by rw[e];exact hp),λ_ h=>.inl h⟩
theorem pP {L:List Nat} {a b:World} (h:ah L L a b):ah L L a b.drew:=⟨h.os,h.tape,h.output,h.size,h.blk,h.new⟩
theorem tL {w1 W:World} {B N2 N9:Nat} {v:Value} {l:List Nat} {rL:List Nat} {n:Nat} (h:w1.ownsRow B 3 1 v n (bG l)) (hl:l≠[]) (h2:N2<B) (h9:N9<B) (hf:∀k∈rL,k<B) (hk:ah [N2,N9] [N2,N9] w1 W):IL W v l/\aG rL v:=by
 have ho:∀g,v.ownBlock=some g->B<=g:=λg hg=>(h.lt g hg).1;refine ⟨(IL.keep (IL.fS h λ_=>hl) (λg hg hm=>?_) hk).1,λg hg hm=>?_⟩
 .have:=ho g hg;simp at hm;omega
 .have:=ho g hg;have:=hf g hm;omega
theorem bh {w:World} {G e:Nat} {cs:Array Value} {m:Nat×Nat} (h:w.heap[G]?=some (.cells cs e m)) (j:Nat) (v:Value):(w.setCell ⟨G,j,none⟩ v).heap[G]?=some (.cells (cs.setIfInBounds j v) e m):=by
 simp[World.setCell,Array.getElem?_modify,h]
theorem ar {P:Program} {fn:Func} {R:Ending->World->Prop} {x:Exit} {a:Act} {w:World} (h:∀W,W=w->bodyPost P fn R x a W):bodyPost P fn R x a w:=h w rfl
theorem gh {w0:World} {s:Nat} {x2 x3 x4:Value} {b:Pb} {fp rL:List Nat} {w wr W:World} {N:Nat} (hb:py w0 s x2 x3 x4 b rL wr) (hk:ah fp rL w wr) (hw:w0.heap.size<=w.heap.size) (hN:w.heap.size<=N) (hN2:N<wr.heap.size) (hn:N∉rL) (hg:wr.grownBy W (some N)):py w0 s x2 x3 x4 b rL W/\ah fp rL w W:=by
 have hlt:=hb.lt;have aI:=hb.eP;refine ⟨?_,⟨hg.os.trans hk.os,hg.tape.trans hk.tape,hg.output.trans hk.output,Nat.le_trans hk.size hg.size,λk h1 h2=>(hg.block k (Nat.lt_of_lt_of_le h1 hk.size) (λe=>by injection e with e;omega)).trans (hk.blk k h1 h2),λk h=>hk.new k h⟩⟩
 obtain ⟨vs,vf,rows,sv,rfl,h⟩:=hb;refine ⟨vs,vf,rows,sv,rfl,h.same (λk hk'=>hg.block k (hlt k hk').2 (λe=>by injection e with e;subst e;exact hn hk')) ?_⟩
 refine h.eP.trans ⟨hg.os,hg.tape,hg.output,hg.size,λk hk'=>hg.block k (by have:=aI.size;omega) (λe=>?_)⟩
 injection e with e;subst e;omega
def agX (w0:World) (s:Nat) (x2 x3 x4:Value) (b:Pb) (x:dw) (fp:List Nat) (w:World) (e:Ending) (w':World):Prop:=∃fp' v1 v2,e = .returned (.agg #[v1,v2, .bool x.emp])/\py w0 s x2 x3 x4 b fp' w'/\ah fp fp' w w'/\IL w' v1 x.first/\aG fp' v1/\IL w' v2 x.last/\aG fp' v2
set_option maxHeartbeats 4000000 in
theorem tM (w0:World) (s:Nat) (x2 x3 x4:Value) (b:Pb) (fp:List Nat) (w:World) (x y:dw) (YM YN YO YP:Value) (K:Nat) (oD:py w0 s x2 x3 x4 b fp w)
  (jB:IL w YM x.first) (ox1:aG fp YM) (iK:IL w YN x.last) (ox2:aG fp YN) (KS:IL w YO y.first) (oy1:aG fp YO) (DW:IL w YP y.last) (oy2:aG fp YP)
  (Tl:y.first≠[]) (UM:y.last≠[]) (BI:∀p∈x.last,p<b.fol.length) (h1:x.first.length<=50000) (h2:x.last.length<=50000) (h3:y.first.length<=50000) (h4:y.last.length<=50000) (hK:∀l∈b.fol,l.length<=K) (Eo:K<=10000000000) :
  Calls Tryz.prog 161 #[.pointer (some ⟨s,0,none⟩), .agg #[YM,YN, .bool x.emp], .agg #[YO,YP, .bool y.emp]] w (agX w0 s x2 x3 x4 (cY b x y) (bp x y) fp w):=by
 obtain ⟨A1,c1,rfl,tG⟩:=jB.form;obtain ⟨A2,c2,rfl,sV⟩:=iK.form;obtain ⟨gy,fy,cy,rfl,-,hgy,hcy,LS⟩:=KS.resolve_left (λh=>Tl h.1);obtain ⟨B2,d2,rfl,jO⟩:=DW.form;have hlt:=oD.lt;have aar:=oD.eP;have gU:Below w.heap.size w (((w.alloc (.cells #[.slice A1 x.first.length c1, .slice A2 x.last.length c2, .bool x.emp] 184)).alloc (.cells #[.slice (some ⟨gy,fy,none⟩) y.first.length cy, .slice B2 y.last.length d2, .bool y.emp] 184)).alloc (.cells #[.slice none 0 0, .slice none 0 0, .bool false] 184)):=(((Below.refl _ _).alloc (Nat.le_refl _) _).alloc (by simp) _).alloc (by simp;omega) _
 have wv:=Lib.hid (And.intro jB (And.intro iK (And.intro KS DW)));have Pt:=Lib.hid oD;have LU:=Lib.hid hlt;have vT:=Lib.hid gU;have HK:=Lib.hid hK;have YQ:=Lib.hid BI;have Pu:=Lib.hid (And.intro ox1 (And.intro ox2 (And.intro oy1 oy2)));have HY:=Lib.hid LS;clear jB iK KS DW oD hlt gU hK BI ox1 ox2 oy1 oy2 LS aar;obtain ⟨i0,hi,hz0,hz1,hz2⟩:=info_parts ft
 go_enter Tryz.func161,Tryz.ntmps161
 go_wp2_with fail
 go_loopw [13] (λiv wr=>∃k gO rL,k<=x.last.length/\iv = .int .i64 (k:Int)/\Hid (kz y.first (x.last.drop k) gO=kz y.first x.last b.fol/\gO.length=b.fol.length/\∀l∈gO,l.length<=K+k*y.first.length)/\Hid (py w0 s x2 x3 x4 ⟨b.sets,gO⟩ rL wr/\ah fp rL w wr/\∀q∈rL,q<w.heap.size\/w.heap.size+3<=q)/\Hid (wr.heap[w.heap.size]?=some (.cells #[.slice A1 x.first.length c1, .slice A2 x.last.length c2, .bool x.emp] 184 (0,0))/\wr.heap[w.heap.size+1]?=some (.cells #[.slice (some ⟨gy,fy,none⟩) y.first.length cy, .slice B2 y.last.length d2, .bool y.emp] 184 (0,0))/\wr.heap[w.heap.size+1+1]?=some (.cells #[.slice none 0 0, .slice none 0 0, .bool false] 184 (0,0)))/\w.heap.size+3<=wr.heap.size) (λiv _=>x.last.length - (intOf iv).toNat)
 case atStart=>
  refine ⟨0,b.fol,fp,by omega,rfl,⟨by rw[List.drop_zero],rfl,λl hl=>by have:=HK.out l hl;omega⟩,⟨?_,ah.aa vT.out,λq hq=>.inl (LU.out q hq).2⟩,⟨?_,?_,?_⟩,by simp⟩
  .exact Pt.out.later vT.out
  .rw[au _ _ _ (by simp;omega),au _ _ _ (by simp)];exact heap_alloc_new w _
  .rw[au _ _ _ (by simp)];simpa using heap_alloc_new (w.alloc _) _
  .simpa using heap_alloc_new ((w.alloc _).alloc _) _
 case round=>
  obtain ⟨k,gO,rL,hk,rfl,HF,HB,HX,hsz⟩:=hrel;have UN:=wv.out.2.1;obtain ⟨UO,aas⟩:=UN.keep Pu.out.2.1 HB.out.2.1;by_cases hlt:k<x.last.length
  .have hd:decide ((k:Int)<(x.last.length:Int))=true:=decide_eq_true (by omega)
   have iI:decide (k<x.last.length)=true:=decide_eq_true hlt;obtain ⟨g2,f2,IG,hv2,-,jC,-,lX⟩:=UO.resolve_left (λh=>by rw[h.1]at hlt;simp at hlt)
   injection hv2 with e1 e2 e3;subst e1 e3;obtain ⟨q,hq⟩:∃q,x.last[k]=q:=⟨_,rfl⟩;have hqc:=lX k hlt;have hqn:=YQ.out x.last[k] (List.getElem_mem hlt);rw[hq]at hqc hqn;have HQ:=Lib.hid hq;clear hq lX UN UO aas;obtain ⟨vs,vf,rows,sv,vU,dK⟩:=HB.out.1;have Pv:=Lib.hid HF.out.2.1;obtain ⟨gf,cf,rfl,DX,xr,aau⟩:=dK.Qm (by have:=Pv.out;show 0<gO.length;omega)
   obtain ⟨v,hv,hown⟩:=dK.Ei q (by have:=Pv.out;show q<gO.length;omega)
   obtain ⟨Ar,cr,rfl,agY,UQ⟩:=ag hown;have vS:wr.cell? ⟨s,1,none⟩=some (.slice (some ⟨gf,0,none⟩) gO.length cf):=by rw[cell_of_row _ _ _ _ _ _ dK.cs];rfl
   have hrow:=dK.fol.cellAt q (by have:=Pv.out;rw[Nat.mul_one];show q<gO.length;omega)
   rw[hv]at hrow;have wA:=dK.fol.frozenAt q;obtain ⟨y0,y1,y2⟩:=aR HX.out.2.1;have hqf:q<gO.length:=by have:=Pv.out;omega
   have bT:kz y.first (x.last.drop (k+1)) (gO.set q (gO[q]++y.first))=kz y.first x.last b.fol:=by
    rw[<-HF.out.1,List.drop_eq_getElem_cons hlt,HQ.out,kz,List.getElem?_eq_getElem hqf];rfl
   have hlen:(gO[q]).length<=K+k*y.first.length:=HF.out.2.2 _ (List.getElem_mem hqf);have tN:k*y.first.length<=50000*50000:=Nat.mul_le_mul (by omega) h3
   have aqG:gf≠w.heap.size+1:=λe=>by
    have:=HB.out.2.2 gf (by rw[vU];unfold jM;simp[blk,Value.ownBlock]);omega
   have aqH:s≠w.heap.size+1:=λe=>by
    have:=HB.out.2.2 s (by rw[vU];unfold jM;simp);omega
   have hyc:=IL.keep wv.out.2.2.1 Pu.out.2.2.1 HB.out.2.1;have pj:w0.heap.size<=wr.heap.size:=dK.eP.size;have UR:gy<wr.heap.size/\∀i (h:i<y.first.length),wr.cell? ⟨gy,fy+i,none⟩=some (.int .i64 (y.first[i]:Int)):=by
    obtain ⟨gy',fy',cy',xx,-,je,-,YR⟩:=hyc.1.resolve_left (λh=>Tl h.1);injection xx with e1 e2 e3;injection e1 with e1;injection e1 with e1 e4;subst e1 e4;exact ⟨je,YR⟩
   have ag0:=UR.1;have HYC:=Lib.hid UR.2;have xy:=Lib.hid dK;have HOW:=Lib.hid hown;have HV:=Lib.hid hv;have lY:=Lib.hid bT;have HFP:=Lib.hid vU;obtain ⟨m,hm⟩:∃m,(gO[q]).length=m:=⟨_,rfl⟩;rw[hm]at hlen agY hrow HOW HV;have HM:=Lib.hid hm;have aqJ:(q:Int)<(gO.length:Int):=by omega
   have US:gO.length<=9223372036854775807:=Nat.le_trans xr aau;have hlt':=dK.lt;rw[<-vU]at hlt';have hsl:s<wr.heap.size:=(Array.getElem?_eq_some_iff.1 dK.cs).1;have aav:∀z,some z=(Value.slice Ar m cr).ownBlock->z∈rL:=λz hz=>by
    rw[vU];unfold jM;refine List.mem_cons_of_mem _ (List.mem_append_right _ (List.mem_append_right _ (List.mem_flatMap.2 ⟨_,List.mem_of_getElem? HV.out,aA.2 hz.symm⟩)))
   have vV:some s≠(Value.slice Ar m cr).ownBlock:=λe=>by
    have bL:=dK.nd;rw[List.nodup_cons]at bL;exact bL.1 (List.mem_append_right _ (List.mem_append_right _ (List.mem_flatMap.2 ⟨_,List.mem_of_getElem? HV.out,aA.2 e.symm⟩)))
   have oC:some gf≠(Value.slice Ar m cr).ownBlock:=λe=>dK.UL HV.out rfl e.symm;have ag2:w.heap.size+1<wr.heap.size:=by omega
   have UT:some (w.heap.size+1)≠(Value.slice Ar m cr).ownBlock:=λe=>by have:=HB.out.2.2 _ (aav _ e);omega
   have eU:aaq wr (Value.slice Ar m cr).ownBlock false wr.drew:=⟨⟨rfl,rfl,rfl,Nat.le_refl _,λ_ _ _=>rfl⟩,λ_=>(Below.refl _ _).drew⟩;have YS:=Lib.hid (And.intro vV (And.intro oC UT));clear dK hown hv bT hyc UR hm vU hlt' aav;go_wp2_with fail;refine tO 16 14 (by decide) (λi u u'=>i≠14->u'=u) (λc w'=>aaq wr (Value.slice Ar m cr).ownBlock c w') (En w0 wr s gf gO.length cf gy fy y.first.length cy (w.heap.size+1) q m Ar cr (bG gO[q]++bG y.first)) (by kernel_rfl) (by kernel_rfl) (by kernel_rfl) (by kernel_rfl) (by decide) eU (IE w0 wr s gf gO.length cf gy fy y.first.length cy (w.heap.size+1) q m Ar cr (bG gO[q]++bG y.first)) ?_ ?_
   .simp only[cP,cQ];refine cw.cons ?_ (cw.cons ?_ (cw.cons ?_ (cw.cons ?_ (cw.cons ?_ (cw.cons ?_ (cw.cons ?_ (cw.cons ?_ (cw.cons ?_ (cw.cons ?_ (cw.cons ?_ (cw.cons ?_ (cw.cons ?_ (cw.cons ?_ (cw.cons ?_ (cw.cons ?_ cw.nil)))))))))))))))
    all_goals (intro v wz c hc hS hE K hK;simp only[ai,Act.put,eh,ek,ep,Nat.zero_add,Nat.reduceAdd,cP,cQ]at hK|-)
    .have HX:=Lib.hid hS;clear hS hE hc;go_wp2_with fail;exact hK.out _ _ HX.out (λ_=>rfl) rfl
    .have e0:v 0=_:=hE.1 rfl;rw[e0]at hK|-;have HX:=Lib.hid hS;clear hS hE hc;go_wp2_with fail;exact hK.out _ _ HX.out (λ_=>rfl) rfl
    .have e1:v 1=_:=hE.1 rfl;rw[e1]at hK|-;have HX:=Lib.hid hS;clear hS hE hc;go_wp2_with fail;exact hK.out _ _ HX.out (λ_=>rfl) rfl
    .have e2:v 2=_:=hE.1 rfl;rw[e2]at hK|-;have c1:=(World.cell?_of_block (a:=⟨s,1,none⟩) (hS.1.block s hsl vV)).trans vS;have HX:=Lib.hid hS;clear hS hE hc;go_wp2_with fail;exact hK.out _ _ HX.out (λ_=>rfl) rfl
    .have HX:=Lib.hid hS;clear hS hE hc;go_wp2_with fail;exact hK.out _ _ HX.out (λ_=>rfl) rfl
    .have HX:=Lib.hid hS;clear hS hE hc;go_wp2_with fail;exact hK.out _ _ HX.out (λ_=>rfl) rfl
    .have e5:v 5=_:=hE.1 rfl;rw[e5]at hK|-;have HX:=Lib.hid hS;clear hS hE hc;go_wp2_with fail;exact hK.out _ _ HX.out (λ_=>rfl) rfl
    .have e6:v 6=_:=hE.1 rfl;rw[e6]at hK|-;have HX:=Lib.hid hS;clear hS hE hc;go_wp2_with fail;exact hK.out _ _ HX.out (λ_=>rfl) rfl
    .have e7:v 7=_:=hE.1 rfl;rw[e7]at hK|-;have c1:=(World.cell?_of_block (a:=⟨s,1,none⟩) (hS.1.block s hsl vV)).trans vS;have HX:=Lib.hid hS;clear hS hE hc;go_wp2_with fail;exact hK.out _ _ HX.out (λ_=>rfl) rfl
    .have HX:=Lib.hid hS;clear hS hE hc;go_wp2_with fail;exact hK.out _ _ HX.out (λ_=>rfl) rfl
    .have e8:v 8=_:=hE.1 rfl;have e9:v 9=_:=hE.2.1 rfl;rw[e8,e9]at hK|-;have HX:=Lib.hid hS;clear hS hE hc;go_wp2_with fail;exact hK.out _ _ HX.out (λ_=>rfl) rfl
    .have pA:v 10=_:=hE.1 rfl;rw[pA]at hK|-;have c1:=(World.cell?_of_block (a:=⟨gf,q,none⟩) (hS.1.block gf DX oC)).trans hrow;have HX:=Lib.hid hS;clear hS hE hc;go_wp2_with fail;exact hK.out _ _ HX.out (λ_=>rfl) rfl
    .have HX:=Lib.hid hS;clear hS hE hc;go_wp2_with fail;exact hK.out _ _ HX.out (λ_=>rfl) rfl
    .have rM:v 12=_:=hE.1 rfl;rw[rM]at hK|-;have c1:=(World.cell?_of_block (a:=⟨w.heap.size+1,0,none⟩) (hS.1.block (w.heap.size+1) ag2 UT)).trans y0;have HX:=Lib.hid hS;clear hS hE hc;go_wp2_with fail;exact hK.out _ _ HX.out (λ_=>rfl) rfl
    .have tP:v 11=_:=hE.1 rfl;have tQ:v 13=_:=hE.2.1 rfl;rw[tP,tQ]at hK|-;have xr:=hc rfl;subst xr;have dh:=hS.2 rfl;have aaw:wz.ownsRow w0.heap.size 3 1 (.slice Ar m cr) m (bG gO[q]):=ak HOW.out λg hg=>dh.block g (HOW.out.lt g hg).2;have hcy:=eN (w:=wz) (l:=y.first) (g:=gy) (f:=fy) (λi hi=>(World.cell?_of_block (a:=⟨gy,fy+i,none⟩) (dh.block gy ag0)).trans (HYC.out i hi));have hBz:w0.heap.size<=wz.heap.size:=Nat.le_trans pj dh.size;have HZ:=Lib.hid dh;have HX:=Lib.hid hS;clear hS hE hc dh;go_wp2_with (at_builtin;refine cN rfl _ _ 22 rfl w0.heap.size 3 i0 (.int .i64 0) 1 8 Tryz.underlying22 hi hz0 hz1 hz2 rfl (by decide) _ m (bG gO[q]) rfl aaw ⟨gy,fy,none⟩ y.first.length cy (bG y.first) rfl (by rw[iL];omega) hcy (pQ _) (by unfold maxLen;omega) (by omega) hBz ?_)
     intro v' w1 hown1 et eJ;have jC:wr.grownBy w1 (Value.slice Ar m cr).ownBlock:=⟨et.os.trans HX.out.1.os,et.tape.trans HX.out.1.tape,et.output.trans HX.out.1.output,Nat.le_trans HX.out.1.size et.size,λk hk hn=>(et.block k (Nat.lt_of_lt_of_le hk HX.out.1.size) hn).trans (HX.out.1.block k hk hn)⟩;obtain ⟨A',c',rfl,-,-⟩:=ag hown1;exact hK.out _ _ ⟨jC,λh=>by cases h⟩ (λh=>absurd rfl h) ⟨A',c',rfl,hown1,eJ.imp id (λ⟨g,h1,h2⟩=>⟨g,h1,Nat.le_trans HZ.out.size h2⟩)⟩
    .have e3:v 3=_:=hE.1 rfl;have e4:v 4=_:=hE.2.1 rfl;rw[e3,e4]at hK|-;have HX:=Lib.hid hS;clear hS hE hc;go_wp2_with fail;exact hK.out _ _ HX.out (λ_=>rfl) rfl
   .intro v wz hS hF;have e0:v 0=_:=hF 0 (by decide)
    have e1:v 1=_:=hF 1 (by decide)
    have e2:v 2=_:=hF 2 (by decide)
    have e3:v 3=_:=hF 3 (by decide)
    have e4:v 4=_:=hF 4 (by decide)
    have e5:v 5=_:=hF 5 (by decide)
    have e6:v 6=_:=hF 6 (by decide)
    have e7:v 7=_:=hF 7 (by decide)
    have e8:v 8=_:=hF 8 (by decide)
    have e9:v 9=_:=hF 9 (by decide)
    have pA:v 10=_:=hF 10 (by decide)
    have tP:v 11=_:=hF 11 (by decide)
    have rM:v 12=_:=hF 12 (by decide)
    have tQ:v 13=_:=hF 13 (by decide)
    have DY:v 15=_:=hF 15 (by decide)
    have E14:=hF 14 (by decide)
    simp only[ai,Act.put,eh,ek,ep,Nat.zero_add,Nat.reduceAdd,cP,cQ,List.drop_succ_cons,List.drop_zero,e0,e1,e2,e3,e4,e5,e6,e7,e8,e9,pA,tP,rM,tQ,DY];clear hF e0 e1 e2 e3 e4 e5 e6 e7 e8 e9 pA tP rM tQ DY;obtain ⟨A',c',xx,hown1,eJ⟩:=E14;rw[xx]at hown1 eJ|-;obtain ⟨A'',c'',e',aqL,aqM⟩:=ag hown1;injection e' with e1 e2 e3;subst e3;have UU:wz.cell? ⟨gf,q,none⟩=some (.slice Ar m cr):=(World.cell?_of_block (a:=⟨gf,q,none⟩) (hS.1.block gf DX oC)).trans hrow;have aqN:wz.frozen? ⟨gf,q,none⟩=false:=(World.frozen?_of_block (a:=⟨gf,q,none⟩) (hS.1.block gf DX oC)).trans wA;have lq:=Lib.hid (And.intro hown1 (And.intro hS.1 eJ));clear hown1 hS eJ vS hqc y0 y1 y2 hrow wA xx e1 e2 vV oC UT;go_wp2_with fail;go_roundw
    case rel=>
     obtain ⟨hown1,et,eJ⟩:=lq.out;have hm:=HM.out;subst hm;obtain ⟨r1,r2⟩:=xy.out.UW (p:=q) hqf y.first HV.out hown1 et eJ rfl;have vU:=HFP.out;have LV:∀z,w.heap.size<=z->z<w.heap.size+3->z∉jM s vs (.slice (some ⟨gf,0,none⟩) gO.length cf) rows:=λz h1 h2 hm=>by
      have:=HB.out.2.2 z (by rw[vU];exact hm);omega
     refine ⟨k+1,_,_,by omega,by go_num,⟨lY.out,by have:=Pv.out;simp;omega,λl hl=>?_⟩,⟨⟨_,_,_,_,rfl,r1⟩,(by rw[vU]at HB;exact HB.out.2.1.trans r2),λz hz=>?_⟩,⟨?_,?_,?_⟩,?_⟩
     .rw[Nat.succ_mul];rcases List.mem_or_eq_of_mem_set hl with h1 | h1
      .have:=HF.out.2.2 l h1;omega
      .rw[h1,List.length_append];omega
     .rcases r2.new z hz with h1 | h1
      .exact HB.out.2.2 z (by rw[vU];exact h1)
      .right;omega
     .exact (r2.blk _ (by omega) (LV _ (by omega) (by omega))).trans HX.out.1
     .exact (r2.blk _ (by omega) (LV _ (by omega) (by omega))).trans HX.out.2.1
     .exact (r2.blk _ (by omega) (LV _ (by omega) (by omega))).trans HX.out.2.2
     .exact Nat.le_trans hsz r2.size
    case measure=>simp[intOf];omega
  .obtain rfl:k=x.last.length:=by omega
   have hfe:gO=kz y.first x.last b.fol:=by
    have:=HF.out.1;rw[List.drop_length]at this;exact this
   have YT:(⟨b.sets,gO⟩:Pb)=cY b x y:=by rw[hfe];rfl
   have xz:=HB.out.1;rw[YT]at xz;have Ep:=Lib.hid xz;have YU:=Lib.hid HB.out.2.1;have HFN:=Lib.hid HB.out.2.2;have UX:=IL.keep wv.out.1 Pu.out.1 HB.out.2.1;have UY:=IL.keep wv.out.2.1 Pu.out.2.1 HB.out.2.1;have ha3:=IL.keep wv.out.2.2.1 Pu.out.2.2.1 HB.out.2.1;have ha4:=IL.keep wv.out.2.2.2 Pu.out.2.2.2 HB.out.2.1;have HA:=Lib.hid (And.intro UX (And.intro UY (And.intro ha3 ha4)));obtain ⟨p0,p1,p2⟩:=aR HX.out.1;obtain ⟨y0,y1,y2⟩:=aR HX.out.2.1;have lu:=HX.out.2.2;have hHF:Hid True:=trivial;clear hfe YT xz UX UY ha3 ha4 UO aas UN HF HB;obtain ⟨ex,hex⟩:∃ex,x.emp=ex:=⟨_,rfl⟩;obtain ⟨ey,hey⟩:∃ey,y.emp=ey:=⟨_,rfl⟩;rw[hex]at p2|-;rw[hey]at y2|-;have HE:=Lib.hid (And.intro hex hey);clear hex hey;have n1:¬w.heap.size=wr.heap.size:=by omega
   have n2:¬wr.heap.size=w.heap.size:=by omega
   have n3:¬w.heap.size+1=wr.heap.size:=by omega
   have n4:¬wr.heap.size=w.heap.size+1:=by omega
   have n5:¬w.heap.size+1+1=wr.heap.size:=by omega
   have n6:¬wr.heap.size=w.heap.size+1+1:=by omega
   have l1:w.heap.size<wr.heap.size:=by omega
   have l2:w.heap.size+1<wr.heap.size:=by omega
   have l3:w.heap.size+1+1<wr.heap.size:=by omega
   have ag5:=aR lu;obtain ⟨r0,r1,r2⟩:=ag5;have hrz:wr.frozen? ⟨w.heap.size+1+1,0,none⟩=false:=by simp[World.frozen?,lu]
   have xq:=Lib.hid lu;clear lu hrz;have f0:wr.frozen? ⟨w.heap.size+1+1,0,none⟩=false:=by simp[World.frozen?,xq.out]
   have f1:wr.frozen? ⟨w.heap.size+1+1,1,none⟩=false:=by simp[World.frozen?,xq.out]
   have f2:wr.frozen? ⟨w.heap.size+1+1,2,none⟩=false:=by simp[World.frozen?,xq.out]
   have LW:=λ(va vb:Value) (la lb:List Nat) (W:World) (g c:Nat) (hW:Below wr.heap.size wr W) (ha:IL wr va la) (hb:IL wr vb lb) (LX:lb≠[]) (gu:la.length<=50000) (aqO:lb.length<=50000) (hg:g<W.heap.size) (hc:2<=c/\c<=9223372036854775807) (c0:W.cell? ⟨g,0,none⟩=some va) (c1:W.cell? ⟨g,1,none⟩=some vb)=>oF va vb la lb g c W (ha.later hW) (hb.later hW) LX (by omega) hg hc c0 c1
   have Qn:=Lib.hid LW;have Tm:=Lib.hid (show w.heap.size+1+1∉rL from λhm=>by have:=HFN.out _ hm;omega)
   have UZ:=Lib.hid (show w0.heap.size<=w.heap.size from Pt.out.eP.size);clear LW
   cases ex
   .cases ey
    .go_wp2_with fail;refine ar λW hW=>?_;obtain ⟨q1,q2⟩:=gh Ep.out YU.out UZ.out (by omega) l3 Tm.out (W:=W) (by rw[hW];repeat (first | exact fh _ _ | exact HGB.out | refine fj ?_ _ | refine dS ?_ _ _ | refine mQ ?_ (by simp) _ | refine ig ?_))
     refine bodyPost_ret (v:=.agg #[.slice A1 x.first.length c1, .slice B2 y.last.length d2, .bool false]) (by rw[hW];simp[results,Tryz.results161,go_sem,r0,r1,r2,l3];try rfl) rfl ?_
     refine ⟨rL, .slice A1 x.first.length c1, .slice B2 y.last.length d2,?_,q1,q2,?_⟩
     .unfold bp;rw[HE.out.1,HE.out.2];rfl
     .have i1:=wv.out.1.keep Pu.out.1 q2;have i2:=wv.out.2.2.2.keep Pu.out.2.2.2 q2;have e1:(bp x y).first=x.first:=by unfold bp;rw[HE.out.1];rfl
      have e2:(bp x y).last=y.last:=by unfold bp;rw[HE.out.2];rfl
      rw[e1,e2];exact ⟨i1.1,i1.2,i2.1,i2.2⟩
    .go_wp2_with fail;refine (Qn.out _ _ x.last y.last _ _ _ (((Below.refl _ _).alloc (Nat.le_refl _) _).alloc (by simp) _) HA.out.2.1.1 HA.out.2.2.2.1 UM h2 h4 (by simp) (by decide) (by go_simp) (by go_simp)).mono ?_
     rintro e w1 ⟨v1,rfl,hown1,hb1⟩;have aP:Below wr.heap.size wr w1:=(((Below.refl _ _).alloc (Nat.le_refl _) _).alloc (by simp) _).trans (hb1.mono (by simp;omega))
     have c9:w1.heap[wr.heap.size]?=some (.cells #[.slice A1 x.first.length c1, .slice B2 y.last.length d2, .bool false] 184 (0,0)):=(hb1.block _ (by simp;omega)).trans (by rw[au _ _ _ (by simp)];exact heap_alloc_new wr _)
     obtain ⟨t0,t1,t2⟩:=aR c9;have u0:w1.frozen? ⟨wr.heap.size,0,none⟩=false:=by simp[World.frozen?,c9]
     have u1:w1.frozen? ⟨wr.heap.size,1,none⟩=false:=by simp[World.frozen?,c9]
     have z9:wr.heap.size<w1.heap.size:=(Array.getElem?_eq_some_iff.1 c9).1;have z1:w.heap.size<w1.heap.size:=by omega
     have z2:w.heap.size+1<w1.heap.size:=by omega
     have z3:w.heap.size+1+1<w1.heap.size:=by omega
     have p0':=(aP.cell (p:=⟨w.heap.size,0,none⟩) l1).trans p0;have YV:=(aP.cell (p:=⟨w.heap.size,1,none⟩) l1).trans p1;have p2':=(aP.cell (p:=⟨w.heap.size,2,none⟩) l1).trans p2;have y0':=(aP.cell (p:=⟨w.heap.size+1,0,none⟩) l2).trans y0;have y1':=(aP.cell (p:=⟨w.heap.size+1,1,none⟩) l2).trans y1;have y2':=(aP.cell (p:=⟨w.heap.size+1,2,none⟩) l2).trans y2;have Tn:=(aP.cell (p:=⟨w.heap.size+1+1,0,none⟩) l3).trans r0;have To:=(aP.cell (p:=⟨w.heap.size+1+1,1,none⟩) l3).trans r1;have Tp:=(aP.cell (p:=⟨w.heap.size+1+1,2,none⟩) l3).trans r2;have f0':=(aP.frozen (p:=⟨w.heap.size+1+1,0,none⟩) l3).trans f0;have f1':=(aP.frozen (p:=⟨w.heap.size+1+1,1,none⟩) l3).trans f1;have f2':=(aP.frozen (p:=⟨w.heap.size+1+1,2,none⟩) l3).trans f2;obtain ⟨Av,cv,rfl,-,-⟩:=ag hown1;have Gf:=Lib.hid hown1;have bI:=Lib.hid aP;have HGB:=Lib.hid (mP (r:=some (w.heap.size+1+1)) aP);have Tq:=Lib.hid (show wr.heap.size+2<=w1.heap.size by have:=hb1.size;simp at this;omega)
     have Er:w1.heap.size=w1.heap.size:=rfl;clear hown1 hb1 aP c9 p0 p1 p2 y0 y1 y2 r0 r1 r2 f0 f1 f2 Er;go_wp2_with fail;refine ar λW hW=>?_;obtain ⟨q1,q2⟩:=gh Ep.out YU.out UZ.out (by omega) l3 Tm.out (W:=W) (by rw[hW];repeat (first | exact fh _ _ | exact HGB.out | refine fj ?_ _ | refine dS ?_ _ _ | refine mQ ?_ (by simp) _ | refine ig ?_))
     refine bodyPost_ret (v:=.agg #[.slice A1 x.first.length c1, .slice Av (x.last++y.last).length cv, .bool false]) (by rw[hW];simp[results,Tryz.results161,go_sem,Tn,To,Tp,t0,t1,t2,z3,z9,n5,n6];try rfl) rfl ?_
     refine ⟨rL, .slice A1 x.first.length c1, .slice Av (x.last++y.last).length cv,?_,q1,q2,?_⟩
     .unfold bp;rw[HE.out.1,HE.out.2];rfl
     .have i1:=wv.out.1.keep Pu.out.1 q2;have i2:=tL (N2:=w.heap.size+1+1) (N9:=wr.heap.size) (W:=W) Gf.out (by intro h;exact UM (List.append_eq_nil_iff.1 h).2) (by simp;omega) (by simp;omega) (λk hk=>by have:=(Ep.out.lt k hk).2;simp;omega) (by rw[hW];repeat (first | exact ah.refl _ _ | refine jQ ?_ _ | refine qQ ?_ (by simp) _ | refine pP ?_))
      have e1:(bp x y).first=x.first:=by unfold bp;rw[HE.out.1];rfl
      have e2:(bp x y).last=x.last++y.last:=by unfold bp;rw[HE.out.2];rfl
      rw[e1,e2];exact ⟨i1.1,i1.2,i2.1,i2.2⟩
   .cases ey
    .go_wp2_with fail;refine (Qn.out _ _ x.first y.first _ _ _ (((Below.refl _ _).alloc (Nat.le_refl _) _).alloc (by simp) _) HA.out.1.1 HA.out.2.2.1.1 Tl h1 h3 (by simp) (by decide) (by go_simp) (by go_simp)).mono ?_
     rintro e w1 ⟨v1,rfl,hown1,hb1⟩;have aP:Below wr.heap.size wr w1:=(((Below.refl _ _).alloc (Nat.le_refl _) _).alloc (by simp) _).trans (hb1.mono (by simp;omega))
     have c9:w1.heap[wr.heap.size]?=some (.cells #[.slice A1 x.first.length c1, .slice B2 y.last.length d2, .bool false] 184 (0,0)):=(hb1.block _ (by simp;omega)).trans (by rw[au _ _ _ (by simp)];exact heap_alloc_new wr _)
     obtain ⟨t0,t1,t2⟩:=aR c9;have u0:w1.frozen? ⟨wr.heap.size,0,none⟩=false:=by simp[World.frozen?,c9]
     have u1:w1.frozen? ⟨wr.heap.size,1,none⟩=false:=by simp[World.frozen?,c9]
     have z9:wr.heap.size<w1.heap.size:=(Array.getElem?_eq_some_iff.1 c9).1;have z1:w.heap.size<w1.heap.size:=by omega
     have z2:w.heap.size+1<w1.heap.size:=by omega
     have z3:w.heap.size+1+1<w1.heap.size:=by omega
     have p0':=(aP.cell (p:=⟨w.heap.size,0,none⟩) l1).trans p0;have YV:=(aP.cell (p:=⟨w.heap.size,1,none⟩) l1).trans p1;have p2':=(aP.cell (p:=⟨w.heap.size,2,none⟩) l1).trans p2;have y0':=(aP.cell (p:=⟨w.heap.size+1,0,none⟩) l2).trans y0;have y1':=(aP.cell (p:=⟨w.heap.size+1,1,none⟩) l2).trans y1;have y2':=(aP.cell (p:=⟨w.heap.size+1,2,none⟩) l2).trans y2;have Tn:=(aP.cell (p:=⟨w.heap.size+1+1,0,none⟩) l3).trans r0;have To:=(aP.cell (p:=⟨w.heap.size+1+1,1,none⟩) l3).trans r1;have Tp:=(aP.cell (p:=⟨w.heap.size+1+1,2,none⟩) l3).trans r2;have f0':=(aP.frozen (p:=⟨w.heap.size+1+1,0,none⟩) l3).trans f0;have f1':=(aP.frozen (p:=⟨w.heap.size+1+1,1,none⟩) l3).trans f1;have f2':=(aP.frozen (p:=⟨w.heap.size+1+1,2,none⟩) l3).trans f2;obtain ⟨Av,cv,rfl,-,-⟩:=ag hown1;have Gf:=Lib.hid hown1;have bI:=Lib.hid aP;have HGB:=Lib.hid (mP (r:=some (w.heap.size+1+1)) aP);have Tq:=Lib.hid (show wr.heap.size+2<=w1.heap.size by have:=hb1.size;simp at this;omega)
     have Er:w1.heap.size=w1.heap.size:=rfl;clear hown1 hb1 aP c9 p0 p1 p2 y0 y1 y2 r0 r1 r2 f0 f1 f2 Er;go_wp2_with fail;refine ar λW hW=>?_;obtain ⟨q1,q2⟩:=gh Ep.out YU.out UZ.out (by omega) l3 Tm.out (W:=W) (by rw[hW];repeat (first | exact fh _ _ | exact HGB.out | refine fj ?_ _ | refine dS ?_ _ _ | refine mQ ?_ (by simp) _ | refine ig ?_))
     refine bodyPost_ret (v:=.agg #[.slice Av (x.first++y.first).length cv, .slice B2 y.last.length d2, .bool false]) (by rw[hW];simp[results,Tryz.results161,go_sem,Tn,To,Tp,t0,t1,t2,z3,z9,n5,n6];try rfl) rfl ?_
     refine ⟨rL, .slice Av (x.first++y.first).length cv, .slice B2 y.last.length d2,?_,q1,q2,?_⟩
     .unfold bp;rw[HE.out.1,HE.out.2];rfl
     .have i1:=tL (N2:=w.heap.size+1+1) (N9:=wr.heap.size) (W:=W) Gf.out (by intro h;exact Tl (List.append_eq_nil_iff.1 h).2) (by simp;omega) (by simp;omega) (λk hk=>by have:=(Ep.out.lt k hk).2;simp;omega) (by rw[hW];repeat (first | exact ah.refl _ _ | refine jQ ?_ _ | refine qQ ?_ (by simp) _ | refine pP ?_))
      have i2:=wv.out.2.2.2.keep Pu.out.2.2.2 q2;have e1:(bp x y).first=x.first++y.first:=by unfold bp;rw[HE.out.1];rfl
      have e2:(bp x y).last=y.last:=by unfold bp;rw[HE.out.2];rfl
      rw[e1,e2];exact ⟨i1.1,i1.2,i2.1,i2.2⟩
    .go_wp2_with fail;refine (Qn.out _ _ x.first y.first _ _ _ (((Below.refl _ _).alloc (Nat.le_refl _) _).alloc (by simp) _) HA.out.1.1 HA.out.2.2.1.1 Tl h1 h3 (by simp) (by decide) (by go_simp) (by go_simp)).mono ?_
     rintro e w1 ⟨v1,rfl,hown1,hb1⟩;rw[List.length_append]at hown1;have aP:Below wr.heap.size wr w1:=(((Below.refl _ _).alloc (Nat.le_refl _) _).alloc (by simp) _).trans (hb1.mono (by simp;omega))
     have c9:w1.heap[wr.heap.size]?=some (.cells #[.slice A1 x.first.length c1, .slice B2 y.last.length d2, .bool true] 184 (0,0)):=(hb1.block _ (by simp;omega)).trans (by rw[au _ _ _ (by simp)];exact heap_alloc_new wr _)
     obtain ⟨t0,t1,t2⟩:=aR c9;have u0:w1.frozen? ⟨wr.heap.size,0,none⟩=false:=by simp[World.frozen?,c9]
     have u1:w1.frozen? ⟨wr.heap.size,1,none⟩=false:=by simp[World.frozen?,c9]
     have z9:wr.heap.size<w1.heap.size:=(Array.getElem?_eq_some_iff.1 c9).1;have z1:w.heap.size<w1.heap.size:=by omega
     have z2:w.heap.size+1<w1.heap.size:=by omega
     have z3:w.heap.size+1+1<w1.heap.size:=by omega
     have p0':=(aP.cell (p:=⟨w.heap.size,0,none⟩) l1).trans p0;have YV:=(aP.cell (p:=⟨w.heap.size,1,none⟩) l1).trans p1;have p2':=(aP.cell (p:=⟨w.heap.size,2,none⟩) l1).trans p2;have y0':=(aP.cell (p:=⟨w.heap.size+1,0,none⟩) l2).trans y0;have y1':=(aP.cell (p:=⟨w.heap.size+1,1,none⟩) l2).trans y1;have y2':=(aP.cell (p:=⟨w.heap.size+1,2,none⟩) l2).trans y2;have Tn:=(aP.cell (p:=⟨w.heap.size+1+1,0,none⟩) l3).trans r0;have To:=(aP.cell (p:=⟨w.heap.size+1+1,1,none⟩) l3).trans r1;have Tp:=(aP.cell (p:=⟨w.heap.size+1+1,2,none⟩) l3).trans r2;have f0':=(aP.frozen (p:=⟨w.heap.size+1+1,0,none⟩) l3).trans f0;have f1':=(aP.frozen (p:=⟨w.heap.size+1+1,1,none⟩) l3).trans f1;have f2':=(aP.frozen (p:=⟨w.heap.size+1+1,2,none⟩) l3).trans f2;obtain ⟨Av,cv,rfl,-,-⟩:=ag hown1;have Gf:=Lib.hid hown1;have bI:=Lib.hid aP;have HGB:=Lib.hid (mP (r:=some (w.heap.size+1+1)) aP);have Tq:=Lib.hid (show wr.heap.size+2<=w1.heap.size by have:=hb1.size;simp at this;omega)
     have Er:w1.heap.size=w1.heap.size:=rfl;have C9:=Lib.hid c9;clear hown1 hb1 aP c9 p0 p1 p2 y0 y1 y2 r0 r1 r2 f0 f1 f2 Er;go_wp2_with fail;have hbS:Below wr.heap.size wr (w1.setCell ⟨wr.heap.size,0,none⟩ (.slice Av (x.first.length+y.first.length) cv)):=bI.out.setCell (p:=⟨wr.heap.size,0,none⟩) (Nat.le_refl _) _;have Qo:=Lib.hid hbS;have c9s:=bh C9.out 0 (.slice Av (x.first.length+y.first.length) cv);have C9S:=Lib.hid c9s;have hzS:(w1.setCell ⟨wr.heap.size,0,none⟩ (.slice Av (x.first.length+y.first.length) cv)).heap.size=w1.heap.size:=by simp[World.setCell]
     have YW:=Lib.hid hzS;clear hbS c9s hzS;refine (Qn.out _ _ x.last y.last _ _ _ (Qo.out.alloc Qo.out.size _) HA.out.2.1.1 HA.out.2.2.2.1 UM h2 h4 (by have:=YW.out;simp;try omega) (by decide) (by go_simp) (by go_simp)).mono ?_
     rintro e w2 ⟨v2,rfl,aQ,aL⟩;rw[List.length_append]at aQ;have oG:Below wr.heap.size wr w2:=(Qo.out.alloc Qo.out.size _).trans (aL.mono (by have:=YW.out;simp;omega))
     have c92:w2.heap[wr.heap.size]?=some (.cells #[.slice Av (x.first.length+y.first.length) cv, .slice B2 y.last.length d2, .bool true] 184 (0,0)):=(aL.block _ (by have:=YW.out;simp;omega)).trans ((au _ _ _ (by have:=YW.out;omega)).trans C9S.out)
     have k1:IL w2 (.slice Av (x.first.length+y.first.length) cv) (x.first++y.first):=by
      have:=(IL.fS Gf.out λ_=>(by intro h;exact Tl (List.append_eq_nil_iff.1 h).2)).keep (fp:=[wr.heap.size]) (fp':=[wr.heap.size]) (w':=w2) (λg hg hm=>?_) ?_
      .exact this.1
      .have:=(Gf.out.lt g hg).1;simp at hm this;omega
      .exact (jQ (qQ (ah.refl _ _) (by simp) _) _).trans (ah.aa aL)
     have O1:=Lib.hid k1;have V1G:=Lib.hid (λg hg=>(Gf.out.lt g hg).1);have V1L:=Lib.hid (λg hg=>(Gf.out.lt g hg).2);clear t0 t1 t2 u0 u1 z9 z1 z2 z3 p0' YV p2' y0' y1' y2';obtain ⟨t0,t1,t2⟩:=aR c92;have u0:w2.frozen? ⟨wr.heap.size,0,none⟩=false:=by simp[World.frozen?,c92]
     have u1:w2.frozen? ⟨wr.heap.size,1,none⟩=false:=by simp[World.frozen?,c92]
     have z9:wr.heap.size<w2.heap.size:=(Array.getElem?_eq_some_iff.1 c92).1;have z3:w.heap.size+1+1<w2.heap.size:=by omega
     have LY:=(oG.block _ l3).trans xq.out;clear Tn To Tp f0' f1' f2';obtain ⟨Tn,To,Tp⟩:=aR LY;have f0':w2.frozen? ⟨w.heap.size+1+1,0,none⟩=false:=by simp[World.frozen?,LY]
     have f1':w2.frozen? ⟨w.heap.size+1+1,1,none⟩=false:=by simp[World.frozen?,LY]
     have f2':w2.frozen? ⟨w.heap.size+1+1,2,none⟩=false:=by simp[World.frozen?,LY]
     obtain ⟨U5,U6,rfl,-,-⟩:=ag aQ;have Gl:=Lib.hid aQ;have aha:=Lib.hid (mP (r:=some (w.heap.size+1+1)) oG);clear aQ aL oG c92 LY k1;go_wp2_with fail;refine ar λW hW=>?_;obtain ⟨q1,q2⟩:=gh Ep.out YU.out UZ.out (by omega) l3 Tm.out (W:=W) (by rw[hW];repeat (first | exact fh _ _ | exact aha.out | refine fj ?_ _ | refine dS ?_ _ _ | refine mQ ?_ (by simp) _ | refine ig ?_))
     refine bodyPost_ret (v:=.agg #[.slice Av (x.first.length+y.first.length) cv, .slice U5 (x.last.length+y.last.length) U6, .bool true]) (by rw[hW];simp[results,Tryz.results161,go_sem,Tn,To,Tp,t0,t1,t2,z3,z9,n5,n6];try rfl) rfl ?_
     refine ⟨rL, .slice Av (x.first.length+y.first.length) cv, .slice U5 (x.last.length+y.last.length) U6,?_,q1,q2,?_⟩
     .unfold bp;rw[HE.out.1,HE.out.2];rfl
     .have i1:=O1.out.keep (fp:=[w.heap.size+1+1,wr.heap.size]) (fp':=[w.heap.size+1+1,wr.heap.size]) (w':=W) (λg hg hm=>by have:=V1G.out g hg;simp at hm this;omega) (by rw[hW];repeat (first | exact ah.refl _ _ | refine jQ ?_ _ | refine qQ ?_ (by simp) _ | refine pP ?_))
      have i1':aG rL (.slice Av (x.first.length+y.first.length) cv):=λg hg hm=>by have:=V1G.out g hg;have:=(Ep.out.lt g hm).2;simp at *;omega
      have i2:=tL (N2:=w.heap.size+1+1) (N9:=wr.heap.size) (W:=W) Gl.out (by intro h;exact UM (List.append_eq_nil_iff.1 h).2) (by have:=YW.out;have:=Tq.out;simp;omega) (by have:=YW.out;have:=Tq.out;simp;omega) (λk hk=>by have:=(Ep.out.lt k hk).2;have:=Tq.out;simp;omega) (by rw[hW];repeat (first | exact ah.refl _ _ | refine jQ ?_ _ | refine qQ ?_ (by simp) _ | refine pP ?_))
      have e1:(bp x y).first=x.first++y.first:=by unfold bp;rw[HE.out.1];rfl
      have e2:(bp x y).last=x.last++y.last:=by unfold bp;rw[HE.out.2];rfl
      rw[e1,e2];exact ⟨i1.1,i1',i2.1,i2.2⟩
end
section
set_option linter.unusedVariables false
set_option linter.unusedSimpArgs false
open Go.RowKit
theorem _root_.Go.World.ownsRow.j5 {w:World} {B B':Nat} {e:TypeId} {k:Nat} {v:Value} {n:Nat} {xs:List Value} (h:w.ownsRow B e k v n xs) (hB:B'<=B):w.ownsRow B' e k v n xs:=by
 refine ⟨h.1,?_⟩;rcases h.2 with h1 | ⟨g,cap,cur,h1,h2,rest⟩
 .exact .inl h1
 .exact .inr ⟨g,cap,cur,h1,Nat.le_trans hB h2,rest⟩
theorem bj {w w':World} {B:Nat} {e:TypeId} {k:Nat} {v:Value} {n:Nat} {xs:List Value} (h:w.ownsRow B e k v n xs) (hb:Below w.heap.size w w'):w'.ownsRow B e k v n xs:=ak h λg hg=>hb.block g (h.lt g hg).2
def E1 (N B0:Nat) (A1 A2 B1 B2:Option Addr) (n1 c1 n2 c2 m1 d1 m2 d2:Nat) (ex ey:Bool) (xf xl yf yl:List Nat):Nat->Nat->Value->World->Prop
 | c,0,x,w=>x = .pointer (some ⟨N,0,none⟩)
 | c,1,x,w=>x = .slice A1 n1 c1
 | c,2,x,w=>x = .pointer (some ⟨N+1,0,none⟩)
 | c,3,x,w=>x = .slice B1 m1 d1
 | c,4,x,w=>∃g,x = .slice (some ⟨g,0,none⟩) 2 2/\g<w.heap.size/\w.cell? ⟨g,0,none⟩=some (.slice A1 n1 c1)/\w.cell? ⟨g,1,none⟩=some (.slice B1 m1 d1)
 | c,5,x,w=>∃A c',x = .slice A (n1+m1) c'/\w.ownsRow B0 3 1 x (n1+m1) (bG (xf++yf))
 | c,6,x,w=>x = .pointer (some ⟨N,1,none⟩)
 | c,7,x,w=>x = .slice A2 n2 c2
 | c,8,x,w=>x = .pointer (some ⟨N+1,1,none⟩)
 | c,9,x,w=>x = .slice B2 m2 d2
 | c,10,x,w=>∃g,x = .slice (some ⟨g,0,none⟩) 2 2/\g<w.heap.size/\w.cell? ⟨g,0,none⟩=some (.slice A2 n2 c2)/\w.cell? ⟨g,1,none⟩=some (.slice B2 m2 d2)
 | c,11,x,w=>∃A c',x = .slice A (n2+m2) c'/\w.ownsRow B0 3 1 x (n2+m2) (bG (xl++yl))
 | c,12,x,w=>x = .pointer (some ⟨N,2,none⟩)
 | c,13,x,w=>x = .bool ex
 | c,14,x,w=>x = .bool ex
 | c,15,x,w=>x=cond ex undef (.pointer (some ⟨N+1,2,none⟩))
 | c,16,x,w=>x=cond ex undef (.bool ey)
 | c,17,x,w=>x = .bool (ex || ey)
 | c,18,x,w=>∃a1 k1 a2 k2,x = .agg #[.slice a1 (n1+m1) k1, .slice a2 (n2+m2) k2, .bool (ex || ey)]/\w.ownsRow B0 3 1 (.slice a1 (n1+m1) k1) (n1+m1) (bG (xf++yf))/\w.ownsRow B0 3 1 (.slice a2 (n2+m2) k2) (n2+m2) (bG (xl++yl))
 | _,_,_,_=>True
theorem nh {N B0:Nat} {A1 A2 B1 B2:Option Addr} {n1 c1 n2 c2 m1 d1 m2 d2:Nat} {ex ey:Bool} {xf xl yf yl:List Nat} {u u':World} (hb:Below u.heap.size u u') {c j:Nat} {x:Value}
  (h:E1 N B0 A1 A2 B1 B2 n1 c1 n2 c2 m1 d1 m2 d2 ex ey xf xl yf yl c j x u):E1 N B0 A1 A2 B1 B2 n1 c1 n2 c2 m1 d1 m2 d2 ex ey xf xl yf yl c j x u':=by
 match j with
 | 0 | 1 | 2 | 3 | 6 | 7 | 8 | 9 | 12 | 13 | 14 | 15 | 16 | 17=>exact h
 | 4 | 10=>
  obtain ⟨g,e,hg,h0,h1⟩:=h;exact ⟨g,e,Nat.lt_of_lt_of_le hg hb.size,(hb.cell (p:=⟨g,0,none⟩) hg).trans h0,(hb.cell (p:=⟨g,1,none⟩) hg).trans h1⟩
 | 5 | 11=>
  obtain ⟨A,c',e,ho⟩:=h;exact ⟨A,c',e,bj ho hb⟩
 | 18=>
  obtain ⟨a1,k1,a2,k2,e,h1,h2⟩:=h;exact ⟨a1,k1,a2,k2,e,bj h1 hb,bj h2 hb⟩
 | _+19=>exact trivial
set_option maxHeartbeats 4000000 in
theorem uA (xf xl yf yl:List Nat) (ex ey:Bool) (YM YN YO YP:Value) (w:World) (jB:IL w YM xf) (iK:IL w YN xl) (KS:IL w YO yf) (DW:IL w YP yl) (Tl:yf≠[]) (UM:yl≠[])
  (h1:xf.length<=10000000) (h2:xl.length<=10000000) (h3:yf.length<=10000000) (h4:yl.length<=10000000) :
  Calls Tryz.prog 162 #[.agg #[YM,YN, .bool ex], .agg #[YO,YP, .bool ey]] w λe w'=>∃v1 v2,e = .returned (.agg #[v1,v2, .bool (ex || ey)])/\w'.ownsRow w.heap.size 3 1 v1 (xf.length+yf.length) (bG (xf++yf))/\w'.ownsRow w.heap.size 3 1 v2 (xl.length+yl.length) (bG (xl++yl))/\Below w.heap.size w w':=by
 obtain ⟨A1,c1,rfl,tG⟩:=jB.form;obtain ⟨A2,c2,rfl,sV⟩:=iK.form;obtain ⟨B1,d1,rfl,hd1⟩:=KS.form;obtain ⟨B2,d2,rfl,jO⟩:=DW.form;have HI:=Lib.hid (And.intro jB (And.intro iK (And.intro KS DW)));obtain ⟨n1,pE⟩:∃n,xf.length=n:=⟨_,rfl⟩;obtain ⟨n2,mV⟩:∃n,xl.length=n:=⟨_,rfl⟩;obtain ⟨m1,tY⟩:∃n,yf.length=n:=⟨_,rfl⟩;obtain ⟨m2,zu⟩:∃n,yl.length=n:=⟨_,rfl⟩;rw[pE,mV,tY,zu]at HI;rw[pE]at h1 tG|-;rw[mV]at h2 sV|-;rw[tY]at h3 hd1|-;rw[zu]at h4 jO|-;have HN:=Lib.hid (And.intro pE (And.intro mV (And.intro tY zu)));clear jB iK KS DW pE mV tY zu
 go_enter Tryz.func162,Tryz.ntmps162
 go_wp2_with fail;obtain ⟨N,hN⟩:∃N,N=w.heap.size:=⟨_,rfl⟩;obtain ⟨WA,Wk⟩:∃W,W=(((w.alloc (.cells #[.slice A1 n1 c1, .slice A2 n2 c2, .bool ex] 184)).alloc (.cells #[.slice B1 m1 d1, .slice B2 m2 d2, .bool ey] 184)).alloc (.cells #[.slice none 0 0, .slice none 0 0, .bool false] 184)):=⟨_,rfl⟩;have Q0:Below w.heap.size w WA:=by rw[Wk];exact (((Below.refl _ _).alloc (Nat.le_refl _) _).alloc (by simp) _).alloc (by simp;omega) _
 have Wj:WA.heap.size=w.heap.size+3:=by rw[Wk];simp
 have r0:WA.heap[w.heap.size]?=some (.cells #[.slice A1 n1 c1, .slice A2 n2 c2, .bool ex] 184 (0,0)):=by rw[Wk,au _ _ _ (by simp;omega),au _ _ _ (by simp)];exact heap_alloc_new w _
 have r1:WA.heap[w.heap.size+1]?=some (.cells #[.slice B1 m1 d1, .slice B2 m2 d2, .bool ey] 184 (0,0)):=by rw[Wk,au _ _ _ (by simp)];simpa using heap_alloc_new (w.alloc _) _
 have r2:WA.heap[w.heap.size+1+1]?=some (.cells #[.slice none 0 0, .slice none 0 0, .bool false] 184 (0,0)):=by rw[Wk];simpa using heap_alloc_new ((w.alloc _).alloc _) _
 rw[<-Wk];obtain ⟨p0,p1,p2⟩:=aR r0;obtain ⟨q0,q1,q2⟩:=aR r1;have I1:=Lib.hid (HI.out.1.later Q0);have I2:=Lib.hid (HI.out.2.1.later Q0);have J1:=Lib.hid (HI.out.2.2.1.later Q0);have J2:=Lib.hid (HI.out.2.2.2.later Q0);have PG:=Lib.hid Q0;have hsz:w.heap.size<=WA.heap.size:=by omega
 rw[<-hN]at r2 p0 p1 p2 q0 q1 q2|-;have xq:=Lib.hid r2;have l1:N<WA.heap.size:=by omega
 have l2:N+1<WA.heap.size:=by omega
 have l3:N+1+1<WA.heap.size:=by omega
 have HNN:=Lib.hid hN;have eU:Below WA.heap.size WA WA.drew:=(Below.refl _ _).drew;clear Q0 Wj r0 r1 r2 Wk hN;refine aq 19 [] (E1 N WA.heap.size A1 A2 B1 B2 n1 c1 n2 c2 m1 d1 m2 d2 ex ey xf xl yf yl) (λ_ w'=>Below WA.heap.size WA w') (by kernel_rfl) (by kernel_rfl) (by kernel_rfl) (by kernel_rfl) (by kernel_rfl) (by kernel_rfl) (by decide) eU ?_ ?_
 .simp only[cP,cQ];refine ae.pure (by decide) ?_ (ae.pure (by decide) ?_ (ae.pure (by decide) ?_ (ae.pure (by decide) ?_ (ae.free (by decide) ?_ (ae.free (by decide) ?_ (ae.pure (by decide) ?_ (ae.pure (by decide) ?_ (ae.pure (by decide) ?_ (ae.pure (by decide) ?_ (ae.free (by decide) ?_ (ae.free (by decide) ?_ (ae.pure (by decide) ?_ (ae.pure (by decide) ?_ (ae.pure (by decide) ?_ (ae.pure (by decide) ?_ (ae.pure (by decide) ?_ (ae.pure (by decide) ?_ (ae.pure (by decide) ?_ (ae.nil)))))))))))))))))))
  all_goals first | (with_reducible intro v wz c aD hS hE K hK;simp only[ai,Act.put,eh,ek,ep,Nat.zero_add,Nat.reduceAdd,cP,cQ]at hK|-) | (intro v wz hS hE K hK;simp only[ai,Act.put,eh,ek,ep,Nat.zero_add,Nat.reduceAdd,cP,cQ]at hK|-)
  .have HX:=Lib.hid hS;clear hS hE aD;go_wp2_with fail;exact hK.out _ rfl
  .have e0:v 0=_:=hE.1 rfl;rw[e0]at hK|-;have c1:=(hS.cell (p:=⟨N,0,none⟩) l1).trans p0;have HX:=Lib.hid hS;clear hS hE aD;go_wp2_with fail;exact hK.out _ rfl
  .have HX:=Lib.hid hS;clear hS hE aD;go_wp2_with fail;exact hK.out _ rfl
  .have e2:v 2=_:=hE.1 rfl;rw[e2]at hK|-;have c1:=(hS.cell (p:=⟨N+1,0,none⟩) l2).trans q0;have HX:=Lib.hid hS;clear hS hE aD;go_wp2_with fail;exact hK.out _ rfl
  .have e1:v 1=_:=hE.1 rfl;have e3:v 3=_:=hE.2.1 rfl;rw[e1,e3]at hK|-;have dh:Below wz.heap.size wz (wz.alloc (.cells #[.slice A1 n1 c1, .slice B1 m1 d1] 22)):=(Below.refl _ _).alloc (Nat.le_refl _) _;have HX:=Lib.hid hS;have vY:=Lib.hid dh;clear hS hE aD dh;go_wp2_with fail;exact hK.out _ _ (λj y _ h=>nh vY.out h) (HX.out.trans (vY.out.mono HX.out.size)) ⟨wz.heap.size,rfl,by simp,by go_simp,by go_simp⟩
  .have E4:=hE.1 rfl;obtain ⟨g,e4,hg,g0,g1⟩:=E4;rw[e4]at hK|-;have hz:=hS.size;have lK:=oF _ _ xf yf g 2 wz (I1.out.later hS) (J1.out.later hS) Tl (by have:=HN.out;omega) hg (by decide) g0 g1
   have Wl:=Lib.hid lK;have HX:=Lib.hid hS;clear hS hE aD lK g0 g1;go_wp2_with fail;refine Wl.out.mono ?_;rintro e w1 ⟨v1,rfl,hown,hb⟩;rw[List.length_append,HN.out.1,HN.out.2.2.1]at hown;have aQ:w1.ownsRow WA.heap.size 3 1 v1 _ _:=hown.j5 hz;obtain ⟨A',c',rfl,-,-⟩:=ag aQ;have HO:=Lib.hid aQ;have HB:=Lib.hid hb;clear hown aQ hb;go_wp2_with fail;exact hK.out _ _ (λj y _ h=>nh HB.out h) (HX.out.trans (HB.out.mono HX.out.size)) ⟨A',c',rfl,HO.out⟩
  .have HX:=Lib.hid hS;clear hS hE aD;go_wp2_with fail;exact hK.out _ rfl
  .have e6:v 6=_:=hE.1 rfl;rw[e6]at hK|-;have c1:=(hS.cell (p:=⟨N,1,none⟩) l1).trans p1;have HX:=Lib.hid hS;clear hS hE aD;go_wp2_with fail;exact hK.out _ rfl
  .have HX:=Lib.hid hS;clear hS hE aD;go_wp2_with fail;exact hK.out _ rfl
  .have e8:v 8=_:=hE.1 rfl;rw[e8]at hK|-;have c1:=(hS.cell (p:=⟨N+1,1,none⟩) l2).trans q1;have HX:=Lib.hid hS;clear hS hE aD;go_wp2_with fail;exact hK.out _ rfl
  .have e7:v 7=_:=hE.1 rfl;have e9:v 9=_:=hE.2.1 rfl;rw[e7,e9]at hK|-;have dh:Below wz.heap.size wz (wz.alloc (.cells #[.slice A2 n2 c2, .slice B2 m2 d2] 22)):=(Below.refl _ _).alloc (Nat.le_refl _) _;have HX:=Lib.hid hS;have vY:=Lib.hid dh;clear hS hE aD dh;go_wp2_with fail;exact hK.out _ _ (λj y _ h=>nh vY.out h) (HX.out.trans (vY.out.mono HX.out.size)) ⟨wz.heap.size,rfl,by simp,by go_simp,by go_simp⟩
  .have E10:=hE.1 rfl;obtain ⟨g,e4,hg,g0,g1⟩:=E10;rw[e4]at hK|-;have hz:=hS.size;have lK:=oF _ _ xl yl g 2 wz (I2.out.later hS) (J2.out.later hS) UM (by have:=HN.out;omega) hg (by decide) g0 g1
   have Wl:=Lib.hid lK;have HX:=Lib.hid hS;clear hS hE aD lK g0 g1;go_wp2_with fail;refine Wl.out.mono ?_;rintro e w1 ⟨v1,rfl,hown,hb⟩;rw[List.length_append,HN.out.2.1,HN.out.2.2.2]at hown;have aQ:w1.ownsRow WA.heap.size 3 1 v1 _ _:=hown.j5 hz;obtain ⟨A',c',rfl,-,-⟩:=ag aQ;have HO:=Lib.hid aQ;have HB:=Lib.hid hb;clear hown aQ hb;go_wp2_with fail;exact hK.out _ _ (λj y _ h=>nh HB.out h) (HX.out.trans (HB.out.mono HX.out.size)) ⟨A',c',rfl,HO.out⟩
  .have HX:=Lib.hid hS;clear hS hE aD;go_wp2_with fail;exact hK.out _ rfl
  .have rM:v 12=_:=hE.1 rfl;rw[rM]at hK|-;have c1:=(hS.cell (p:=⟨N,2,none⟩) l1).trans p2;have HX:=Lib.hid hS;clear hS hE aD;go_wp2_with fail;exact hK.out _ rfl
  .have tQ:v 13=_:=hE.1 rfl;rw[tQ]at hK|-;have HX:=Lib.hid hS;clear hS hE aD;go_wp2_with fail;exact hK.out _ rfl
  .have wa:v 14=_:=hE.1 rfl;rw[wa]at hK|-
   cases ex
   all_goals
    have HX:=Lib.hid hS;clear hS hE aD;go_wp2_with fail;exact hK.out _ rfl
  .have DY:v 15=_:=hE.1 rfl;have wa:v 14=_:=hE.2.1 rfl;rw[DY,wa]at hK|-;have c1:=(hS.cell (p:=⟨N+1,2,none⟩) l2).trans q2
   cases ex
   all_goals
    have HX:=Lib.hid hS;clear hS hE aD;go_wp2_with fail;exact hK.out _ rfl
  .have wa:v 14=_:=hE.1 rfl;have e16:v 16=_:=hE.2.1 rfl;rw[wa,e16]at hK|-
   cases ex
   all_goals
    have HX:=Lib.hid hS;clear hS hE aD;go_wp2_with fail;exact hK.out _ rfl
  .have e17:v 17=_:=hE.2.2.1 rfl;rw[e17]at hK|-;have E5:=hE.1 rfl;have Mw:=hE.2.1 rfl;obtain ⟨a1,k1,h5,o5⟩:=E5;obtain ⟨a2,k2,Wm,Wn⟩:=Mw;rw[h5]at o5;rw[Wm]at Wn;rw[h5,Wm]at hK|-;have HO:=Lib.hid (And.intro o5 Wn);have HX:=Lib.hid hS;clear hS hE aD o5 Wn h5 Wm;go_wp2_with fail;exact hK.out _ ⟨a1,k1,a2,k2,rfl,HO.out.1,HO.out.2⟩
 .intro v wz hS hF;have e0:v 0=_:=hF 0 (by decide)
  have e1:v 1=_:=hF 1 (by decide)
  have e2:v 2=_:=hF 2 (by decide)
  have e3:v 3=_:=hF 3 (by decide)
  have e6:v 6=_:=hF 6 (by decide)
  have e7:v 7=_:=hF 7 (by decide)
  have e8:v 8=_:=hF 8 (by decide)
  have e9:v 9=_:=hF 9 (by decide)
  have rM:v 12=_:=hF 12 (by decide)
  have tQ:v 13=_:=hF 13 (by decide)
  have wa:v 14=_:=hF 14 (by decide)
  have DY:v 15=_:=hF 15 (by decide)
  have e16:v 16=_:=hF 16 (by decide)
  have e17:v 17=_:=hF 17 (by decide)
  have E4:=hF 4 (by decide)
  have E5:=hF 5 (by decide)
  have E10:=hF 10 (by decide)
  have Mw:=hF 11 (by decide)
  have Wo:=hF 18 (by decide)
  simp only[ai,Act.put,eh,ek,ep,Nat.zero_add,Nat.reduceAdd,cP,cQ,List.drop_succ_cons,List.drop_zero,e0,e1,e2,e3,e6,e7,e8,e9,rM,tQ,wa,DY,e16,e17];clear hF e0 e1 e2 e3 e6 e7 e8 e9 rM tQ wa DY e16 e17;obtain ⟨a1,k1,a2,k2,e18,o1,o2⟩:=Wo;rw[e18];have hr:=(hS.block _ l3).trans xq.out;obtain ⟨t0,t1,t2⟩:=aR hr;have f0:wz.frozen? ⟨N+1+1,0,none⟩=false:=by simp[World.frozen?,hr]
  have f1:wz.frozen? ⟨N+1+1,1,none⟩=false:=by simp[World.frozen?,hr]
  have f2:wz.frozen? ⟨N+1+1,2,none⟩=false:=by simp[World.frozen?,hr]
  have HO:=Lib.hid (And.intro o1 (And.intro o2 (And.intro hS hr)));clear hS o1 o2 e18 E4 E5 E10 Mw hr;go_wp2_with fail;refine ar λW hW=>?_;refine bodyPost_ret (v:=.agg #[.slice a1 (n1+m1) k1, .slice a2 (n2+m2) k2, .bool (ex || ey)]) (by rw[hW];simp[results,Tryz.results162,go_sem,t0,t1,t2];try rfl) rfl ?_
  have hne:=HNN.out;have Bd:wz.grownBy W (some (N+1+1)):=by rw[hW];repeat (first | exact fh _ _ | refine fj ?_ _ | refine dS ?_ _ _ | refine ig ?_)
  have tS:∀{v:Value} {n:Nat} {xs:List Value},wz.ownsRow WA.heap.size 3 1 v n xs->W.ownsRow w.heap.size 3 1 v n xs:=λh=>(ak h λg hg=>Bd.block g (h.lt g hg).2 (λe=>by injection e with e;have:=(h.lt g hg).1;omega)).j5 hsz
  exact ⟨_,_,rfl,tS HO.out.1,tS HO.out.2.1,(PG.out.trans (HO.out.2.2.1.mono PG.out.size)).grown Bd (by have:=HO.out.2.2.1.size;omega) (λk hk=>by injection hk with hk;omega)⟩
end
section
set_option linter.unusedVariables false
set_option linter.unusedSimpArgs false
open Go.RowKit
-- How much longer the followers of a position may become.
mutual
def eV:Nd->Nat
 | .mk op _ kids _ mx=>if op=1 then 0 else if op=4 then mx.toNat*(VX kids+360000) else dF kids
def dF:List Nd->Nat
 | []=>0
 | k::r=>(eV k+360000)+dF r
def VX:List Nd->Nat
 | []=>0
 | k::_=>eV k
end
theorem kh:∀{l:List Nd} {k:Nd},k∈l->aK k<=bK l
 | a::r,k,h=>by
  rw[bK];rcases List.mem_cons.1 h with rfl | h
  .omega
  .have:=kh h;omega
theorem nJ {rs:List (Nat×Nat)} {kids:List Nd} {op mn mx:Int} (hR:aE (.mk op rs kids mn mx)=true) (h:op=2\/op=3):2<=kids.length:=by
 have h1:=((iY _).1 hR).1;rw[Dk (nd:=.mk op rs kids mn mx) h]at h1;simp only[Di,Bool.and_eq_true,decide_eq_true_eq]at h1;exact h1.1
theorem GJ:∀(m:Nat) (n:Nd),aC n<=m->aE n=true->1<=aK n:=by
 intro m
 induction m with
 | zero=>intro n h;cases n;rw[aC]at h;omega
 | succ m ih=>
  rintro ⟨op,rs,kids,mn,mx⟩ h hR;obtain ⟨pD,xO⟩:=dW hR;rw[aC]at h;have xd:∀k∈kids,1<=aK k:=λk hk=>ih k (by have:=aX hk;omega) (aU xO hk)
  have JD:2<=kids.length->1<=bK kids:=λh2=>by
   match kids,h2 with
   | a::r,_=>have:=xd a (by simp);have:=kh (show a∈a::r by simp);omega
  rw[aK];rcases pD with rfl | rfl | rfl | ⟨rfl,gY,GQ,tY,zu⟩
  .simp
  .have:=JD (nJ hR (.inl rfl));simp;omega
  .have:=JD (nJ hR (.inr rfl));simp;omega
  .match kids,gY with
   | [a],_=>
    have h1:=xd a (by simp)
    have h2:1*1<=mx.toNat*aK a:=Nat.mul_le_mul (by omega) h1
    simp[zv];omega
theorem jz {rs:List (Nat×Nat)} {kids:List Nd} {op mn mx:Int} (h:op=2\/op=3) (hp:aK (.mk op rs kids mn mx)<=600):aK (.mk op rs kids mn mx)=bK kids:=by
 rw[aK]at hp|-;rw[if_neg (by omega),if_neg (by omega)]at hp|-
 omega
theorem tk {rs:List (Nat×Nat)} {kids:List Nd} {mn mx:Int} (hp:aK (.mk 4 rs kids mn mx)<=600):aK (.mk 4 rs kids mn mx)=mx.toNat*zv kids:=by
 rw[aK]at hp|-;rw[if_neg (by decide),if_pos rfl]at hp|-
 omega
theorem Vp:∀(m:Nat) (n:Nd),aC n<=m->aE n=true->aK n<=600->eV n<=360000*(cC n*aK n):=by
 intro m
 induction m with
 | zero=>intro n h;cases n;rw[aC]at h;omega
 | succ m ih=>
  rintro ⟨op,rs,kids,mn,mx⟩ h hR hp;have wK:=hp;obtain ⟨pD,xO⟩:=dW hR;rw[aC]at h;have hpos:∀k∈kids,1<=aK k:=λk hk=>GJ _ k (Nat.le_refl _) (aU xO hk);have yb:∀(l:List Nd) (D:Nat),(∀k∈l,k∈kids)->(∀k∈l,cC k<=D)->(∀k∈l,aK k<=600)->dF l<=360000*((1+D)*bK l):=by
   intro l D
   induction l with
   | nil=>intro _ _ _;rw[dF];exact Nat.zero_le _
   | cons a r ihl=>
    intro h1 h2 h3;have i1:=ihl (λk hk=>h1 k (by simp[hk])) (λk hk=>h2 k (by simp[hk])) (λk hk=>h3 k (by simp[hk]))
    have i2:=ih a (by have:=aX (h1 a (by simp));omega) (aU xO (h1 a (by simp))) (h3 a (by simp))
    have i3:=hpos a (h1 a (by simp))
    have i4:cC a*aK a<=D*aK a:=Nat.mul_le_mul_right _ (h2 a (by simp))
    rw[dF,bK,Nat.mul_add,Nat.mul_add];have i5:(1+D)*aK a=aK a+D*aK a:=by rw[Nat.add_mul,Nat.one_mul]
    omega
  have XY:∀(l:List Nd),∀k∈l,cC k<=dJ l:=by
   intro l
   induction l with
   | nil=>intro k hk;cases hk
   | cons a r ihl=>
    intro k hk;rw[dJ];rcases List.mem_cons.1 hk with rfl | hk
    .omega
    .have:=ihl k hk;omega
  rw[eV,cC];rcases pD with rfl | rfl | rfl | ⟨rfl,gY,GQ,tY,zu⟩
  .rw[if_pos rfl];exact Nat.zero_le _
  .rw[if_neg (by decide),if_neg (by decide),jz (.inl rfl) wK]
   rw[jz (.inl rfl) wK]at hp;exact yb kids _ (λ_ h=>h) (XY kids) λk hk=>Nat.le_trans (kh hk) hp
  .rw[if_neg (by decide),if_neg (by decide),jz (.inr rfl) wK]
   rw[jz (.inr rfl) wK]at hp;exact yb kids _ (λ_ h=>h) (XY kids) λk hk=>Nat.le_trans (kh hk) hp
  .rw[if_neg (by decide),if_pos rfl,tk wK]
   rw[tk wK]at hp
   match kids,gY with
   | [a],_=>
    simp only[zv]at hp;simp only[VX,zv,dJ,Nat.max_zero];have i1:=hpos a (by simp)
    have i6:1*aK a<=mx.toNat*aK a:=Nat.mul_le_mul_right _ (by omega)
    have i2:=ih a (by have:=aX (show a∈[a] by simp);omega) (aU xO (show a∈[a] by simp)) (by omega)
    have i7:eV a+360000<=360000*((1+cC a)*aK a):=by
     have:(1+cC a)*aK a=aK a+cC a*aK a:=by rw[Nat.add_mul,Nat.one_mul]
     omega
    have i8:=Nat.mul_le_mul_left mx.toNat i7;have e:mx.toNat*(360000*((1+cC a)*aK a))=360000*((1+cC a)*(mx.toNat*aK a)):=by
     rw[Nat.mul_left_comm,Nat.mul_left_comm mx.toNat]
    rw[<-e];exact i8
theorem Wr.iff {b b':Pb} {x:dw} {K K':LA} (h:Wr b b' x K) (hk:∀w,K.l w↔K'.l w) (ha:K.a=K'.a:=by rfl):Wr b b' x K':=⟨h.len,h.sets,h.fol,h.good,λw=>(h.iu w).trans (hk w),ha▸h.A0⟩
theorem Wr.amx {b b1:Pb} {y:dw} {a:Nd} {r:List Nd} (h:Wr b b1 y (gN a)):Wr b b1 y (gC (a::r) 1):=by
 obtain ⟨L,hL⟩:=h.A0;refine ⟨h.len,h.sets,h.fol,h.good,λw=>(h.iu w).trans ?_,_,hL.one (qc rfl)⟩;show cI a w↔(cI a w\/j9 [] w);simp[j9]
theorem kH:∀{l:List Nat} {a n:Nat},l.Pairwise (·<·)->(∀p∈l,a<=p/\p<a+n)->l.length<=n
 | [],_,_,_,_=>Nat.zero_le _
 | p::r,a,n,h,hb=>by
  rw[List.pairwise_cons]at h;have hp:=hb p (by simp)
  have:=kH (a:=p+1) (n:=a+n - (p+1)) h.2 (λq hq=>by have:=h.1 q hq;have:=hb q (by simp[hq]);omega)
  rw[List.length_cons];omega
def QI (w0:World) (s:Nat) (x2 x3 x4:Value) (b:Pb) (fp:List Nat) (Lg:LA) (n K:Nat) (w:World) (e:Ending) (w':World):Prop:=
 ∃b' x fp' v1 v2,e = .returned (.agg #[v1,v2, .bool x.emp])/\py w0 s x2 x3 x4 b' fp' w'/\ah fp fp' w w'/\(IL w' v1 x.first/\aG fp' v1)/\(IL w' v2 x.last/\aG fp' v2)/\Wr b b' x Lg/\b'.fol.length=b.fol.length+n/\(x.first≠[]/\x.last≠[])/\(x.first.length<=n/\x.last.length<=n)/\∀l∈b'.fol,l.length<=K
def jG (w0:World) (s:Nat) (x2 x3 x4:Value) (nd:Nd) (vs:List Value):Prop:=∀w b fp K,py w0 s x2 x3 x4 b fp w->b.sets.length=b.fol.length->b.fol.length+aK nd<=600->(∀l∈b.fol,l.length<=K)->K+eV nd<=10000000000->
 Calls Tryz.prog 135 #[.pointer (some ⟨s,0,none⟩), .agg vs.toArray] w (QI w0 s x2 x3 x4 b fp (gN nd) (aK nd) (K+eV nd) w)
theorem IL.pW {w:World} {v:Value} {l:List Nat} (h:IL w v l) (hl:l≠[]) {N:Nat} {A1 A2:Option Addr} {n1 c1 n2 c2:Nat} {e:Bool} {T:TypeId} (hN:w.heap[N]?=some (.cells #[.slice A1 n1 c1, .slice A2 n2 c2, .bool e] T (0,0))):v.ownBlock≠some N:=by
 rcases h with ⟨h1,-⟩ | ⟨g,f,c,rfl,h0,hg,hc,hcell⟩
 .exact absurd h1 hl
 .intro e;simp[Value.ownBlock]at e;subst e;have h0':0<l.length:=by cases l with | nil=>exact absurd rfl hl | cons a r=>simp
  have h1:=hcell 0 h0';rw[cell_of_row _ _ _ _ _ _ hN]at h1
  match f,h1 with
  | 0,h1=>simp at h1
  | 1,h1=>simp at h1
  | 2,h1=>simp at h1
  | f+3,h1=>simp at h1
end
section
set_option linter.unusedVariables false
set_option linter.unusedSimpArgs false
open Go.RowKit
theorem ah.oK {f1 f2:List Nat} {a b:World} (h:ah f1 f2 a b):ah f1 [] a b:=⟨h.os,h.tape,h.output,h.size,h.blk,λk hk=>by cases hk⟩
def Jq (fp:List Nat) (W:World) (c:Nat) (wz:World):Prop:=ah fp [] W wz/\(c=0->Below W.heap.size W wz)
def CpR (w0:World) (s:Nat) (x2 x3 x4:Value) (b:Pb) (fp:List Nat) (Lg:LA) (pk KK:Nat) (xo:dw) (W:World) (x:Value) (w:World):Prop:=
 ∃b' y nW u1 u2,x = .agg #[u1,u2, .bool (bp xo y).emp]/\py w0 s x2 x3 x4 (cY b' xo y) nW w/\ah fp nW W w/\(IL w u1 (bp xo y).first/\aG nW u1)/\(IL w u2 (bp xo y).last/\aG nW u2)/\Wr b b' y Lg/\b'.fol.length=b.fol.length+pk/\(y.first≠[]/\y.last≠[])/\(y.first.length<=pk/\y.last.length<=pk)/\∀l∈b'.fol,l.length<=KK
def VT (w0:World) (s:Nat) (x2 x3 x4:Value) (b:Pb) (fp:List Nat) (Lg:LA) (pk KK:Nat) (W:World) (N g f cK:Nat) (kL kM:Value) (eo:Bool) (kv:Value) (xo:dw):Nat->Nat->Value->World->Prop
 | c,0,x,w=>x = .pointer (some ⟨s,0,none⟩)
 | c,1,x,w=>x = .agg #[kL,kM, .bool eo]
 | c,2,x,w=>x = .pointer (some ⟨s,0,none⟩)
 | c,3,x,w=>x = .pointer (some ⟨N,2,none⟩)
 | c,4,x,w=>x = .slice (some ⟨g,f,none⟩) 1 cK
 | c,5,x,w=>x = .pointer (some ⟨g,f,none⟩)
 | c,6,x,w=>x=kv
 | c,7,x,w=>c=1->QI w0 s x2 x3 x4 b fp Lg pk KK W (.returned x) w
 | c,8,x,w=>c=2->CpR w0 s x2 x3 x4 b fp Lg pk KK xo W x w
 | _,_,_,_=>True
def Jr (b bi:Pb) (Lg:LA) (j i pk:Nat) (xo xa:dw):Prop:=
 Wr b bi xo (MW Lg i)/\bi.fol.length=b.fol.length+i*pk/\(xo.first.length<=i*pk/\xo.last.length<=i*pk)/\(xa.first.length<=i*(i*pk)/\xa.last.length<=i*(i*pk))/\(i=0\/(xo.first≠[]/\xo.last≠[]))/\(i<j\/(zq b bi Lg j i xo xa/\xa.first≠[]/\xa.last≠[]))
theorem Jr.step {b bi b':Pb} {Lg:LA} {j i pk:Nat} {xo xa y:dw} (h:Jr b bi Lg j i pk xo xa) (hy:Wr bi b' y Lg) (hl:b'.fol.length=bi.fol.length+pk) (hne:y.first≠[]/\y.last≠[]) (rk:y.first.length<=pk/\y.last.length<=pk) (hj:1<=j) :
  (i+1<j->Jr b (cY b' xo y) Lg j (i+1) pk (bp xo y) xa)/\(i+1=j->Jr b (cY b' xo y) Lg j (i+1) pk (bp xo y) (bp xo y))/\(j<i+1->Jr b (cY b' xo y) Lg j (i+1) pk (bp xo y) (lV xa (bp xo y))/\xa.first≠[]/\xa.last≠[]):=by
 obtain ⟨hw,kF,ho,ha,h0,eA⟩:=h;have Gg:Wr b (cY b' xo y) (bp xo y) (MW Lg (i+1)):=hw.beh hy (n:=i) (F:=λ_=>Lg.a) rfl rfl;have VU:(cY b' xo y).fol.length=b.fol.length+(i+1)*pk:=by
  unfold cY;rw[iJ,hl,kF,Nat.succ_mul];omega
 have gI:(bp xo y).first.length<=(i+1)*pk/\(bp xo y).last.length<=(i+1)*pk:=by
  unfold bp;rw[Nat.succ_mul];constructor
  .simp only
   split
   .rw[List.length_append];omega
   .omega
  .simp only
   split
   .rw[List.length_append];omega
   .omega
 have wq:(bp xo y).first≠[]/\(bp xo y).last≠[]:=by
  unfold bp;constructor
  .simp only
   split
   .intro e;exact hne.1 (List.append_eq_nil_iff.1 e).2
   .next he=>
    rcases h0 with h0 | h0
    .subst h0;exact absurd ((hw.iu []).2 rfl) he
    .exact h0.1
  .simp only
   split
   .intro e;exact hne.2 (List.append_eq_nil_iff.1 e).2
   .exact hne.2
 have hq:i*(i*pk)<=(i+1)*((i+1)*pk):=Nat.mul_le_mul (by omega) (Nat.mul_le_mul_right _ (by omega))
 have hq2:(i+1)*pk<=(i+1)*((i+1)*pk):=by
  have:=Nat.mul_le_mul_right ((i+1)*pk) (show 1<=i+1 by omega)
  rwa [Nat.one_mul]at this
 have hq3:i*(i*pk)+(i+1)*pk<=(i+1)*((i+1)*pk):=by
  have h1:i*(i*pk)<=i*((i+1)*pk):=Nat.mul_le_mul_left _ (Nat.mul_le_mul_right _ (by omega))
  have h2:(i+1)*((i+1)*pk)=i*((i+1)*pk)+(i+1)*pk:=Nat.succ_mul _ _;omega
 refine ⟨λhlt=>⟨Gg,VU,gI,by omega, .inr wq, .inl hlt⟩,λhe=>⟨Gg,VU,gI,by omega, .inr wq, .inr ⟨?_,wq⟩⟩,λhgt=>?_⟩
 .rw[he];rw[he]at Gg;exact zq.start Gg hj
 .have hr:=eA.resolve_left (by omega)
  refine ⟨⟨Gg,VU,gI,?_, .inr wq, .inr ⟨hr.1.step hy (by omega) hj,?_,?_⟩⟩,hr.2⟩
  .unfold lV;simp only[List.length_append];omega
  .unfold lV;intro e;exact hr.2.1 (List.append_eq_nil_iff.1 e).1
  .unfold lV;intro e;exact hr.2.2 (List.append_eq_nil_iff.1 e).1
abbrev tj (w:World) (k:Nat) (a b c:Value):World:=((w.setCell ⟨k,0,none⟩ a).setCell ⟨k,1,none⟩ b).setCell ⟨k,2,none⟩ c
theorem zr {w:World} {k:Nat} {T:TypeId} {x y z:Value} (h:w.heap[k]?=some (.cells #[x,y,z] T (0,0))) (a b c:Value):(tj w k a b c).heap[k]?=some (.cells #[a,b,c] T (0,0)):=by
 have h1:=bh h 0 a;have h2:=bh h1 1 b;have h3:=bh h2 2 c;simpa using h3
theorem iw {w:World} {k k':Nat} (h:k'≠k) (a b c:Value):(tj w k a b c).heap[k']?=w.heap[k']?:=by
 unfold tj;rw[Below.heap_setCell _ _ _ _ h,Below.heap_setCell _ _ _ _ h,Below.heap_setCell _ _ _ _ h]
theorem qa (w:World) (k:Nat) (a b c:Value):(tj w k a b c).heap.size=w.heap.size:=by simp[tj,World.setCell]
theorem ET (w:World) (k:Nat) (a b c:Value):w.grownBy (tj w k a b c) (some k):=dS (dS (dS (fh _ _) _ _) _ _) _ _
theorem IL.tj {w:World} {v:Value} {l:List Nat} (h:IL w v l) {k:Nat} (hk:l≠[]->v.ownBlock≠some k) (a b c:Value):IL (tj w k a b c) v l:=by
 rcases h with h | ⟨g,f,c',rfl,h0,hg,hc,hcell⟩
 .exact .inl h
 .have VV:g≠k:=λe=>hk h0 (by rw[e];rfl)
  exact .inr ⟨g,f,c',rfl,h0,by rw[qa];exact hg,hc,λi hi=>(World.cell?_of_block (a:=⟨g,f+i,none⟩) (iw VV a b c)).trans (hcell i hi)⟩
structure gX (w0:World) (s:Nat) (x2 x3 x4:Value) (fp:List Nat) (w:World) (nb:Array Value) (bi:Pb) (dZ:List Nat) (xo:dw) (kL kM:Value) (xa:dw) (xN wN:Value) (wr:World):Prop where
 bu:py w0 s x2 x3 x4 bi dZ wr
 kf:ah fp dZ w wr
 ap:∀q∈dZ,q<w.heap.size\/w.heap.size+4<=q
 n0:wr.heap[w.heap.size]?=some (.cells nb 41 (0,0))
 n1:wr.heap[w.heap.size+1]?=some (.cells #[.slice none 0 0, .slice none 0 0, .bool false] 184 (0,0))
 n2:wr.heap[w.heap.size+1+1]?=some (.cells #[kL,kM, .bool xo.emp] 184 (0,0))
 n3:wr.heap[w.heap.size+1+1+1]?=some (.cells #[xN,wN, .bool xa.emp] 184 (0,0))
 sz:w.heap.size+4<=wr.heap.size
 o1:IL wr kL xo.first/\aG dZ kL
 o2:IL wr kM xo.last/\aG dZ kM
 a1:IL wr xN xa.first/\aG dZ xN
 a2:IL wr wN xa.last/\aG dZ wN
section
variable {w0:World} {s:Nat} {x2 x3 x4:Value} {fp:List Nat} {w:World} {nb:Array Value} {bi:Pb} {dZ:List Nat} {xo:dw} {kL kM:Value} {xa:dw} {xN wN:Value} {wr:World}
theorem gX.later (h:gX w0 s x2 x3 x4 fp w nb bi dZ xo kL kM xa xN wN wr) {W:World} (hb:Below wr.heap.size wr W):gX w0 s x2 x3 x4 fp w nb bi dZ xo kL kM xa xN wN W:=by
 have hz:=h.sz;exact ⟨h.bu.later hb,h.kf.trans (ah.aa hb),h.ap,(hb.block _ (by omega)).trans h.n0,(hb.block _ (by omega)).trans h.n1,(hb.block _ (by omega)).trans h.n2,(hb.block _ (by omega)).trans h.n3,Nat.le_trans hz hb.size,⟨h.o1.1.later hb,h.o1.2⟩,⟨h.o2.1.later hb,h.o2.2⟩,⟨h.a1.1.later hb,h.a1.2⟩,⟨h.a2.1.later hb,h.a2.2⟩⟩
theorem eH (h:gX w0 s x2 x3 x4 fp w nb bi dZ xo kL kM xa xN wN wr) (k:Nat) (h1:w.heap.size<=k) (h2:k<w.heap.size+4):k∉dZ:=λhm=>by have:=h.ap k hm;omega
theorem IL.apart {W:World} {v:Value} {l:List Nat} (h:IL W v l) {k:Nat} {A1 A2:Option Addr} {m1 c1 m2 c2:Nat} {e:Bool} {T:TypeId} (hk:W.heap[k]?=some (.cells #[.slice A1 m1 c1, .slice A2 m2 c2, .bool e] T (0,0))):l≠[]->v.ownBlock≠some k:=λhl=>h.pW hl hk
theorem gX.out (h:gX w0 s x2 x3 x4 fp w nb bi dZ xo kL kM xa xN wN wr) {b2:Pb} {x':dw} {nW:List Nat} {u1 u2:Value} {wz:World} (aL:py w0 s x2 x3 x4 b2 nW wz) (bM:ah dZ nW wr wz) (hu1:IL wz u1 x'.first/\aG nW u1) (uy:IL wz u2 x'.last/\aG nW u2) (hw:w0.heap.size<=w.heap.size) :
  gX w0 s x2 x3 x4 fp w nb b2 nW x' u1 u2 xa xN wN (tj wz (w.heap.size+1+1) u1 u2 (.bool x'.emp)):=by
 have hz:=h.sz;have hz2:=bM.size;have jU:∀q∈nW,q<w.heap.size\/w.heap.size+4<=q:=λq hq=>(bM.new q hq).elim (h.ap q) λh=>.inr (by omega)
 have hn:∀k,w.heap.size<=k->k<w.heap.size+4->k∉nW:=λk h1 h2 hm=>by have:=jU k hm;omega
 have m0:=(bM.blk _ (by omega) (eH h _ (Nat.le_refl _) (by omega))).trans h.n0
 have m1:=(bM.blk _ (by omega) (eH h _ (by omega) (by omega))).trans h.n1
 have m2:=(bM.blk _ (by omega) (eH h _ (by omega) (by omega))).trans h.n2
 have m3:=(bM.blk _ (by omega) (eH h _ (by omega) (by omega))).trans h.n3
 have a1:=h.a1.1.keep h.a1.2 bM;have a2:=h.a2.1.keep h.a2.2 bM;obtain ⟨q1,q2⟩:=gh aL (h.kf.trans bM) hw (show w.heap.size<=w.heap.size+1+1 by omega) (by omega) (hn _ (by omega) (by omega)) (ET wz (w.heap.size+1+1) u1 u2 (.bool x'.emp))
 obtain ⟨D7,D8,e1,-⟩:=h.o1.1.form;obtain ⟨D9,Ea,e2,-⟩:=h.o2.1.form;rw[e1,e2]at m2;exact ⟨q1,q2,jU,(iw (by omega) _ _ _).trans m0,(iw (by omega) _ _ _).trans m1,zr m2 _ _ _,(iw (by omega) _ _ _).trans m3,by rw[qa];omega,
  ⟨hu1.1.tj (hu1.1.apart m2) _ _ _,hu1.2⟩,⟨uy.1.tj (uy.1.apart m2) _ _ _,uy.2⟩,⟨a1.1.tj (a1.1.apart m2) _ _ _,a1.2⟩,⟨a2.1.tj (a2.1.apart m2) _ _ _,a2.2⟩⟩
theorem gX.all (h:gX w0 s x2 x3 x4 fp w nb bi dZ xo kL kM xa xN wN wr) {x':dw} {u1 u2:Value} (hu1:IL wr u1 x'.first/\aG dZ u1) (uy:IL wr u2 x'.last/\aG dZ u2) (hw:w0.heap.size<=w.heap.size) :
  gX w0 s x2 x3 x4 fp w nb bi dZ xo kL kM x' u1 u2 (tj wr (w.heap.size+1+1+1) u1 u2 (.bool x'.emp)):=by
 have hz:=h.sz;have m3:=h.n3;obtain ⟨q1,q2⟩:=gh h.bu h.kf hw (show w.heap.size<=w.heap.size+1+1+1 by omega) (by omega) (eH h _ (by omega) (by omega)) (ET wr (w.heap.size+1+1+1) u1 u2 (.bool x'.emp))
 obtain ⟨D7,D8,e1,-⟩:=h.a1.1.form;obtain ⟨D9,Ea,e2,-⟩:=h.a2.1.form;rw[e1,e2]at m3;exact ⟨q1,q2,h.ap,(iw (by omega) _ _ _).trans h.n0,(iw (by omega) _ _ _).trans h.n1,(iw (by omega) _ _ _).trans h.n2,zr m3 _ _ _,by rw[qa];omega,
  ⟨h.o1.1.tj (h.o1.1.apart m3) _ _ _,h.o1.2⟩,⟨h.o2.1.tj (h.o2.1.apart m3) _ _ _,h.o2.2⟩,⟨hu1.1.tj (hu1.1.apart m3) _ _ _,hu1.2⟩,⟨uy.1.tj (uy.1.apart m3) _ _ _,uy.2⟩⟩
theorem gX.emp (h:gX w0 s x2 x3 x4 fp w nb bi dZ xo kL kM xa xN wN wr) (e:Bool) (hw:w0.heap.size<=w.heap.size):gX w0 s x2 x3 x4 fp w nb bi dZ xo kL kM ⟨xa.first,xa.last,e⟩ xN wN (wr.setCell ⟨w.heap.size+1+1+1,2,none⟩ (.bool e)):=by
 have hz:=h.sz;have m3:=h.n3;have ho:∀k,k≠w.heap.size+1+1+1->(wr.setCell ⟨w.heap.size+1+1+1,2,none⟩ (.bool e)).heap[k]?=wr.heap[k]?:=λk hk=>Below.heap_setCell _ _ _ _ hk;have hsz:(wr.setCell ⟨w.heap.size+1+1+1,2,none⟩ (.bool e)).heap.size=wr.heap.size:=by simp[World.setCell]
 obtain ⟨q1,q2⟩:=gh h.bu h.kf hw (show w.heap.size<=w.heap.size+1+1+1 by omega) (by omega) (eH h _ (by omega) (by omega)) (dS (fh wr _) 2 (.bool e))
 obtain ⟨D7,D8,e1,-⟩:=h.a1.1.form;obtain ⟨D9,Ea,e2,-⟩:=h.a2.1.form;have eY:∀{v:Value} {l:List Nat},IL wr v l->IL (wr.setCell ⟨w.heap.size+1+1+1,2,none⟩ (.bool e)) v l:=λ{v l} hi=>by
  have MX:=hi;rw[e1,e2]at m3;have hne:=hi.apart m3;rcases hi with hi | ⟨g,f,c',rfl,h0,hg,hc,hcell⟩
  .exact .inl hi
  .have VV:g≠w.heap.size+1+1+1:=λe=>hne h0 (by rw[e];rfl)
   exact .inr ⟨g,f,c',rfl,h0,by rw[hsz];exact hg,hc,λi hi=>(World.cell?_of_block (a:=⟨g,f+i,none⟩) (ho g VV)).trans (hcell i hi)⟩
 exact ⟨q1,q2,h.ap,(ho _ (by omega)).trans h.n0,(ho _ (by omega)).trans h.n1,(ho _ (by omega)).trans h.n2,by have:=bh h.n3 2 (.bool e);simpa using this,by rw[hsz];omega,
  ⟨eY h.o1.1,h.o1.2⟩,⟨eY h.o2.1,h.o2.2⟩,⟨eY h.a1.1,h.a1.2⟩,⟨eY h.a2.1,h.a2.2⟩⟩
end
theorem dv {c:Code} {P:Program} {Q:Exit->Act->World->Prop} {a:Act} {w:World} (h:∀W,W=w->c.wp P Q a W):c.wp P Q a w:=h w rfl
theorem VW {w0:World} {s:Nat} {x2 x3 x4:Value} {b:Pb} {fp rL L L':List Nat} {w wr W:World} (hb:py w0 s x2 x3 x4 b rL wr) (hk:ah fp rL w wr) (hw:w0.heap.size<=w.heap.size) (hL:∀k∈L,w.heap.size<=k/\k∉rL) (hg:ah L L' wr W):py w0 s x2 x3 x4 b rL W/\ah fp rL w W:=by
 have hlt:=hb.lt;have aI:=hb.eP;refine ⟨?_,⟨hg.os.trans hk.os,hg.tape.trans hk.tape,hg.output.trans hk.output,Nat.le_trans hk.size hg.size,λk h1 h2=>(hg.blk k (Nat.lt_of_lt_of_le h1 hk.size) (λhm=>by have:=(hL k hm).1;omega)).trans (hk.blk k h1 h2),λk h=>hk.new k h⟩⟩
 obtain ⟨vs,vf,rows,sv,rfl,h⟩:=hb;refine ⟨vs,vf,rows,sv,rfl,h.same (λk hk'=>hg.blk k (hlt k hk').2 (λhm=>(hL k hm).2 hk')) ?_⟩;exact h.eP.trans (hg.below (λk hm=>by have:=(hL k hm).1;omega) aI.size)
def zt (N3 B0:Nat) (W:World) (xN wN:Value) (l1 l2:List Nat) (ee:Bool):Nat->Nat->Value->World->Prop
 | c,0,x,w=>x = .pointer (some ⟨N3,0,none⟩)
 | c,1,x,w=>x=xN
 | c,2,x,w=>∃A c' r,x = .slice A r.length c'/\kB l1 r/\w.ownsRow B0 3 1 x r.length (bG r)
 | c,3,x,w=>x = .pointer (some ⟨N3,1,none⟩)
 | c,4,x,w=>x=wN
 | c,5,x,w=>∃A c' r,x = .slice A r.length c'/\kB l2 r/\w.ownsRow B0 3 1 x r.length (bG r)
 | c,6,x,w=>x = .pointer (some ⟨N3,0,none⟩)
 | c,7,x,w=>c=1->∃A c' r,kB l1 r/\w.ownsRow B0 3 1 (.slice A r.length c') r.length (bG r)/\w.heap[N3]?=some (.cells #[.slice A r.length c',wN, .bool ee] 184 (0,0))/\ah [N3] [] W w
 | c,8,x,w=>x = .pointer (some ⟨N3,1,none⟩)
 | _,_,_,_=>True
theorem uz {N3 B0:Nat} {W:World} {xN wN:Value} {l1 l2:List Nat} {ee:Bool} {u u':World} (hb:Below u.heap.size u u') {c j:Nat} {x:Value} (h:zt N3 B0 W xN wN l1 l2 ee c j x u):zt N3 B0 W xN wN l1 l2 ee c j x u':=by
 match j with
 | 0 | 1 | 3 | 4 | 6 | 8=>exact h
 | 2 | 5=>
  obtain ⟨A,c',r,e,hs,ho⟩:=h;exact ⟨A,c',r,e,hs,bj ho hb⟩
 | 7=>
  intro hc;obtain ⟨A,c',r,hs,ho,hr,hk⟩:=h hc;exact ⟨A,c',r,hs,bj ho hb,(hb.block _ (Array.getElem?_eq_some_iff.1 hr).1).trans hr,hk.trans ⟨hb.os,hb.tape,hb.output,hb.size,λk hk _=>hb.block k hk,λk hk=>by cases hk⟩⟩
 | _+9=>exact trivial
set_option maxHeartbeats 8000000 in
theorem EU (w0:World) (s:Nat) (x2 x3 x4:Value) (rs:List (Nat×Nat)) (kd:Nd) (mn mx:Int) (A1:Option Addr) (c1 g f c:Nat) (qb:List Value) (hR:aE (.mk 4 rs [kd] mn mx)=true) (hpos:aK (.mk 4 rs [kd] mn mx)<=600)
  (hg:g<w0.heap.size) (hc:1<=c/\c<=9223372036854775807) (cR:bX w0 kd qb) (lC:∀j,j<5->w0.cell? ⟨g,f+j,none⟩=qb[j]?) (hw:jG w0 s x2 x3 x4 kd qb) (w:World) (b:Pb) (fp:List Nat) (K:Nat)
  (oD:py w0 s x2 x3 x4 b fp w) (rk:b.sets.length=b.fol.length) (jN:b.fol.length+aK (.mk 4 rs [kd] mn mx)<=600) (hK:∀l∈b.fol,l.length<=K) (Eo:K+eV (.mk 4 rs [kd] mn mx)<=10000000000) :
  Calls Tryz.prog 163 #[.pointer (some ⟨s,0,none⟩), .agg #[.int .i64 4, .slice A1 rs.length c1, .slice (some ⟨g,f,none⟩) 1 c, .int .i64 mn, .int .i64 mx]] w (QI w0 s x2 x3 x4 b fp (gN (.mk 4 rs [kd] mn mx)) (aK (.mk 4 rs [kd] mn mx)) (K+eV (.mk 4 rs [kd] mn mx)) w):=by
 obtain ⟨B1,e1,B2,e2,rfl,-,-,-⟩:=cR.form;obtain ⟨pD,xO⟩:=dW hR;have hle:=EW hR rfl;obtain ⟨-,-,GQ,tY,zu⟩:(4:Int)=4/\[kd].length=1/\0<=mn/\1<=mx/\mx<=64:=by
  rcases pD with h | h | h | h
  .cases h
  .cases h
  .cases h
  .exact h
 obtain ⟨M,rfl⟩:=Int.eq_ofNat_of_zero_le (show 0<=mx by omega)
 obtain ⟨m,rfl⟩:=Int.eq_ofNat_of_zero_le GQ;have v8:aK (.mk 4 rs [kd] m M)=M*aK kd:=by rw[tk hpos];simp[zv]
 have hce:eV (.mk 4 rs [kd] m M)=M*(eV kd+360000):=by rw[eV,if_neg (by decide),if_pos rfl];simp[VX]
 rw[v8]at hpos jN|-;rw[hce]at Eo|-;have rV:∀z,cI (.mk 4 rs [kd] m M) z↔∃k,m<=k/\k<=M/\zw (cI kd) k z:=λz=>by
  simp only[cI,MY];rw[if_neg (by decide),if_neg (by decide),if_neg (by decide)]
  constructor
  .rintro ⟨k,h1,h2,h3⟩;exact ⟨k,by omega,by omega,h3⟩
  .rintro ⟨k,h1,h2,h3⟩;exact ⟨k,by omega,by omega,h3⟩
 obtain ⟨N,hN⟩:∃N,N=w.heap.size:=⟨_,rfl⟩;have vU:=oD.lt;have pj:=oD.eP.size;have aiv:=Lib.hid oD;have abT:=Lib.hid rV;have aiw:=Lib.hid (show IC m M 0 (gN kd).a=(gN (.mk 4 rs [kd] m M)).a by
  show _=TN (.mk 4 rs [kd] m M);rw[TN,if_neg (by decide),if_neg (by decide),if_neg (by decide),qc (l:=[kd]) rfl,Int.toNat_natCast,Int.toNat_natCast];rfl)
 have HW:=Lib.hid hw;have HKC:=Lib.hid lC;have HK:=Lib.hid hK;have HFP:=Lib.hid vU;clear hR xO pD v8 hce rV oD hw lC hK vU cR
 go_enter Tryz.func163,Tryz.ntmps163
 go_wp2_with fail;obtain ⟨j,hj⟩:∃j,j=max m 1:=⟨_,rfl⟩;have hjm:max (m:Int) 1=(j:Int):=by omega
 have sY:1<=j:=by omega
 have hjM:j<=M:=by omega
 have xF:1<=M:=by omega
 have asf:M<=64:=by omega
 have HJ:=Lib.hid hj;obtain ⟨pk,Cp⟩:∃pk,aK kd=pk:=⟨_,rfl⟩;obtain ⟨cs,hcs⟩:∃cs,eV kd=cs:=⟨_,rfl⟩;rw[Cp]at hpos jN|-;rw[hcs]at Eo|-;have Q2:=Lib.hid (And.intro Cp hcs);have asg:M*pk<=600:=hpos;clear Cp hcs hj
 go_loopw [11] (λiv wr=>∃(i:Nat) (bi:Pb) (dZ:List Nat) (xo:dw) (kL kM:Value) (xa:dw) (xN wN:Value),i<=M/\iv = .int .i64 (i:Int)/\Hid (gX w0 s x2 x3 x4 fp w #[.int .i64 4, .slice A1 rs.length c1, .slice (some ⟨g,f,none⟩) 1 c, .int .i64 m, .int .i64 M] bi dZ xo kL kM xa xN wN wr)/\Hid (Jr b bi (gN kd) j i pk xo xa/\∀l∈bi.fol,l.length<=K+i*(cs+360000))) (λiv _=>M - (intOf iv).toNat)
 case atStart=>
  refine ⟨0,b,fp,⟨[],[],true⟩, .slice none 0 0, .slice none 0 0,⟨[],[],false⟩, .slice none 0 0, .slice none 0 0,by omega,rfl,?_,?_⟩
  .have hB:=(((((Below.refl w.heap.size w).alloc (Nat.le_refl _) (.cells #[.int .i64 4, .slice A1 rs.length c1, .slice (some ⟨g,f,none⟩) 1 c, .int .i64 m, .int .i64 M] 41)).alloc (by simp) (.cells #[.slice none 0 0, .slice none 0 0, .bool false] 184)).alloc (by simp <;> omega) (.cells #[.slice none 0 0, .slice none 0 0, .bool true] 184)).alloc (by simp <;> omega) (.cells #[.slice none 0 0, .slice none 0 0, .bool false] 184))
   have hnil:∀(W:World) (fq:List Nat),IL W (.slice none 0 0) []/\aG fq (.slice none 0 0):=λW fq=>⟨.inl ⟨rfl,rfl⟩,λg hg=>by simp[Value.ownBlock]at hg⟩
   refine ⟨aiv.out.later hB,ah.aa hB,λq hq=>.inl (HFP.out q hq).2,?_,?_,?_,?_,by simp,hnil _ _,hnil _ _,hnil _ _,hnil _ _⟩
   .rw[au _ _ _ (by simp <;> omega),au _ _ _ (by simp <;> omega),au _ _ _ (by simp)]; exact heap_alloc_new w _
   .rw[au _ _ _ (by simp <;> omega),au _ _ _ (by simp)]; simpa using heap_alloc_new (w.alloc _) _
   .rw[au _ _ _ (by simp)];simpa using heap_alloc_new ((w.alloc _).alloc _) _
   .simpa using heap_alloc_new (((w.alloc _).alloc _).alloc _) _
  .refine ⟨⟨Wr.nil b rk _,by rw[Nat.zero_mul,Nat.add_zero],⟨Nat.zero_le _,Nat.zero_le _⟩,⟨Nat.zero_le _,Nat.zero_le _⟩, .inl rfl, .inl sY⟩,λl hl=>by rw[Nat.zero_mul,Nat.add_zero];exact HK.out l hl⟩
 case round=>
  obtain ⟨i,bi,dZ,xo,kL,kM,xa,xN,wN,hi,rfl,HM,HI⟩:=hrel;by_cases hlt:i<M
  .have hd:decide ((i:Int)<(M:Int))=true:=decide_eq_true (by omega)
   have iI:decide (i<M)=true:=decide_eq_true hlt;obtain ⟨D7,D8,rfl,-⟩:=HM.out.o1.1.form;obtain ⟨D9,Ea,rfl,-⟩:=HM.out.o2.1.form;obtain ⟨Zt,Zu,rfl,-⟩:=HM.out.a1.1.form;obtain ⟨Zv,Zw,rfl,-⟩:=HM.out.a2.1.form;obtain ⟨eo,MZ⟩:∃eo,xo.emp=eo:=⟨_,rfl⟩;have hbi:=HM.out.bu;have eU:Jq dZ wr 0 wr.drew:=⟨(ah.aa (Below.refl _ _).drew).oK,λ_=>(Below.refl _ _).drew⟩;have hsz:=HM.out.sz;have l0:w.heap.size<wr.heap.size:=by omega
   have l2:w.heap.size+1+1<wr.heap.size:=by omega
   have n0:=eH HM.out w.heap.size (Nat.le_refl _) (by omega)
   have n2:=eH HM.out (w.heap.size+1+1) (by omega) (by omega)
   obtain ⟨b0,b1,b2,b3,b4⟩:=aJ HM.out.n0;have mV:=HM.out.n2;rw[MZ]at mV;obtain ⟨o0,o1,o2⟩:=aR mV;have Jg:g∉dZ:=λhm=>by have:=(hbi.lt g hm).1;omega
   have dV:g<wr.heap.size:=by have:=hbi.eP.size;omega
   have lC:=λ(wz:World) (h:wz.heap[g]?=wr.heap[g]?)=>(λj (hj:j<5)=>(World.cell?_of_block (a:=⟨g,f+j,none⟩) (h.trans (hbi.eP.block g hg))).trans (HKC.out j hj));have aiy:=Lib.hid (show ∀wz:World,wz.heap[g]?=wr.heap[g]?->wz.cell? ⟨g,f,none⟩=some (.int .i64 kd.op)/\wz.cell? ⟨g,f+1,none⟩=some (.slice B1 kd.rs.length e1)/\wz.cell? ⟨g,f+2,none⟩=some (.slice B2 kd.kids.length e2)/\wz.cell? ⟨g,f+3,none⟩=some (.int .i64 kd.mn)/\wz.cell? ⟨g,f+4,none⟩=some (.int .i64 kd.mx) from
    λwz h=>⟨lC wz h 0 (by omega),lC wz h 1 (by omega),lC wz h 2 (by omega),lC wz h 3 (by omega),lC wz h 4 (by omega)⟩)
   have Pt:=Lib.hid hbi;have GR:=Lib.hid (And.intro HM.out.o1.1 (And.intro HM.out.o1.2 (And.intro HM.out.o2.1 HM.out.o2.2)));have xJ:=HI.out.1;have hlen:=xJ.1.len;have aiz:i*pk+pk<=M*pk:=by have:=Nat.mul_le_mul_right pk hlt;rwa [Nat.succ_mul]at this
   have kF:=xJ.2.1;have jq:bi.fol.length+aK kd<=600:=by rw[Q2.out.1,kF];omega
   have BI:∀p∈xo.last,p<bi.fol.length:=λp hp=>(xJ.1.good.kj p hp).2;have px:=xJ.2.2.1;obtain ⟨K0,tl⟩:∃K0,K0=K+i*(cs+360000):=⟨_,rfl⟩;have hKi:i*(cs+360000)+(cs+360000)<=M*(cs+360000):=by have:=Nat.mul_le_mul_right (cs+360000) hlt;rwa [Nat.succ_mul]at this
   have hKc:K0+eV kd<=10000000000:=by rw[Q2.out.2];omega
   have HKB:=Lib.hid (show ∀l∈bi.fol,l.length<=K0 from λl hl=>by rw[tl];exact HI.out.2 l hl)
   have YQ:=Lib.hid BI;have xP:=Lib.hid px;have TP:=Lib.hid MZ;have Vq:=Lib.hid HW.out;have zx:pk<=600:=by omega
   have abX:aK kd<=600:=by rw[Q2.out.1];exact zx
   have Zx:=Lib.hid tl;have Pv:=Lib.hid kF;have fQ:=Lib.hid (And.intro jq hlen);clear hbi lC xJ kF BI px tl MZ mV;go_wp2_with fail;refine aq 9 [7,8] (VT w0 s x2 x3 x4 bi dZ (gN kd) (aK kd) (K0+eV kd) wr w.heap.size g f c (.slice D7 xo.first.length D8) (.slice D9 xo.last.length Ea) eo (.agg #[.int .i64 kd.op, .slice B1 kd.rs.length e1, .slice B2 kd.kids.length e2, .int .i64 kd.mn, .int .i64 kd.mx]) xo) (λc w'=>Jq dZ wr c w') (by kernel_rfl) (by kernel_rfl) (by kernel_rfl) (by kernel_rfl) (by kernel_rfl) (by kernel_rfl) (by decide) eU ?_ ?_
   .simp only[cP,cQ];refine ae.pure (by decide) ?_ (ae.pure (by decide) ?_ (ae.pure (by decide) ?_ (ae.pure (by decide) ?_ (ae.pure (by decide) ?_ (ae.pure (by decide) ?_ (ae.pure (by decide) ?_ (ae.oJ 0 rfl ?_ (ae.oJ 1 rfl ?_ (ae.nil)))))))))
    all_goals first | (with_reducible intro v wz c aD hS hE K hK;simp only[ai,Act.put,eh,ek,ep,Nat.zero_add,Nat.reduceAdd,cP,cQ]at hK|-) | (intro v wz hS hE K hK;simp only[ai,Act.put,eh,ek,ep,Nat.zero_add,Nat.reduceAdd,cP,cQ]at hK|-)
    .have HX:=Lib.hid hS;clear hS hE aD;go_wp2_with fail;exact hK.out _ rfl
    .have cx0:=(World.cell?_of_block (a:=⟨w.heap.size+1+1,0,none⟩) (hS.1.blk (w.heap.size+1+1) l2 n2)).trans o0;have cx1:=(World.cell?_of_block (a:=⟨w.heap.size+1+1,1,none⟩) (hS.1.blk (w.heap.size+1+1) l2 n2)).trans o1;have cx2:=(World.cell?_of_block (a:=⟨w.heap.size+1+1,2,none⟩) (hS.1.blk (w.heap.size+1+1) l2 n2)).trans o2;have HX:=Lib.hid hS;clear hS hE aD;go_wp2_with fail;exact hK.out _ rfl
    .have HX:=Lib.hid hS;clear hS hE aD;go_wp2_with fail;exact hK.out _ rfl
    .have HX:=Lib.hid hS;clear hS hE aD;go_wp2_with fail;exact hK.out _ rfl
    .have e3:v 3=_:=hE.1 rfl;rw[e3]at hK|-;have cn2:=(World.cell?_of_block (a:=⟨w.heap.size,2,none⟩) (hS.1.blk w.heap.size l0 n0)).trans b2;have HX:=Lib.hid hS;clear hS hE aD;go_wp2_with fail;exact hK.out _ rfl
    .have e4:v 4=_:=hE.1 rfl;rw[e4]at hK|-;have HX:=Lib.hid hS;clear hS hE aD;go_wp2_with fail;exact hK.out _ rfl
    .have e5:v 5=_:=hE.1 rfl;rw[e5]at hK|-;obtain ⟨k0,k1,k2,k3,k4⟩:=aiy.out wz (hS.1.blk g dV Jg);have HX:=Lib.hid hS;clear hS hE aD;go_wp2_with fail;exact hK.out _ rfl
    .have e2:v 2=_:=hE.1 rfl;have e6:v 6=_:=hE.2.1 rfl;rw[e2,e6]at hK|-;have hz:=hS.2 rfl;have aF:=Vq.out wz bi dZ K0 (Pt.out.later hz) fQ.out.2 fQ.out.1 HKB.out hKc;have HC:=Lib.hid aF;have HX:=Lib.hid hS;clear hS hE aF;go_wp2_with fail;refine HC.out.mono ?_;rintro e wy ⟨b',y,fp',v1,v2,rfl,hb',hk',iD,ez,hw',je,dO,eX,hK'⟩;have HP:=Lib.hid (And.intro hb' (And.intro hk' (And.intro iD (And.intro ez (And.intro hw' (And.intro je (And.intro dO (And.intro eX hK'))))))));clear hb' hk' iD ez hw' je dO eX hK';go_wp2_with fail;refine hK.out _ _ (λj z hj h=>?_) ⟨((ah.aa (HX.out.2 rfl)).trans HP.out.2.1).oK,λh=>by cases h⟩ (λ_=>⟨b',y,fp',v1,v2,rfl,HP.out.1,(ah.aa (HX.out.2 rfl)).trans HP.out.2.1,HP.out.2.2.1,HP.out.2.2.2.1,HP.out.2.2.2.2.1,HP.out.2.2.2.2.2.1,HP.out.2.2.2.2.2.2.1,HP.out.2.2.2.2.2.2.2.1,HP.out.2.2.2.2.2.2.2.2⟩)
     match j with
     | 0 | 1 | 2 | 3 | 4 | 5 | 6=>exact h
     | 7=>exact absurd rfl hj
     | 8=>exact λh=>by cases h
     | _+9=>exact trivial
    .have e0:v 0=_:=hE.1 rfl;have e1:v 1=_:=hE.2.1 rfl;rw[e0,e1]at hK|-;have E7:=hE.2.2.1 rfl;obtain ⟨b',y,fp',v1,v2,ev,hb',hk',iD,ez,hw',je,dO,eX,hK'⟩:=E7 rfl;injection ev with ev;rw[ev]at hK|-;have i1:=GR.out.1.keep GR.out.2.1 hk';have i2:=GR.out.2.2.1.keep GR.out.2.2.2 hk';have BI:∀p∈xo.last,p<b'.fol.length:=λp hp=>by have:=YQ.out p hp;omega
     have aF:=tM w0 s x2 x3 x4 b' fp' wz xo y _ _ v1 v2 _ hb' i1.1 i1.2 i2.1 i2.2 iD.1 iD.2 ez.1 ez.2 dO.1 dO.2 BI (by have:=xP.out;omega) (by have:=xP.out;omega) (by omega) (by omega) hK' (by omega)
     rw[TP.out]at aF;have HC:=Lib.hid aF;have HX:=Lib.hid hS;have HP:=Lib.hid (And.intro hb' (And.intro hk' (And.intro hw' (And.intro je (And.intro dO (And.intro eX hK'))))));clear hS hE aF hb' hk' iD ez hw' je dO eX hK' i1 i2 BI E7 ev;go_wp2_with fail;refine HC.out.mono ?_;rintro e wy ⟨nW,u1,u2,rfl,aL,bM,j1,j2,j3,j4⟩;have HQ:=Lib.hid (And.intro aL (And.intro bM (And.intro j1 (And.intro j2 (And.intro j3 j4)))));clear aL bM j1 j2 j3 j4;go_wp2_with fail;refine hK.out _ _ (λj z hj h=>?_) ⟨(HP.out.2.1.trans HQ.out.2.1).oK,λh=>by cases h⟩ (λ_=>⟨b',y,nW,u1,u2,rfl,HQ.out.1,HP.out.2.1.trans HQ.out.2.1,⟨HQ.out.2.2.1,HQ.out.2.2.2.1⟩,⟨HQ.out.2.2.2.2.1,HQ.out.2.2.2.2.2⟩,HP.out.2.2.1,HP.out.2.2.2.1,HP.out.2.2.2.2.1,HP.out.2.2.2.2.2.1,HP.out.2.2.2.2.2.2⟩)
     match j with
     | 0 | 1 | 2 | 3 | 4 | 5 | 6=>exact h
     | 7=>exact λh=>by cases h
     | 8=>exact absurd rfl hj
     | _+9=>exact trivial
   .intro v wz hS hF;have e0:v 0=_:=hF 0 (by decide)
    have e1:v 1=_:=hF 1 (by decide)
    have e2:v 2=_:=hF 2 (by decide)
    have e3:v 3=_:=hF 3 (by decide)
    have e4:v 4=_:=hF 4 (by decide)
    have e5:v 5=_:=hF 5 (by decide)
    have e6:v 6=_:=hF 6 (by decide)
    have E7:=hF 7 (by decide)
    have E8:=hF 8 (by decide)
    simp only[ai,Act.put,eh,ek,ep,Nat.zero_add,Nat.reduceAdd,cP,cQ,List.drop_succ_cons,List.drop_zero,e0,e1,e2,e3,e4,e5,e6];clear hF e0 e1 e2 e3 e4 e5 e6;obtain ⟨b',y,nW,u1,u2,ev,aL,bM,hu1,uy,Cq,je,dO,eX,hK'⟩:=E8 rfl;rw[ev];obtain ⟨Au1,cu1,rfl,VY⟩:=hu1.1.form;obtain ⟨Au2,VZ,rfl,V2⟩:=uy.1.form;have kN:w0.heap.size<=w.heap.size:=pj;have xF:=HM.out.out (x':=bp xo y) aL bM hu1 uy kN;have tu:=Lib.hid xF;have eb:=HI.out.1.step Cq (by rw[je,Q2.out.1]) dO (by rw[Q2.out.1]at eX;exact eX) sY
    have y9:∀l∈(cY b' xo y).fol,l.length<=K+(i+1)*(cs+360000):=λl hl=>by
     have h1:=yT y.first xo.last b'.fol _ hK' l hl;have h2:xo.last.length*y.first.length<=600*600:=Nat.mul_le_mul (by have:=xP.out;omega) (by omega)
     have h3:=Zx.out;have h4:=Q2.out.2;have h5:(i+1)*(cs+360000)=i*(cs+360000)+(cs+360000):=Nat.succ_mul _ _;omega
    have lY:=Lib.hid (And.intro eb y9);obtain ⟨X,hX⟩:∃X,bp xo y=X:=⟨_,rfl⟩;obtain ⟨B',hB'⟩:∃B',cY b' xo y=B':=⟨_,rfl⟩;rw[hX,hB']at tu lY;rw[hX]at VY V2|-;have hXl:X.first.length<=600/\X.last.length<=600:=by
     have h1:(i+1)*pk<=M*pk:=Nat.mul_le_mul_right _ hlt;rcases Nat.lt_trichotomy (i+1) j with h | h | h
     .have:=(lY.out.1.1 h).2.2.1;omega
     .have:=(lY.out.1.2.1 h).2.2.1;omega
     .have:=(lY.out.1.2.2 h).1.2.2.1;omega
    have hz0:=(bM.blk _ l0 n0).trans HM.out.n0;have hz2:=(bM.blk _ l2 n2).trans HM.out.n2;have D4:=(bM.blk _ (by omega) (eH HM.out (w.heap.size+1+1+1) (by omega) (by omega))).trans HM.out.n3
    obtain ⟨z0,z1,z2,z3,z4⟩:=aJ hz0;obtain ⟨q0,q1,q2⟩:=aR hz2;obtain ⟨t0,t1,t2⟩:=aR D4;have f0:wz.frozen? ⟨w.heap.size+1+1,0,none⟩=false:=by simp[World.frozen?,hz2]
    have f1:wz.frozen? ⟨w.heap.size+1+1,1,none⟩=false:=by simp[World.frozen?,hz2]
    have f2:wz.frozen? ⟨w.heap.size+1+1,2,none⟩=false:=by simp[World.frozen?,hz2]
    have g0:wz.frozen? ⟨w.heap.size+1+1+1,0,none⟩=false:=by simp[World.frozen?,D4]
    have g1:wz.frozen? ⟨w.heap.size+1+1+1,1,none⟩=false:=by simp[World.frozen?,D4]
    have g2:wz.frozen? ⟨w.heap.size+1+1+1,2,none⟩=false:=by simp[World.frozen?,D4]
    clear hS E7 E8 ev aL bM hu1 uy Cq je dO eX hK' xF eb y9 hz0 hz2 D4 b0 b1 b2 b3 b4 o0 o1 o2 hX hB' eU;rcases Nat.lt_trichotomy (i+1) j with M0 | M0 | M0
    .have d1:((i:Int)+1 == (j:Int))=false:=by simp;omega
     have d2:decide ((m:Int)<(i:Int)+1)=false:=decide_eq_false (by have:=HJ.out;omega)
     have Zy:=Lib.hid M0;clear M0;go_wp2_with fail;go_roundw
     case rel=>
      exact ⟨i+1,_,_,_,_,_,_,_,_,by omega,by go_num,tu,⟨lY.out.1.1 Zy.out,lY.out.2⟩⟩
     case measure=>simp[intOf];omega
    .have d1:((i:Int)+1 == (j:Int))=true:=by simp;omega
     have Zy:=Lib.hid M0;have xQ:=tu.out.all tu.out.o1 tu.out.o2 kN;have Bk:=Lib.hid xQ;clear M0 xQ;go_wp2_with fail;go_roundw
     case rel=>
      exact ⟨i+1,_,_,_,_,_,_,_,_,by omega,by go_num,Bk,⟨lY.out.1.2.1 Zy.out,lY.out.2⟩⟩
     case measure=>simp[intOf];omega
    .have d1:((i:Int)+1 == (j:Int))=false:=by simp;omega
     have d2:decide ((m:Int)<(i:Int)+1)=true:=decide_eq_true (by have:=HJ.out;omega)
     have V3:=lY.out.1.2.2 M0;have M3:xa.first.length<=10000000/\xa.last.length<=10000000:=by
      have h1:=HI.out.1.2.2.2.1;have h2:i*(i*pk)<=64*(64*600):=Nat.mul_le_mul (by omega) (Nat.mul_le_mul (by omega) zx)
      omega
     have Q3:X.first≠[]/\X.last≠[]:=V3.1.2.2.2.2.1.resolve_left (by omega)
     have aF:∀W,W=tj wz (w.heap.size+1+1) (.slice Au1 X.first.length cu1) (.slice Au2 X.last.length VZ) (.bool X.emp)->Calls Tryz.prog 162 #[.agg #[.slice Zt xa.first.length Zu, .slice Zv xa.last.length Zw, .bool xa.emp], .agg #[.slice Au1 X.first.length cu1, .slice Au2 X.last.length VZ, .bool X.emp]] W _:=λW h=>by
      subst h;exact uA xa.first xa.last X.first X.last xa.emp X.emp _ _ _ _ _ tu.out.a1.1 tu.out.a2.1 tu.out.o1.1 tu.out.o2.1 Q3.1 Q3.2 M3.1 M3.2 (by omega) (by omega)
     have lL:=Lib.hid aF;have HS3:=Lib.hid V3;have Zy:=Lib.hid M0;have HXN:=Lib.hid Q3;clear M0 V3 aF Q3;go_wp2_with fail;refine (lL.out _ rfl).mono ?_;rintro e w2 ⟨v1,v2,rfl,zj,wG,aP⟩;have xQ:=tu.out.later aP;obtain ⟨Av1,cv1,rfl,-,-⟩:=ag zj;obtain ⟨U5,U6,rfl,-,-⟩:=ag wG;have hfq:∀q∈nW,q<(tj wz (w.heap.size+1+1) (.slice Au1 X.first.length cu1) (.slice Au2 X.last.length VZ) (.bool X.emp)).heap.size:=λq hq=>(tu.out.bu.lt q hq).2;have hM3:=xQ.all (x':=lV xa X) ⟨IL.fS zj (λ_ h=>HXN.out.1 (List.append_eq_nil_iff.1 h).2),λq hq hm=>by have:=(zj.lt q hq).1;have:=hfq q hm;omega⟩ ⟨IL.fS wG (λ_ h=>HXN.out.2 (List.append_eq_nil_iff.1 h).2),λq hq hm=>by have:=(wG.lt q hq).1;have:=hfq q hm;omega⟩ kN
     have HM3:=Lib.hid hM3;obtain ⟨t0',t1',t2'⟩:=aR xQ.n3;have g0':w2.frozen? ⟨w.heap.size+1+1+1,0,none⟩=false:=by simp[World.frozen?,xQ.n3]
     have g1':w2.frozen? ⟨w.heap.size+1+1+1,1,none⟩=false:=by simp[World.frozen?,xQ.n3]
     have g2':w2.frozen? ⟨w.heap.size+1+1+1,2,none⟩=false:=by simp[World.frozen?,xQ.n3]
     clear zj wG aP xQ hM3 hfq t0 t1 t2 g0 g1 g2 q0 q1 q2 f0 f1 f2 z0 z1 z2 z3 z4;go_wp2_with fail;go_roundw
     case rel=>
      exact ⟨i+1,_,_,_,_,_,_,_,_,by omega,by go_num,HM3,⟨HS3.out.1,lY.out.2⟩⟩
     case measure=>simp[intOf];omega
  .obtain rfl:i=M:=by omega
   obtain ⟨D7,D8,rfl,-⟩:=HM.out.o1.1.form;obtain ⟨D9,Ea,rfl,-⟩:=HM.out.o2.1.form;obtain ⟨Zt,Zu,rfl,-⟩:=HM.out.a1.1.form;obtain ⟨Zv,Zw,rfl,-⟩:=HM.out.a2.1.form;obtain ⟨b0,b1,b2,b3,b4⟩:=aJ HM.out.n0;obtain ⟨t0,t1,t2⟩:=aR HM.out.n3;obtain ⟨r0,r1,r2⟩:=aR HM.out.n1;have g2:wr.frozen? ⟨w.heap.size+1+1+1,2,none⟩=false:=by simp[World.frozen?,HM.out.n3]
   have kN:w0.heap.size<=w.heap.size:=pj;have TQ:=HI.out.1.2.2.2.2.2.resolve_left (by omega)
   have M3:xa.first.length<=10000000/\xa.last.length<=10000000:=by
    have h1:=HI.out.1.2.2.2.1;have h2:i*(i*pk)<=64*600:=Nat.mul_le_mul (by omega) (by omega)
    omega
   have HXR:=Lib.hid (And.intro TQ M3);obtain ⟨ea,hea⟩:∃ea,xa.emp=ea:=⟨_,rfl⟩;rw[hea]at t2;have HEA:=Lib.hid hea;clear TQ M3 hea;have eR:∀W,gX w0 s x2 x3 x4 fp w #[.int .i64 4, .slice A1 rs.length c1, .slice (some ⟨g,f,none⟩) 1 c, .int .i64 m, .int .i64 i] bi dZ xo (.slice D7 xo.first.length D8) (.slice D9 xo.last.length Ea) ⟨xa.first,xa.last,(xa.emp || m == 0)⟩ (.slice Zt xa.first.length Zu) (.slice Zv xa.last.length Zw) W->w.heap.size+1+1+1<W.heap.size/\w.heap.size+1<W.heap.size:=λW h=>by have:=h.sz;omega
   have V6:=Lib.hid eR;have K9:∀(e:Bool) (W:World),(xa.emp || m == 0)=e->W=wr.setCell ⟨w.heap.size+1+1+1,2,none⟩ (.bool e)->gX w0 s x2 x3 x4 fp w #[.int .i64 4, .slice A1 rs.length c1, .slice (some ⟨g,f,none⟩) 1 c, .int .i64 m, .int .i64 i] bi dZ xo (.slice D7 xo.first.length D8) (.slice D9 xo.last.length Ea) ⟨xa.first,xa.last,(xa.emp || m == 0)⟩ (.slice Zt xa.first.length Zu) (.slice Zv xa.last.length Zw) W:=λe W h1 h2=>by
    subst h1 h2;exact HM.out.emp _ kN
   have HE:=Lib.hid K9;clear eR K9;obtain ⟨q,d1⟩:∃q,((m:Int) == 0)=q:=⟨_,rfl⟩;have hq:(xa.emp || m == 0)=(ea || q):=by
    rw[HEA.out,<-d1]
    congr 1
    rw[Bool.eq_iff_iff];simp
   have HQ:=Lib.hid hq;clear hq
   cases ea <;> cases q
   all_goals
    go_wp2_with fail;refine dv λW hW=>?_;have hM:=HE.out _ W HQ.out hW;obtain ⟨l3,l1⟩:=V6.out W hM;obtain ⟨q0,q1,q2⟩:=aR hM.n3;obtain ⟨Tn,To,Tp⟩:=aR hM.n1;clear hW t0 t1 t2 r0 r1 r2 b0 b1 b2 b3 b4 g2;have t0:=q0;have t1:=q1;have EM:=Lib.hid hM;have HIA:=Lib.hid (show IL W (.slice Zt xa.first.length Zu) xa.first/\IL W (.slice Zv xa.last.length Zw) xa.last from ⟨hM.a1.1,hM.a2.1⟩);have aiF:=Lib.hid HIA.out.1;have aiG:=Lib.hid HIA.out.2;have HXA:=Lib.hid HXR.out.2;have HN3:=Lib.hid hM.n3;have eU:(0=0->Below W.heap.size W W.drew):=λ_=>(Below.refl _ _).drew;clear hM q0 q1 q2;refine aq 9 [7] (zt (w.heap.size+1+1+1) W.heap.size W (.slice Zt xa.first.length Zu) (.slice Zv xa.last.length Zw) xa.first xa.last (xa.emp || m == 0)) (λc w'=>c=0->Below W.heap.size W w') (by kernel_rfl) (by kernel_rfl) (by kernel_rfl) (by kernel_rfl) (by kernel_rfl) (by kernel_rfl) (by decide) eU ?_ ?_
    .simp only[cP,cQ];refine ae.pure (by decide) ?_ (ae.pure (by decide) ?_ (ae.free (by decide) ?_ (ae.pure (by decide) ?_ (ae.pure (by decide) ?_ (ae.free (by decide) ?_ (ae.pure (by decide) ?_ (ae.oJ 0 rfl ?_ (ae.pure (by decide) ?_ (ae.nil)))))))))
     all_goals first | (with_reducible intro v wz c aD hS hE K hK;simp only[ai,Act.put,eh,ek,ep,Nat.zero_add,Nat.reduceAdd,cP,cQ]at hK|-) | (intro v wz hS hE K hK;simp only[ai,Act.put,eh,ek,ep,Nat.zero_add,Nat.reduceAdd,cP,cQ]at hK|-)
     .have HX:=Lib.hid hS;clear hS hE aD;go_wp2_with fail;exact hK.out _ rfl
     .have e0:v 0=_:=hE.1 rfl;rw[e0]at hK|-;have nP:c=0:=Nat.le_zero.1 (aD 0 (by kernel_rfl))
      subst nP;have hz:=hS rfl;have c1:=(hz.cell (p:=⟨w.heap.size+1+1+1,0,none⟩) l3).trans t0;clear hz;have HX:=Lib.hid hS;clear hS hE aD;go_wp2_with fail;exact hK.out _ rfl
     .have e1:v 1=_:=hE.1 rfl;rw[e1]at hK|-;have nP:c=0:=Nat.le_zero.1 (aD 0 (by kernel_rfl))
      subst nP;have hz:=hS rfl;have aF:=iM _ xa.first wz (aiF.out.later hz) (by have:=HXA.out;omega)
      have HC:=Lib.hid aF;have HX:=Lib.hid hz;clear hS hE aD aF hz;go_wp2_with fail;refine HC.out.mono ?_;rintro e w1 ⟨v1,r,rfl,vV,hown,-,hb⟩;have aQ:w1.ownsRow W.heap.size 3 1 v1 _ _:=hown.j5 HX.out.size;obtain ⟨A',c',rfl,-,-⟩:=ag aQ;have HO:=Lib.hid aQ;have HB:=Lib.hid hb;have YS:=Lib.hid vV;clear hown aQ hb vV;go_wp2_with fail;exact hK.out _ _ (λj y _ h=>uz HB.out h) (λ_=>HX.out.trans (HB.out.mono HX.out.size)) ⟨A',c',r,rfl,YS.out,HO.out⟩
     .have HX:=Lib.hid hS;clear hS hE aD;go_wp2_with fail;exact hK.out _ rfl
     .have e3:v 3=_:=hE.1 rfl;rw[e3]at hK|-;have nP:c=0:=Nat.le_zero.1 (aD 0 (by kernel_rfl))
      subst nP;have hz:=hS rfl;have c1:=(hz.cell (p:=⟨w.heap.size+1+1+1,1,none⟩) l3).trans t1;clear hz;have HX:=Lib.hid hS;clear hS hE aD;go_wp2_with fail;exact hK.out _ rfl
     .have e4:v 4=_:=hE.1 rfl;rw[e4]at hK|-;have nP:c=0:=Nat.le_zero.1 (aD 0 (by kernel_rfl))
      subst nP;have hz:=hS rfl;have aF:=iM _ xa.last wz (aiG.out.later hz) (by have:=HXA.out;omega)
      have HC:=Lib.hid aF;have HX:=Lib.hid hz;clear hS hE aD aF hz;go_wp2_with fail;refine HC.out.mono ?_;rintro e w1 ⟨v1,r,rfl,vV,hown,-,hb⟩;have aQ:w1.ownsRow W.heap.size 3 1 v1 _ _:=hown.j5 HX.out.size;obtain ⟨A',c',rfl,-,-⟩:=ag aQ;have HO:=Lib.hid aQ;have HB:=Lib.hid hb;have YS:=Lib.hid vV;clear hown aQ hb vV;go_wp2_with fail;exact hK.out _ _ (λj y _ h=>uz HB.out h) (λ_=>HX.out.trans (HB.out.mono HX.out.size)) ⟨A',c',r,rfl,YS.out,HO.out⟩
     .have HX:=Lib.hid hS;clear hS hE aD;go_wp2_with fail;exact hK.out _ rfl
     .have e6:v 6=_:=hE.1 rfl;rw[e6]at hK|-;have E2:=hE.2.1 rfl;obtain ⟨A,c',r,ev,vV,ho⟩:=E2;rw[ev]at hK ho|-;have hz:=hS rfl;have GM:=(hz.block _ l3).trans HN3.out;obtain ⟨c0',c1',IG⟩:=aR GM;have fz:wz.frozen? ⟨w.heap.size+1+1+1,0,none⟩=false:=by simp[World.frozen?,GM]
      have HO:=Lib.hid ho;have HX:=Lib.hid hz;have HR:=Lib.hid GM;have YS:=Lib.hid vV;clear hS hE hz ho GM vV ev;go_wp2_with fail;have bg:∀k,k≠w.heap.size+1+1+1->(wz.setCell ⟨w.heap.size+1+1+1,0,none⟩ (.slice A r.length c')).heap[k]?=wz.heap[k]?:=λk hk=>Below.heap_setCell _ _ _ _ hk;have hoo:∀{v:Value} {n:Nat} {xs:List Value},wz.ownsRow W.heap.size 3 1 v n xs->(wz.setCell ⟨w.heap.size+1+1+1,0,none⟩ (.slice A r.length c')).ownsRow W.heap.size 3 1 v n xs:=λh=>ak h λg hg=>bg g (by have:=(h.lt g hg).1;omega)
      refine hK.out undef _ (λj z hj h=>?_) (λh=>by cases h) (λ_=>⟨A,c',r,YS.out,hoo HO.out,by have:=bh HR.out 0 (.slice A r.length c');simpa using this,?_⟩)
      .match j with
       | 0 | 1 | 3 | 4 | 6 | 8=>exact h
       | 2 | 5=>
        obtain ⟨A1',aaG,r1,e,hs,ho⟩:=h;exact ⟨A1',aaG,r1,e,hs,hoo ho⟩
       | 7=>exact absurd rfl hj
       | _+9=>exact trivial
      .exact ⟨HX.out.os,HX.out.tape,HX.out.output,by simpa [World.setCell] using HX.out.size,λk hk hn=>(bg k (λe=>hn (by rw[e];simp))).trans (HX.out.block k hk),λk hk=>by cases hk⟩
     .have HX:=Lib.hid hS;clear hS hE aD;go_wp2_with fail;exact hK.out _ rfl
    .intro v wz hS hF;have e0:v 0=_:=hF 0 (by decide)
     have e1:v 1=_:=hF 1 (by decide)
     have e3:v 3=_:=hF 3 (by decide)
     have e4:v 4=_:=hF 4 (by decide)
     have e6:v 6=_:=hF 6 (by decide)
     have e8:v 8=_:=hF 8 (by decide)
     have E2:=hF 2 (by decide)
     have E5:=hF 5 (by decide)
     have E7:=hF 7 (by decide)
     simp only[ai,Act.put,eh,ek,ep,Nat.zero_add,Nat.reduceAdd,cP,cQ,List.drop_succ_cons,List.drop_zero,e0,e1,e3,e4,e6,e8];clear hF e0 e1 e3 e4 e6 e8;obtain ⟨A7,c7,r1,ab2,zj,hrow,km⟩:=E7 rfl;obtain ⟨A5,c5,r2,ev5,ab3,wG⟩:=E5;rw[ev5]at wG|-;obtain ⟨z0,z1,z2⟩:=aR hrow;have fz0:wz.frozen? ⟨w.heap.size+1+1+1,0,none⟩=false:=by simp[World.frozen?,hrow]
     have fz1:wz.frozen? ⟨w.heap.size+1+1+1,1,none⟩=false:=by simp[World.frozen?,hrow]
     have uB:=(km.blk _ l1 (by simp)).trans EM.out.n1
     obtain ⟨y0,y1,y2⟩:=aR uB;have fy0:wz.frozen? ⟨w.heap.size+1,0,none⟩=false:=by simp[World.frozen?,uB]
     have fy1:wz.frozen? ⟨w.heap.size+1,1,none⟩=false:=by simp[World.frozen?,uB]
     have fy2:wz.frozen? ⟨w.heap.size+1,2,none⟩=false:=by simp[World.frozen?,uB]
     have HZ:=Lib.hid (And.intro ab2 (And.intro zj (And.intro ab3 (And.intro wG (And.intro hrow km)))));clear hS E2 E7 ev5 ab2 zj ab3 wG hrow km uB;go_wp2_with fail;refine ar λWf cH=>?_;have Zz:ah [w.heap.size+1+1+1,w.heap.size+1] [w.heap.size+1+1+1,w.heap.size+1] wz Wf:=by
      rw[cH];repeat (first | exact ah.refl _ _ | refine jQ ?_ _ | refine qQ ?_ (by simp) _ | refine pP ?_)
     have aiI:ah [w.heap.size+1+1+1,w.heap.size+1] [] W Wf:=by
      have h1:=HZ.out.2.2.2.2.2;exact ⟨Zz.os.trans h1.os,Zz.tape.trans h1.tape,Zz.output.trans h1.output,Nat.le_trans h1.size Zz.size,λk hk hn=>(Zz.blk k (Nat.lt_of_lt_of_le hk h1.size) hn).trans (h1.blk k hk (λhm=>hn (by simp at hm;simp[hm]))),λk hk=>by cases hk⟩
     obtain ⟨q1,q2⟩:=VW EM.out.bu EM.out.kf kN (λk hk=>by
      simp at hk;exact ⟨by omega,eH EM.out k (by omega) (by omega)⟩) aiI
     refine bodyPost_ret (v:=.agg #[.slice A7 r1.length c7, .slice A5 r2.length c5, .bool (xa.emp || m == 0)]) (by rw[cH];simp[results,Tryz.results163,go_sem,y0,y1,y2,z0,z1,z2,l1,l3];try rfl) rfl ?_
     have hown:∀{v:Value} {n:Nat} {l:List Nat},wz.ownsRow W.heap.size 3 1 v n (bG l)->l≠[]->IL Wf v l/\aG dZ v:=λ{v n l} h hl=>by
      have hsz:=EM.out.sz;refine ⟨(IL.keep (IL.fS h λ_=>hl) (λg hg hm=>?_) Zz).1,λg hg hm=>?_⟩
      .have:=(h.lt g hg).1;simp at hm;omega
      .have:=(h.lt g hg).1;have:=(EM.out.bu.lt g hm).2;omega
     have xJ:=HI.out.1;have TQ:=HXR.out.1;have hsA:=HZ.out.1;have hsB:=HZ.out.2.2.1;have Qh:r1≠[]:=λe=>by
      cases hf:xa.first with
      | nil=>exact TQ.2.1 hf
      | cons p l=>have:=(hsA.2 p).2 (by rw[hf];simp);rw[e]at this;cases this
     have wq:r2≠[]:=λe=>by
      cases hf:xa.last with
      | nil=>exact TQ.2.2 hf
      | cons p l=>have:=(hsB.2 p).2 (by rw[hf];simp);rw[e]at this;cases this
     have kF:=xJ.2.1;have Er:r1.length<=i*pk:=kH (a:=b.fol.length) hsA.1 λp hp=>by
      have:=xJ.1.good.fst p (TQ.1.fst p ((hsA.2 p).1 hp));omega
     have Q4:r2.length<=i*pk:=kH (a:=b.fol.length) hsB.1 λp hp=>by
      have:=TQ.1.kj p ((hsB.2 p).1 hp);omega
     have ab8:=TQ.1.done ⟨r1,r2,(xa.emp || m == 0)⟩ hsA.2 hsB.2 m HJ.out (by omega) rfl
     obtain ⟨i1,o1⟩:=hown HZ.out.2.1 Qh;obtain ⟨i2,o2⟩:=hown HZ.out.2.2.2.1 wq;refine ⟨bi,⟨r1,r2,(xa.emp || m == 0)⟩,dZ,_,_,rfl,q1,q2,⟨i1,o1⟩,⟨i2,o2⟩,ab8.iff (λz=>(abT.out z).symm) aiw.out,by rw[Q2.out.1];exact kF,⟨Qh,wq⟩,by rw[Q2.out.1];exact ⟨Er,Q4⟩,by rw[Q2.out.2];exact HI.out.2⟩
end
section
set_option linter.unusedVariables false
set_option linter.unusedSimpArgs false
open Go.RowKit
theorem Qa:(Tryz.prog.info? 38).map (λi=>(i.zero,i.size,i.bytes))=some (some (.slice none 0 0),1,24):=by kernel_rfl
theorem Gb:(Tryz.prog.info? 22).map (λi=>(i.zero,i.size,i.bytes))=some (some (.slice none 0 0),1,24):=by kernel_rfl
def cW (v' v:Value) (N:Nat):Prop:=v'.ownBlock=v.ownBlock\/∃g,v'.ownBlock=some g/\N<=g
theorem Bs.UF {w0:World} {s:Nat} {x2 x3 x4:Value} {b:Pb} {vs vf:Value} {rows sv:List Value} {w w':World} (h:Bs w0 s x2 x3 x4 b vs vf rows sv w) {Qb Qc rv:Value} {rs:List (Nat×Nat)}
  (hcs:w'.heap[s]?=some (.cells #[Qb,Qc,x2,x3,x4] 182 (0,0))) (hos:w'.ownsRow w0.heap.size 38 1 Qb (b.sets.length+1) (sv++[rv])) (hof:w'.ownsRow w0.heap.size 22 1 Qc (b.fol.length+1) (rows++[.slice none 0 0]))
  (DU:cW Qb vs w.heap.size) (hff:cW Qc vf w.heap.size) (hne:∀g,Qb.ownBlock=some g->Qc.ownBlock≠some g) (hk:ah (s::(blk vs++blk vf)) [] w w') (Gc:oB w0 rv rs/\fN rs=true) :
  Bs w0 s x2 x3 x4 ⟨b.sets++[rs],b.fol++[[]]⟩ Qb Qc (rows++[.slice none 0 0]) (sv++[rv]) w'/\ah (jM s vs vf rows) (jM s Qb Qc (rows++[.slice none 0 0])) w w':=by
 have hlt:=h.lt;have bL:=h.nd;rw[List.nodup_cons,List.nodup_append]at bL;obtain ⟨n1,n2,n3,n4⟩:=bL;rw[List.nodup_append]at n3;obtain ⟨n5,n6,n7⟩:=n3;have rJ:rows.length=b.fol.length:=by have:=h.fol.1;omega
 have hsl:sv.length=b.sets.length:=by have:=h.sets.1;omega
 have hnil:blk (Value.slice none 0 0)=[]:=rfl;have xm:(rows++[Value.slice none 0 0]).flatMap blk=rows.flatMap blk:=by simp[List.flatMap_append,hnil]
 have hS:∀g∈blk Qb,g∈blk vs\/w.heap.size<=g:=λg hg=>DU.elim (λe=>.inl (by unfold blk at hg|-;rw[<-e];exact hg)) λ⟨g',e,h2⟩=>.inr (by unfold blk at hg;rw[e]at hg;simp at hg;omega)
 have hF:∀g∈blk Qc,g∈blk vf\/w.heap.size<=g:=λg hg=>hff.elim (λe=>.inl (by unfold blk at hg|-;rw[<-e];exact hg)) λ⟨g',e,h2⟩=>.inr (by unfold blk at hg;rw[e]at hg;simp at hg;omega)
 have lS:∀g∈blk vs,g<w.heap.size:=λg hg=>(hlt g (by unfold jM;simp[hg])).2
 have lF:∀g∈blk vf,g<w.heap.size:=λg hg=>(hlt g (by unfold jM;simp[hg])).2
 have lR:∀g∈rows.flatMap blk,g<w.heap.size:=λg hg=>(hlt g (by unfold jM;simp only[List.mem_cons,List.mem_append];exact .inr (.inr (.inr hg)))).2
 have ls:s<w.heap.size:=(hlt s (by simp[jM])).2
 have hkn:ah (jM s vs vf rows) (jM s Qb Qc (rows++[.slice none 0 0])) w w':=by
  refine ⟨hk.os,hk.tape,hk.output,hk.size,λk h1 h2=>hk.blk k h1 λhm=>h2 ?_,λk hm=>?_⟩
  .unfold jM;simp only[List.mem_cons,List.mem_append]at hm|-;rcases hm with hm | hm | hm
   .exact .inl hm
   .exact .inr (.inl hm)
   .exact .inr (.inr (.inl hm))
  .unfold jM at hm|-;rw[xm]at hm;simp only[List.mem_cons,List.mem_append]at hm|-;rcases hm with hm | hm | hm | hm
   .exact .inl (.inl hm)
   .exact (hS k hm).imp (λh=>.inr (.inl h)) id
   .exact (hF k hm).imp (λh=>.inr (.inr (.inl h))) id
   .exact .inl (.inr (.inr (.inr hm)))
 refine ⟨⟨?_,h.hs,hcs,by simpa using hos,λi hi=>?_,by simpa using hof,λi hi=>?_,h.eP.trans (hkn.below (λk hk=>(hlt k hk).1) h.eP.size)⟩,hkn⟩
 .rw[xm,List.nodup_cons,List.nodup_append,List.nodup_append];refine ⟨λhm=>?_,?_,⟨?_,n6,λx hx y hy=>?_⟩,λx hx y hy=>?_⟩
  .rcases List.mem_append.1 hm with hm | hm
   .rcases hS s hm with h1 | h1
    .exact n1 (List.mem_append_left _ h1)
    .omega
   .rcases List.mem_append.1 hm with hm | hm
    .rcases hF s hm with h1 | h1
     .exact n1 (List.mem_append_right _ (List.mem_append_left _ h1))
     .omega
    .exact n1 (List.mem_append_right _ (List.mem_append_right _ hm))
  .unfold blk; cases Qb.ownBlock <;> simp
  .unfold blk; cases Qc.ownBlock <;> simp
  .rcases hF x hx with h1 | h1
   .exact n7 x h1 y hy
   .have:=lR y hy;omega
  .rcases List.mem_append.1 hy with hy | hy
   .exact λe=>hne x (aA.1 hx) (by rw[e];exact aA.1 hy)
   .rcases hS x hx with h1 | h1
    .exact n4 x h1 y (List.mem_append_right _ hy)
    .have:=lR y hy;omega
 .by_cases xn:i<b.sets.length
  .obtain ⟨v,v1,v2⟩:=h.Lx i xn;refine ⟨v,by rw[List.getElem?_append_left (by omega)];exact v1,?_⟩
   simp only[List.getElem_append_left xn];exact v2
  .simp only[List.length_append,List.length_cons,List.length_nil]at hi;have sR:i=b.sets.length:=by omega
   subst sR;refine ⟨rv,by rw[List.getElem?_append_right (by omega),hsl];simp,?_⟩
   simp only[List.getElem_append_right (Nat.le_refl _),Nat.sub_self,List.getElem_cons_zero];exact Gc
 .by_cases xn:i<b.fol.length
  .obtain ⟨v,v1,v2⟩:=h.Ei i xn;refine ⟨v,by rw[List.getElem?_append_left (by omega)];exact v1,?_⟩
   simp only[List.getElem_append_left xn];refine ak v2 λg hg=>hk.blk g (v2.lt g hg).2 λhm=>?_;have oC:g∈rows.flatMap blk:=List.mem_flatMap.2 ⟨v,List.mem_of_getElem? v1,aA.2 hg⟩;rcases List.mem_cons.1 hm with e | hm
   .exact n1 (List.mem_append_right _ (List.mem_append_right _ (by rw[<-e];exact oC)))
   .rcases List.mem_append.1 hm with hm | hm
    .exact n4 g hm g (List.mem_append_right _ oC) rfl
    .exact n7 g hm g oC rfl
  .simp only[List.length_append,List.length_cons,List.length_nil]at hi;have sR:i=b.fol.length:=by omega
   subst sR;refine ⟨.slice none 0 0,by rw[List.getElem?_append_right (by omega),rJ];simp,?_⟩
   simp only[List.getElem_append_right (Nat.le_refl _),Nat.sub_self,List.getElem_cons_zero];exact World.ownsRow_nil _ _ _ _
end
section
set_option linter.unusedVariables false
set_option linter.unusedSimpArgs false
open Go.RowKit
def KfR (rb:Nat) (w w':World):Prop:=ah [rb] [rb] w w'
end
section
set_option linter.unusedVariables false
set_option linter.unusedSimpArgs false
open Go.RowKit
theorem dx {P:Program} {f:FuncId} {args:Array Value} {Q:Ending->World->Prop} {w:World} (h:∀W,W=w->Calls P f args W Q):Calls P f args w Q:=h w rfl
def PaW (pb:Nat) (t:ByteArray) (k:Int) (bad:Bool) (w:World):Prop:=w.heap[pb]?=some (.cells #[.string t, .int .i64 k, .bool bad] 143 (0,0))
section
variable {pb:Nat} {t:ByteArray} {k:Int} {bad:Bool} {w w':World}
end
end
section
set_option linter.unusedVariables false
set_option linter.unusedSimpArgs false
open Go.RowKit
def tA:ByteArray:=⟨#[97,123,49,44,50,125]⟩
def lfA (q:Nat):Value:=.agg #[.int .i64 1, .slice (some ⟨q,0,none⟩) 1 1, .slice none 0 0, .int .i64 0, .int .i64 0]
def RgA (q:Nat) (w:World):Prop:=w.heap[q]?=some (.cells #[.int .u8 97, .int .u8 97] 84 (0,0))
end
section
set_option linter.unusedVariables false
set_option linter.unusedSimpArgs false
open Go.RowKit
def LfA (g q:Nat) (w:World):Prop:=w.heap[g]?=some (.cells #[.int .i64 1, .slice (some ⟨q,0,none⟩) 1 1, .slice none 0 0, .int .i64 0, .int .i64 0] 41 (0,0))/\RgA q w
end
section
set_option linter.unusedVariables false
set_option linter.unusedSimpArgs false
open Go.RowKit
theorem dN {P:Program} {c:Code} {Q:Exit->Act->World->Prop} {a:Act} {w:World} (h:∀W,W=w->c.wp P Q a W):c.wp P Q a w:=h w rfl
end
section
set_option linter.unusedVariables false
set_option linter.unusedSimpArgs false
open Go.RowKit
def bxL (q b:Nat) (w:World):Prop:=w.heap[b]?=some (.cells #[.int .i64 1, .slice (some ⟨q,0,none⟩) 1 1, .slice none 0 0, .int .i64 0, .int .i64 0] 41 (0,0))
def bxR (g b:Nat) (w:World):Prop:=w.heap[b]?=some (.cells #[.int .i64 4, .slice none 0 0, .slice (some ⟨g,0,none⟩) 1 1, .int .i64 1, .int .i64 2] 41 (0,0))
end
section
set_option linter.unusedVariables false
set_option linter.unusedSimpArgs false
open Go.RowKit
def gM (w:World):List (Array Value×TypeId)->World
 | []=>w
 | o::r=>gM (w.alloc (.cells o.1 o.2)) r
theorem Bv:∀(os:List (Array Value×TypeId)) (w:World),(gM w os).heap.size=w.heap.size+os.length
 | [],w=>rfl
 | o::r,w=>by rw[gM,Bv r];simp;omega
theorem fg:∀(os:List (Array Value×TypeId)) (w:World),Below w.heap.size w (gM w os)
 | [],w=>Below.refl _ _
 | o::r,w=>by
  rw[gM];have h1:Below w.heap.size w (w.alloc (.cells o.1 o.2)):=(Below.refl _ _).alloc (Nat.le_refl _) _;exact h1.trans ((fg r _).mono (by simp))
theorem tF:∀(os:List (Array Value×TypeId)) (w:World) (i:Nat) (h:i<os.length),(gM w os).heap[w.heap.size+i]?=some (.cells os[i].1 os[i].2 (0,0))
 | o::r,w,0,h=>by
  rw[gM,(fg r _).block _ (by simp)]
  exact heap_alloc_new w (.cells o.1 o.2)
 | o::r,w,i+1,h=>by
  have:=tF r (w.alloc (.cells o.1 o.2)) i (by simpa using h)
  rw[gM];have e:(w.alloc (.cells o.1 o.2)).heap.size+i=w.heap.size+(i+1):=by simp;omega
  rw[e]at this;exact this
theorem cX {os:List (Array Value×TypeId)} {w:World} (i:Nat) {cs:Array Value} {T:TypeId} (h:os[i]?=some (cs,T)):(gM w os).heap[w.heap.size+i]?=some (.cells cs T (0,0)):=by
 obtain ⟨hi,e⟩:=List.getElem?_eq_some_iff.1 h;rw[tF os w i hi,e]
end
end Go.Proofs.YtdmoogjddmdmbaaGreatDoor
