/- Walks: one part behind another one; one of two parts. · Walks: one of two parts. · Writing a pattern out: what it costs, what it leaves. · Walks: a repetition written out. · The builder with one position more. · Walks: the reader of patterns. · ref05's parser: peek, char, times at one text, atom. -/
import Derived.Test.YtdmoogjddmdmbaaGreatDoorY10
import Derived.StillTailTactics
import Derived.Deep.RegionHeld3
import Derived.Test.YtdmoogjddmdmbaaGreatDoorY11
import Derived.Test.YtdmoogjddmdmbaaGreatDoorY08
import Derived.Test.YtdmoogjddmdmbaaGreatDoorY09
namespace Go.Proofs.YtdmoogjddmdmbaaGreatDoor
set_option linter.unusedVariables false
set_option linter.unusedSimpArgs false
set_option maxRecDepth 100000
open Go.RowKit
theorem cells3 {w:World} {b:Nat} {T:TypeId} {a0 a1 a2:Value} (h:w.heap[b]?=some (.cells #[a0,a1,a2] T (0,0))) :
  w.cell? ⟨b,0,none⟩=some a0/\w.cell? ⟨b,1,none⟩=some a1/\w.cell? ⟨b,2,none⟩=some a2:=by
 refine ⟨?_,?_,?_⟩ <;> (rw[cell_of_row _ _ _ _ _ _ h]; rfl)
theorem old_alloc (w:World) (o:Obj) (k:Nat) (h:k<w.heap.size):(w.alloc o).heap[k]?=w.heap[k]?:=((Below.refl w.heap.size w).alloc (Nat.le_refl _) o).block k h
theorem addF_le (l:List Nat):∀(ps:List Nat) (fol:List (List Nat)) (K:Nat),(∀x∈fol,x.length<=K)->∀x∈addF l ps fol,x.length<=K+ps.length*l.length
 | [],fol,K,h=>λx hx=>by have:=h x hx;simp;omega
 | p::r,fol,K,h=>λx hx=>by
  rw[addF]at hx;have:=addF_le l r (fol.set p ((fol[p]?).getD []++l)) (K+l.length) (λy hy=>by
   rcases List.mem_or_eq_of_mem_set hy with h1 | h1
   .have:=h y h1;omega
   .rw[h1,List.length_append]
    cases hp:fol[p]? with
    | none=>simp
    | some z=>have:=h z (List.mem_of_getElem? hp);simp;omega) x hx
  rw[List.length_cons,Nat.succ_mul];omega
theorem BuS.vf_form {w0:World} {s:Nat} {x2 x3 x4:Value} {b:Pb} {vs vf:Value} {rows sv:List Value} {w:World} (h:BuS w0 s x2 x3 x4 b vs vf rows sv w) (hp:0<b.fol.length):∃gf cf,vf = .slice (some ⟨gf,0,none⟩) b.fol.length cf/\gf<w.heap.size/\b.fol.length<=cf/\cf<=9223372036854775807:=by
 rcases h.fol.2 with ⟨-,h2⟩ | ⟨g,cap,cur,h1,-,h3,h4,h5,-⟩
 .omega
 .exact ⟨g,cap,h1,(Array.getElem?_eq_some_iff.1 h3).1,h4,by unfold maxLen at h5;omega⟩
theorem own_form {w:World} {B:Nat} {e:TypeId} {k:Nat} {v:Value} {n:Nat} {xs:List Value} (h:w.ownsRow B e k v n xs):∃A c,v = .slice A n c/\n<=c/\c<=9223372036854775807:=by
 rcases h.2 with ⟨h1,h2⟩ | ⟨g,cap,cur,h1,-,h3,h4,h5,-⟩
 .exact ⟨none,0,by rw[h1,h2],by omega,by decide⟩
 .exact ⟨_,cap,h1,h4,by unfold maxLen at h5;omega⟩
theorem outOf_nil (v:Value):outOf [] v:=λ_ _ h=>by cases h
theorem BuS.row_ne {w0:World} {s:Nat} {x2 x3 x4:Value} {b:Pb} {vs vf:Value} {rows sv:List Value} {w:World} (h:BuS w0 s x2 x3 x4 b vs vf rows sv w) {q:Nat} {v:Value} (hv:rows[q]?=some v) {gf:Nat} (hf:vf.ownBlock=some gf):v.ownBlock≠some gf:=by
 have hnd:=h.nd;rw[List.nodup_cons,List.nodup_append]at hnd;obtain ⟨-,-,n3,-⟩:=hnd;rw[List.nodup_append]at n3;exact λe=>n3.2.2 gf (mem_blk.2 hf) gf (List.mem_flatMap.2 ⟨v,List.mem_of_getElem? hv,mem_blk.2 e⟩) rfl
def StBh (wr:World) (row:Option Nat) (c:Bool) (w':World):Prop:=wr.grownBy w' row/\(c=false->Below wr.heap.size wr w')
def factBh (w0 wr:World) (s gf nf cf gy fy ly cy B1 q m:Nat) (Ar:Option Addr) (cr:Nat) (xs:List Value):Nat->Value->World->Prop
 | 0,x,w=>x = .pointer (some ⟨s,0,none⟩)
 | 1,x,w=>x = .pointer (some ⟨s,0,none⟩)
 | 2,x,w=>x = .pointer (some ⟨s,1,none⟩)
 | 3,x,w=>x = .slice (some ⟨gf,0,none⟩) nf cf
 | 4,x,w=>x = .int .i64 (q:Int)
 | 5,x,w=>x = .pointer (some ⟨s,0,none⟩)
 | 6,x,w=>x = .pointer (some ⟨s,0,none⟩)
 | 7,x,w=>x = .pointer (some ⟨s,1,none⟩)
 | 8,x,w=>x = .slice (some ⟨gf,0,none⟩) nf cf
 | 9,x,w=>x = .int .i64 (q:Int)
 | 10,x,w=>x = .pointer (some ⟨gf,q,none⟩)
 | 11,x,w=>x = .slice Ar m cr
 | 12,x,w=>x = .pointer (some ⟨B1,0,none⟩)
 | 13,x,w=>x = .slice (some ⟨gy,fy,none⟩) ly cy
 | 14,x,w=>∃A' c',x = .slice A' (m+ly) c'/\w.ownsRow w0.heap.size 3 1 x (m+ly) xs/\(x.ownBlock=(Value.slice Ar m cr).ownBlock\/∃g,x.ownBlock=some g/\wr.heap.size<=g)
 | 15,x,w=>x = .pointer (some ⟨gf,q,none⟩)
 | _,_,_=>True
theorem factBh_st (w0 wr:World) (s gf nf cf gy fy ly cy B1 q m:Nat) (Ar:Option Addr) (cr:Nat) (xs:List Value):∀(i j:Nat) (x:Value) (u u':World),j≠i->(i≠14->u'=u)->factBh w0 wr s gf nf cf gy fy ly cy B1 q m Ar cr xs j x u->factBh w0 wr s gf nf cf gy fy ly cy B1 q m Ar cr xs j x u':=by
 intro i j x u u' hji hR h;by_cases hi:i=14
 .subst hi
  match j with
  | 0 | 1 | 2 | 3 | 4 | 5 | 6 | 7 | 8 | 9 | 10 | 11 | 12 | 13 | 15=>exact h
  | 14=>exact absurd rfl hji
  | _+16=>exact trivial
 .rw[hR hi];exact h
theorem gb_refl (w:World) (r:Option Nat):w.grownBy w r:=⟨rfl,rfl,rfl,Nat.le_refl _,λ_ _ _=>rfl⟩
theorem gb_trans {a b c:World} {r:Option Nat} (h:a.grownBy b r) (k:b.grownBy c r):a.grownBy c r:=
 ⟨k.os.trans h.os,k.tape.trans h.tape,k.output.trans h.output,Nat.le_trans h.size k.size,λi hi hn=>(k.block i (Nat.lt_of_lt_of_le hi h.size) hn).trans (h.block i hi hn)⟩
theorem gb_below' {a b:World} {r:Option Nat} (h:Below a.heap.size a b):a.grownBy b r:=⟨h.os,h.tape,h.output,h.size,λk hk _=>h.block k hk⟩
theorem gb_alloc {a b:World} {r:Option Nat} (h:a.grownBy b r) (o:Obj):a.grownBy (b.alloc o) r:=gb_trans h (World.grownBy_alloc b o r)
theorem gb_setN {a b:World} {N:Nat} (h:a.grownBy b (some N)) (o:Nat) (u:Value):a.grownBy (b.setCell ⟨N,o,none⟩ u) (some N):=
 gb_trans h ⟨rfl,rfl,rfl,by simp[World.setCell],λk _ hk=>Below.heap_setCell _ _ _ _ λe=>hk (by rw[e])⟩
theorem gb_setNew {a b:World} {r:Option Nat} (h:a.grownBy b r) {p:Addr} (hp:a.heap.size<=p.block) (u:Value):a.grownBy (b.setCell p u) r:=
 ⟨h.os,h.tape,h.output,by simp[World.setCell];exact h.size,λk hk hn=>(Below.heap_setCell _ _ _ _ (by omega)).trans (h.block k hk hn)⟩
theorem gb_drew {a b:World} {r:Option Nat} (h:a.grownBy b r):a.grownBy b.drew r:=⟨h.os,h.tape,h.output,h.size,h.block⟩
theorem kf_alloc {L:List Nat} {a b:World} (h:KeepF L L a b) (o:Obj):KeepF L L a (b.alloc o):=h.trans (KeepF.of_below ((Below.refl _ _).alloc (Nat.le_refl _) o))
theorem kf_set {L:List Nat} {a b:World} (h:KeepF L L a b) {p:Addr} (hp:p.block∈L) (u:Value):KeepF L L a (b.setCell p u):=
 h.trans ⟨rfl,rfl,rfl,by simp[World.setCell],λk _ hn=>Below.heap_setCell _ _ _ _ λe=>hn (by rw[e];exact hp),λ_ h=>.inl h⟩
theorem kf_drew {L:List Nat} {a b:World} (h:KeepF L L a b):KeepF L L a b.drew:=⟨h.os,h.tape,h.output,h.size,h.blk,h.new⟩
theorem new_keep {w1 W:World} {B N2 N9:Nat} {v:Value} {l:List Nat} {fpk:List Nat} {n:Nat} (h:w1.ownsRow B 3 1 v n (ints l)) (hl:l≠[]) (h2:N2<B) (h9:N9<B) (hf:∀k∈fpk,k<B) (hk:KeepF [N2,N9] [N2,N9] w1 W):IL W v l/\outOf fpk v:=by
 have ho:∀g,v.ownBlock=some g->B<=g:=λg hg=>(h.lt g hg).1;refine ⟨(IL.keep (IL.of_own h λ_=>hl) (λg hg hm=>?_) hk).1,λg hg hm=>?_⟩
 .have:=ho g hg;simp at hm;omega
 .have:=ho g hg;have:=hf g hm;omega
theorem set_row3 {w:World} {G e:Nat} {cs:Array Value} {m:Nat×Nat} (h:w.heap[G]?=some (.cells cs e m)) (j:Nat) (v:Value):(w.setCell ⟨G,j,none⟩ v).heap[G]?=some (.cells (cs.setIfInBounds j v) e m):=by
 simp[World.setCell,Array.getElem?_modify,h]
theorem post_named {P:Program} {fn:Func} {R:Ending->World->Prop} {x:Exit} {a:Act} {w:World} (h:∀W,W=w->bodyPost P fn R x a W):bodyPost P fn R x a w:=h w rfl
theorem beh_end {w0:World} {s:Nat} {x2 x3 x4:Value} {b:Pb} {fp fpk:List Nat} {w wr W:World} {N:Nat} (hb:BuI w0 s x2 x3 x4 b fpk wr) (hk:KeepF fp fpk w wr) (hw:w0.heap.size<=w.heap.size) (hN:w.heap.size<=N) (hN2:N<wr.heap.size) (hn:N∉fpk) (hg:wr.grownBy W (some N)):BuI w0 s x2 x3 x4 b fpk W/\KeepF fp fpk w W:=by
 have hlt:=hb.lt;have hbel:=hb.bel;refine ⟨?_,⟨hg.os.trans hk.os,hg.tape.trans hk.tape,hg.output.trans hk.output,Nat.le_trans hk.size hg.size,λk h1 h2=>(hg.block k (Nat.lt_of_lt_of_le h1 hk.size) (λe=>by injection e with e;omega)).trans (hk.blk k h1 h2),λk h=>hk.new k h⟩⟩
 obtain ⟨vs,vf,rows,sv,rfl,h⟩:=hb;refine ⟨vs,vf,rows,sv,rfl,h.same (λk hk'=>hg.block k (hlt k hk').2 (λe=>by injection e with e;subst e;exact hn hk')) ?_⟩
 refine h.bel.trans ⟨hg.os,hg.tape,hg.output,hg.size,λk hk'=>hg.block k (by have:=hbel.size;omega) (λe=>?_)⟩
 injection e with e;subst e;omega
def BehP (w0:World) (s:Nat) (x2 x3 x4:Value) (b:Pb) (x:Prt) (fp:List Nat) (w:World) (e:Ending) (w':World):Prop:=∃fp' v1 v2,e = .returned (.agg #[v1,v2, .bool x.emp])/\BuI w0 s x2 x3 x4 b fp' w'/\KeepF fp fp' w w'/\IL w' v1 x.first/\outOf fp' v1/\IL w' v2 x.last/\outOf fp' v2
set_option maxHeartbeats 4000000 in
theorem behind_any (w0:World) (s:Nat) (x2 x3 x4:Value) (b:Pb) (fp:List Nat) (w:World) (x y:Prt) (vx1 vx2 vy1 vy2:Value) (K:Nat) (hbu:BuI w0 s x2 x3 x4 b fp w)
  (hx1:IL w vx1 x.first) (ox1:outOf fp vx1) (hx2:IL w vx2 x.last) (ox2:outOf fp vx2) (hy1:IL w vy1 y.first) (oy1:outOf fp vy1) (hy2:IL w vy2 y.last) (oy2:outOf fp vy2)
  (hyf:y.first≠[]) (hyl:y.last≠[]) (hxl:∀p∈x.last,p<b.fol.length) (h1:x.first.length<=50000) (h2:x.last.length<=50000) (h3:y.first.length<=50000) (h4:y.last.length<=50000) (hK:∀l∈b.fol,l.length<=K) (hKK:K<=10000000000) :
  Calls Tryz.prog 161 #[.pointer (some ⟨s,0,none⟩), .agg #[vx1,vx2, .bool x.emp], .agg #[vy1,vy2, .bool y.emp]] w (BehP w0 s x2 x3 x4 (behB b x y) (behP x y) fp w):=by
 obtain ⟨A1,c1,rfl,hc1⟩:=hx1.form;obtain ⟨A2,c2,rfl,hc2⟩:=hx2.form;obtain ⟨gy,fy,cy,rfl,-,hgy,hcy,hycell⟩:=hy1.resolve_left (λh=>hyf h.1);obtain ⟨B2,d2,rfl,hd2⟩:=hy2.form;have hlt:=hbu.lt;have hbel0:=hbu.bel;have hbx:Below w.heap.size w (((w.alloc (.cells #[.slice A1 x.first.length c1, .slice A2 x.last.length c2, .bool x.emp] 184)).alloc (.cells #[.slice (some ⟨gy,fy,none⟩) y.first.length cy, .slice B2 y.last.length d2, .bool y.emp] 184)).alloc (.cells #[.slice none 0 0, .slice none 0 0, .bool false] 184)):=(((Below.refl _ _).alloc (Nat.le_refl _) _).alloc (by simp) _).alloc (by simp;omega) _
 have HPRE:=Lib.hid (And.intro hx1 (And.intro hx2 (And.intro hy1 hy2)));have HBU:=Lib.hid hbu;have HLT:=Lib.hid hlt;have HBX:=Lib.hid hbx;have HK:=Lib.hid hK;have HXL:=Lib.hid hxl;have HOX:=Lib.hid (And.intro ox1 (And.intro ox2 (And.intro oy1 oy2)));have HY:=Lib.hid hycell;clear hx1 hx2 hy1 hy2 hbu hlt hbx hK hxl ox1 ox2 oy1 oy2 hycell hbel0;obtain ⟨i0,hi,hz0,hz1,hz2⟩:=info_parts info_int
 go_enter Tryz.func161,Tryz.ntmps161
 go_wp2_with fail
 go_loopw [13] (λiv wr=>∃k folk fpk,k<=x.last.length/\iv = .int .i64 (k:Int)/\Hid (addF y.first (x.last.drop k) folk=addF y.first x.last b.fol/\folk.length=b.fol.length/\∀l∈folk,l.length<=K+k*y.first.length)/\Hid (BuI w0 s x2 x3 x4 ⟨b.sets,folk⟩ fpk wr/\KeepF fp fpk w wr/\∀q∈fpk,q<w.heap.size\/w.heap.size+3<=q)/\Hid (wr.heap[w.heap.size]?=some (.cells #[.slice A1 x.first.length c1, .slice A2 x.last.length c2, .bool x.emp] 184 (0,0))/\wr.heap[w.heap.size+1]?=some (.cells #[.slice (some ⟨gy,fy,none⟩) y.first.length cy, .slice B2 y.last.length d2, .bool y.emp] 184 (0,0))/\wr.heap[w.heap.size+1+1]?=some (.cells #[.slice none 0 0, .slice none 0 0, .bool false] 184 (0,0)))/\w.heap.size+3<=wr.heap.size) (λiv _=>x.last.length - (intOf iv).toNat)
 case atStart=>
  refine ⟨0,b.fol,fp,by omega,rfl,⟨by rw[List.drop_zero],rfl,λl hl=>by have:=HK.out l hl;omega⟩,⟨?_,KeepF.of_below HBX.out,λq hq=>.inl (HLT.out q hq).2⟩,⟨?_,?_,?_⟩,by simp⟩
  .exact HBU.out.later HBX.out
  .rw[old_alloc _ _ _ (by simp;omega),old_alloc _ _ _ (by simp)];exact heap_alloc_new w _
  .rw[old_alloc _ _ _ (by simp)];simpa using heap_alloc_new (w.alloc _) _
  .simpa using heap_alloc_new ((w.alloc _).alloc _) _
 case round=>
  obtain ⟨k,folk,fpk,hk,rfl,HF,HB,HX,hsz⟩:=hrel;have hHx2:=HPRE.out.2.1;obtain ⟨hx2r,hx2o⟩:=hHx2.keep HOX.out.2.1 HB.out.2.1;by_cases hlt:k<x.last.length
  .have hd:decide ((k:Int)<(x.last.length:Int))=true:=decide_eq_true (by omega)
   have hdn:decide (k<x.last.length)=true:=decide_eq_true hlt;obtain ⟨g2,f2,c2',hv2,-,hg2,-,hcell2⟩:=hx2r.resolve_left (λh=>by rw[h.1]at hlt;simp at hlt)
   injection hv2 with e1 e2 e3;subst e1 e3;obtain ⟨q,hq⟩:∃q,x.last[k]=q:=⟨_,rfl⟩;have hqc:=hcell2 k hlt;have hqn:=HXL.out x.last[k] (List.getElem_mem hlt);rw[hq]at hqc hqn;have HQ:=Lib.hid hq;clear hq hcell2 hHx2 hx2r hx2o;obtain ⟨vs,vf,rows,sv,hfp,hbs⟩:=HB.out.1;have HFL:=Lib.hid HF.out.2.1;obtain ⟨gf,cf,rfl,hgf,hcf,hcf2⟩:=hbs.vf_form (by have:=HFL.out;show 0<folk.length;omega)
   obtain ⟨v,hv,hown⟩:=hbs.folv q (by have:=HFL.out;show q<folk.length;omega)
   obtain ⟨Ar,cr,rfl,hcr1,hcr2⟩:=own_form hown;have hs1:wr.cell? ⟨s,1,none⟩=some (.slice (some ⟨gf,0,none⟩) folk.length cf):=by rw[cell_of_row _ _ _ _ _ _ hbs.cs];rfl
   have hrow:=hbs.fol.cellAt q (by have:=HFL.out;rw[Nat.mul_one];show q<folk.length;omega)
   rw[hv]at hrow;have hfz:=hbs.fol.frozenAt q;obtain ⟨y0,y1,y2⟩:=cells3 HX.out.2.1;have hqf:q<folk.length:=by have:=HFL.out;omega
   have hst:addF y.first (x.last.drop (k+1)) (folk.set q (folk[q]++y.first))=addF y.first x.last b.fol:=by
    rw[<-HF.out.1,List.drop_eq_getElem_cons hlt,HQ.out,addF,List.getElem?_eq_getElem hqf];rfl
   have hlen:(folk[q]).length<=K+k*y.first.length:=HF.out.2.2 _ (List.getElem_mem hqf);have hkm:k*y.first.length<=50000*50000:=Nat.mul_le_mul (by omega) h3
   have hgf1:gf≠w.heap.size+1:=λe=>by
    have:=HB.out.2.2 gf (by rw[hfp];unfold fpS;simp[blk,Value.ownBlock]);omega
   have hsn1:s≠w.heap.size+1:=λe=>by
    have:=HB.out.2.2 s (by rw[hfp];unfold fpS;simp);omega
   have hyc:=IL.keep HPRE.out.2.2.1 HOX.out.2.2.1 HB.out.2.1;have hB0:w0.heap.size<=wr.heap.size:=hbs.bel.size;have hyc2:gy<wr.heap.size/\∀i (h:i<y.first.length),wr.cell? ⟨gy,fy+i,none⟩=some (.int .i64 (y.first[i]:Int)):=by
    obtain ⟨gy',fy',cy',hv',-,hl',-,hc'⟩:=hyc.1.resolve_left (λh=>hyf h.1);injection hv' with e1 e2 e3;injection e1 with e1;injection e1 with e1 e4;subst e1 e4;exact ⟨hl',hc'⟩
   have hgyl:=hyc2.1;have HYC:=Lib.hid hyc2.2;have HBS:=Lib.hid hbs;have HOW:=Lib.hid hown;have HV:=Lib.hid hv;have HST:=Lib.hid hst;have HFP:=Lib.hid hfp;obtain ⟨m,hm⟩:∃m,(folk[q]).length=m:=⟨_,rfl⟩;rw[hm]at hlen hcr1 hrow HOW HV;have HM:=Lib.hid hm;have hq63:(q:Int)<(folk.length:Int):=by omega
   have hn63:folk.length<=9223372036854775807:=Nat.le_trans hcf hcf2;have hlt':=hbs.lt;rw[<-hfp]at hlt';have hsl:s<wr.heap.size:=(Array.getElem?_eq_some_iff.1 hbs.cs).1;have hinR:∀z,some z=(Value.slice Ar m cr).ownBlock->z∈fpk:=λz hz=>by
    rw[hfp];unfold fpS;refine List.mem_cons_of_mem _ (List.mem_append_right _ (List.mem_append_right _ (List.mem_flatMap.2 ⟨_,List.mem_of_getElem? HV.out,mem_blk.2 hz.symm⟩)))
   have hsr:some s≠(Value.slice Ar m cr).ownBlock:=λe=>by
    have hnd:=hbs.nd;rw[List.nodup_cons]at hnd;exact hnd.1 (List.mem_append_right _ (List.mem_append_right _ (List.mem_flatMap.2 ⟨_,List.mem_of_getElem? HV.out,mem_blk.2 e.symm⟩)))
   have hgr:some gf≠(Value.slice Ar m cr).ownBlock:=λe=>hbs.row_ne HV.out rfl e.symm;have hB1l:w.heap.size+1<wr.heap.size:=by omega
   have hB1r:some (w.heap.size+1)≠(Value.slice Ar m cr).ownBlock:=λe=>by have:=HB.out.2.2 _ (hinR _ e);omega
   have hS0:StBh wr (Value.slice Ar m cr).ownBlock false wr.drew:=⟨⟨rfl,rfl,rfl,Nat.le_refl _,λ_ _ _=>rfl⟩,λ_=>(Below.refl _ _).drew⟩;have HSR:=Lib.hid (And.intro hsr (And.intro hgr hB1r));clear hbs hown hv hst hyc hyc2 hm hfp hlt' hinR;go_wp2_with fail;refine wp_region_tail 16 14 (by decide) (λi u u'=>i≠14->u'=u) (λc w'=>StBh wr (Value.slice Ar m cr).ownBlock c w') (factBh w0 wr s gf folk.length cf gy fy y.first.length cy (w.heap.size+1) q m Ar cr (ints folk[q]++ints y.first)) (by kernel_rfl) (by kernel_rfl) (by kernel_rfl) (by kernel_rfl) (by decide) hS0 (factBh_st w0 wr s gf folk.length cf gy fy y.first.length cy (w.heap.size+1) q m Ar cr (ints folk[q]++ints y.first)) ?_ ?_
   .simp only[pq4,pq5];refine GSteps.cons ?_ (GSteps.cons ?_ (GSteps.cons ?_ (GSteps.cons ?_ (GSteps.cons ?_ (GSteps.cons ?_ (GSteps.cons ?_ (GSteps.cons ?_ (GSteps.cons ?_ (GSteps.cons ?_ (GSteps.cons ?_ (GSteps.cons ?_ (GSteps.cons ?_ (GSteps.cons ?_ (GSteps.cons ?_ (GSteps.cons ?_ GSteps.nil)))))))))))))))
    all_goals (intro v wz c hc hS hE K hK;simp only[putAll,Act.put,pq1,pq2,pq3,Nat.zero_add,Nat.reduceAdd,pq4,pq5]at hK|-)
    .have HX:=Lib.hid hS;clear hS hE hc;go_wp2_with fail;exact hK.out _ _ HX.out (λ_=>rfl) rfl
    .have e0:v 0=_:=hE.1 rfl;rw[e0]at hK|-;have HX:=Lib.hid hS;clear hS hE hc;go_wp2_with fail;exact hK.out _ _ HX.out (λ_=>rfl) rfl
    .have e1:v 1=_:=hE.1 rfl;rw[e1]at hK|-;have HX:=Lib.hid hS;clear hS hE hc;go_wp2_with fail;exact hK.out _ _ HX.out (λ_=>rfl) rfl
    .have e2:v 2=_:=hE.1 rfl;rw[e2]at hK|-;have c1:=(World.cell?_of_block (a:=⟨s,1,none⟩) (hS.1.block s hsl hsr)).trans hs1;have HX:=Lib.hid hS;clear hS hE hc;go_wp2_with fail;exact hK.out _ _ HX.out (λ_=>rfl) rfl
    .have HX:=Lib.hid hS;clear hS hE hc;go_wp2_with fail;exact hK.out _ _ HX.out (λ_=>rfl) rfl
    .have HX:=Lib.hid hS;clear hS hE hc;go_wp2_with fail;exact hK.out _ _ HX.out (λ_=>rfl) rfl
    .have e5:v 5=_:=hE.1 rfl;rw[e5]at hK|-;have HX:=Lib.hid hS;clear hS hE hc;go_wp2_with fail;exact hK.out _ _ HX.out (λ_=>rfl) rfl
    .have e6:v 6=_:=hE.1 rfl;rw[e6]at hK|-;have HX:=Lib.hid hS;clear hS hE hc;go_wp2_with fail;exact hK.out _ _ HX.out (λ_=>rfl) rfl
    .have e7:v 7=_:=hE.1 rfl;rw[e7]at hK|-;have c1:=(World.cell?_of_block (a:=⟨s,1,none⟩) (hS.1.block s hsl hsr)).trans hs1;have HX:=Lib.hid hS;clear hS hE hc;go_wp2_with fail;exact hK.out _ _ HX.out (λ_=>rfl) rfl
    .have HX:=Lib.hid hS;clear hS hE hc;go_wp2_with fail;exact hK.out _ _ HX.out (λ_=>rfl) rfl
    .have e8:v 8=_:=hE.1 rfl;have e9:v 9=_:=hE.2.1 rfl;rw[e8,e9]at hK|-;have HX:=Lib.hid hS;clear hS hE hc;go_wp2_with fail;exact hK.out _ _ HX.out (λ_=>rfl) rfl
    .have e10:v 10=_:=hE.1 rfl;rw[e10]at hK|-;have c1:=(World.cell?_of_block (a:=⟨gf,q,none⟩) (hS.1.block gf hgf hgr)).trans hrow;have HX:=Lib.hid hS;clear hS hE hc;go_wp2_with fail;exact hK.out _ _ HX.out (λ_=>rfl) rfl
    .have HX:=Lib.hid hS;clear hS hE hc;go_wp2_with fail;exact hK.out _ _ HX.out (λ_=>rfl) rfl
    .have e12:v 12=_:=hE.1 rfl;rw[e12]at hK|-;have c1:=(World.cell?_of_block (a:=⟨w.heap.size+1,0,none⟩) (hS.1.block (w.heap.size+1) hB1l hB1r)).trans y0;have HX:=Lib.hid hS;clear hS hE hc;go_wp2_with fail;exact hK.out _ _ HX.out (λ_=>rfl) rfl
    .have e11:v 11=_:=hE.1 rfl;have e13:v 13=_:=hE.2.1 rfl;rw[e11,e13]at hK|-;have hcf:=hc rfl;subst hcf;have hbz:=hS.2 rfl;have hown0:wz.ownsRow w0.heap.size 3 1 (.slice Ar m cr) m (ints folk[q]):=own_same HOW.out λg hg=>hbz.block g (HOW.out.lt g hg).2;have hcy:=ints_cells (w:=wz) (l:=y.first) (g:=gy) (f:=fy) (λi hi=>(World.cell?_of_block (a:=⟨gy,fy+i,none⟩) (hbz.block gy hgyl)).trans (HYC.out i hi));have hBz:w0.heap.size<=wz.heap.size:=Nat.le_trans hB0 hbz.size;have HZ:=Lib.hid hbz;have HX:=Lib.hid hS;clear hS hE hc hbz;go_wp2_with (at_builtin;refine appI_at rfl _ _ 22 rfl w0.heap.size 3 i0 (.int .i64 0) 1 8 Tryz.underlying22 hi hz0 hz1 hz2 rfl (by decide) _ m (ints folk[q]) rfl hown0 ⟨gy,fy,none⟩ y.first.length cy (ints y.first) rfl (by rw[ints_len];omega) hcy (ints_one _) (by unfold maxLen;omega) (by omega) hBz ?_)
     intro v' w1 hown1 hg1 hfr;have hg2:wr.grownBy w1 (Value.slice Ar m cr).ownBlock:=⟨hg1.os.trans HX.out.1.os,hg1.tape.trans HX.out.1.tape,hg1.output.trans HX.out.1.output,Nat.le_trans HX.out.1.size hg1.size,λk hk hn=>(hg1.block k (Nat.lt_of_lt_of_le hk HX.out.1.size) hn).trans (HX.out.1.block k hk hn)⟩;obtain ⟨A',c',rfl,-,-⟩:=own_form hown1;exact hK.out _ _ ⟨hg2,λh=>by cases h⟩ (λh=>absurd rfl h) ⟨A',c',rfl,hown1,hfr.imp id (λ⟨g,h1,h2⟩=>⟨g,h1,Nat.le_trans HZ.out.size h2⟩)⟩
    .have e3:v 3=_:=hE.1 rfl;have e4:v 4=_:=hE.2.1 rfl;rw[e3,e4]at hK|-;have HX:=Lib.hid hS;clear hS hE hc;go_wp2_with fail;exact hK.out _ _ HX.out (λ_=>rfl) rfl
   .intro v wz hS hF;have e0:v 0=_:=hF 0 (by decide)
    have e1:v 1=_:=hF 1 (by decide)
    have e2:v 2=_:=hF 2 (by decide)
    have e3:v 3=_:=hF 3 (by decide)
    have e4:v 4=_:=hF 4 (by decide)
    have e5:v 5=_:=hF 5 (by decide)
    have e6:v 6=_:=hF 6 (by decide)
    have e7:v 7=_:=hF 7 (by decide)
    have e8:v 8=_:=hF 8 (by decide)
    have e9:v 9=_:=hF 9 (by decide)
    have e10:v 10=_:=hF 10 (by decide)
    have e11:v 11=_:=hF 11 (by decide)
    have e12:v 12=_:=hF 12 (by decide)
    have e13:v 13=_:=hF 13 (by decide)
    have e15:v 15=_:=hF 15 (by decide)
    have E14:=hF 14 (by decide)
    simp only[putAll,Act.put,pq1,pq2,pq3,Nat.zero_add,Nat.reduceAdd,pq4,pq5,List.drop_succ_cons,List.drop_zero,e0,e1,e2,e3,e4,e5,e6,e7,e8,e9,e10,e11,e12,e13,e15];clear hF e0 e1 e2 e3 e4 e5 e6 e7 e8 e9 e10 e11 e12 e13 e15;obtain ⟨A',c',hv',hown1,hfr⟩:=E14;rw[hv']at hown1 hfr|-;obtain ⟨A'',c'',e',hc1',hc2'⟩:=own_form hown1;injection e' with e1 e2 e3;subst e3;have hst1:wz.cell? ⟨gf,q,none⟩=some (.slice Ar m cr):=(World.cell?_of_block (a:=⟨gf,q,none⟩) (hS.1.block gf hgf hgr)).trans hrow;have hfz1:wz.frozen? ⟨gf,q,none⟩=false:=(World.frozen?_of_block (a:=⟨gf,q,none⟩) (hS.1.block gf hgf hgr)).trans hfz;have HW1:=Lib.hid (And.intro hown1 (And.intro hS.1 hfr));clear hown1 hS hfr hs1 hqc y0 y1 y2 hrow hfz hv' e1 e2 hsr hgr hB1r;go_wp2_with fail;go_roundw
    case rel=>
     obtain ⟨hown1,hg1,hfr⟩:=HW1.out;have hm:=HM.out;subst hm;obtain ⟨r1,r2⟩:=HBS.out.addRow (p:=q) hqf y.first HV.out hown1 hg1 hfr rfl;have hfp:=HFP.out;have hnf:∀z,w.heap.size<=z->z<w.heap.size+3->z∉fpS s vs (.slice (some ⟨gf,0,none⟩) folk.length cf) rows:=λz h1 h2 hm=>by
      have:=HB.out.2.2 z (by rw[hfp];exact hm);omega
     refine ⟨k+1,_,_,by omega,by go_num,⟨HST.out,by have:=HFL.out;simp;omega,λl hl=>?_⟩,⟨⟨_,_,_,_,rfl,r1⟩,(by rw[hfp]at HB;exact HB.out.2.1.trans r2),λz hz=>?_⟩,⟨?_,?_,?_⟩,?_⟩
     .rw[Nat.succ_mul];rcases List.mem_or_eq_of_mem_set hl with h1 | h1
      .have:=HF.out.2.2 l h1;omega
      .rw[h1,List.length_append];omega
     .rcases r2.new z hz with h1 | h1
      .exact HB.out.2.2 z (by rw[hfp];exact h1)
      .right;omega
     .exact (r2.blk _ (by omega) (hnf _ (by omega) (by omega))).trans HX.out.1
     .exact (r2.blk _ (by omega) (hnf _ (by omega) (by omega))).trans HX.out.2.1
     .exact (r2.blk _ (by omega) (hnf _ (by omega) (by omega))).trans HX.out.2.2
     .exact Nat.le_trans hsz r2.size
    case measure=>simp[intOf];omega
  .obtain rfl:k=x.last.length:=by omega
   have hfe:folk=addF y.first x.last b.fol:=by
    have:=HF.out.1;rw[List.drop_length]at this;exact this
   have hbe:(⟨b.sets,folk⟩:Pb)=behB b x y:=by rw[hfe];rfl
   have hbb:=HB.out.1;rw[hbe]at hbb;have HBB:=Lib.hid hbb;have HKF:=Lib.hid HB.out.2.1;have HFN:=Lib.hid HB.out.2.2;have ha1:=IL.keep HPRE.out.1 HOX.out.1 HB.out.2.1;have ha2:=IL.keep HPRE.out.2.1 HOX.out.2.1 HB.out.2.1;have ha3:=IL.keep HPRE.out.2.2.1 HOX.out.2.2.1 HB.out.2.1;have ha4:=IL.keep HPRE.out.2.2.2 HOX.out.2.2.2 HB.out.2.1;have HA:=Lib.hid (And.intro ha1 (And.intro ha2 (And.intro ha3 ha4)));obtain ⟨p0,p1,p2⟩:=cells3 HX.out.1;obtain ⟨y0,y1,y2⟩:=cells3 HX.out.2.1;have hr2:=HX.out.2.2;have hHF:Hid True:=trivial;clear hfe hbe hbb ha1 ha2 ha3 ha4 hx2r hx2o hHx2 HF HB;obtain ⟨ex,hex⟩:∃ex,x.emp=ex:=⟨_,rfl⟩;obtain ⟨ey,hey⟩:∃ey,y.emp=ey:=⟨_,rfl⟩;rw[hex]at p2|-;rw[hey]at y2|-;have HE:=Lib.hid (And.intro hex hey);clear hex hey;have n1:¬w.heap.size=wr.heap.size:=by omega
   have n2:¬wr.heap.size=w.heap.size:=by omega
   have n3:¬w.heap.size+1=wr.heap.size:=by omega
   have n4:¬wr.heap.size=w.heap.size+1:=by omega
   have n5:¬w.heap.size+1+1=wr.heap.size:=by omega
   have n6:¬wr.heap.size=w.heap.size+1+1:=by omega
   have l1:w.heap.size<wr.heap.size:=by omega
   have l2:w.heap.size+1<wr.heap.size:=by omega
   have l3:w.heap.size+1+1<wr.heap.size:=by omega
   have hr2c:=cells3 hr2;obtain ⟨r0,r1,r2⟩:=hr2c;have hrz:wr.frozen? ⟨w.heap.size+1+1,0,none⟩=false:=by simp[World.frozen?,hr2]
   have HR2:=Lib.hid hr2;clear hr2 hrz;have f0:wr.frozen? ⟨w.heap.size+1+1,0,none⟩=false:=by simp[World.frozen?,HR2.out]
   have f1:wr.frozen? ⟨w.heap.size+1+1,1,none⟩=false:=by simp[World.frozen?,HR2.out]
   have f2:wr.frozen? ⟨w.heap.size+1+1,2,none⟩=false:=by simp[World.frozen?,HR2.out]
   have hcat:=λ(va vb:Value) (la lb:List Nat) (W:World) (g c:Nat) (hW:Below wr.heap.size wr W) (ha:IL wr va la) (hb:IL wr vb lb) (hlb:lb≠[]) (hla:la.length<=50000) (hlb2:lb.length<=50000) (hg:g<W.heap.size) (hc:2<=c/\c<=9223372036854775807) (c0:W.cell? ⟨g,0,none⟩=some va) (c1:W.cell? ⟨g,1,none⟩=some vb)=>concat_any va vb la lb g c W (ha.later hW) (hb.later hW) hlb (by omega) hg hc c0 c1
   have HCAT:=Lib.hid hcat;have HN2:=Lib.hid (show w.heap.size+1+1∉fpk from λhm=>by have:=HFN.out _ hm;omega)
   have HW0:=Lib.hid (show w0.heap.size<=w.heap.size from HBU.out.bel.size);clear hcat
   cases ex
   .cases ey
    .go_wp2_with fail;refine post_named λW hW=>?_;obtain ⟨q1,q2⟩:=beh_end HBB.out HKF.out HW0.out (by omega) l3 HN2.out (W:=W) (by rw[hW];repeat (first | exact gb_refl _ _ | exact HGB.out | refine gb_alloc ?_ _ | refine gb_setN ?_ _ _ | refine gb_setNew ?_ (by simp) _ | refine gb_drew ?_))
     refine bodyPost_ret (v:=.agg #[.slice A1 x.first.length c1, .slice B2 y.last.length d2, .bool false]) (by rw[hW];simp[results,Tryz.results161,go_sem,r0,r1,r2,l3];try rfl) rfl ?_
     refine ⟨fpk, .slice A1 x.first.length c1, .slice B2 y.last.length d2,?_,q1,q2,?_⟩
     .unfold behP;rw[HE.out.1,HE.out.2];rfl
     .have i1:=HPRE.out.1.keep HOX.out.1 q2;have i2:=HPRE.out.2.2.2.keep HOX.out.2.2.2 q2;have e1:(behP x y).first=x.first:=by unfold behP;rw[HE.out.1];rfl
      have e2:(behP x y).last=y.last:=by unfold behP;rw[HE.out.2];rfl
      rw[e1,e2];exact ⟨i1.1,i1.2,i2.1,i2.2⟩
    .go_wp2_with fail;refine (HCAT.out _ _ x.last y.last _ _ _ (((Below.refl _ _).alloc (Nat.le_refl _) _).alloc (by simp) _) HA.out.2.1.1 HA.out.2.2.2.1 hyl h2 h4 (by simp) (by decide) (by go_simp) (by go_simp)).mono ?_
     rintro e w1 ⟨v1,rfl,hown1,hb1⟩;have hbw:Below wr.heap.size wr w1:=(((Below.refl _ _).alloc (Nat.le_refl _) _).alloc (by simp) _).trans (hb1.mono (by simp;omega))
     have c9:w1.heap[wr.heap.size]?=some (.cells #[.slice A1 x.first.length c1, .slice B2 y.last.length d2, .bool false] 184 (0,0)):=(hb1.block _ (by simp;omega)).trans (by rw[old_alloc _ _ _ (by simp)];exact heap_alloc_new wr _)
     obtain ⟨t0,t1,t2⟩:=cells3 c9;have u0:w1.frozen? ⟨wr.heap.size,0,none⟩=false:=by simp[World.frozen?,c9]
     have u1:w1.frozen? ⟨wr.heap.size,1,none⟩=false:=by simp[World.frozen?,c9]
     have z9:wr.heap.size<w1.heap.size:=(Array.getElem?_eq_some_iff.1 c9).1;have z1:w.heap.size<w1.heap.size:=by omega
     have z2:w.heap.size+1<w1.heap.size:=by omega
     have z3:w.heap.size+1+1<w1.heap.size:=by omega
     have p0':=(hbw.cell (p:=⟨w.heap.size,0,none⟩) l1).trans p0;have p1':=(hbw.cell (p:=⟨w.heap.size,1,none⟩) l1).trans p1;have p2':=(hbw.cell (p:=⟨w.heap.size,2,none⟩) l1).trans p2;have y0':=(hbw.cell (p:=⟨w.heap.size+1,0,none⟩) l2).trans y0;have y1':=(hbw.cell (p:=⟨w.heap.size+1,1,none⟩) l2).trans y1;have y2':=(hbw.cell (p:=⟨w.heap.size+1,2,none⟩) l2).trans y2;have r0':=(hbw.cell (p:=⟨w.heap.size+1+1,0,none⟩) l3).trans r0;have r1':=(hbw.cell (p:=⟨w.heap.size+1+1,1,none⟩) l3).trans r1;have r2':=(hbw.cell (p:=⟨w.heap.size+1+1,2,none⟩) l3).trans r2;have f0':=(hbw.frozen (p:=⟨w.heap.size+1+1,0,none⟩) l3).trans f0;have f1':=(hbw.frozen (p:=⟨w.heap.size+1+1,1,none⟩) l3).trans f1;have f2':=(hbw.frozen (p:=⟨w.heap.size+1+1,2,none⟩) l3).trans f2;obtain ⟨Av,cv,rfl,-,-⟩:=own_form hown1;have HO1:=Lib.hid hown1;have HBW:=Lib.hid hbw;have HGB:=Lib.hid (gb_below' (r:=some (w.heap.size+1+1)) hbw);have HSZ:=Lib.hid (show wr.heap.size+2<=w1.heap.size by have:=hb1.size;simp at this;omega)
     have hln1:w1.heap.size=w1.heap.size:=rfl;clear hown1 hb1 hbw c9 p0 p1 p2 y0 y1 y2 r0 r1 r2 f0 f1 f2 hln1;go_wp2_with fail;refine post_named λW hW=>?_;obtain ⟨q1,q2⟩:=beh_end HBB.out HKF.out HW0.out (by omega) l3 HN2.out (W:=W) (by rw[hW];repeat (first | exact gb_refl _ _ | exact HGB.out | refine gb_alloc ?_ _ | refine gb_setN ?_ _ _ | refine gb_setNew ?_ (by simp) _ | refine gb_drew ?_))
     refine bodyPost_ret (v:=.agg #[.slice A1 x.first.length c1, .slice Av (x.last++y.last).length cv, .bool false]) (by rw[hW];simp[results,Tryz.results161,go_sem,r0',r1',r2',t0,t1,t2,z3,z9,n5,n6];try rfl) rfl ?_
     refine ⟨fpk, .slice A1 x.first.length c1, .slice Av (x.last++y.last).length cv,?_,q1,q2,?_⟩
     .unfold behP;rw[HE.out.1,HE.out.2];rfl
     .have i1:=HPRE.out.1.keep HOX.out.1 q2;have i2:=new_keep (N2:=w.heap.size+1+1) (N9:=wr.heap.size) (W:=W) HO1.out (by intro h;exact hyl (List.append_eq_nil_iff.1 h).2) (by simp;omega) (by simp;omega) (λk hk=>by have:=(HBB.out.lt k hk).2;simp;omega) (by rw[hW];repeat (first | exact KeepF.refl _ _ | refine kf_alloc ?_ _ | refine kf_set ?_ (by simp) _ | refine kf_drew ?_))
      have e1:(behP x y).first=x.first:=by unfold behP;rw[HE.out.1];rfl
      have e2:(behP x y).last=x.last++y.last:=by unfold behP;rw[HE.out.2];rfl
      rw[e1,e2];exact ⟨i1.1,i1.2,i2.1,i2.2⟩
   .cases ey
    .go_wp2_with fail;refine (HCAT.out _ _ x.first y.first _ _ _ (((Below.refl _ _).alloc (Nat.le_refl _) _).alloc (by simp) _) HA.out.1.1 HA.out.2.2.1.1 hyf h1 h3 (by simp) (by decide) (by go_simp) (by go_simp)).mono ?_
     rintro e w1 ⟨v1,rfl,hown1,hb1⟩;have hbw:Below wr.heap.size wr w1:=(((Below.refl _ _).alloc (Nat.le_refl _) _).alloc (by simp) _).trans (hb1.mono (by simp;omega))
     have c9:w1.heap[wr.heap.size]?=some (.cells #[.slice A1 x.first.length c1, .slice B2 y.last.length d2, .bool false] 184 (0,0)):=(hb1.block _ (by simp;omega)).trans (by rw[old_alloc _ _ _ (by simp)];exact heap_alloc_new wr _)
     obtain ⟨t0,t1,t2⟩:=cells3 c9;have u0:w1.frozen? ⟨wr.heap.size,0,none⟩=false:=by simp[World.frozen?,c9]
     have u1:w1.frozen? ⟨wr.heap.size,1,none⟩=false:=by simp[World.frozen?,c9]
     have z9:wr.heap.size<w1.heap.size:=(Array.getElem?_eq_some_iff.1 c9).1;have z1:w.heap.size<w1.heap.size:=by omega
     have z2:w.heap.size+1<w1.heap.size:=by omega
     have z3:w.heap.size+1+1<w1.heap.size:=by omega
     have p0':=(hbw.cell (p:=⟨w.heap.size,0,none⟩) l1).trans p0;have p1':=(hbw.cell (p:=⟨w.heap.size,1,none⟩) l1).trans p1;have p2':=(hbw.cell (p:=⟨w.heap.size,2,none⟩) l1).trans p2;have y0':=(hbw.cell (p:=⟨w.heap.size+1,0,none⟩) l2).trans y0;have y1':=(hbw.cell (p:=⟨w.heap.size+1,1,none⟩) l2).trans y1;have y2':=(hbw.cell (p:=⟨w.heap.size+1,2,none⟩) l2).trans y2;have r0':=(hbw.cell (p:=⟨w.heap.size+1+1,0,none⟩) l3).trans r0;have r1':=(hbw.cell (p:=⟨w.heap.size+1+1,1,none⟩) l3).trans r1;have r2':=(hbw.cell (p:=⟨w.heap.size+1+1,2,none⟩) l3).trans r2;have f0':=(hbw.frozen (p:=⟨w.heap.size+1+1,0,none⟩) l3).trans f0;have f1':=(hbw.frozen (p:=⟨w.heap.size+1+1,1,none⟩) l3).trans f1;have f2':=(hbw.frozen (p:=⟨w.heap.size+1+1,2,none⟩) l3).trans f2;obtain ⟨Av,cv,rfl,-,-⟩:=own_form hown1;have HO1:=Lib.hid hown1;have HBW:=Lib.hid hbw;have HGB:=Lib.hid (gb_below' (r:=some (w.heap.size+1+1)) hbw);have HSZ:=Lib.hid (show wr.heap.size+2<=w1.heap.size by have:=hb1.size;simp at this;omega)
     have hln1:w1.heap.size=w1.heap.size:=rfl;clear hown1 hb1 hbw c9 p0 p1 p2 y0 y1 y2 r0 r1 r2 f0 f1 f2 hln1;go_wp2_with fail;refine post_named λW hW=>?_;obtain ⟨q1,q2⟩:=beh_end HBB.out HKF.out HW0.out (by omega) l3 HN2.out (W:=W) (by rw[hW];repeat (first | exact gb_refl _ _ | exact HGB.out | refine gb_alloc ?_ _ | refine gb_setN ?_ _ _ | refine gb_setNew ?_ (by simp) _ | refine gb_drew ?_))
     refine bodyPost_ret (v:=.agg #[.slice Av (x.first++y.first).length cv, .slice B2 y.last.length d2, .bool false]) (by rw[hW];simp[results,Tryz.results161,go_sem,r0',r1',r2',t0,t1,t2,z3,z9,n5,n6];try rfl) rfl ?_
     refine ⟨fpk, .slice Av (x.first++y.first).length cv, .slice B2 y.last.length d2,?_,q1,q2,?_⟩
     .unfold behP;rw[HE.out.1,HE.out.2];rfl
     .have i1:=new_keep (N2:=w.heap.size+1+1) (N9:=wr.heap.size) (W:=W) HO1.out (by intro h;exact hyf (List.append_eq_nil_iff.1 h).2) (by simp;omega) (by simp;omega) (λk hk=>by have:=(HBB.out.lt k hk).2;simp;omega) (by rw[hW];repeat (first | exact KeepF.refl _ _ | refine kf_alloc ?_ _ | refine kf_set ?_ (by simp) _ | refine kf_drew ?_))
      have i2:=HPRE.out.2.2.2.keep HOX.out.2.2.2 q2;have e1:(behP x y).first=x.first++y.first:=by unfold behP;rw[HE.out.1];rfl
      have e2:(behP x y).last=y.last:=by unfold behP;rw[HE.out.2];rfl
      rw[e1,e2];exact ⟨i1.1,i1.2,i2.1,i2.2⟩
    .go_wp2_with fail;refine (HCAT.out _ _ x.first y.first _ _ _ (((Below.refl _ _).alloc (Nat.le_refl _) _).alloc (by simp) _) HA.out.1.1 HA.out.2.2.1.1 hyf h1 h3 (by simp) (by decide) (by go_simp) (by go_simp)).mono ?_
     rintro e w1 ⟨v1,rfl,hown1,hb1⟩;rw[List.length_append]at hown1;have hbw:Below wr.heap.size wr w1:=(((Below.refl _ _).alloc (Nat.le_refl _) _).alloc (by simp) _).trans (hb1.mono (by simp;omega))
     have c9:w1.heap[wr.heap.size]?=some (.cells #[.slice A1 x.first.length c1, .slice B2 y.last.length d2, .bool true] 184 (0,0)):=(hb1.block _ (by simp;omega)).trans (by rw[old_alloc _ _ _ (by simp)];exact heap_alloc_new wr _)
     obtain ⟨t0,t1,t2⟩:=cells3 c9;have u0:w1.frozen? ⟨wr.heap.size,0,none⟩=false:=by simp[World.frozen?,c9]
     have u1:w1.frozen? ⟨wr.heap.size,1,none⟩=false:=by simp[World.frozen?,c9]
     have z9:wr.heap.size<w1.heap.size:=(Array.getElem?_eq_some_iff.1 c9).1;have z1:w.heap.size<w1.heap.size:=by omega
     have z2:w.heap.size+1<w1.heap.size:=by omega
     have z3:w.heap.size+1+1<w1.heap.size:=by omega
     have p0':=(hbw.cell (p:=⟨w.heap.size,0,none⟩) l1).trans p0;have p1':=(hbw.cell (p:=⟨w.heap.size,1,none⟩) l1).trans p1;have p2':=(hbw.cell (p:=⟨w.heap.size,2,none⟩) l1).trans p2;have y0':=(hbw.cell (p:=⟨w.heap.size+1,0,none⟩) l2).trans y0;have y1':=(hbw.cell (p:=⟨w.heap.size+1,1,none⟩) l2).trans y1;have y2':=(hbw.cell (p:=⟨w.heap.size+1,2,none⟩) l2).trans y2;have r0':=(hbw.cell (p:=⟨w.heap.size+1+1,0,none⟩) l3).trans r0;have r1':=(hbw.cell (p:=⟨w.heap.size+1+1,1,none⟩) l3).trans r1;have r2':=(hbw.cell (p:=⟨w.heap.size+1+1,2,none⟩) l3).trans r2;have f0':=(hbw.frozen (p:=⟨w.heap.size+1+1,0,none⟩) l3).trans f0;have f1':=(hbw.frozen (p:=⟨w.heap.size+1+1,1,none⟩) l3).trans f1;have f2':=(hbw.frozen (p:=⟨w.heap.size+1+1,2,none⟩) l3).trans f2;obtain ⟨Av,cv,rfl,-,-⟩:=own_form hown1;have HO1:=Lib.hid hown1;have HBW:=Lib.hid hbw;have HGB:=Lib.hid (gb_below' (r:=some (w.heap.size+1+1)) hbw);have HSZ:=Lib.hid (show wr.heap.size+2<=w1.heap.size by have:=hb1.size;simp at this;omega)
     have hln1:w1.heap.size=w1.heap.size:=rfl;have C9:=Lib.hid c9;clear hown1 hb1 hbw c9 p0 p1 p2 y0 y1 y2 r0 r1 r2 f0 f1 f2 hln1;go_wp2_with fail;have hbS:Below wr.heap.size wr (w1.setCell ⟨wr.heap.size,0,none⟩ (.slice Av (x.first.length+y.first.length) cv)):=HBW.out.setCell (p:=⟨wr.heap.size,0,none⟩) (Nat.le_refl _) _;have HBS2:=Lib.hid hbS;have c9s:=set_row3 C9.out 0 (.slice Av (x.first.length+y.first.length) cv);have C9S:=Lib.hid c9s;have hzS:(w1.setCell ⟨wr.heap.size,0,none⟩ (.slice Av (x.first.length+y.first.length) cv)).heap.size=w1.heap.size:=by simp[World.setCell]
     have HZS:=Lib.hid hzS;clear hbS c9s hzS;refine (HCAT.out _ _ x.last y.last _ _ _ (HBS2.out.alloc HBS2.out.size _) HA.out.2.1.1 HA.out.2.2.2.1 hyl h2 h4 (by have:=HZS.out;simp;try omega) (by decide) (by go_simp) (by go_simp)).mono ?_
     rintro e w2 ⟨v2,rfl,hown2,hb2⟩;rw[List.length_append]at hown2;have hbw2:Below wr.heap.size wr w2:=(HBS2.out.alloc HBS2.out.size _).trans (hb2.mono (by have:=HZS.out;simp;omega))
     have c92:w2.heap[wr.heap.size]?=some (.cells #[.slice Av (x.first.length+y.first.length) cv, .slice B2 y.last.length d2, .bool true] 184 (0,0)):=(hb2.block _ (by have:=HZS.out;simp;omega)).trans ((old_alloc _ _ _ (by have:=HZS.out;omega)).trans C9S.out)
     have k1:IL w2 (.slice Av (x.first.length+y.first.length) cv) (x.first++y.first):=by
      have:=(IL.of_own HO1.out λ_=>(by intro h;exact hyf (List.append_eq_nil_iff.1 h).2)).keep (fp:=[wr.heap.size]) (fp':=[wr.heap.size]) (w':=w2) (λg hg hm=>?_) ?_
      .exact this.1
      .have:=(HO1.out.lt g hg).1;simp at hm this;omega
      .exact (kf_alloc (kf_set (KeepF.refl _ _) (by simp) _) _).trans (KeepF.of_below hb2)
     have O1:=Lib.hid k1;have V1G:=Lib.hid (λg hg=>(HO1.out.lt g hg).1);have V1L:=Lib.hid (λg hg=>(HO1.out.lt g hg).2);clear t0 t1 t2 u0 u1 z9 z1 z2 z3 p0' p1' p2' y0' y1' y2';obtain ⟨t0,t1,t2⟩:=cells3 c92;have u0:w2.frozen? ⟨wr.heap.size,0,none⟩=false:=by simp[World.frozen?,c92]
     have u1:w2.frozen? ⟨wr.heap.size,1,none⟩=false:=by simp[World.frozen?,c92]
     have z9:wr.heap.size<w2.heap.size:=(Array.getElem?_eq_some_iff.1 c92).1;have z3:w.heap.size+1+1<w2.heap.size:=by omega
     have hr2':=(hbw2.block _ l3).trans HR2.out;clear r0' r1' r2' f0' f1' f2';obtain ⟨r0',r1',r2'⟩:=cells3 hr2';have f0':w2.frozen? ⟨w.heap.size+1+1,0,none⟩=false:=by simp[World.frozen?,hr2']
     have f1':w2.frozen? ⟨w.heap.size+1+1,1,none⟩=false:=by simp[World.frozen?,hr2']
     have f2':w2.frozen? ⟨w.heap.size+1+1,2,none⟩=false:=by simp[World.frozen?,hr2']
     obtain ⟨Av2,cv2,rfl,-,-⟩:=own_form hown2;have HO2:=Lib.hid hown2;have HGB2:=Lib.hid (gb_below' (r:=some (w.heap.size+1+1)) hbw2);clear hown2 hb2 hbw2 c92 hr2' k1;go_wp2_with fail;refine post_named λW hW=>?_;obtain ⟨q1,q2⟩:=beh_end HBB.out HKF.out HW0.out (by omega) l3 HN2.out (W:=W) (by rw[hW];repeat (first | exact gb_refl _ _ | exact HGB2.out | refine gb_alloc ?_ _ | refine gb_setN ?_ _ _ | refine gb_setNew ?_ (by simp) _ | refine gb_drew ?_))
     refine bodyPost_ret (v:=.agg #[.slice Av (x.first.length+y.first.length) cv, .slice Av2 (x.last.length+y.last.length) cv2, .bool true]) (by rw[hW];simp[results,Tryz.results161,go_sem,r0',r1',r2',t0,t1,t2,z3,z9,n5,n6];try rfl) rfl ?_
     refine ⟨fpk, .slice Av (x.first.length+y.first.length) cv, .slice Av2 (x.last.length+y.last.length) cv2,?_,q1,q2,?_⟩
     .unfold behP;rw[HE.out.1,HE.out.2];rfl
     .have i1:=O1.out.keep (fp:=[w.heap.size+1+1,wr.heap.size]) (fp':=[w.heap.size+1+1,wr.heap.size]) (w':=W) (λg hg hm=>by have:=V1G.out g hg;simp at hm this;omega) (by rw[hW];repeat (first | exact KeepF.refl _ _ | refine kf_alloc ?_ _ | refine kf_set ?_ (by simp) _ | refine kf_drew ?_))
      have i1':outOf fpk (.slice Av (x.first.length+y.first.length) cv):=λg hg hm=>by have:=V1G.out g hg;have:=(HBB.out.lt g hm).2;simp at *;omega
      have i2:=new_keep (N2:=w.heap.size+1+1) (N9:=wr.heap.size) (W:=W) HO2.out (by intro h;exact hyl (List.append_eq_nil_iff.1 h).2) (by have:=HZS.out;have:=HSZ.out;simp;omega) (by have:=HZS.out;have:=HSZ.out;simp;omega) (λk hk=>by have:=(HBB.out.lt k hk).2;have:=HSZ.out;simp;omega) (by rw[hW];repeat (first | exact KeepF.refl _ _ | refine kf_alloc ?_ _ | refine kf_set ?_ (by simp) _ | refine kf_drew ?_))
      have e1:(behP x y).first=x.first++y.first:=by unfold behP;rw[HE.out.1];rfl
      have e2:(behP x y).last=x.last++y.last:=by unfold behP;rw[HE.out.2];rfl
      rw[e1,e2];exact ⟨i1.1,i1',i2.1,i2.2⟩
theorem _root_.Go.World.ownsRow.base_mono {w:World} {B B':Nat} {e:TypeId} {k:Nat} {v:Value} {n:Nat} {xs:List Value} (h:w.ownsRow B e k v n xs) (hB:B'<=B):w.ownsRow B' e k v n xs:=by
 refine ⟨h.1,?_⟩;rcases h.2 with h1 | ⟨g,cap,cur,h1,h2,rest⟩
 .exact .inl h1
 .exact .inr ⟨g,cap,cur,h1,Nat.le_trans hB h2,rest⟩
theorem own_later {w w':World} {B:Nat} {e:TypeId} {k:Nat} {v:Value} {n:Nat} {xs:List Value} (h:w.ownsRow B e k v n xs) (hb:Below w.heap.size w w'):w'.ownsRow B e k v n xs:=own_same h λg hg=>hb.block g (h.lt g hg).2
def factEi (N B0:Nat) (A1 A2 B1 B2:Option Addr) (n1 c1 n2 c2 m1 d1 m2 d2:Nat) (ex ey:Bool) (xf xl yf yl:List Nat):Nat->Nat->Value->World->Prop
 | c,0,x,w=>x = .pointer (some ⟨N,0,none⟩)
 | c,1,x,w=>x = .slice A1 n1 c1
 | c,2,x,w=>x = .pointer (some ⟨N+1,0,none⟩)
 | c,3,x,w=>x = .slice B1 m1 d1
 | c,4,x,w=>∃g,x = .slice (some ⟨g,0,none⟩) 2 2/\g<w.heap.size/\w.cell? ⟨g,0,none⟩=some (.slice A1 n1 c1)/\w.cell? ⟨g,1,none⟩=some (.slice B1 m1 d1)
 | c,5,x,w=>∃A c',x = .slice A (n1+m1) c'/\w.ownsRow B0 3 1 x (n1+m1) (ints (xf++yf))
 | c,6,x,w=>x = .pointer (some ⟨N,1,none⟩)
 | c,7,x,w=>x = .slice A2 n2 c2
 | c,8,x,w=>x = .pointer (some ⟨N+1,1,none⟩)
 | c,9,x,w=>x = .slice B2 m2 d2
 | c,10,x,w=>∃g,x = .slice (some ⟨g,0,none⟩) 2 2/\g<w.heap.size/\w.cell? ⟨g,0,none⟩=some (.slice A2 n2 c2)/\w.cell? ⟨g,1,none⟩=some (.slice B2 m2 d2)
 | c,11,x,w=>∃A c',x = .slice A (n2+m2) c'/\w.ownsRow B0 3 1 x (n2+m2) (ints (xl++yl))
 | c,12,x,w=>x = .pointer (some ⟨N,2,none⟩)
 | c,13,x,w=>x = .bool ex
 | c,14,x,w=>x = .bool ex
 | c,15,x,w=>x=cond ex undef (.pointer (some ⟨N+1,2,none⟩))
 | c,16,x,w=>x=cond ex undef (.bool ey)
 | c,17,x,w=>x = .bool (ex || ey)
 | c,18,x,w=>∃a1 k1 a2 k2,x = .agg #[.slice a1 (n1+m1) k1, .slice a2 (n2+m2) k2, .bool (ex || ey)]/\w.ownsRow B0 3 1 (.slice a1 (n1+m1) k1) (n1+m1) (ints (xf++yf))/\w.ownsRow B0 3 1 (.slice a2 (n2+m2) k2) (n2+m2) (ints (xl++yl))
 | _,_,_,_=>True
theorem factEi_bl {N B0:Nat} {A1 A2 B1 B2:Option Addr} {n1 c1 n2 c2 m1 d1 m2 d2:Nat} {ex ey:Bool} {xf xl yf yl:List Nat} {u u':World} (hb:Below u.heap.size u u') {c j:Nat} {x:Value}
  (h:factEi N B0 A1 A2 B1 B2 n1 c1 n2 c2 m1 d1 m2 d2 ex ey xf xl yf yl c j x u):factEi N B0 A1 A2 B1 B2 n1 c1 n2 c2 m1 d1 m2 d2 ex ey xf xl yf yl c j x u':=by
 match j with
 | 0 | 1 | 2 | 3 | 6 | 7 | 8 | 9 | 12 | 13 | 14 | 15 | 16 | 17=>exact h
 | 4 | 10=>
  obtain ⟨g,e,hg,h0,h1⟩:=h;exact ⟨g,e,Nat.lt_of_lt_of_le hg hb.size,(hb.cell (p:=⟨g,0,none⟩) hg).trans h0,(hb.cell (p:=⟨g,1,none⟩) hg).trans h1⟩
 | 5 | 11=>
  obtain ⟨A,c',e,ho⟩:=h;exact ⟨A,c',e,own_later ho hb⟩
 | 18=>
  obtain ⟨a1,k1,a2,k2,e,h1,h2⟩:=h;exact ⟨a1,k1,a2,k2,e,own_later h1 hb,own_later h2 hb⟩
 | _+19=>exact trivial
set_option maxHeartbeats 4000000 in
theorem either_any (xf xl yf yl:List Nat) (ex ey:Bool) (vx1 vx2 vy1 vy2:Value) (w:World) (hx1:IL w vx1 xf) (hx2:IL w vx2 xl) (hy1:IL w vy1 yf) (hy2:IL w vy2 yl) (hyf:yf≠[]) (hyl:yl≠[])
  (h1:xf.length<=10000000) (h2:xl.length<=10000000) (h3:yf.length<=10000000) (h4:yl.length<=10000000) :
  Calls Tryz.prog 162 #[.agg #[vx1,vx2, .bool ex], .agg #[vy1,vy2, .bool ey]] w λe w'=>∃v1 v2,e = .returned (.agg #[v1,v2, .bool (ex || ey)])/\w'.ownsRow w.heap.size 3 1 v1 (xf.length+yf.length) (ints (xf++yf))/\w'.ownsRow w.heap.size 3 1 v2 (xl.length+yl.length) (ints (xl++yl))/\Below w.heap.size w w':=by
 obtain ⟨A1,c1,rfl,hc1⟩:=hx1.form;obtain ⟨A2,c2,rfl,hc2⟩:=hx2.form;obtain ⟨B1,d1,rfl,hd1⟩:=hy1.form;obtain ⟨B2,d2,rfl,hd2⟩:=hy2.form;have HI:=Lib.hid (And.intro hx1 (And.intro hx2 (And.intro hy1 hy2)));obtain ⟨n1,hn1⟩:∃n,xf.length=n:=⟨_,rfl⟩;obtain ⟨n2,hn2⟩:∃n,xl.length=n:=⟨_,rfl⟩;obtain ⟨m1,hm1⟩:∃n,yf.length=n:=⟨_,rfl⟩;obtain ⟨m2,hm2⟩:∃n,yl.length=n:=⟨_,rfl⟩;rw[hn1,hn2,hm1,hm2]at HI;rw[hn1]at h1 hc1|-;rw[hn2]at h2 hc2|-;rw[hm1]at h3 hd1|-;rw[hm2]at h4 hd2|-;have HN:=Lib.hid (And.intro hn1 (And.intro hn2 (And.intro hm1 hm2)));clear hx1 hx2 hy1 hy2 hn1 hn2 hm1 hm2
 go_enter Tryz.func162,Tryz.ntmps162
 go_wp2_with fail;obtain ⟨N,hN⟩:∃N,N=w.heap.size:=⟨_,rfl⟩;obtain ⟨WA,hWA⟩:∃W,W=(((w.alloc (.cells #[.slice A1 n1 c1, .slice A2 n2 c2, .bool ex] 184)).alloc (.cells #[.slice B1 m1 d1, .slice B2 m2 d2, .bool ey] 184)).alloc (.cells #[.slice none 0 0, .slice none 0 0, .bool false] 184)):=⟨_,rfl⟩;have hbA:Below w.heap.size w WA:=by rw[hWA];exact (((Below.refl _ _).alloc (Nat.le_refl _) _).alloc (by simp) _).alloc (by simp;omega) _
 have hzA:WA.heap.size=w.heap.size+3:=by rw[hWA];simp
 have r0:WA.heap[w.heap.size]?=some (.cells #[.slice A1 n1 c1, .slice A2 n2 c2, .bool ex] 184 (0,0)):=by rw[hWA,old_alloc _ _ _ (by simp;omega),old_alloc _ _ _ (by simp)];exact heap_alloc_new w _
 have r1:WA.heap[w.heap.size+1]?=some (.cells #[.slice B1 m1 d1, .slice B2 m2 d2, .bool ey] 184 (0,0)):=by rw[hWA,old_alloc _ _ _ (by simp)];simpa using heap_alloc_new (w.alloc _) _
 have r2:WA.heap[w.heap.size+1+1]?=some (.cells #[.slice none 0 0, .slice none 0 0, .bool false] 184 (0,0)):=by rw[hWA];simpa using heap_alloc_new ((w.alloc _).alloc _) _
 rw[<-hWA];obtain ⟨p0,p1,p2⟩:=cells3 r0;obtain ⟨q0,q1,q2⟩:=cells3 r1;have I1:=Lib.hid (HI.out.1.later hbA);have I2:=Lib.hid (HI.out.2.1.later hbA);have J1:=Lib.hid (HI.out.2.2.1.later hbA);have J2:=Lib.hid (HI.out.2.2.2.later hbA);have HBA:=Lib.hid hbA;have hsz:w.heap.size<=WA.heap.size:=by omega
 rw[<-hN]at r2 p0 p1 p2 q0 q1 q2|-;have HR2:=Lib.hid r2;have l1:N<WA.heap.size:=by omega
 have l2:N+1<WA.heap.size:=by omega
 have l3:N+1+1<WA.heap.size:=by omega
 have HNN:=Lib.hid hN;have hS0:Below WA.heap.size WA WA.drew:=(Below.refl _ _).drew;clear hbA hzA r0 r1 r2 hWA hN;refine wp_region_chain 19 [] (factEi N WA.heap.size A1 A2 B1 B2 n1 c1 n2 c2 m1 d1 m2 d2 ex ey xf xl yf yl) (λ_ w'=>Below WA.heap.size WA w') (by kernel_rfl) (by kernel_rfl) (by kernel_rfl) (by kernel_rfl) (by kernel_rfl) (by kernel_rfl) (by decide) hS0 ?_ ?_
 .simp only[pq4,pq5];refine HSteps.pure (by decide) ?_ (HSteps.pure (by decide) ?_ (HSteps.pure (by decide) ?_ (HSteps.pure (by decide) ?_ (HSteps.free (by decide) ?_ (HSteps.free (by decide) ?_ (HSteps.pure (by decide) ?_ (HSteps.pure (by decide) ?_ (HSteps.pure (by decide) ?_ (HSteps.pure (by decide) ?_ (HSteps.free (by decide) ?_ (HSteps.free (by decide) ?_ (HSteps.pure (by decide) ?_ (HSteps.pure (by decide) ?_ (HSteps.pure (by decide) ?_ (HSteps.pure (by decide) ?_ (HSteps.pure (by decide) ?_ (HSteps.pure (by decide) ?_ (HSteps.pure (by decide) ?_ (HSteps.nil)))))))))))))))))))
  all_goals first | (with_reducible intro v wz c hlo hS hE K hK;simp only[putAll,Act.put,pq1,pq2,pq3,Nat.zero_add,Nat.reduceAdd,pq4,pq5]at hK|-) | (intro v wz hS hE K hK;simp only[putAll,Act.put,pq1,pq2,pq3,Nat.zero_add,Nat.reduceAdd,pq4,pq5]at hK|-)
  .have HX:=Lib.hid hS;clear hS hE hlo;go_wp2_with fail;exact hK.out _ rfl
  .have e0:v 0=_:=hE.1 rfl;rw[e0]at hK|-;have c1:=(hS.cell (p:=⟨N,0,none⟩) l1).trans p0;have HX:=Lib.hid hS;clear hS hE hlo;go_wp2_with fail;exact hK.out _ rfl
  .have HX:=Lib.hid hS;clear hS hE hlo;go_wp2_with fail;exact hK.out _ rfl
  .have e2:v 2=_:=hE.1 rfl;rw[e2]at hK|-;have c1:=(hS.cell (p:=⟨N+1,0,none⟩) l2).trans q0;have HX:=Lib.hid hS;clear hS hE hlo;go_wp2_with fail;exact hK.out _ rfl
  .have e1:v 1=_:=hE.1 rfl;have e3:v 3=_:=hE.2.1 rfl;rw[e1,e3]at hK|-;have hbz:Below wz.heap.size wz (wz.alloc (.cells #[.slice A1 n1 c1, .slice B1 m1 d1] 22)):=(Below.refl _ _).alloc (Nat.le_refl _) _;have HX:=Lib.hid hS;have HBZ:=Lib.hid hbz;clear hS hE hlo hbz;go_wp2_with fail;exact hK.out _ _ (λj y _ h=>factEi_bl HBZ.out h) (HX.out.trans (HBZ.out.mono HX.out.size)) ⟨wz.heap.size,rfl,by simp,by go_simp,by go_simp⟩
  .have E4:=hE.1 rfl;obtain ⟨g,e4,hg,g0,g1⟩:=E4;rw[e4]at hK|-;have hz:=hS.size;have hcc:=concat_any _ _ xf yf g 2 wz (I1.out.later hS) (J1.out.later hS) hyf (by have:=HN.out;omega) hg (by decide) g0 g1
   have HCC:=Lib.hid hcc;have HX:=Lib.hid hS;clear hS hE hlo hcc g0 g1;go_wp2_with fail;refine HCC.out.mono ?_;rintro e w1 ⟨v1,rfl,hown,hb⟩;rw[List.length_append,HN.out.1,HN.out.2.2.1]at hown;have hown2:w1.ownsRow WA.heap.size 3 1 v1 _ _:=hown.base_mono hz;obtain ⟨A',c',rfl,-,-⟩:=own_form hown2;have HO:=Lib.hid hown2;have HB:=Lib.hid hb;clear hown hown2 hb;go_wp2_with fail;exact hK.out _ _ (λj y _ h=>factEi_bl HB.out h) (HX.out.trans (HB.out.mono HX.out.size)) ⟨A',c',rfl,HO.out⟩
  .have HX:=Lib.hid hS;clear hS hE hlo;go_wp2_with fail;exact hK.out _ rfl
  .have e6:v 6=_:=hE.1 rfl;rw[e6]at hK|-;have c1:=(hS.cell (p:=⟨N,1,none⟩) l1).trans p1;have HX:=Lib.hid hS;clear hS hE hlo;go_wp2_with fail;exact hK.out _ rfl
  .have HX:=Lib.hid hS;clear hS hE hlo;go_wp2_with fail;exact hK.out _ rfl
  .have e8:v 8=_:=hE.1 rfl;rw[e8]at hK|-;have c1:=(hS.cell (p:=⟨N+1,1,none⟩) l2).trans q1;have HX:=Lib.hid hS;clear hS hE hlo;go_wp2_with fail;exact hK.out _ rfl
  .have e7:v 7=_:=hE.1 rfl;have e9:v 9=_:=hE.2.1 rfl;rw[e7,e9]at hK|-;have hbz:Below wz.heap.size wz (wz.alloc (.cells #[.slice A2 n2 c2, .slice B2 m2 d2] 22)):=(Below.refl _ _).alloc (Nat.le_refl _) _;have HX:=Lib.hid hS;have HBZ:=Lib.hid hbz;clear hS hE hlo hbz;go_wp2_with fail;exact hK.out _ _ (λj y _ h=>factEi_bl HBZ.out h) (HX.out.trans (HBZ.out.mono HX.out.size)) ⟨wz.heap.size,rfl,by simp,by go_simp,by go_simp⟩
  .have E10:=hE.1 rfl;obtain ⟨g,e4,hg,g0,g1⟩:=E10;rw[e4]at hK|-;have hz:=hS.size;have hcc:=concat_any _ _ xl yl g 2 wz (I2.out.later hS) (J2.out.later hS) hyl (by have:=HN.out;omega) hg (by decide) g0 g1
   have HCC:=Lib.hid hcc;have HX:=Lib.hid hS;clear hS hE hlo hcc g0 g1;go_wp2_with fail;refine HCC.out.mono ?_;rintro e w1 ⟨v1,rfl,hown,hb⟩;rw[List.length_append,HN.out.2.1,HN.out.2.2.2]at hown;have hown2:w1.ownsRow WA.heap.size 3 1 v1 _ _:=hown.base_mono hz;obtain ⟨A',c',rfl,-,-⟩:=own_form hown2;have HO:=Lib.hid hown2;have HB:=Lib.hid hb;clear hown hown2 hb;go_wp2_with fail;exact hK.out _ _ (λj y _ h=>factEi_bl HB.out h) (HX.out.trans (HB.out.mono HX.out.size)) ⟨A',c',rfl,HO.out⟩
  .have HX:=Lib.hid hS;clear hS hE hlo;go_wp2_with fail;exact hK.out _ rfl
  .have e12:v 12=_:=hE.1 rfl;rw[e12]at hK|-;have c1:=(hS.cell (p:=⟨N,2,none⟩) l1).trans p2;have HX:=Lib.hid hS;clear hS hE hlo;go_wp2_with fail;exact hK.out _ rfl
  .have e13:v 13=_:=hE.1 rfl;rw[e13]at hK|-;have HX:=Lib.hid hS;clear hS hE hlo;go_wp2_with fail;exact hK.out _ rfl
  .have e14:v 14=_:=hE.1 rfl;rw[e14]at hK|-
   cases ex
   all_goals
    have HX:=Lib.hid hS;clear hS hE hlo;go_wp2_with fail;exact hK.out _ rfl
  .have e15:v 15=_:=hE.1 rfl;have e14:v 14=_:=hE.2.1 rfl;rw[e15,e14]at hK|-;have c1:=(hS.cell (p:=⟨N+1,2,none⟩) l2).trans q2
   cases ex
   all_goals
    have HX:=Lib.hid hS;clear hS hE hlo;go_wp2_with fail;exact hK.out _ rfl
  .have e14:v 14=_:=hE.1 rfl;have e16:v 16=_:=hE.2.1 rfl;rw[e14,e16]at hK|-
   cases ex
   all_goals
    have HX:=Lib.hid hS;clear hS hE hlo;go_wp2_with fail;exact hK.out _ rfl
  .have e17:v 17=_:=hE.2.2.1 rfl;rw[e17]at hK|-;have E5:=hE.1 rfl;have E11:=hE.2.1 rfl;obtain ⟨a1,k1,h5,o5⟩:=E5;obtain ⟨a2,k2,h11,o11⟩:=E11;rw[h5]at o5;rw[h11]at o11;rw[h5,h11]at hK|-;have HO:=Lib.hid (And.intro o5 o11);have HX:=Lib.hid hS;clear hS hE hlo o5 o11 h5 h11;go_wp2_with fail;exact hK.out _ ⟨a1,k1,a2,k2,rfl,HO.out.1,HO.out.2⟩
 .intro v wz hS hF;have e0:v 0=_:=hF 0 (by decide)
  have e1:v 1=_:=hF 1 (by decide)
  have e2:v 2=_:=hF 2 (by decide)
  have e3:v 3=_:=hF 3 (by decide)
  have e6:v 6=_:=hF 6 (by decide)
  have e7:v 7=_:=hF 7 (by decide)
  have e8:v 8=_:=hF 8 (by decide)
  have e9:v 9=_:=hF 9 (by decide)
  have e12:v 12=_:=hF 12 (by decide)
  have e13:v 13=_:=hF 13 (by decide)
  have e14:v 14=_:=hF 14 (by decide)
  have e15:v 15=_:=hF 15 (by decide)
  have e16:v 16=_:=hF 16 (by decide)
  have e17:v 17=_:=hF 17 (by decide)
  have E4:=hF 4 (by decide)
  have E5:=hF 5 (by decide)
  have E10:=hF 10 (by decide)
  have E11:=hF 11 (by decide)
  have E18:=hF 18 (by decide)
  simp only[putAll,Act.put,pq1,pq2,pq3,Nat.zero_add,Nat.reduceAdd,pq4,pq5,List.drop_succ_cons,List.drop_zero,e0,e1,e2,e3,e6,e7,e8,e9,e12,e13,e14,e15,e16,e17];clear hF e0 e1 e2 e3 e6 e7 e8 e9 e12 e13 e14 e15 e16 e17;obtain ⟨a1,k1,a2,k2,e18,o1,o2⟩:=E18;rw[e18];have hr:=(hS.block _ l3).trans HR2.out;obtain ⟨t0,t1,t2⟩:=cells3 hr;have f0:wz.frozen? ⟨N+1+1,0,none⟩=false:=by simp[World.frozen?,hr]
  have f1:wz.frozen? ⟨N+1+1,1,none⟩=false:=by simp[World.frozen?,hr]
  have f2:wz.frozen? ⟨N+1+1,2,none⟩=false:=by simp[World.frozen?,hr]
  have HO:=Lib.hid (And.intro o1 (And.intro o2 (And.intro hS hr)));clear hS o1 o2 e18 E4 E5 E10 E11 hr;go_wp2_with fail;refine post_named λW hW=>?_;refine bodyPost_ret (v:=.agg #[.slice a1 (n1+m1) k1, .slice a2 (n2+m2) k2, .bool (ex || ey)]) (by rw[hW];simp[results,Tryz.results162,go_sem,t0,t1,t2];try rfl) rfl ?_
  have hne:=HNN.out;have hgb:wz.grownBy W (some (N+1+1)):=by rw[hW];repeat (first | exact gb_refl _ _ | refine gb_alloc ?_ _ | refine gb_setN ?_ _ _ | refine gb_drew ?_)
  have hkeep:∀{v:Value} {n:Nat} {xs:List Value},wz.ownsRow WA.heap.size 3 1 v n xs->W.ownsRow w.heap.size 3 1 v n xs:=λh=>(own_same h λg hg=>hgb.block g (h.lt g hg).2 (λe=>by injection e with e;have:=(h.lt g hg).1;omega)).base_mono hsz
  exact ⟨_,_,rfl,hkeep HO.out.1,hkeep HO.out.2.1,(HBA.out.trans (HO.out.2.2.1.mono HBA.out.size)).grown hgb (by have:=HO.out.2.2.1.size;omega) (λk hk=>by injection hk with hk;omega)⟩
-- How much longer the followers of a position may become.
mutual
def cstF:Nd->Nat
 | .mk op _ kids _ mx=>if op=1 then 0 else if op=4 then mx.toNat*(cstH kids+360000) else cstS kids
def cstS:List Nd->Nat
 | []=>0
 | k::r=>(cstF k+360000)+cstS r
def cstH:List Nd->Nat
 | []=>0
 | k::_=>cstF k
end
theorem posS_mem:∀{l:List Nd} {k:Nd},k∈l->posF k<=posS l
 | a::r,k,h=>by
  rw[posS];rcases List.mem_cons.1 h with rfl | h
  .omega
  .have:=posS_mem h;omega
theorem kids_ge {rs:List (Nat×Nat)} {kids:List Nd} {op mn mx:Int} (hR:rightF (.mk op rs kids mn mx)=true) (h:op=2\/op=3):2<=kids.length:=by
 have h1:=((rightF_iff _).1 hR).1;rw[rightN_2 (nd:=.mk op rs kids mn mx) h]at h1;simp only[sevN,Bool.and_eq_true,decide_eq_true_eq]at h1;exact h1.1
theorem pos_pos:∀(m:Nat) (n:Nd),nodesT n<=m->rightF n=true->1<=posF n:=by
 intro m
 induction m with
 | zero=>intro n h;cases n;rw[nodesT]at h;omega
 | succ m ih=>
  rintro ⟨op,rs,kids,mn,mx⟩ h hR;obtain ⟨hop,hRs⟩:=rightF_op hR;rw[nodesT]at h;have hkid:∀k∈kids,1<=posF k:=λk hk=>ih k (by have:=nodesT_kid hk;omega) (rightFs_mem hRs hk)
  have hsum:2<=kids.length->1<=posS kids:=λh2=>by
   match kids,h2 with
   | a::r,_=>have:=hkid a (by simp);have:=posS_mem (show a∈a::r by simp);omega
  rw[posF];rcases hop with rfl | rfl | rfl | ⟨rfl,hk1,hm0,hm1,hm2⟩
  .simp
  .have:=hsum (kids_ge hR (.inl rfl));simp;omega
  .have:=hsum (kids_ge hR (.inr rfl));simp;omega
  .match kids,hk1 with
   | [a],_=>
    have h1:=hkid a (by simp)
    have h2:1*1<=mx.toNat*posF a:=Nat.mul_le_mul (by omega) h1
    simp[posH];omega
theorem pos_seq {rs:List (Nat×Nat)} {kids:List Nd} {op mn mx:Int} (h:op=2\/op=3) (hp:posF (.mk op rs kids mn mx)<=600):posF (.mk op rs kids mn mx)=posS kids:=by
 rw[posF]at hp|-;rw[if_neg (by omega),if_neg (by omega)]at hp|-
 omega
theorem pos_rep {rs:List (Nat×Nat)} {kids:List Nd} {mn mx:Int} (hp:posF (.mk 4 rs kids mn mx)<=600):posF (.mk 4 rs kids mn mx)=mx.toNat*posH kids:=by
 rw[posF]at hp|-;rw[if_neg (by decide),if_pos rfl]at hp|-
 omega
theorem cst_bd:∀(m:Nat) (n:Nd),nodesT n<=m->rightF n=true->posF n<=600->cstF n<=360000*(depthT n*posF n):=by
 intro m
 induction m with
 | zero=>intro n h;cases n;rw[nodesT]at h;omega
 | succ m ih=>
  rintro ⟨op,rs,kids,mn,mx⟩ h hR hp;have h600:=hp;obtain ⟨hop,hRs⟩:=rightF_op hR;rw[nodesT]at h;have hpos:∀k∈kids,1<=posF k:=λk hk=>pos_pos _ k (Nat.le_refl _) (rightFs_mem hRs hk);have hlist:∀(l:List Nd) (D:Nat),(∀k∈l,k∈kids)->(∀k∈l,depthT k<=D)->(∀k∈l,posF k<=600)->cstS l<=360000*((1+D)*posS l):=by
   intro l D
   induction l with
   | nil=>intro _ _ _;rw[cstS];exact Nat.zero_le _
   | cons a r ihl=>
    intro h1 h2 h3;have i1:=ihl (λk hk=>h1 k (by simp[hk])) (λk hk=>h2 k (by simp[hk])) (λk hk=>h3 k (by simp[hk]))
    have i2:=ih a (by have:=nodesT_kid (h1 a (by simp));omega) (rightFs_mem hRs (h1 a (by simp))) (h3 a (by simp))
    have i3:=hpos a (h1 a (by simp))
    have i4:depthT a*posF a<=D*posF a:=Nat.mul_le_mul_right _ (h2 a (by simp))
    rw[cstS,posS,Nat.mul_add,Nat.mul_add];have i5:(1+D)*posF a=posF a+D*posF a:=by rw[Nat.add_mul,Nat.one_mul]
    omega
  have hdk:∀(l:List Nd),∀k∈l,depthT k<=depthTs l:=by
   intro l
   induction l with
   | nil=>intro k hk;cases hk
   | cons a r ihl=>
    intro k hk;rw[depthTs];rcases List.mem_cons.1 hk with rfl | hk
    .omega
    .have:=ihl k hk;omega
  rw[cstF,depthT];rcases hop with rfl | rfl | rfl | ⟨rfl,hk1,hm0,hm1,hm2⟩
  .rw[if_pos rfl];exact Nat.zero_le _
  .rw[if_neg (by decide),if_neg (by decide),pos_seq (.inl rfl) h600]
   rw[pos_seq (.inl rfl) h600]at hp;exact hlist kids _ (λ_ h=>h) (hdk kids) λk hk=>Nat.le_trans (posS_mem hk) hp
  .rw[if_neg (by decide),if_neg (by decide),pos_seq (.inr rfl) h600]
   rw[pos_seq (.inr rfl) h600]at hp;exact hlist kids _ (λ_ h=>h) (hdk kids) λk hk=>Nat.le_trans (posS_mem hk) hp
  .rw[if_neg (by decide),if_pos rfl,pos_rep h600]
   rw[pos_rep h600]at hp
   match kids,hk1 with
   | [a],_=>
    simp only[posH]at hp;simp only[cstH,posH,depthTs,Nat.max_zero];have i1:=hpos a (by simp)
    have i6:1*posF a<=mx.toNat*posF a:=Nat.mul_le_mul_right _ (by omega)
    have i2:=ih a (by have:=nodesT_kid (show a∈[a] by simp);omega) (rightFs_mem hRs (show a∈[a] by simp)) (by omega)
    have i7:cstF a+360000<=360000*((1+depthT a)*posF a):=by
     have:(1+depthT a)*posF a=posF a+depthT a*posF a:=by rw[Nat.add_mul,Nat.one_mul]
     omega
    have i8:=Nat.mul_le_mul_left mx.toNat i7;have e:mx.toNat*(360000*((1+depthT a)*posF a))=360000*((1+depthT a)*(mx.toNat*posF a)):=by
     rw[Nat.mul_left_comm,Nat.mul_left_comm mx.toNat]
    rw[<-e];exact i8
theorem Wr.iff {b b':Pb} {x:Prt} {K K':LA} (h:Wr b b' x K) (hk:∀w,K.l w↔K'.l w) (ha:K.a=K'.a:=by rfl):Wr b b' x K':=⟨h.len,h.sets,h.fol,h.good,λw=>(h.lang w).trans (hk w),ha▸h.lab⟩
theorem Wr.cho1 {b b1:Pb} {y:Prt} {a:Nd} {r:List Nd} (h:Wr b b1 y (gN a)):Wr b b1 y (gC (a::r) 1):=by
 obtain ⟨L,hL⟩:=h.lab;refine ⟨h.len,h.sets,h.fol,h.good,λw=>(h.lang w).trans ?_,_,hL.one (auL_get rfl)⟩;show langN a w↔(langN a w\/langC [] w);simp[langC]
theorem asc_len:∀{l:List Nat} {a n:Nat},l.Pairwise (·<·)->(∀p∈l,a<=p/\p<a+n)->l.length<=n
 | [],_,_,_,_=>Nat.zero_le _
 | p::r,a,n,h,hb=>by
  rw[List.pairwise_cons]at h;have hp:=hb p (by simp)
  have:=asc_len (a:=p+1) (n:=a+n - (p+1)) h.2 (λq hq=>by have:=h.1 q hq;have:=hb q (by simp[hq]);omega)
  rw[List.length_cons];omega
def WrP (w0:World) (s:Nat) (x2 x3 x4:Value) (b:Pb) (fp:List Nat) (Lg:LA) (n K:Nat) (w:World) (e:Ending) (w':World):Prop:=
 ∃b' x fp' v1 v2,e = .returned (.agg #[v1,v2, .bool x.emp])/\BuI w0 s x2 x3 x4 b' fp' w'/\KeepF fp fp' w w'/\(IL w' v1 x.first/\outOf fp' v1)/\(IL w' v2 x.last/\outOf fp' v2)/\Wr b b' x Lg/\b'.fol.length=b.fol.length+n/\(x.first≠[]/\x.last≠[])/\(x.first.length<=n/\x.last.length<=n)/\∀l∈b'.fol,l.length<=K
def WrCall (w0:World) (s:Nat) (x2 x3 x4:Value) (nd:Nd) (vs:List Value):Prop:=∀w b fp K,BuI w0 s x2 x3 x4 b fp w->b.sets.length=b.fol.length->b.fol.length+posF nd<=600->(∀l∈b.fol,l.length<=K)->K+cstF nd<=10000000000->
 Calls Tryz.prog 135 #[.pointer (some ⟨s,0,none⟩), .agg vs.toArray] w (WrP w0 s x2 x3 x4 b fp (gN nd) (posF nd) (K+cstF nd) w)
theorem IL.ne_part {w:World} {v:Value} {l:List Nat} (h:IL w v l) (hl:l≠[]) {N:Nat} {A1 A2:Option Addr} {n1 c1 n2 c2:Nat} {e:Bool} {T:TypeId} (hN:w.heap[N]?=some (.cells #[.slice A1 n1 c1, .slice A2 n2 c2, .bool e] T (0,0))):v.ownBlock≠some N:=by
 rcases h with ⟨h1,-⟩ | ⟨g,f,c,rfl,h0,hg,hc,hcell⟩
 .exact absurd h1 hl
 .intro e;simp[Value.ownBlock]at e;subst e;have h0':0<l.length:=by cases l with | nil=>exact absurd rfl hl | cons a r=>simp
  have h1:=hcell 0 h0';rw[cell_of_row _ _ _ _ _ _ hN]at h1
  match f,h1 with
  | 0,h1=>simp at h1
  | 1,h1=>simp at h1
  | 2,h1=>simp at h1
  | f+3,h1=>simp at h1
theorem KeepF.weak {f1 f2:List Nat} {a b:World} (h:KeepF f1 f2 a b):KeepF f1 [] a b:=⟨h.os,h.tape,h.output,h.size,h.blk,λk hk=>by cases hk⟩
def StC6 (fp:List Nat) (W:World) (c:Nat) (wz:World):Prop:=KeepF fp [] W wz/\(c=0->Below W.heap.size W wz)
def CpR (w0:World) (s:Nat) (x2 x3 x4:Value) (b:Pb) (fp:List Nat) (Lg:LA) (pk KK:Nat) (xo:Prt) (W:World) (x:Value) (w:World):Prop:=
 ∃b' y fp2 u1 u2,x = .agg #[u1,u2, .bool (behP xo y).emp]/\BuI w0 s x2 x3 x4 (behB b' xo y) fp2 w/\KeepF fp fp2 W w/\(IL w u1 (behP xo y).first/\outOf fp2 u1)/\(IL w u2 (behP xo y).last/\outOf fp2 u2)/\Wr b b' y Lg/\b'.fol.length=b.fol.length+pk/\(y.first≠[]/\y.last≠[])/\(y.first.length<=pk/\y.last.length<=pk)/\∀l∈b'.fol,l.length<=KK
def factC6 (w0:World) (s:Nat) (x2 x3 x4:Value) (b:Pb) (fp:List Nat) (Lg:LA) (pk KK:Nat) (W:World) (N g f cK:Nat) (vo1 vo2:Value) (eo:Bool) (kv:Value) (xo:Prt):Nat->Nat->Value->World->Prop
 | c,0,x,w=>x = .pointer (some ⟨s,0,none⟩)
 | c,1,x,w=>x = .agg #[vo1,vo2, .bool eo]
 | c,2,x,w=>x = .pointer (some ⟨s,0,none⟩)
 | c,3,x,w=>x = .pointer (some ⟨N,2,none⟩)
 | c,4,x,w=>x = .slice (some ⟨g,f,none⟩) 1 cK
 | c,5,x,w=>x = .pointer (some ⟨g,f,none⟩)
 | c,6,x,w=>x=kv
 | c,7,x,w=>c=1->WrP w0 s x2 x3 x4 b fp Lg pk KK W (.returned x) w
 | c,8,x,w=>c=2->CpR w0 s x2 x3 x4 b fp Lg pk KK xo W x w
 | _,_,_,_=>True
def CpyI (b bi:Pb) (Lg:LA) (j i pk:Nat) (xo xa:Prt):Prop:=
 Wr b bi xo (gPow Lg i)/\bi.fol.length=b.fol.length+i*pk/\(xo.first.length<=i*pk/\xo.last.length<=i*pk)/\(xa.first.length<=i*(i*pk)/\xa.last.length<=i*(i*pk))/\(i=0\/(xo.first≠[]/\xo.last≠[]))/\(i<j\/(RepI b bi Lg j i xo xa/\xa.first≠[]/\xa.last≠[]))
theorem CpyI.step {b bi b':Pb} {Lg:LA} {j i pk:Nat} {xo xa y:Prt} (h:CpyI b bi Lg j i pk xo xa) (hy:Wr bi b' y Lg) (hl:b'.fol.length=bi.fol.length+pk) (hne:y.first≠[]/\y.last≠[]) (hln:y.first.length<=pk/\y.last.length<=pk) (hj:1<=j) :
  (i+1<j->CpyI b (behB b' xo y) Lg j (i+1) pk (behP xo y) xa)/\(i+1=j->CpyI b (behB b' xo y) Lg j (i+1) pk (behP xo y) (behP xo y))/\(j<i+1->CpyI b (behB b' xo y) Lg j (i+1) pk (behP xo y) (eitP xa (behP xo y))/\xa.first≠[]/\xa.last≠[]):=by
 obtain ⟨hw,hfl,ho,ha,h0,hor⟩:=h;have hwb:Wr b (behB b' xo y) (behP xo y) (gPow Lg (i+1)):=hw.beh hy (n:=i) (F:=λ_=>Lg.a) rfl rfl;have hfl2:(behB b' xo y).fol.length=b.fol.length+(i+1)*pk:=by
  unfold behB;rw[addF_len,hl,hfl,Nat.succ_mul];omega
 have hf1:(behP xo y).first.length<=(i+1)*pk/\(behP xo y).last.length<=(i+1)*pk:=by
  unfold behP;rw[Nat.succ_mul];constructor
  .simp only
   split
   .rw[List.length_append];omega
   .omega
  .simp only
   split
   .rw[List.length_append];omega
   .omega
 have hne2:(behP xo y).first≠[]/\(behP xo y).last≠[]:=by
  unfold behP;constructor
  .simp only
   split
   .intro e;exact hne.1 (List.append_eq_nil_iff.1 e).2
   .next he=>
    rcases h0 with h0 | h0
    .subst h0;exact absurd ((hw.lang []).2 rfl) he
    .exact h0.1
  .simp only
   split
   .intro e;exact hne.2 (List.append_eq_nil_iff.1 e).2
   .exact hne.2
 have hq:i*(i*pk)<=(i+1)*((i+1)*pk):=Nat.mul_le_mul (by omega) (Nat.mul_le_mul_right _ (by omega))
 have hq2:(i+1)*pk<=(i+1)*((i+1)*pk):=by
  have:=Nat.mul_le_mul_right ((i+1)*pk) (show 1<=i+1 by omega)
  rwa [Nat.one_mul]at this
 have hq3:i*(i*pk)+(i+1)*pk<=(i+1)*((i+1)*pk):=by
  have h1:i*(i*pk)<=i*((i+1)*pk):=Nat.mul_le_mul_left _ (Nat.mul_le_mul_right _ (by omega))
  have h2:(i+1)*((i+1)*pk)=i*((i+1)*pk)+(i+1)*pk:=Nat.succ_mul _ _;omega
 refine ⟨λhlt=>⟨hwb,hfl2,hf1,by omega, .inr hne2, .inl hlt⟩,λhe=>⟨hwb,hfl2,hf1,by omega, .inr hne2, .inr ⟨?_,hne2⟩⟩,λhgt=>?_⟩
 .rw[he];rw[he]at hwb;exact RepI.start hwb hj
 .have hr:=hor.resolve_left (by omega)
  refine ⟨⟨hwb,hfl2,hf1,?_, .inr hne2, .inr ⟨hr.1.step hy (by omega) hj,?_,?_⟩⟩,hr.2⟩
  .unfold eitP;simp only[List.length_append];omega
  .unfold eitP;intro e;exact hr.2.1 (List.append_eq_nil_iff.1 e).1
  .unfold eitP;intro e;exact hr.2.2 (List.append_eq_nil_iff.1 e).1
abbrev st3 (w:World) (k:Nat) (a b c:Value):World:=((w.setCell ⟨k,0,none⟩ a).setCell ⟨k,1,none⟩ b).setCell ⟨k,2,none⟩ c
theorem st3_row {w:World} {k:Nat} {T:TypeId} {x y z:Value} (h:w.heap[k]?=some (.cells #[x,y,z] T (0,0))) (a b c:Value):(st3 w k a b c).heap[k]?=some (.cells #[a,b,c] T (0,0)):=by
 have h1:=set_row3 h 0 a;have h2:=set_row3 h1 1 b;have h3:=set_row3 h2 2 c;simpa using h3
theorem st3_old {w:World} {k k':Nat} (h:k'≠k) (a b c:Value):(st3 w k a b c).heap[k']?=w.heap[k']?:=by
 unfold st3;rw[Below.heap_setCell _ _ _ _ h,Below.heap_setCell _ _ _ _ h,Below.heap_setCell _ _ _ _ h]
theorem st3_size (w:World) (k:Nat) (a b c:Value):(st3 w k a b c).heap.size=w.heap.size:=by simp[st3,World.setCell]
theorem st3_gb (w:World) (k:Nat) (a b c:Value):w.grownBy (st3 w k a b c) (some k):=gb_setN (gb_setN (gb_setN (gb_refl _ _) _ _) _ _) _ _
theorem IL.st3 {w:World} {v:Value} {l:List Nat} (h:IL w v l) {k:Nat} (hk:l≠[]->v.ownBlock≠some k) (a b c:Value):IL (st3 w k a b c) v l:=by
 rcases h with h | ⟨g,f,c',rfl,h0,hg,hc,hcell⟩
 .exact .inl h
 .have hgk:g≠k:=λe=>hk h0 (by rw[e];rfl)
  exact .inr ⟨g,f,c',rfl,h0,by rw[st3_size];exact hg,hc,λi hi=>(World.cell?_of_block (a:=⟨g,f+i,none⟩) (st3_old hgk a b c)).trans (hcell i hi)⟩
structure CpMem (w0:World) (s:Nat) (x2 x3 x4:Value) (fp:List Nat) (w:World) (nb:Array Value) (bi:Pb) (fpi:List Nat) (xo:Prt) (vo1 vo2:Value) (xa:Prt) (va1 va2:Value) (wr:World):Prop where
 bu:BuI w0 s x2 x3 x4 bi fpi wr
 kf:KeepF fp fpi w wr
 ap:∀q∈fpi,q<w.heap.size\/w.heap.size+4<=q
 n0:wr.heap[w.heap.size]?=some (.cells nb 41 (0,0))
 n1:wr.heap[w.heap.size+1]?=some (.cells #[.slice none 0 0, .slice none 0 0, .bool false] 184 (0,0))
 n2:wr.heap[w.heap.size+1+1]?=some (.cells #[vo1,vo2, .bool xo.emp] 184 (0,0))
 n3:wr.heap[w.heap.size+1+1+1]?=some (.cells #[va1,va2, .bool xa.emp] 184 (0,0))
 sz:w.heap.size+4<=wr.heap.size
 o1:IL wr vo1 xo.first/\outOf fpi vo1
 o2:IL wr vo2 xo.last/\outOf fpi vo2
 a1:IL wr va1 xa.first/\outOf fpi va1
 a2:IL wr va2 xa.last/\outOf fpi va2
section
variable {w0:World} {s:Nat} {x2 x3 x4:Value} {fp:List Nat} {w:World} {nb:Array Value} {bi:Pb} {fpi:List Nat} {xo:Prt} {vo1 vo2:Value} {xa:Prt} {va1 va2:Value} {wr:World}
theorem CpMem.later (h:CpMem w0 s x2 x3 x4 fp w nb bi fpi xo vo1 vo2 xa va1 va2 wr) {W:World} (hb:Below wr.heap.size wr W):CpMem w0 s x2 x3 x4 fp w nb bi fpi xo vo1 vo2 xa va1 va2 W:=by
 have hz:=h.sz;exact ⟨h.bu.later hb,h.kf.trans (KeepF.of_below hb),h.ap,(hb.block _ (by omega)).trans h.n0,(hb.block _ (by omega)).trans h.n1,(hb.block _ (by omega)).trans h.n2,(hb.block _ (by omega)).trans h.n3,Nat.le_trans hz hb.size,⟨h.o1.1.later hb,h.o1.2⟩,⟨h.o2.1.later hb,h.o2.2⟩,⟨h.a1.1.later hb,h.a1.2⟩,⟨h.a2.1.later hb,h.a2.2⟩⟩
theorem notin (h:CpMem w0 s x2 x3 x4 fp w nb bi fpi xo vo1 vo2 xa va1 va2 wr) (k:Nat) (h1:w.heap.size<=k) (h2:k<w.heap.size+4):k∉fpi:=λhm=>by have:=h.ap k hm;omega
theorem IL.apart {W:World} {v:Value} {l:List Nat} (h:IL W v l) {k:Nat} {A1 A2:Option Addr} {m1 c1 m2 c2:Nat} {e:Bool} {T:TypeId} (hk:W.heap[k]?=some (.cells #[.slice A1 m1 c1, .slice A2 m2 c2, .bool e] T (0,0))):l≠[]->v.ownBlock≠some k:=λhl=>h.ne_part hl hk
theorem CpMem.out (h:CpMem w0 s x2 x3 x4 fp w nb bi fpi xo vo1 vo2 xa va1 va2 wr) {b2:Pb} {x':Prt} {fp2:List Nat} {u1 u2:Value} {wz:World} (hb2:BuI w0 s x2 x3 x4 b2 fp2 wz) (hk2:KeepF fpi fp2 wr wz) (hu1:IL wz u1 x'.first/\outOf fp2 u1) (hu2:IL wz u2 x'.last/\outOf fp2 u2) (hw:w0.heap.size<=w.heap.size) :
  CpMem w0 s x2 x3 x4 fp w nb b2 fp2 x' u1 u2 xa va1 va2 (st3 wz (w.heap.size+1+1) u1 u2 (.bool x'.emp)):=by
 have hz:=h.sz;have hz2:=hk2.size;have hnew:∀q∈fp2,q<w.heap.size\/w.heap.size+4<=q:=λq hq=>(hk2.new q hq).elim (h.ap q) λh=>.inr (by omega)
 have hn:∀k,w.heap.size<=k->k<w.heap.size+4->k∉fp2:=λk h1 h2 hm=>by have:=hnew k hm;omega
 have m0:=(hk2.blk _ (by omega) (notin h _ (Nat.le_refl _) (by omega))).trans h.n0
 have m1:=(hk2.blk _ (by omega) (notin h _ (by omega) (by omega))).trans h.n1
 have m2:=(hk2.blk _ (by omega) (notin h _ (by omega) (by omega))).trans h.n2
 have m3:=(hk2.blk _ (by omega) (notin h _ (by omega) (by omega))).trans h.n3
 have a1:=h.a1.1.keep h.a1.2 hk2;have a2:=h.a2.1.keep h.a2.2 hk2;obtain ⟨q1,q2⟩:=beh_end hb2 (h.kf.trans hk2) hw (show w.heap.size<=w.heap.size+1+1 by omega) (by omega) (hn _ (by omega) (by omega)) (st3_gb wz (w.heap.size+1+1) u1 u2 (.bool x'.emp))
 obtain ⟨Ao1,co1,e1,-⟩:=h.o1.1.form;obtain ⟨Ao2,co2,e2,-⟩:=h.o2.1.form;rw[e1,e2]at m2;exact ⟨q1,q2,hnew,(st3_old (by omega) _ _ _).trans m0,(st3_old (by omega) _ _ _).trans m1,st3_row m2 _ _ _,(st3_old (by omega) _ _ _).trans m3,by rw[st3_size];omega,
  ⟨hu1.1.st3 (hu1.1.apart m2) _ _ _,hu1.2⟩,⟨hu2.1.st3 (hu2.1.apart m2) _ _ _,hu2.2⟩,⟨a1.1.st3 (a1.1.apart m2) _ _ _,a1.2⟩,⟨a2.1.st3 (a2.1.apart m2) _ _ _,a2.2⟩⟩
theorem CpMem.all (h:CpMem w0 s x2 x3 x4 fp w nb bi fpi xo vo1 vo2 xa va1 va2 wr) {x':Prt} {u1 u2:Value} (hu1:IL wr u1 x'.first/\outOf fpi u1) (hu2:IL wr u2 x'.last/\outOf fpi u2) (hw:w0.heap.size<=w.heap.size) :
  CpMem w0 s x2 x3 x4 fp w nb bi fpi xo vo1 vo2 x' u1 u2 (st3 wr (w.heap.size+1+1+1) u1 u2 (.bool x'.emp)):=by
 have hz:=h.sz;have m3:=h.n3;obtain ⟨q1,q2⟩:=beh_end h.bu h.kf hw (show w.heap.size<=w.heap.size+1+1+1 by omega) (by omega) (notin h _ (by omega) (by omega)) (st3_gb wr (w.heap.size+1+1+1) u1 u2 (.bool x'.emp))
 obtain ⟨Ao1,co1,e1,-⟩:=h.a1.1.form;obtain ⟨Ao2,co2,e2,-⟩:=h.a2.1.form;rw[e1,e2]at m3;exact ⟨q1,q2,h.ap,(st3_old (by omega) _ _ _).trans h.n0,(st3_old (by omega) _ _ _).trans h.n1,(st3_old (by omega) _ _ _).trans h.n2,st3_row m3 _ _ _,by rw[st3_size];omega,
  ⟨h.o1.1.st3 (h.o1.1.apart m3) _ _ _,h.o1.2⟩,⟨h.o2.1.st3 (h.o2.1.apart m3) _ _ _,h.o2.2⟩,⟨hu1.1.st3 (hu1.1.apart m3) _ _ _,hu1.2⟩,⟨hu2.1.st3 (hu2.1.apart m3) _ _ _,hu2.2⟩⟩
theorem CpMem.emp (h:CpMem w0 s x2 x3 x4 fp w nb bi fpi xo vo1 vo2 xa va1 va2 wr) (e:Bool) (hw:w0.heap.size<=w.heap.size):CpMem w0 s x2 x3 x4 fp w nb bi fpi xo vo1 vo2 ⟨xa.first,xa.last,e⟩ va1 va2 (wr.setCell ⟨w.heap.size+1+1+1,2,none⟩ (.bool e)):=by
 have hz:=h.sz;have m3:=h.n3;have ho:∀k,k≠w.heap.size+1+1+1->(wr.setCell ⟨w.heap.size+1+1+1,2,none⟩ (.bool e)).heap[k]?=wr.heap[k]?:=λk hk=>Below.heap_setCell _ _ _ _ hk;have hsz:(wr.setCell ⟨w.heap.size+1+1+1,2,none⟩ (.bool e)).heap.size=wr.heap.size:=by simp[World.setCell]
 obtain ⟨q1,q2⟩:=beh_end h.bu h.kf hw (show w.heap.size<=w.heap.size+1+1+1 by omega) (by omega) (notin h _ (by omega) (by omega)) (gb_setN (gb_refl wr _) 2 (.bool e))
 obtain ⟨Ao1,co1,e1,-⟩:=h.a1.1.form;obtain ⟨Ao2,co2,e2,-⟩:=h.a2.1.form;have hil:∀{v:Value} {l:List Nat},IL wr v l->IL (wr.setCell ⟨w.heap.size+1+1+1,2,none⟩ (.bool e)) v l:=λ{v l} hi=>by
  have hap:=hi;rw[e1,e2]at m3;have hne:=hi.apart m3;rcases hi with hi | ⟨g,f,c',rfl,h0,hg,hc,hcell⟩
  .exact .inl hi
  .have hgk:g≠w.heap.size+1+1+1:=λe=>hne h0 (by rw[e];rfl)
   exact .inr ⟨g,f,c',rfl,h0,by rw[hsz];exact hg,hc,λi hi=>(World.cell?_of_block (a:=⟨g,f+i,none⟩) (ho g hgk)).trans (hcell i hi)⟩
 exact ⟨q1,q2,h.ap,(ho _ (by omega)).trans h.n0,(ho _ (by omega)).trans h.n1,(ho _ (by omega)).trans h.n2,by have:=set_row3 h.n3 2 (.bool e);simpa using this,by rw[hsz];omega,
  ⟨hil h.o1.1,h.o1.2⟩,⟨hil h.o2.1,h.o2.2⟩,⟨hil h.a1.1,h.a1.2⟩,⟨hil h.a2.1,h.a2.2⟩⟩
end
theorem wp_named {c:Code} {P:Program} {Q:Exit->Act->World->Prop} {a:Act} {w:World} (h:∀W,W=w->c.wp P Q a W):c.wp P Q a w:=h w rfl
theorem cp_end {w0:World} {s:Nat} {x2 x3 x4:Value} {b:Pb} {fp fpk L L':List Nat} {w wr W:World} (hb:BuI w0 s x2 x3 x4 b fpk wr) (hk:KeepF fp fpk w wr) (hw:w0.heap.size<=w.heap.size) (hL:∀k∈L,w.heap.size<=k/\k∉fpk) (hg:KeepF L L' wr W):BuI w0 s x2 x3 x4 b fpk W/\KeepF fp fpk w W:=by
 have hlt:=hb.lt;have hbel:=hb.bel;refine ⟨?_,⟨hg.os.trans hk.os,hg.tape.trans hk.tape,hg.output.trans hk.output,Nat.le_trans hk.size hg.size,λk h1 h2=>(hg.blk k (Nat.lt_of_lt_of_le h1 hk.size) (λhm=>by have:=(hL k hm).1;omega)).trans (hk.blk k h1 h2),λk h=>hk.new k h⟩⟩
 obtain ⟨vs,vf,rows,sv,rfl,h⟩:=hb;refine ⟨vs,vf,rows,sv,rfl,h.same (λk hk'=>hg.blk k (hlt k hk').2 (λhm=>(hL k hm).2 hk')) ?_⟩;exact h.bel.trans (hg.below (λk hm=>by have:=(hL k hm).1;omega) hbel.size)
def factC13 (N3 B0:Nat) (W:World) (va1 va2:Value) (l1 l2:List Nat) (ee:Bool):Nat->Nat->Value->World->Prop
 | c,0,x,w=>x = .pointer (some ⟨N3,0,none⟩)
 | c,1,x,w=>x=va1
 | c,2,x,w=>∃A c' r,x = .slice A r.length c'/\SortedF l1 r/\w.ownsRow B0 3 1 x r.length (ints r)
 | c,3,x,w=>x = .pointer (some ⟨N3,1,none⟩)
 | c,4,x,w=>x=va2
 | c,5,x,w=>∃A c' r,x = .slice A r.length c'/\SortedF l2 r/\w.ownsRow B0 3 1 x r.length (ints r)
 | c,6,x,w=>x = .pointer (some ⟨N3,0,none⟩)
 | c,7,x,w=>c=1->∃A c' r,SortedF l1 r/\w.ownsRow B0 3 1 (.slice A r.length c') r.length (ints r)/\w.heap[N3]?=some (.cells #[.slice A r.length c',va2, .bool ee] 184 (0,0))/\KeepF [N3] [] W w
 | c,8,x,w=>x = .pointer (some ⟨N3,1,none⟩)
 | _,_,_,_=>True
theorem factC13_bl {N3 B0:Nat} {W:World} {va1 va2:Value} {l1 l2:List Nat} {ee:Bool} {u u':World} (hb:Below u.heap.size u u') {c j:Nat} {x:Value} (h:factC13 N3 B0 W va1 va2 l1 l2 ee c j x u):factC13 N3 B0 W va1 va2 l1 l2 ee c j x u':=by
 match j with
 | 0 | 1 | 3 | 4 | 6 | 8=>exact h
 | 2 | 5=>
  obtain ⟨A,c',r,e,hs,ho⟩:=h;exact ⟨A,c',r,e,hs,own_later ho hb⟩
 | 7=>
  intro hc;obtain ⟨A,c',r,hs,ho,hr,hk⟩:=h hc;exact ⟨A,c',r,hs,own_later ho hb,(hb.block _ (Array.getElem?_eq_some_iff.1 hr).1).trans hr,hk.trans ⟨hb.os,hb.tape,hb.output,hb.size,λk hk _=>hb.block k hk,λk hk=>by cases hk⟩⟩
 | _+9=>exact trivial
set_option maxHeartbeats 8000000 in
theorem copies_any (w0:World) (s:Nat) (x2 x3 x4:Value) (rs:List (Nat×Nat)) (kd:Nd) (mn mx:Int) (A1:Option Addr) (c1 g f c:Nat) (kvs:List Value) (hR:rightF (.mk 4 rs [kd] mn mx)=true) (hpos:posF (.mk 4 rs [kd] mn mx)<=600)
  (hg:g<w0.heap.size) (hc:1<=c/\c<=9223372036854775807) (hkd:NdIn w0 kd kvs) (hkc:∀j,j<5->w0.cell? ⟨g,f+j,none⟩=kvs[j]?) (hw:WrCall w0 s x2 x3 x4 kd kvs) (w:World) (b:Pb) (fp:List Nat) (K:Nat)
  (hbu:BuI w0 s x2 x3 x4 b fp w) (hln:b.sets.length=b.fol.length) (hrm:b.fol.length+posF (.mk 4 rs [kd] mn mx)<=600) (hK:∀l∈b.fol,l.length<=K) (hKK:K+cstF (.mk 4 rs [kd] mn mx)<=10000000000) :
  Calls Tryz.prog 163 #[.pointer (some ⟨s,0,none⟩), .agg #[.int .i64 4, .slice A1 rs.length c1, .slice (some ⟨g,f,none⟩) 1 c, .int .i64 mn, .int .i64 mx]] w (WrP w0 s x2 x3 x4 b fp (gN (.mk 4 rs [kd] mn mx)) (posF (.mk 4 rs [kd] mn mx)) (K+cstF (.mk 4 rs [kd] mn mx)) w):=by
 obtain ⟨B1,e1,B2,e2,rfl,-,-,-⟩:=hkd.form;obtain ⟨hop,hRs⟩:=rightF_op hR;have hle:=rep_le hR rfl;obtain ⟨-,-,hm0,hm1,hm2⟩:(4:Int)=4/\[kd].length=1/\0<=mn/\1<=mx/\mx<=64:=by
  rcases hop with h | h | h | h
  .cases h
  .cases h
  .cases h
  .exact h
 obtain ⟨M,rfl⟩:=Int.eq_ofNat_of_zero_le (show 0<=mx by omega)
 obtain ⟨m,rfl⟩:=Int.eq_ofNat_of_zero_le hm0;have hpe:posF (.mk 4 rs [kd] m M)=M*posF kd:=by rw[pos_rep hpos];simp[posH]
 have hce:cstF (.mk 4 rs [kd] m M)=M*(cstF kd+360000):=by rw[cstF,if_neg (by decide),if_pos rfl];simp[cstH]
 rw[hpe]at hpos hrm|-;rw[hce]at hKK|-;have hlang:∀z,langN (.mk 4 rs [kd] m M) z↔∃k,m<=k/\k<=M/\powL (langN kd) k z:=λz=>by
  simp only[langN,langH];rw[if_neg (by decide),if_neg (by decide),if_neg (by decide)]
  constructor
  .rintro ⟨k,h1,h2,h3⟩;exact ⟨k,by omega,by omega,h3⟩
  .rintro ⟨k,h1,h2,h3⟩;exact ⟨k,by omega,by omega,h3⟩
 obtain ⟨N,hN⟩:∃N,N=w.heap.size:=⟨_,rfl⟩;have hfp:=hbu.lt;have hB0:=hbu.bel.size;have HBU0:=Lib.hid hbu;have HLANG:=Lib.hid hlang;have HAUN:=Lib.hid (show tlA m M 0 (gN kd).a=(gN (.mk 4 rs [kd] m M)).a by
  show _=auN (.mk 4 rs [kd] m M);rw[auN,if_neg (by decide),if_neg (by decide),if_neg (by decide),auL_get (l:=[kd]) rfl,Int.toNat_natCast,Int.toNat_natCast];rfl)
 have HW:=Lib.hid hw;have HKC:=Lib.hid hkc;have HK:=Lib.hid hK;have HFP:=Lib.hid hfp;clear hR hRs hop hpe hce hlang hbu hw hkc hK hfp hkd
 go_enter Tryz.func163,Tryz.ntmps163
 go_wp2_with fail;obtain ⟨j,hj⟩:∃j,j=max m 1:=⟨_,rfl⟩;have hjm:max (m:Int) 1=(j:Int):=by omega
 have hj1:1<=j:=by omega
 have hjM:j<=M:=by omega
 have hM1:1<=M:=by omega
 have hM64:M<=64:=by omega
 have HJ:=Lib.hid hj;obtain ⟨pk,hpk⟩:∃pk,posF kd=pk:=⟨_,rfl⟩;obtain ⟨cs,hcs⟩:∃cs,cstF kd=cs:=⟨_,rfl⟩;rw[hpk]at hpos hrm|-;rw[hcs]at hKK|-;have HPC:=Lib.hid (And.intro hpk hcs);have hpk6:M*pk<=600:=hpos;clear hpk hcs hj
 go_loopw [11] (λiv wr=>∃(i:Nat) (bi:Pb) (fpi:List Nat) (xo:Prt) (vo1 vo2:Value) (xa:Prt) (va1 va2:Value),i<=M/\iv = .int .i64 (i:Int)/\Hid (CpMem w0 s x2 x3 x4 fp w #[.int .i64 4, .slice A1 rs.length c1, .slice (some ⟨g,f,none⟩) 1 c, .int .i64 m, .int .i64 M] bi fpi xo vo1 vo2 xa va1 va2 wr)/\Hid (CpyI b bi (gN kd) j i pk xo xa/\∀l∈bi.fol,l.length<=K+i*(cs+360000))) (λiv _=>M - (intOf iv).toNat)
 case atStart=>
  refine ⟨0,b,fp,⟨[],[],true⟩, .slice none 0 0, .slice none 0 0,⟨[],[],false⟩, .slice none 0 0, .slice none 0 0,by omega,rfl,?_,?_⟩
  .have hB:=(((((Below.refl w.heap.size w).alloc (Nat.le_refl _) (.cells #[.int .i64 4, .slice A1 rs.length c1, .slice (some ⟨g,f,none⟩) 1 c, .int .i64 m, .int .i64 M] 41)).alloc (by simp) (.cells #[.slice none 0 0, .slice none 0 0, .bool false] 184)).alloc (by simp <;> omega) (.cells #[.slice none 0 0, .slice none 0 0, .bool true] 184)).alloc (by simp <;> omega) (.cells #[.slice none 0 0, .slice none 0 0, .bool false] 184))
   have hnil:∀(W:World) (fq:List Nat),IL W (.slice none 0 0) []/\outOf fq (.slice none 0 0):=λW fq=>⟨.inl ⟨rfl,rfl⟩,λg hg=>by simp[Value.ownBlock]at hg⟩
   refine ⟨HBU0.out.later hB,KeepF.of_below hB,λq hq=>.inl (HFP.out q hq).2,?_,?_,?_,?_,by simp,hnil _ _,hnil _ _,hnil _ _,hnil _ _⟩
   .rw[old_alloc _ _ _ (by simp <;> omega),old_alloc _ _ _ (by simp <;> omega),old_alloc _ _ _ (by simp)]; exact heap_alloc_new w _
   .rw[old_alloc _ _ _ (by simp <;> omega),old_alloc _ _ _ (by simp)]; simpa using heap_alloc_new (w.alloc _) _
   .rw[old_alloc _ _ _ (by simp)];simpa using heap_alloc_new ((w.alloc _).alloc _) _
   .simpa using heap_alloc_new (((w.alloc _).alloc _).alloc _) _
  .refine ⟨⟨Wr.nil b hln _,by rw[Nat.zero_mul,Nat.add_zero],⟨Nat.zero_le _,Nat.zero_le _⟩,⟨Nat.zero_le _,Nat.zero_le _⟩, .inl rfl, .inl hj1⟩,λl hl=>by rw[Nat.zero_mul,Nat.add_zero];exact HK.out l hl⟩
 case round=>
  obtain ⟨i,bi,fpi,xo,vo1,vo2,xa,va1,va2,hi,rfl,HM,HI⟩:=hrel;by_cases hlt:i<M
  .have hd:decide ((i:Int)<(M:Int))=true:=decide_eq_true (by omega)
   have hdn:decide (i<M)=true:=decide_eq_true hlt;obtain ⟨Ao1,co1,rfl,-⟩:=HM.out.o1.1.form;obtain ⟨Ao2,co2,rfl,-⟩:=HM.out.o2.1.form;obtain ⟨Aa1,ca1,rfl,-⟩:=HM.out.a1.1.form;obtain ⟨Aa2,ca2,rfl,-⟩:=HM.out.a2.1.form;obtain ⟨eo,heo⟩:∃eo,xo.emp=eo:=⟨_,rfl⟩;have hbi:=HM.out.bu;have hS0:StC6 fpi wr 0 wr.drew:=⟨(KeepF.of_below (Below.refl _ _).drew).weak,λ_=>(Below.refl _ _).drew⟩;have hsz:=HM.out.sz;have l0:w.heap.size<wr.heap.size:=by omega
   have l2:w.heap.size+1+1<wr.heap.size:=by omega
   have n0:=notin HM.out w.heap.size (Nat.le_refl _) (by omega)
   have n2:=notin HM.out (w.heap.size+1+1) (by omega) (by omega)
   obtain ⟨b0,b1,b2,b3,b4⟩:=cells5 HM.out.n0;have hn2:=HM.out.n2;rw[heo]at hn2;obtain ⟨o0,o1,o2⟩:=cells3 hn2;have hng:g∉fpi:=λhm=>by have:=(hbi.lt g hm).1;omega
   have hgl:g<wr.heap.size:=by have:=hbi.bel.size;omega
   have hkc:=λ(wz:World) (h:wz.heap[g]?=wr.heap[g]?)=>(λj (hj:j<5)=>(World.cell?_of_block (a:=⟨g,f+j,none⟩) (h.trans (hbi.bel.block g hg))).trans (HKC.out j hj));have HKCZ:=Lib.hid (show ∀wz:World,wz.heap[g]?=wr.heap[g]?->wz.cell? ⟨g,f,none⟩=some (.int .i64 kd.op)/\wz.cell? ⟨g,f+1,none⟩=some (.slice B1 kd.rs.length e1)/\wz.cell? ⟨g,f+2,none⟩=some (.slice B2 kd.kids.length e2)/\wz.cell? ⟨g,f+3,none⟩=some (.int .i64 kd.mn)/\wz.cell? ⟨g,f+4,none⟩=some (.int .i64 kd.mx) from
    λwz h=>⟨hkc wz h 0 (by omega),hkc wz h 1 (by omega),hkc wz h 2 (by omega),hkc wz h 3 (by omega),hkc wz h 4 (by omega)⟩)
   have HBU:=Lib.hid hbi;have HIO:=Lib.hid (And.intro HM.out.o1.1 (And.intro HM.out.o1.2 (And.intro HM.out.o2.1 HM.out.o2.2)));have hci:=HI.out.1;have hlen:=hci.1.len;have hroom0:i*pk+pk<=M*pk:=by have:=Nat.mul_le_mul_right pk hlt;rwa [Nat.succ_mul]at this
   have hfl:=hci.2.1;have hroom:bi.fol.length+posF kd<=600:=by rw[HPC.out.1,hfl];omega
   have hxl:∀p∈xo.last,p<bi.fol.length:=λp hp=>(hci.1.good.lst p hp).2;have hol:=hci.2.2.1;obtain ⟨K0,hK0⟩:∃K0,K0=K+i*(cs+360000):=⟨_,rfl⟩;have hKi:i*(cs+360000)+(cs+360000)<=M*(cs+360000):=by have:=Nat.mul_le_mul_right (cs+360000) hlt;rwa [Nat.succ_mul]at this
   have hKc:K0+cstF kd<=10000000000:=by rw[HPC.out.2];omega
   have HKB:=Lib.hid (show ∀l∈bi.fol,l.length<=K0 from λl hl=>by rw[hK0];exact HI.out.2 l hl)
   have HXL:=Lib.hid hxl;have HLO:=Lib.hid hol;have HEO:=Lib.hid heo;have HWC:=Lib.hid HW.out;have hpk600:pk<=600:=by omega
   have hpkd:posF kd<=600:=by rw[HPC.out.1];exact hpk600
   have HK0:=Lib.hid hK0;have HFL:=Lib.hid hfl;have HROOM:=Lib.hid (And.intro hroom hlen);clear hbi hkc hci hfl hxl hol hK0 heo hn2;go_wp2_with fail;refine wp_region_chain 9 [7,8] (factC6 w0 s x2 x3 x4 bi fpi (gN kd) (posF kd) (K0+cstF kd) wr w.heap.size g f c (.slice Ao1 xo.first.length co1) (.slice Ao2 xo.last.length co2) eo (.agg #[.int .i64 kd.op, .slice B1 kd.rs.length e1, .slice B2 kd.kids.length e2, .int .i64 kd.mn, .int .i64 kd.mx]) xo) (λc w'=>StC6 fpi wr c w') (by kernel_rfl) (by kernel_rfl) (by kernel_rfl) (by kernel_rfl) (by kernel_rfl) (by kernel_rfl) (by decide) hS0 ?_ ?_
   .simp only[pq4,pq5];refine HSteps.pure (by decide) ?_ (HSteps.pure (by decide) ?_ (HSteps.pure (by decide) ?_ (HSteps.pure (by decide) ?_ (HSteps.pure (by decide) ?_ (HSteps.pure (by decide) ?_ (HSteps.pure (by decide) ?_ (HSteps.eff 0 rfl ?_ (HSteps.eff 1 rfl ?_ (HSteps.nil)))))))))
    all_goals first | (with_reducible intro v wz c hlo hS hE K hK;simp only[putAll,Act.put,pq1,pq2,pq3,Nat.zero_add,Nat.reduceAdd,pq4,pq5]at hK|-) | (intro v wz hS hE K hK;simp only[putAll,Act.put,pq1,pq2,pq3,Nat.zero_add,Nat.reduceAdd,pq4,pq5]at hK|-)
    .have HX:=Lib.hid hS;clear hS hE hlo;go_wp2_with fail;exact hK.out _ rfl
    .have cx0:=(World.cell?_of_block (a:=⟨w.heap.size+1+1,0,none⟩) (hS.1.blk (w.heap.size+1+1) l2 n2)).trans o0;have cx1:=(World.cell?_of_block (a:=⟨w.heap.size+1+1,1,none⟩) (hS.1.blk (w.heap.size+1+1) l2 n2)).trans o1;have cx2:=(World.cell?_of_block (a:=⟨w.heap.size+1+1,2,none⟩) (hS.1.blk (w.heap.size+1+1) l2 n2)).trans o2;have HX:=Lib.hid hS;clear hS hE hlo;go_wp2_with fail;exact hK.out _ rfl
    .have HX:=Lib.hid hS;clear hS hE hlo;go_wp2_with fail;exact hK.out _ rfl
    .have HX:=Lib.hid hS;clear hS hE hlo;go_wp2_with fail;exact hK.out _ rfl
    .have e3:v 3=_:=hE.1 rfl;rw[e3]at hK|-;have cn2:=(World.cell?_of_block (a:=⟨w.heap.size,2,none⟩) (hS.1.blk w.heap.size l0 n0)).trans b2;have HX:=Lib.hid hS;clear hS hE hlo;go_wp2_with fail;exact hK.out _ rfl
    .have e4:v 4=_:=hE.1 rfl;rw[e4]at hK|-;have HX:=Lib.hid hS;clear hS hE hlo;go_wp2_with fail;exact hK.out _ rfl
    .have e5:v 5=_:=hE.1 rfl;rw[e5]at hK|-;obtain ⟨k0,k1,k2,k3,k4⟩:=HKCZ.out wz (hS.1.blk g hgl hng);have HX:=Lib.hid hS;clear hS hE hlo;go_wp2_with fail;exact hK.out _ rfl
    .have e2:v 2=_:=hE.1 rfl;have e6:v 6=_:=hE.2.1 rfl;rw[e2,e6]at hK|-;have hz:=hS.2 rfl;have hcall:=HWC.out wz bi fpi K0 (HBU.out.later hz) HROOM.out.2 HROOM.out.1 HKB.out hKc;have HC:=Lib.hid hcall;have HX:=Lib.hid hS;clear hS hE hcall;go_wp2_with fail;refine HC.out.mono ?_;rintro e wy ⟨b',y,fp',v1,v2,rfl,hb',hk',hi1,hi2,hw',hl',hne',hln',hK'⟩;have HP:=Lib.hid (And.intro hb' (And.intro hk' (And.intro hi1 (And.intro hi2 (And.intro hw' (And.intro hl' (And.intro hne' (And.intro hln' hK'))))))));clear hb' hk' hi1 hi2 hw' hl' hne' hln' hK';go_wp2_with fail;refine hK.out _ _ (λj z hj h=>?_) ⟨((KeepF.of_below (HX.out.2 rfl)).trans HP.out.2.1).weak,λh=>by cases h⟩ (λ_=>⟨b',y,fp',v1,v2,rfl,HP.out.1,(KeepF.of_below (HX.out.2 rfl)).trans HP.out.2.1,HP.out.2.2.1,HP.out.2.2.2.1,HP.out.2.2.2.2.1,HP.out.2.2.2.2.2.1,HP.out.2.2.2.2.2.2.1,HP.out.2.2.2.2.2.2.2.1,HP.out.2.2.2.2.2.2.2.2⟩)
     match j with
     | 0 | 1 | 2 | 3 | 4 | 5 | 6=>exact h
     | 7=>exact absurd rfl hj
     | 8=>exact λh=>by cases h
     | _+9=>exact trivial
    .have e0:v 0=_:=hE.1 rfl;have e1:v 1=_:=hE.2.1 rfl;rw[e0,e1]at hK|-;have E7:=hE.2.2.1 rfl;obtain ⟨b',y,fp',v1,v2,ev,hb',hk',hi1,hi2,hw',hl',hne',hln',hK'⟩:=E7 rfl;injection ev with ev;rw[ev]at hK|-;have i1:=HIO.out.1.keep HIO.out.2.1 hk';have i2:=HIO.out.2.2.1.keep HIO.out.2.2.2 hk';have hxl:∀p∈xo.last,p<b'.fol.length:=λp hp=>by have:=HXL.out p hp;omega
     have hcall:=behind_any w0 s x2 x3 x4 b' fp' wz xo y _ _ v1 v2 _ hb' i1.1 i1.2 i2.1 i2.2 hi1.1 hi1.2 hi2.1 hi2.2 hne'.1 hne'.2 hxl (by have:=HLO.out;omega) (by have:=HLO.out;omega) (by omega) (by omega) hK' (by omega)
     rw[HEO.out]at hcall;have HC:=Lib.hid hcall;have HX:=Lib.hid hS;have HP:=Lib.hid (And.intro hb' (And.intro hk' (And.intro hw' (And.intro hl' (And.intro hne' (And.intro hln' hK'))))));clear hS hE hcall hb' hk' hi1 hi2 hw' hl' hne' hln' hK' i1 i2 hxl E7 ev;go_wp2_with fail;refine HC.out.mono ?_;rintro e wy ⟨fp2,u1,u2,rfl,hb2,hk2,j1,j2,j3,j4⟩;have HQ:=Lib.hid (And.intro hb2 (And.intro hk2 (And.intro j1 (And.intro j2 (And.intro j3 j4)))));clear hb2 hk2 j1 j2 j3 j4;go_wp2_with fail;refine hK.out _ _ (λj z hj h=>?_) ⟨(HP.out.2.1.trans HQ.out.2.1).weak,λh=>by cases h⟩ (λ_=>⟨b',y,fp2,u1,u2,rfl,HQ.out.1,HP.out.2.1.trans HQ.out.2.1,⟨HQ.out.2.2.1,HQ.out.2.2.2.1⟩,⟨HQ.out.2.2.2.2.1,HQ.out.2.2.2.2.2⟩,HP.out.2.2.1,HP.out.2.2.2.1,HP.out.2.2.2.2.1,HP.out.2.2.2.2.2.1,HP.out.2.2.2.2.2.2⟩)
     match j with
     | 0 | 1 | 2 | 3 | 4 | 5 | 6=>exact h
     | 7=>exact λh=>by cases h
     | 8=>exact absurd rfl hj
     | _+9=>exact trivial
   .intro v wz hS hF;have e0:v 0=_:=hF 0 (by decide)
    have e1:v 1=_:=hF 1 (by decide)
    have e2:v 2=_:=hF 2 (by decide)
    have e3:v 3=_:=hF 3 (by decide)
    have e4:v 4=_:=hF 4 (by decide)
    have e5:v 5=_:=hF 5 (by decide)
    have e6:v 6=_:=hF 6 (by decide)
    have E7:=hF 7 (by decide)
    have E8:=hF 8 (by decide)
    simp only[putAll,Act.put,pq1,pq2,pq3,Nat.zero_add,Nat.reduceAdd,pq4,pq5,List.drop_succ_cons,List.drop_zero,e0,e1,e2,e3,e4,e5,e6];clear hF e0 e1 e2 e3 e4 e5 e6;obtain ⟨b',y,fp2,u1,u2,ev,hb2,hk2,hu1,hu2,hwy,hl',hne',hln',hK'⟩:=E8 rfl;rw[ev];obtain ⟨Au1,cu1,rfl,hcu1⟩:=hu1.1.form;obtain ⟨Au2,cu2,rfl,hcu2⟩:=hu2.1.form;have hw00:w0.heap.size<=w.heap.size:=hB0;have hM1:=HM.out.out (x':=behP xo y) hb2 hk2 hu1 hu2 hw00;have HM1:=Lib.hid hM1;have hstep:=HI.out.1.step hwy (by rw[hl',HPC.out.1]) hne' (by rw[HPC.out.1]at hln';exact hln') hj1
    have hbd:∀l∈(behB b' xo y).fol,l.length<=K+(i+1)*(cs+360000):=λl hl=>by
     have h1:=addF_le y.first xo.last b'.fol _ hK' l hl;have h2:xo.last.length*y.first.length<=600*600:=Nat.mul_le_mul (by have:=HLO.out;omega) (by omega)
     have h3:=HK0.out;have h4:=HPC.out.2;have h5:(i+1)*(cs+360000)=i*(cs+360000)+(cs+360000):=Nat.succ_mul _ _;omega
    have HST:=Lib.hid (And.intro hstep hbd);obtain ⟨X,hX⟩:∃X,behP xo y=X:=⟨_,rfl⟩;obtain ⟨B',hB'⟩:∃B',behB b' xo y=B':=⟨_,rfl⟩;rw[hX,hB']at HM1 HST;rw[hX]at hcu1 hcu2|-;have hXl:X.first.length<=600/\X.last.length<=600:=by
     have h1:(i+1)*pk<=M*pk:=Nat.mul_le_mul_right _ hlt;rcases Nat.lt_trichotomy (i+1) j with h | h | h
     .have:=(HST.out.1.1 h).2.2.1;omega
     .have:=(HST.out.1.2.1 h).2.2.1;omega
     .have:=(HST.out.1.2.2 h).1.2.2.1;omega
    have hz0:=(hk2.blk _ l0 n0).trans HM.out.n0;have hz2:=(hk2.blk _ l2 n2).trans HM.out.n2;have hz3:=(hk2.blk _ (by omega) (notin HM.out (w.heap.size+1+1+1) (by omega) (by omega))).trans HM.out.n3
    obtain ⟨z0,z1,z2,z3,z4⟩:=cells5 hz0;obtain ⟨q0,q1,q2⟩:=cells3 hz2;obtain ⟨t0,t1,t2⟩:=cells3 hz3;have f0:wz.frozen? ⟨w.heap.size+1+1,0,none⟩=false:=by simp[World.frozen?,hz2]
    have f1:wz.frozen? ⟨w.heap.size+1+1,1,none⟩=false:=by simp[World.frozen?,hz2]
    have f2:wz.frozen? ⟨w.heap.size+1+1,2,none⟩=false:=by simp[World.frozen?,hz2]
    have g0:wz.frozen? ⟨w.heap.size+1+1+1,0,none⟩=false:=by simp[World.frozen?,hz3]
    have g1:wz.frozen? ⟨w.heap.size+1+1+1,1,none⟩=false:=by simp[World.frozen?,hz3]
    have g2:wz.frozen? ⟨w.heap.size+1+1+1,2,none⟩=false:=by simp[World.frozen?,hz3]
    clear hS E7 E8 ev hb2 hk2 hu1 hu2 hwy hl' hne' hln' hK' hM1 hstep hbd hz0 hz2 hz3 b0 b1 b2 b3 b4 o0 o1 o2 hX hB' hS0;rcases Nat.lt_trichotomy (i+1) j with hc3 | hc3 | hc3
    .have d1:((i:Int)+1 == (j:Int))=false:=by simp;omega
     have d2:decide ((m:Int)<(i:Int)+1)=false:=decide_eq_false (by have:=HJ.out;omega)
     have HC3:=Lib.hid hc3;clear hc3;go_wp2_with fail;go_roundw
     case rel=>
      exact ⟨i+1,_,_,_,_,_,_,_,_,by omega,by go_num,HM1,⟨HST.out.1.1 HC3.out,HST.out.2⟩⟩
     case measure=>simp[intOf];omega
    .have d1:((i:Int)+1 == (j:Int))=true:=by simp;omega
     have HC3:=Lib.hid hc3;have hM2:=HM1.out.all HM1.out.o1 HM1.out.o2 hw00;have HM2:=Lib.hid hM2;clear hc3 hM2;go_wp2_with fail;go_roundw
     case rel=>
      exact ⟨i+1,_,_,_,_,_,_,_,_,by omega,by go_num,HM2,⟨HST.out.1.2.1 HC3.out,HST.out.2⟩⟩
     case measure=>simp[intOf];omega
    .have d1:((i:Int)+1 == (j:Int))=false:=by simp;omega
     have d2:decide ((m:Int)<(i:Int)+1)=true:=decide_eq_true (by have:=HJ.out;omega)
     have hS3:=HST.out.1.2.2 hc3;have hxal:xa.first.length<=10000000/\xa.last.length<=10000000:=by
      have h1:=HI.out.1.2.2.2.1;have h2:i*(i*pk)<=64*(64*600):=Nat.mul_le_mul (by omega) (Nat.mul_le_mul (by omega) hpk600)
      omega
     have hXne:X.first≠[]/\X.last≠[]:=hS3.1.2.2.2.2.1.resolve_left (by omega)
     have hcall:∀W,W=st3 wz (w.heap.size+1+1) (.slice Au1 X.first.length cu1) (.slice Au2 X.last.length cu2) (.bool X.emp)->Calls Tryz.prog 162 #[.agg #[.slice Aa1 xa.first.length ca1, .slice Aa2 xa.last.length ca2, .bool xa.emp], .agg #[.slice Au1 X.first.length cu1, .slice Au2 X.last.length cu2, .bool X.emp]] W _:=λW h=>by
      subst h;exact either_any xa.first xa.last X.first X.last xa.emp X.emp _ _ _ _ _ HM1.out.a1.1 HM1.out.a2.1 HM1.out.o1.1 HM1.out.o2.1 hXne.1 hXne.2 hxal.1 hxal.2 (by omega) (by omega)
     have HCL:=Lib.hid hcall;have HS3:=Lib.hid hS3;have HC3:=Lib.hid hc3;have HXN:=Lib.hid hXne;clear hc3 hS3 hcall hXne;go_wp2_with fail;refine (HCL.out _ rfl).mono ?_;rintro e w2 ⟨v1,v2,rfl,ho1,ho2,hbw⟩;have hM2:=HM1.out.later hbw;obtain ⟨Av1,cv1,rfl,-,-⟩:=own_form ho1;obtain ⟨Av2,cv2,rfl,-,-⟩:=own_form ho2;have hfq:∀q∈fp2,q<(st3 wz (w.heap.size+1+1) (.slice Au1 X.first.length cu1) (.slice Au2 X.last.length cu2) (.bool X.emp)).heap.size:=λq hq=>(HM1.out.bu.lt q hq).2;have hM3:=hM2.all (x':=eitP xa X) ⟨IL.of_own ho1 (λ_ h=>HXN.out.1 (List.append_eq_nil_iff.1 h).2),λq hq hm=>by have:=(ho1.lt q hq).1;have:=hfq q hm;omega⟩ ⟨IL.of_own ho2 (λ_ h=>HXN.out.2 (List.append_eq_nil_iff.1 h).2),λq hq hm=>by have:=(ho2.lt q hq).1;have:=hfq q hm;omega⟩ hw00
     have HM3:=Lib.hid hM3;obtain ⟨t0',t1',t2'⟩:=cells3 hM2.n3;have g0':w2.frozen? ⟨w.heap.size+1+1+1,0,none⟩=false:=by simp[World.frozen?,hM2.n3]
     have g1':w2.frozen? ⟨w.heap.size+1+1+1,1,none⟩=false:=by simp[World.frozen?,hM2.n3]
     have g2':w2.frozen? ⟨w.heap.size+1+1+1,2,none⟩=false:=by simp[World.frozen?,hM2.n3]
     clear ho1 ho2 hbw hM2 hM3 hfq t0 t1 t2 g0 g1 g2 q0 q1 q2 f0 f1 f2 z0 z1 z2 z3 z4;go_wp2_with fail;go_roundw
     case rel=>
      exact ⟨i+1,_,_,_,_,_,_,_,_,by omega,by go_num,HM3,⟨HS3.out.1,HST.out.2⟩⟩
     case measure=>simp[intOf];omega
  .obtain rfl:i=M:=by omega
   obtain ⟨Ao1,co1,rfl,-⟩:=HM.out.o1.1.form;obtain ⟨Ao2,co2,rfl,-⟩:=HM.out.o2.1.form;obtain ⟨Aa1,ca1,rfl,-⟩:=HM.out.a1.1.form;obtain ⟨Aa2,ca2,rfl,-⟩:=HM.out.a2.1.form;obtain ⟨b0,b1,b2,b3,b4⟩:=cells5 HM.out.n0;obtain ⟨t0,t1,t2⟩:=cells3 HM.out.n3;obtain ⟨r0,r1,r2⟩:=cells3 HM.out.n1;have g2:wr.frozen? ⟨w.heap.size+1+1+1,2,none⟩=false:=by simp[World.frozen?,HM.out.n3]
   have hw00:w0.heap.size<=w.heap.size:=hB0;have hxr:=HI.out.1.2.2.2.2.2.resolve_left (by omega)
   have hxal:xa.first.length<=10000000/\xa.last.length<=10000000:=by
    have h1:=HI.out.1.2.2.2.1;have h2:i*(i*pk)<=64*600:=Nat.mul_le_mul (by omega) (by omega)
    omega
   have HXR:=Lib.hid (And.intro hxr hxal);obtain ⟨ea,hea⟩:∃ea,xa.emp=ea:=⟨_,rfl⟩;rw[hea]at t2;have HEA:=Lib.hid hea;clear hxr hxal hea;have hpost:∀W,CpMem w0 s x2 x3 x4 fp w #[.int .i64 4, .slice A1 rs.length c1, .slice (some ⟨g,f,none⟩) 1 c, .int .i64 m, .int .i64 i] bi fpi xo (.slice Ao1 xo.first.length co1) (.slice Ao2 xo.last.length co2) ⟨xa.first,xa.last,(xa.emp || m == 0)⟩ (.slice Aa1 xa.first.length ca1) (.slice Aa2 xa.last.length ca2) W->w.heap.size+1+1+1<W.heap.size/\w.heap.size+1<W.heap.size:=λW h=>by have:=h.sz;omega
   have HPO:=Lib.hid hpost;have HE1:∀(e:Bool) (W:World),(xa.emp || m == 0)=e->W=wr.setCell ⟨w.heap.size+1+1+1,2,none⟩ (.bool e)->CpMem w0 s x2 x3 x4 fp w #[.int .i64 4, .slice A1 rs.length c1, .slice (some ⟨g,f,none⟩) 1 c, .int .i64 m, .int .i64 i] bi fpi xo (.slice Ao1 xo.first.length co1) (.slice Ao2 xo.last.length co2) ⟨xa.first,xa.last,(xa.emp || m == 0)⟩ (.slice Aa1 xa.first.length ca1) (.slice Aa2 xa.last.length ca2) W:=λe W h1 h2=>by
    subst h1 h2;exact HM.out.emp _ hw00
   have HE:=Lib.hid HE1;clear hpost HE1;obtain ⟨q,d1⟩:∃q,((m:Int) == 0)=q:=⟨_,rfl⟩;have hq:(xa.emp || m == 0)=(ea || q):=by
    rw[HEA.out,<-d1]
    congr 1
    rw[Bool.eq_iff_iff];simp
   have HQ:=Lib.hid hq;clear hq
   cases ea <;> cases q
   all_goals
    go_wp2_with fail;refine wp_named λW hW=>?_;have hM:=HE.out _ W HQ.out hW;obtain ⟨l3,l1⟩:=HPO.out W hM;obtain ⟨q0,q1,q2⟩:=cells3 hM.n3;obtain ⟨r0',r1',r2'⟩:=cells3 hM.n1;clear hW t0 t1 t2 r0 r1 r2 b0 b1 b2 b3 b4 g2;have t0:=q0;have t1:=q1;have HMW:=Lib.hid hM;have HIA:=Lib.hid (show IL W (.slice Aa1 xa.first.length ca1) xa.first/\IL W (.slice Aa2 xa.last.length ca2) xa.last from ⟨hM.a1.1,hM.a2.1⟩);have HIA1:=Lib.hid HIA.out.1;have HIA2:=Lib.hid HIA.out.2;have HXA:=Lib.hid HXR.out.2;have HN3:=Lib.hid hM.n3;have hS0:(0=0->Below W.heap.size W W.drew):=λ_=>(Below.refl _ _).drew;clear hM q0 q1 q2;refine wp_region_chain 9 [7] (factC13 (w.heap.size+1+1+1) W.heap.size W (.slice Aa1 xa.first.length ca1) (.slice Aa2 xa.last.length ca2) xa.first xa.last (xa.emp || m == 0)) (λc w'=>c=0->Below W.heap.size W w') (by kernel_rfl) (by kernel_rfl) (by kernel_rfl) (by kernel_rfl) (by kernel_rfl) (by kernel_rfl) (by decide) hS0 ?_ ?_
    .simp only[pq4,pq5];refine HSteps.pure (by decide) ?_ (HSteps.pure (by decide) ?_ (HSteps.free (by decide) ?_ (HSteps.pure (by decide) ?_ (HSteps.pure (by decide) ?_ (HSteps.free (by decide) ?_ (HSteps.pure (by decide) ?_ (HSteps.eff 0 rfl ?_ (HSteps.pure (by decide) ?_ (HSteps.nil)))))))))
     all_goals first | (with_reducible intro v wz c hlo hS hE K hK;simp only[putAll,Act.put,pq1,pq2,pq3,Nat.zero_add,Nat.reduceAdd,pq4,pq5]at hK|-) | (intro v wz hS hE K hK;simp only[putAll,Act.put,pq1,pq2,pq3,Nat.zero_add,Nat.reduceAdd,pq4,pq5]at hK|-)
     .have HX:=Lib.hid hS;clear hS hE hlo;go_wp2_with fail;exact hK.out _ rfl
     .have e0:v 0=_:=hE.1 rfl;rw[e0]at hK|-;have hc0:c=0:=Nat.le_zero.1 (hlo 0 (by kernel_rfl))
      subst hc0;have hz:=hS rfl;have c1:=(hz.cell (p:=⟨w.heap.size+1+1+1,0,none⟩) l3).trans t0;clear hz;have HX:=Lib.hid hS;clear hS hE hlo;go_wp2_with fail;exact hK.out _ rfl
     .have e1:v 1=_:=hE.1 rfl;rw[e1]at hK|-;have hc0:c=0:=Nat.le_zero.1 (hlo 0 (by kernel_rfl))
      subst hc0;have hz:=hS rfl;have hcall:=sorted_any _ xa.first wz (HIA1.out.later hz) (by have:=HXA.out;omega)
      have HC:=Lib.hid hcall;have HX:=Lib.hid hz;clear hS hE hlo hcall hz;go_wp2_with fail;refine HC.out.mono ?_;rintro e w1 ⟨v1,r,rfl,hsr,hown,-,hb⟩;have hown2:w1.ownsRow W.heap.size 3 1 v1 _ _:=hown.base_mono HX.out.size;obtain ⟨A',c',rfl,-,-⟩:=own_form hown2;have HO:=Lib.hid hown2;have HB:=Lib.hid hb;have HSR:=Lib.hid hsr;clear hown hown2 hb hsr;go_wp2_with fail;exact hK.out _ _ (λj y _ h=>factC13_bl HB.out h) (λ_=>HX.out.trans (HB.out.mono HX.out.size)) ⟨A',c',r,rfl,HSR.out,HO.out⟩
     .have HX:=Lib.hid hS;clear hS hE hlo;go_wp2_with fail;exact hK.out _ rfl
     .have e3:v 3=_:=hE.1 rfl;rw[e3]at hK|-;have hc0:c=0:=Nat.le_zero.1 (hlo 0 (by kernel_rfl))
      subst hc0;have hz:=hS rfl;have c1:=(hz.cell (p:=⟨w.heap.size+1+1+1,1,none⟩) l3).trans t1;clear hz;have HX:=Lib.hid hS;clear hS hE hlo;go_wp2_with fail;exact hK.out _ rfl
     .have e4:v 4=_:=hE.1 rfl;rw[e4]at hK|-;have hc0:c=0:=Nat.le_zero.1 (hlo 0 (by kernel_rfl))
      subst hc0;have hz:=hS rfl;have hcall:=sorted_any _ xa.last wz (HIA2.out.later hz) (by have:=HXA.out;omega)
      have HC:=Lib.hid hcall;have HX:=Lib.hid hz;clear hS hE hlo hcall hz;go_wp2_with fail;refine HC.out.mono ?_;rintro e w1 ⟨v1,r,rfl,hsr,hown,-,hb⟩;have hown2:w1.ownsRow W.heap.size 3 1 v1 _ _:=hown.base_mono HX.out.size;obtain ⟨A',c',rfl,-,-⟩:=own_form hown2;have HO:=Lib.hid hown2;have HB:=Lib.hid hb;have HSR:=Lib.hid hsr;clear hown hown2 hb hsr;go_wp2_with fail;exact hK.out _ _ (λj y _ h=>factC13_bl HB.out h) (λ_=>HX.out.trans (HB.out.mono HX.out.size)) ⟨A',c',r,rfl,HSR.out,HO.out⟩
     .have HX:=Lib.hid hS;clear hS hE hlo;go_wp2_with fail;exact hK.out _ rfl
     .have e6:v 6=_:=hE.1 rfl;rw[e6]at hK|-;have E2:=hE.2.1 rfl;obtain ⟨A,c',r,ev,hsr,ho⟩:=E2;rw[ev]at hK ho|-;have hz:=hS rfl;have hr3:=(hz.block _ l3).trans HN3.out;obtain ⟨c0',c1',c2'⟩:=cells3 hr3;have fz:wz.frozen? ⟨w.heap.size+1+1+1,0,none⟩=false:=by simp[World.frozen?,hr3]
      have HO:=Lib.hid ho;have HX:=Lib.hid hz;have HR:=Lib.hid hr3;have HSR:=Lib.hid hsr;clear hS hE hz ho hr3 hsr ev;go_wp2_with fail;have hset:∀k,k≠w.heap.size+1+1+1->(wz.setCell ⟨w.heap.size+1+1+1,0,none⟩ (.slice A r.length c')).heap[k]?=wz.heap[k]?:=λk hk=>Below.heap_setCell _ _ _ _ hk;have hoo:∀{v:Value} {n:Nat} {xs:List Value},wz.ownsRow W.heap.size 3 1 v n xs->(wz.setCell ⟨w.heap.size+1+1+1,0,none⟩ (.slice A r.length c')).ownsRow W.heap.size 3 1 v n xs:=λh=>own_same h λg hg=>hset g (by have:=(h.lt g hg).1;omega)
      refine hK.out undef _ (λj z hj h=>?_) (λh=>by cases h) (λ_=>⟨A,c',r,HSR.out,hoo HO.out,by have:=set_row3 HR.out 0 (.slice A r.length c');simpa using this,?_⟩)
      .match j with
       | 0 | 1 | 3 | 4 | 6 | 8=>exact h
       | 2 | 5=>
        obtain ⟨A1',c1'',r1,e,hs,ho⟩:=h;exact ⟨A1',c1'',r1,e,hs,hoo ho⟩
       | 7=>exact absurd rfl hj
       | _+9=>exact trivial
      .exact ⟨HX.out.os,HX.out.tape,HX.out.output,by simpa [World.setCell] using HX.out.size,λk hk hn=>(hset k (λe=>hn (by rw[e];simp))).trans (HX.out.block k hk),λk hk=>by cases hk⟩
     .have HX:=Lib.hid hS;clear hS hE hlo;go_wp2_with fail;exact hK.out _ rfl
    .intro v wz hS hF;have e0:v 0=_:=hF 0 (by decide)
     have e1:v 1=_:=hF 1 (by decide)
     have e3:v 3=_:=hF 3 (by decide)
     have e4:v 4=_:=hF 4 (by decide)
     have e6:v 6=_:=hF 6 (by decide)
     have e8:v 8=_:=hF 8 (by decide)
     have E2:=hF 2 (by decide)
     have E5:=hF 5 (by decide)
     have E7:=hF 7 (by decide)
     simp only[putAll,Act.put,pq1,pq2,pq3,Nat.zero_add,Nat.reduceAdd,pq4,pq5,List.drop_succ_cons,List.drop_zero,e0,e1,e3,e4,e6,e8];clear hF e0 e1 e3 e4 e6 e8;obtain ⟨A7,c7,r1,hsr1,ho1,hrow,hkf⟩:=E7 rfl;obtain ⟨A5,c5,r2,ev5,hsr2,ho2⟩:=E5;rw[ev5]at ho2|-;obtain ⟨z0,z1,z2⟩:=cells3 hrow;have fz0:wz.frozen? ⟨w.heap.size+1+1+1,0,none⟩=false:=by simp[World.frozen?,hrow]
     have fz1:wz.frozen? ⟨w.heap.size+1+1+1,1,none⟩=false:=by simp[World.frozen?,hrow]
     have hr1z:=(hkf.blk _ l1 (by simp)).trans HMW.out.n1
     obtain ⟨y0,y1,y2⟩:=cells3 hr1z;have fy0:wz.frozen? ⟨w.heap.size+1,0,none⟩=false:=by simp[World.frozen?,hr1z]
     have fy1:wz.frozen? ⟨w.heap.size+1,1,none⟩=false:=by simp[World.frozen?,hr1z]
     have fy2:wz.frozen? ⟨w.heap.size+1,2,none⟩=false:=by simp[World.frozen?,hr1z]
     have HZ:=Lib.hid (And.intro hsr1 (And.intro ho1 (And.intro hsr2 (And.intro ho2 (And.intro hrow hkf)))));clear hS E2 E7 ev5 hsr1 ho1 hsr2 ho2 hrow hkf hr1z;go_wp2_with fail;refine post_named λWf hWf=>?_;have hkW:KeepF [w.heap.size+1+1+1,w.heap.size+1] [w.heap.size+1+1+1,w.heap.size+1] wz Wf:=by
      rw[hWf];repeat (first | exact KeepF.refl _ _ | refine kf_alloc ?_ _ | refine kf_set ?_ (by simp) _ | refine kf_drew ?_)
     have hkf2:KeepF [w.heap.size+1+1+1,w.heap.size+1] [] W Wf:=by
      have h1:=HZ.out.2.2.2.2.2;exact ⟨hkW.os.trans h1.os,hkW.tape.trans h1.tape,hkW.output.trans h1.output,Nat.le_trans h1.size hkW.size,λk hk hn=>(hkW.blk k (Nat.lt_of_lt_of_le hk h1.size) hn).trans (h1.blk k hk (λhm=>hn (by simp at hm;simp[hm]))),λk hk=>by cases hk⟩
     obtain ⟨q1,q2⟩:=cp_end HMW.out.bu HMW.out.kf hw00 (λk hk=>by
      simp at hk;exact ⟨by omega,notin HMW.out k (by omega) (by omega)⟩) hkf2
     refine bodyPost_ret (v:=.agg #[.slice A7 r1.length c7, .slice A5 r2.length c5, .bool (xa.emp || m == 0)]) (by rw[hWf];simp[results,Tryz.results163,go_sem,y0,y1,y2,z0,z1,z2,l1,l3];try rfl) rfl ?_
     have hown:∀{v:Value} {n:Nat} {l:List Nat},wz.ownsRow W.heap.size 3 1 v n (ints l)->l≠[]->IL Wf v l/\outOf fpi v:=λ{v n l} h hl=>by
      have hsz:=HMW.out.sz;refine ⟨(IL.keep (IL.of_own h λ_=>hl) (λg hg hm=>?_) hkW).1,λg hg hm=>?_⟩
      .have:=(h.lt g hg).1;simp at hm;omega
      .have:=(h.lt g hg).1;have:=(HMW.out.bu.lt g hm).2;omega
     have hci:=HI.out.1;have hxr:=HXR.out.1;have hsA:=HZ.out.1;have hsB:=HZ.out.2.2.1;have hne1:r1≠[]:=λe=>by
      cases hf:xa.first with
      | nil=>exact hxr.2.1 hf
      | cons p l=>have:=(hsA.2 p).2 (by rw[hf];simp);rw[e]at this;cases this
     have hne2:r2≠[]:=λe=>by
      cases hf:xa.last with
      | nil=>exact hxr.2.2 hf
      | cons p l=>have:=(hsB.2 p).2 (by rw[hf];simp);rw[e]at this;cases this
     have hfl:=hci.2.1;have hln1:r1.length<=i*pk:=asc_len (a:=b.fol.length) hsA.1 λp hp=>by
      have:=hci.1.good.fst p (hxr.1.fst p ((hsA.2 p).1 hp));omega
     have hln2:r2.length<=i*pk:=asc_len (a:=b.fol.length) hsB.1 λp hp=>by
      have:=hxr.1.lst p ((hsB.2 p).1 hp);omega
     have hdone:=hxr.1.done ⟨r1,r2,(xa.emp || m == 0)⟩ hsA.2 hsB.2 m HJ.out (by omega) rfl
     obtain ⟨i1,o1⟩:=hown HZ.out.2.1 hne1;obtain ⟨i2,o2⟩:=hown HZ.out.2.2.2.1 hne2;refine ⟨bi,⟨r1,r2,(xa.emp || m == 0)⟩,fpi,_,_,rfl,q1,q2,⟨i1,o1⟩,⟨i2,o2⟩,hdone.iff (λz=>(HLANG.out z).symm) HAUN.out,by rw[HPC.out.1];exact hfl,⟨hne1,hne2⟩,by rw[HPC.out.1];exact ⟨hln1,hln2⟩,by rw[HPC.out.2];exact HI.out.2⟩
theorem info_rg:(Tryz.prog.info? 38).map (λi=>(i.zero,i.size,i.bytes))=some (some (.slice none 0 0),1,24):=by kernel_rfl
theorem info_li:(Tryz.prog.info? 22).map (λi=>(i.zero,i.size,i.bytes))=some (some (.slice none 0 0),1,24):=by kernel_rfl
def Fresh (v' v:Value) (N:Nat):Prop:=v'.ownBlock=v.ownBlock\/∃g,v'.ownBlock=some g/\N<=g
theorem BuS.addPos {w0:World} {s:Nat} {x2 x3 x4:Value} {b:Pb} {vs vf:Value} {rows sv:List Value} {w w':World} (h:BuS w0 s x2 x3 x4 b vs vf rows sv w) {vs' vf' rv:Value} {rs:List (Nat×Nat)}
  (hcs:w'.heap[s]?=some (.cells #[vs',vf',x2,x3,x4] 182 (0,0))) (hos:w'.ownsRow w0.heap.size 38 1 vs' (b.sets.length+1) (sv++[rv])) (hof:w'.ownsRow w0.heap.size 22 1 vf' (b.fol.length+1) (rows++[.slice none 0 0]))
  (hfs:Fresh vs' vs w.heap.size) (hff:Fresh vf' vf w.heap.size) (hne:∀g,vs'.ownBlock=some g->vf'.ownBlock≠some g) (hk:KeepF (s::(blk vs++blk vf)) [] w w') (hrg:RgIn w0 rv rs/\rngF rs=true) :
  BuS w0 s x2 x3 x4 ⟨b.sets++[rs],b.fol++[[]]⟩ vs' vf' (rows++[.slice none 0 0]) (sv++[rv]) w'/\KeepF (fpS s vs vf rows) (fpS s vs' vf' (rows++[.slice none 0 0])) w w':=by
 have hlt:=h.lt;have hnd:=h.nd;rw[List.nodup_cons,List.nodup_append]at hnd;obtain ⟨n1,n2,n3,n4⟩:=hnd;rw[List.nodup_append]at n3;obtain ⟨n5,n6,n7⟩:=n3;have hrl:rows.length=b.fol.length:=by have:=h.fol.1;omega
 have hsl:sv.length=b.sets.length:=by have:=h.sets.1;omega
 have hnil:blk (Value.slice none 0 0)=[]:=rfl;have hflat:(rows++[Value.slice none 0 0]).flatMap blk=rows.flatMap blk:=by simp[List.flatMap_append,hnil]
 have hS:∀g∈blk vs',g∈blk vs\/w.heap.size<=g:=λg hg=>hfs.elim (λe=>.inl (by unfold blk at hg|-;rw[<-e];exact hg)) λ⟨g',e,h2⟩=>.inr (by unfold blk at hg;rw[e]at hg;simp at hg;omega)
 have hF:∀g∈blk vf',g∈blk vf\/w.heap.size<=g:=λg hg=>hff.elim (λe=>.inl (by unfold blk at hg|-;rw[<-e];exact hg)) λ⟨g',e,h2⟩=>.inr (by unfold blk at hg;rw[e]at hg;simp at hg;omega)
 have lS:∀g∈blk vs,g<w.heap.size:=λg hg=>(hlt g (by unfold fpS;simp[hg])).2
 have lF:∀g∈blk vf,g<w.heap.size:=λg hg=>(hlt g (by unfold fpS;simp[hg])).2
 have lR:∀g∈rows.flatMap blk,g<w.heap.size:=λg hg=>(hlt g (by unfold fpS;simp only[List.mem_cons,List.mem_append];exact .inr (.inr (.inr hg)))).2
 have ls:s<w.heap.size:=(hlt s (by simp[fpS])).2
 have hkn:KeepF (fpS s vs vf rows) (fpS s vs' vf' (rows++[.slice none 0 0])) w w':=by
  refine ⟨hk.os,hk.tape,hk.output,hk.size,λk h1 h2=>hk.blk k h1 λhm=>h2 ?_,λk hm=>?_⟩
  .unfold fpS;simp only[List.mem_cons,List.mem_append]at hm|-;rcases hm with hm | hm | hm
   .exact .inl hm
   .exact .inr (.inl hm)
   .exact .inr (.inr (.inl hm))
  .unfold fpS at hm|-;rw[hflat]at hm;simp only[List.mem_cons,List.mem_append]at hm|-;rcases hm with hm | hm | hm | hm
   .exact .inl (.inl hm)
   .exact (hS k hm).imp (λh=>.inr (.inl h)) id
   .exact (hF k hm).imp (λh=>.inr (.inr (.inl h))) id
   .exact .inl (.inr (.inr (.inr hm)))
 refine ⟨⟨?_,h.hs,hcs,by simpa using hos,λi hi=>?_,by simpa using hof,λi hi=>?_,h.bel.trans (hkn.below (λk hk=>(hlt k hk).1) h.bel.size)⟩,hkn⟩
 .rw[hflat,List.nodup_cons,List.nodup_append,List.nodup_append];refine ⟨λhm=>?_,?_,⟨?_,n6,λx hx y hy=>?_⟩,λx hx y hy=>?_⟩
  .rcases List.mem_append.1 hm with hm | hm
   .rcases hS s hm with h1 | h1
    .exact n1 (List.mem_append_left _ h1)
    .omega
   .rcases List.mem_append.1 hm with hm | hm
    .rcases hF s hm with h1 | h1
     .exact n1 (List.mem_append_right _ (List.mem_append_left _ h1))
     .omega
    .exact n1 (List.mem_append_right _ (List.mem_append_right _ hm))
  .unfold blk; cases vs'.ownBlock <;> simp
  .unfold blk; cases vf'.ownBlock <;> simp
  .rcases hF x hx with h1 | h1
   .exact n7 x h1 y hy
   .have:=lR y hy;omega
  .rcases List.mem_append.1 hy with hy | hy
   .exact λe=>hne x (mem_blk.1 hx) (by rw[e];exact mem_blk.1 hy)
   .rcases hS x hx with h1 | h1
    .exact n4 x h1 y (List.mem_append_right _ hy)
    .have:=lR y hy;omega
 .by_cases hib:i<b.sets.length
  .obtain ⟨v,v1,v2⟩:=h.setv i hib;refine ⟨v,by rw[List.getElem?_append_left (by omega)];exact v1,?_⟩
   simp only[List.getElem_append_left hib];exact v2
  .simp only[List.length_append,List.length_cons,List.length_nil]at hi;have hie:i=b.sets.length:=by omega
   subst hie;refine ⟨rv,by rw[List.getElem?_append_right (by omega),hsl];simp,?_⟩
   simp only[List.getElem_append_right (Nat.le_refl _),Nat.sub_self,List.getElem_cons_zero];exact hrg
 .by_cases hib:i<b.fol.length
  .obtain ⟨v,v1,v2⟩:=h.folv i hib;refine ⟨v,by rw[List.getElem?_append_left (by omega)];exact v1,?_⟩
   simp only[List.getElem_append_left hib];refine own_same v2 λg hg=>hk.blk g (v2.lt g hg).2 λhm=>?_;have hgr:g∈rows.flatMap blk:=List.mem_flatMap.2 ⟨v,List.mem_of_getElem? v1,mem_blk.2 hg⟩;rcases List.mem_cons.1 hm with e | hm
   .exact n1 (List.mem_append_right _ (List.mem_append_right _ (by rw[<-e];exact hgr)))
   .rcases List.mem_append.1 hm with hm | hm
    .exact n4 g hm g (List.mem_append_right _ hgr) rfl
    .exact n7 g hm g hgr rfl
  .simp only[List.length_append,List.length_cons,List.length_nil]at hi;have hie:i=b.fol.length:=by omega
   subst hie;refine ⟨.slice none 0 0,by rw[List.getElem?_append_right (by omega),hrl];simp,?_⟩
   simp only[List.getElem_append_right (Nat.le_refl _),Nat.sub_self,List.getElem_cons_zero];exact World.ownsRow_nil _ _ _ _
def KfR (rb:Nat) (w w':World):Prop:=KeepF [rb] [rb] w w'
theorem calls_nm {P:Program} {f:FuncId} {args:Array Value} {Q:Ending->World->Prop} {w:World} (h:∀W,W=w->Calls P f args W Q):Calls P f args w Q:=h w rfl
def PaW (pb:Nat) (t:ByteArray) (k:Int) (bad:Bool) (w:World):Prop:=w.heap[pb]?=some (.cells #[.string t, .int .i64 k, .bool bad] 143 (0,0))
section
variable {pb:Nat} {t:ByteArray} {k:Int} {bad:Bool} {w w':World}
end
end Go.Proofs.YtdmoogjddmdmbaaGreatDoor
