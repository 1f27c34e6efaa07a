/- The memory of a compile that is read alone: sets, followers, edges. · Walks: machine.joined. · Machines in memory; a clone of a row of bools. · A machine that is being made: its box, its rows of edges and of bools. · Classes: what a round counts. Maps of texts with their number; rows of ints made of zeros. · Rows of classes in memory; what machine.classes answers. · The least machine: where a class stands; the map of numbers; the state of the walk. · The least machine: the rounds of a row, and a whole row. · Walks: machine.alive. · Walks: machine.next, and the library's binary search through edges. · Plain: rows that law06.own builds; Least of Least. No program in sight. -/
import Derived.Test.YtdmoogjddmdmbaaGreatDoorY14
import Derived.Test.YtdmoogjddmdmbaaGreatDoorY15
import Derived.Test.YtdmoogjddmdmbaaGreatDoorY04
import Derived.Test.YtdmoogjddmdmbaaGreatDoorY12
import Derived.Test.YtdmoogjddmdmbaaGreatDoorY05
import Derived.Test.YtdmoogjddmdmbaaGreatDoorY07
import Derived.Test.YtdmoogjddmdmbaaGreatDoorY13
import Derived.Test.YtdmoogjddmdmbaaGreatDoorY02
import Derived.Laws.MakeOwn
import Derived.Shelf.Slices.Turned
import Derived.Deep.LoopGhost
namespace Go.Proofs.YtdmoogjddmdmbaaGreatDoor
set_option linter.unusedVariables false
set_option linter.unusedSimpArgs false
set_option maxRecDepth 100000
open Go.RowKit
def SL (w:World) (v:Value) (l:List Nat):Prop:=∃A c,v = .slice A l.length c/\(l.length<=c/\c<=9223372036854775807)/\(l=[]\/∃g f,A=some ⟨g,f,none⟩/\g<w.heap.size/\∀i (h:i<l.length),w.cell? ⟨g,f+i,none⟩=some (.int .i64 (l[i]:Int)))
theorem SL.of_own {w:World} {B:Nat} {v:Value} {l:List Nat} {n:Nat} (h:w.ownsRow B 3 1 v n (ints l)):SL w v l:=by
 have hl:l.length=n:=by have:=h.1;rw[ints_len,Nat.mul_one]at this;exact this
 rcases h.2 with ⟨h1,h2⟩ | ⟨g,cap,cur,h1,-,hg,hle,hm,hcs,ht⟩
 .subst h1;exact ⟨none,0,by rw[hl,h2],⟨by omega,by decide⟩, .inl (List.length_eq_zero_iff.1 (by omega))⟩
 .subst h1;refine ⟨_,cap,by rw[hl],⟨by omega,by unfold maxLen at hm;omega⟩, .inr ⟨g,0,rfl,(Array.getElem?_eq_some_iff.1 hg).1,λi hi=>?_⟩⟩
  have:=h.cellAt i (by rw[<-hl,Nat.mul_one];exact hi)
  rw[Nat.zero_add,this];simp[ints,hi]
theorem SL.keep {fp fp':List Nat} {w w':World} {v:Value} {l:List Nat} (h:SL w v l) (ho:outOf fp v) (hk:KeepF fp fp' w w'):SL w' v l:=by
 obtain ⟨A,c,rfl,hc,h⟩:=h;refine ⟨A,c,rfl,hc,h.imp id ?_⟩;rintro ⟨g,f,rfl,hg,hcell⟩;refine ⟨g,f,rfl,Nat.lt_of_lt_of_le hg hk.size,λi hi=>?_⟩;rw[<-hcell i hi];exact World.cell?_of_block (a:=⟨g,f+i,none⟩) (hk.blk g hg (ho g rfl))
theorem SL.form {w:World} {v:Value} {l:List Nat} (h:SL w v l):∃A c,v = .slice A l.length c/\(l.length<=c/\c<=9223372036854775807):=by
 obtain ⟨A,c,e,hc,-⟩:=h;exact ⟨A,c,e,hc⟩
def SetC (w0:World) (fp:List Nat) (w:World) (v:Value) (sets:List (List (Nat×Nat))):Prop:=∃A c,v = .slice A sets.length c/\(sets.length<=c/\c<=9223372036854775807)/\(sets=[]\/∃g,A=some ⟨g,0,none⟩/\g<w.heap.size/\g∉fp/\∀i (h:i<sets.length),∃rv,w.cell? ⟨g,i,none⟩=some rv/\RgIn w0 rv sets[i])
theorem SetC.keep {w0:World} {fp fp':List Nat} {w w':World} {v:Value} {sets:List (List (Nat×Nat))} (h:SetC w0 fp w v sets) (hk:KeepF fp fp' w w'):SetC w0 fp' w' v sets:=by
 obtain ⟨A,c,e,hc,h⟩:=h;refine ⟨A,c,e,hc,h.imp id ?_⟩;rintro ⟨g,rfl,hg,hn,hcell⟩;refine ⟨g,rfl,Nat.lt_of_lt_of_le hg hk.size,λhm=>(hk.new g hm).elim hn (λh=>by omega),λi hi=>?_⟩
 obtain ⟨rv,h1,h2⟩:=hcell i hi;exact ⟨rv,(World.cell?_of_block (a:=⟨g,i,none⟩) (hk.blk g hg hn)).trans h1,h2⟩
theorem SetC.later {w0:World} {fp:List Nat} {w w':World} {v:Value} {sets:List (List (Nat×Nat))} (h:SetC w0 fp w v sets) (hb:Below w.heap.size w w'):SetC w0 fp w' v sets:=h.keep (KeepF.of_below hb)
theorem SetC.at_ {w0:World} {fp:List Nat} {w:World} {A:Option Addr} {n c:Nat} {sets:List (List (Nat×Nat))} (h:SetC w0 fp w (.slice A n c) sets) {p:Nat} (hp:p<sets.length):∃g rv,A=some ⟨g,0,none⟩/\n=sets.length/\g<w.heap.size/\w.cell? ⟨g,p,none⟩=some rv/\RgIn w0 rv sets[p]:=by
 obtain ⟨A',c',e,hc,h⟩:=h;injection e with e1 e2 e3;rcases h with rfl | ⟨g,h1,hg,hn,hcell⟩
 .cases hp
 .obtain ⟨rv,h2,h3⟩:=hcell p hp;exact ⟨g,rv,e1.trans h1,e2,hg,h2,h3⟩
theorem SetC.lt {w0:World} {fp:List Nat} {w:World} {v:Value} {sets:List (List (Nat×Nat))} (h:SetC w0 fp w v sets):∀rs∈sets,∀r∈rs,r.1<256/\r.2<256:=by
 obtain ⟨A,c,e,hc,h⟩:=h;intro rs hrs r hr;rcases h with rfl | ⟨g,h1,hg,hn,hcell⟩
 .cases hrs
 .obtain ⟨i,hi,rfl⟩:=List.getElem_of_mem hrs;obtain ⟨rv,-,A',c',-,-,h3⟩:=hcell i hi;rcases h3 with h3 | ⟨_,_,_,_,h3⟩
  .rw[h3]at hr;cases hr
  .obtain ⟨j,hj,rfl⟩:=List.getElem_of_mem hr;exact (h3 j hj).2
def edC (e:Ed):List Value:=[.int .u8 (e.lo:Int), .int .u8 (e.hi:Int), .int .i64 (e.to:Int)]
theorem edC_E:EncS edC 3:=⟨by decide,λ_=>rfl,λx u hu=>by simp[edC]at hu; rcases hu with rfl | rfl | rfl <;> rfl⟩
def EdIn (w:World) (v:Value) (l:List Ed):Prop:=∃A c,v = .slice A l.length c/\(l.length<=c/\c<=9223372036854775807)/\(l=[]\/∃g f,A=some ⟨g,f,none⟩/\g<w.heap.size/\∀i (h:i<l.length),w.cell? ⟨g,f+i*3,none⟩=some (.int .u8 (l[i].lo:Int))/\w.cell? ⟨g,f+i*3+1,none⟩=some (.int .u8 (l[i].hi:Int))/\w.cell? ⟨g,f+i*3+2,none⟩=some (.int .i64 (l[i].to:Int)))
theorem EdIn.of_OR {w:World} {B:Nat} {v:Value} {l:List Ed} (h:OR 195 3 edC B v l w):EdIn w v l:=by
 have h':=h;rcases h'.2 with ⟨h1,h2⟩ | ⟨g,cap,cur,h1,-,hg,hle,hm,hcs,ht⟩
 .exact ⟨none,0,by rw[h1,h2],⟨by omega,by decide⟩, .inl (List.length_eq_zero_iff.1 h2)⟩
 .subst h1;refine ⟨_,cap,rfl,⟨hle,by unfold maxLen at hm;omega⟩, .inr ⟨g,0,rfl,(Array.getElem?_eq_some_iff.1 hg).1,λi hi=>?_⟩⟩
  obtain ⟨A,c,e,-,hor⟩:=h.cells edC_E;injection e with e1 e2 e3;rcases hor with hor | ⟨g',hA,-,-,hcell⟩
  .rw[hor]at hi;cases hi
  .rw[hA]at e1;injection e1 with e1;injection e1 with e1;subst e1;rw[Nat.zero_add];exact ⟨(hcell i hi 0 (by decide)).1,(hcell i hi 1 (by decide)).1,(hcell i hi 2 (by decide)).1⟩
theorem EdIn.keep {fp fp':List Nat} {w w':World} {v:Value} {l:List Ed} (h:EdIn w v l) (ho:outOf fp v) (hk:KeepF fp fp' w w'):EdIn w' v l:=by
 obtain ⟨A,c,rfl,hc,h⟩:=h;refine ⟨A,c,rfl,hc,h.imp id ?_⟩;rintro ⟨g,f,rfl,hg,hcell⟩;refine ⟨g,f,rfl,Nat.lt_of_lt_of_le hg hk.size,λi hi=>?_⟩;have hb:=hk.blk g hg (ho g rfl);obtain ⟨h1,h2,h3⟩:=hcell i hi;exact ⟨(World.cell?_of_block (a:=⟨g,f+i*3,none⟩) hb).trans h1,(World.cell?_of_block (a:=⟨g,f+i*3+1,none⟩) hb).trans h2,(World.cell?_of_block (a:=⟨g,f+i*3+2,none⟩) hb).trans h3⟩
theorem EdIn.later {w w':World} {v:Value} {l:List Ed} (h:EdIn w v l) (hb:Below w.heap.size w w'):EdIn w' v l:=h.keep (fp:=[]) (fp':=[]) (outOf_nil v) (KeepF.of_below hb)
theorem outOf_keep {fp fp':List Nat} {w w':World} {v:Value} (ho:outOf fp v) (hlt:∀g,v.ownBlock=some g->g<w.heap.size) (hk:KeepF fp fp' w w'):outOf fp' v:=λg hg hm=>(hk.new g hm).elim (ho g hg) λh=>by have:=hlt g hg;omega
theorem EdIn.form {w:World} {v:Value} {l:List Ed} (h:EdIn w v l):∃A c,v = .slice A l.length c/\(l.length<=c/\c<=9223372036854775807):=by
 obtain ⟨A,c,e,hc,-⟩:=h;exact ⟨A,c,e,hc⟩
def clV:Option Nat->Int
 | none=>-1
 | some k=>(k:Int)
def clF (cs:List (Option Nat)) (s:Nat):Option Nat:=(cs[s]?).getD none
def ClIn (w:World) (v:Value) (cs:List (Option Nat)):Prop:=∃A c,v = .slice A cs.length c/\(cs.length<=c/\c<=9223372036854775807)/\(cs=[]\/∃g f,A=some ⟨g,f,none⟩/\g<w.heap.size/\∀i (h:i<cs.length),w.cell? ⟨g,f+i,none⟩=some (.int .i64 (clV cs[i])))
theorem ClIn.later {w w':World} {v:Value} {cs:List (Option Nat)} (h:ClIn w v cs) (hb:Below w.heap.size w w'):ClIn w' v cs:=by
 obtain ⟨A,c,e,hc,h⟩:=h;refine ⟨A,c,e,hc,h.imp id ?_⟩;rintro ⟨g,f,h1,hg,h2⟩;exact ⟨g,f,h1,Nat.lt_of_lt_of_le hg hb.size,λi hi=>(hb.cell (p:=⟨g,f+i,none⟩) hg).trans (h2 i hi)⟩
theorem ClIn.at_ {w:World} {A:Option Addr} {n c:Nat} {cs:List (Option Nat)} (h:ClIn w (.slice A n c) cs) {k:Nat} (hk:k<cs.length):∃g f,A=some ⟨g,f,none⟩/\n=cs.length/\g<w.heap.size/\w.cell? ⟨g,f+k,none⟩=some (.int .i64 (clV (clF cs k))):=by
 obtain ⟨A',c',e,hc,h⟩:=h;injection e with e1 e2 e3;rcases h with rfl | ⟨g,f,h1,hg,h2⟩
 .cases hk
 .refine ⟨g,f,e1.trans h1,e2,hg,?_⟩;rw[h2 k hk];unfold clF;rw[List.getElem?_eq_getElem hk]
  rfl
theorem EdIn.at_ {w:World} {A:Option Addr} {n c:Nat} {l:List Ed} (h:EdIn w (.slice A n c) l) {k:Nat} (hk:k<l.length):∃g f,A=some ⟨g,f,none⟩/\n=l.length/\g<w.heap.size/\(w.cell? ⟨g,f+k*3,none⟩=some (.int .u8 (l[k].lo:Int))/\w.cell? ⟨g,f+k*3+1,none⟩=some (.int .u8 (l[k].hi:Int))/\w.cell? ⟨g,f+k*3+2,none⟩=some (.int .i64 (l[k].to:Int))):=by
 obtain ⟨A',c',e,hc,h⟩:=h;injection e with e1 e2 e3;rcases h with rfl | ⟨g,f,h1,hg,h2⟩
 .cases hk
 .exact ⟨g,f,e1.trans h1,e2,hg,h2 k hk⟩
theorem OR.setLast {α:Type} {enc:α->List Value} {n:Nat} (E:EncS enc n) {e:TypeId} {B g c:Nat} {o:List α} {q x:α} {w:World} (h:OR e n enc B (.slice (some ⟨g,0,none⟩) (o.length+1) c) (o++[q]) w) (j:Nat) (u:Value) (hx:enc x=(enc q).set j u) :
  OR e n enc B (.slice (some ⟨g,0,none⟩) (o.length+1) c) (o++[x]) (w.setCell ⟨g,o.length*n+j,none⟩ u):=by
 have h0:w.ownsRow B e n (.slice (some ⟨g,0,none⟩) (o.length+1) c) (o.length+1) (rowF enc (o++[q])):=by
  have:=h;unfold OR at this;rwa [List.length_append]at this
 have h1:=(h0.stored (o.length*n+j) u).1;show World.ownsRow _ _ _ _ _ _ _;rw[List.length_append,rowF_app,rowF_single,hx];rw[rowF_app,rowF_single,List.set_append_right _ _ (by rw[rowF_len E];omega),rowF_len E]at h1
 rwa [show o.length*n+j-o.length*n=j by omega]at h1
structure JnI (cs:List (Option Nat)) (l:List Ed) (k:Nat) (done:List Ed) (p:Option Ed):Prop where
 go:done++goJ (clF cs) p (l.drop k)=joinF (clF cs) l
 nl:p=none->done=[]
 bd:done.length+p.toList.length<=k
 by_:∀e,p=some e->e.lo<256/\e.hi<256
theorem JnI.start (cs:List (Option Nat)) (l:List Ed):JnI cs l 0 [] none:=⟨rfl,λ_=>rfl,Nat.le_refl _,λe h=>by cases h⟩
section
variable {cs:List (Option Nat)} {l:List Ed} {k:Nat} {done:List Ed} {p:Option Ed} {e:Ed}
theorem drop_at {α:Type} {l:List α} {k:Nat} {e:α} (h:l[k]?=some e):l.drop k=e::l.drop (k+1):=by
 obtain ⟨h1,h2⟩:=List.getElem?_eq_some_iff.1 h;rw[List.drop_eq_getElem_cons h1,h2]
theorem JnI.skip (h:JnI cs l k done p) (he:l[k]?=some e) (hc:clF cs e.to=none):JnI cs l (k+1) done p:=by
 refine ⟨?_,h.nl,by have:=h.bd;omega,h.by_⟩
 have:=h.go;rw[drop_at he,goJ,hc]at this;exact this
theorem JnI.first (h:JnI cs l k done none) (he:l[k]?=some e) {t:Nat} (hc:clF cs e.to=some t) (hb:e.lo<256/\e.hi<256):JnI cs l (k+1) [] (some ⟨e.lo,e.hi,t⟩):=by
 refine ⟨?_,(λh=>by cases h),by simp,λx hx=>by injection hx with hx;subst hx;exact hb⟩
 have:=h.go;rw[h.nl rfl,drop_at he,goJ,hc]at this;exact this
theorem JnI.join {q:Ed} (h:JnI cs l k done (some q)) (he:l[k]?=some e) {t:Nat} (hc:clF cs e.to=some t) (hb:e.lo<256/\e.hi<256) (h1:q.to=t) (h2:q.hi+1=e.lo):JnI cs l (k+1) done (some ⟨q.lo,e.hi,q.to⟩):=by
 refine ⟨?_,(λh=>by cases h),by have:=h.bd;simp at this|-;omega,λx hx=>by injection hx with hx;subst hx;exact ⟨(h.by_ q rfl).1,hb.2⟩⟩
 have:=h.go;rw[drop_at he,goJ,hc]at this;simp only[h1,h2,and_self,if_true]at this|-;exact this
theorem JnI.part {q:Ed} (h:JnI cs l k done (some q)) (he:l[k]?=some e) {t:Nat} (hc:clF cs e.to=some t) (hb:e.lo<256/\e.hi<256) (h1:¬(q.to=t/\q.hi+1=e.lo)):JnI cs l (k+1) (done++[q]) (some ⟨e.lo,e.hi,t⟩):=by
 refine ⟨?_,(λh=>by cases h),by have:=h.bd;simp at this|-;omega,λx hx=>by injection hx with hx;subst hx;exact hb⟩
 have:=h.go;rw[drop_at he,goJ,hc]at this;simp only[h1,if_false]at this;rw[List.append_assoc];exact this
theorem JnI.done_ (h:JnI cs l l.length done p):done++p.toList=joinF (clF cs) l:=by
 have:=h.go;rw[List.drop_length]at this;exact this
end
theorem ex_named {Q:Exit->Act->World->Prop} {x:Exit} {a:Act} {w:World} (h:∀W,W=w->Q x a W):Q x a w:=h w rfl
theorem ed_cells (w:World) (lo hi t:Nat):∀j u,[Value.int .u8 (lo:Int), .int .u8 (hi:Int), .int .i64 (t:Int)][j]?=some u->(w.alloc (.cells #[.int .u8 (lo:Int), .int .u8 (hi:Int), .int .i64 (t:Int)] 195)).cell? ((⟨w.heap.size,0,none⟩:Addr).add j)=some u:=by
 intro j u hj;rw[Addr.add_lit,Nat.zero_add,World.cell?_alloc_mark];simpa using hj
set_option maxHeartbeats 8000000 in
theorem joined_any (ev cv:Value) (l:List Ed) (cs:List (Option Nat)) (w:World) (he:EdIn w ev l) (hc:ClIn w cv cs) (hto:∀e∈l,e.to<cs.length) (hby:∀e∈l,e.lo<256/\e.hi<256) (hl:l.length<=100000) :
  Calls Tryz.prog 171 #[ev,cv] w λe w'=>∃rv,e = .returned rv/\OR 195 3 edC w.heap.size rv (joinF (clF cs) l) w'/\Below w.heap.size w w':=by
 obtain ⟨Ae,ce,rfl,hce1,hce2⟩:=he.form;obtain ⟨Ac,cc,rfl,hcc,-⟩:=id hc;obtain ⟨nl,hnl⟩:∃n,l.length=n:=⟨_,rfl⟩;obtain ⟨nc,hnc⟩:∃n,cs.length=n:=⟨_,rfl⟩;rw[hnl]at he hce1 hl|-;rw[hnc]at hc hcc|-;have HE:=Lib.hid he;have HC:=Lib.hid hc;have HT:=Lib.hid hto;have HY:=Lib.hid hby;have HN:=Lib.hid (And.intro hnl hnc);obtain ⟨i3,hi3,hk0,hk1,hk2⟩:=info_parts info_ed;clear he hc hto hby hnl hnc
 go_enter Tryz.func171,Tryz.ntmps171
 go_wp2_with fail
 go_loopw [11,5] (λiv ov wr=>∃(k:Nat) (done:List Ed) (p:Option Ed),k<=nl/\iv = .int .i64 (k:Int)/\Hid (OR 195 3 edC w.heap.size ov (done++p.toList) wr)/\Hid (Below w.heap.size w wr)/\Hid (JnI cs l k done p)) (λiv _ _=>nl - (intOf iv).toNat)
 case atStart=>exact ⟨0,[],none,Nat.zero_le _,rfl,OR.nil_ _ _ _,Below.refl _ _,JnI.start cs l⟩
 case round=>
  obtain ⟨k,done,p,hk,rfl,HO,HB,HJ⟩:=hrel;by_cases hlt:k<nl
  .have hd:decide ((k:Int)<(nl:Int))=true:=decide_eq_true (by omega)
   have hkl:k<l.length:=by rw[HN.out.1];exact hlt
   obtain ⟨g,f,rfl,-,hg,c0,c1,c2⟩:=HE.out.at_ hkl;obtain ⟨e,hle⟩:∃e,l[k]=e:=⟨_,rfl⟩;rw[hle]at c0 c1 c2;have hek:l[k]?=some e:=by rw[List.getElem?_eq_getElem hkl,hle]
   have hem:e∈l:=List.mem_of_getElem? hek;have hblk:=HB.out.block g hg;have d0:=(World.cell?_of_block (a:=⟨g,f+k*3,none⟩) hblk).trans c0;have d1:=(World.cell?_of_block (a:=⟨g,f+k*3+1,none⟩) hblk).trans c1;have d2:=(World.cell?_of_block (a:=⟨g,f+k*3+2,none⟩) hblk).trans c2;have hwr:=HB.out.size;have hglr:g<wr.heap.size:=by omega
   have htl:=HT.out e hem;have hbye:=HY.out e hem;obtain ⟨g2,f2,rfl,-,hg2,cz⟩:=HC.out.at_ htl;have dz:=(World.cell?_of_block (a:=⟨g2,f2+e.to,none⟩) (HB.out.block g2 hg2)).trans cz;have hg2r:g2<wr.heap.size:=by omega
   have htn:e.to<nc:=by rw[<-HN.out.2];exact htl
   have hdt:decide (e.to<nc)=true:=decide_eq_true htn;obtain ⟨lo,hi,tq⟩:=e;simp only at d0 d1 d2 dz htl hbye htn hdt;have HEK:=Lib.hid hek;have HBY:=Lib.hid hbye;obtain ⟨Ao,no,co,rfl⟩:∃A n c,u5 = .slice A n c:=by
    obtain ⟨A,c,e,-⟩:=own_form HO.out;exact ⟨_,_,_,e⟩
   clear hle hek hem hblk c0 c1 c2 cz hkl htl hbye
   cases hcl:clF cs tq with
   | none=>
    rw[hcl]at dz;have dz':wr.cell? ⟨g2,f2+tq,none⟩=some (.int .i64 (-1)):=dz;have HCL:=Lib.hid hcl;clear dz hcl;go_wp2_with fail;go_roundw
    case rel=>exact ⟨k+1,done,p,by omega,by go_num,HO.out.later ((Below.refl _ _).alloc (Nat.le_refl _) _),HB.out.trans ((Below.refl _ wr).alloc hwr _),HJ.out.skip HEK.out HCL.out⟩
    case measure=>simp[intOf];omega
   | some t=>
    rw[hcl]at dz;have dz':wr.cell? ⟨g2,f2+tq,none⟩=some (.int .i64 (t:Int)):=dz;have HCL:=Lib.hid hcl;have hdt0:decide ((t:Int)<0)=false:=decide_eq_false (by omega)
    clear dz hcl;have hBA:Below w.heap.size wr (wr.alloc (.cells #[.int .u8 (lo:Int), .int .u8 (hi:Int), .int .i64 (t:Int)] 195)):=(Below.refl _ _).alloc hwr _;have HBA:=Lib.hid hBA;obtain ⟨no',hno'⟩:∃n,(done++p.toList).length=n:=⟨_,rfl⟩;have hno:no=no':=by
     obtain ⟨A',c',e',-⟩:=own_form HO.out;injection e' with _ e2 _;rw[e2,hno']
    subst hno;have hbd:=HJ.out.bd;have hnol:no<=k:=by rw[<-hno',List.length_append];exact hbd
    have hw1:IntKind.i64.wrap ((no:Int) - 1)=(no:Int) - 1:=IntWalk.i64_in _ (by omega)
    clear hBA hbd;go_wp2_with fail;refine wp_named λW hW=>?_;have hbW:Below w.heap.size w W:=HB.out.trans (by rw[hW];exact HBA.out)
    have hbW2:Below wr.heap.size wr W:=by rw[hW];exact (Below.refl _ _).alloc (Nat.le_refl _) _
    have hzW:W.heap.size=wr.heap.size+1:=by rw[hW];simp
    have hrW:W.heap[wr.heap.size]?=some (.cells #[.int .u8 (lo:Int), .int .u8 (hi:Int), .int .i64 (t:Int)] 195 (0,0)):=by rw[hW];exact heap_alloc_new wr _
    obtain ⟨b0,b1,b2⟩:=cells3 hrW;have hoW:OR 195 3 edC w.heap.size (.slice Ao no co) (done++p.toList) W:=HO.out.later hbW2;have hlW:wr.heap.size<W.heap.size:=by omega
    have HBW:=Lib.hid hbW;have HOW:=Lib.hid hoW;have HNO:=Lib.hid hno';clear hW hrW hbW hbW2 hoW hno' d0 d1 d2 dz'
    cases p with
    | none=>
     have hnil:=HJ.out.nl rfl;subst hnil;obtain rfl:no=0:=by have:=HNO.out;simpa using this.symm
     have hdn:decide ((0:Int)<=(0:Int) - 1)=false:=by decide
     go_quiet (fail)
     refine ex_named λW2 hW2=>?_;have hb2:Below W.heap.size W W2:=by rw[hW2];exact below_drewN (Below.refl _ _) _
     have q0:=(hb2.cell (p:=⟨wr.heap.size,0,none⟩) hlW).trans b0;have q1:=(hb2.cell (p:=⟨wr.heap.size,1,none⟩) hlW).trans b1;have q2:=(hb2.cell (p:=⟨wr.heap.size,2,none⟩) hlW).trans b2;have hl2:wr.heap.size<W2.heap.size:=by have:=hb2.size;omega
     have hwz:w.heap.size<=W2.heap.size:=by omega
     have hownA:(W2.alloc (.cells #[.int .u8 (lo:Int), .int .u8 (hi:Int), .int .i64 (t:Int)] 195)).ownsRow w.heap.size 195 3 (.slice Ao 0 co) 0 (rowF edC ([]:List Ed)):=(HOW.out.later hb2).alloc _;have hcx:=ed_cells W2 lo hi t;have hbz:w.heap.size<=(W2.alloc (.cells #[.int .u8 (lo:Int), .int .u8 (hi:Int), .int .i64 (t:Int)] 195)).heap.size:=by simp;omega
     have HB2:=Lib.hid (HBW.out.trans (hb2.mono HBW.out.size));have h0:0<=100000:=by omega
     clear hW2 hb2 b0 b1 b2;go_wp2_with (at_builtin; refine appI_at rfl _ _ 187 rfl w.heap.size 195 i3 _ 3 16 Tryz.underlying187 hi3 hk0 hk1 hk2 rfl (by decide) _ 0 (rowF edC ([]:List Ed)) rfl hownA ⟨W2.heap.size,0,none⟩ 1 1 [.int .u8 (lo:Int), .int .u8 (hi:Int), .int .i64 (t:Int)] rfl rfl hcx (by intro u hu; simp at hu; rcases hu with rfl | rfl | rfl <;> rfl) (by unfold maxLen; omega) (by omega) hbz ?_)
     intro v' w9 hown9 hg9 hf9;have hor9:OR 195 3 edC w.heap.size v' (([]:List Ed)++[⟨lo,hi,t⟩]) w9:=by
      show w9.ownsRow _ _ _ _ (([]:List Ed)++[_]).length (rowF edC (([]:List Ed)++[_]));rw[rowF_app,rowF_single,List.length_append];exact hown9
     obtain ⟨A9,n9,c9,rfl⟩:∃A n c,v' = .slice A n c:=by
      obtain ⟨A,c,e,-⟩:=own_form hown9;exact ⟨_,_,_,e⟩
     have hb9:Below w.heap.size w w9:=(HB2.out.alloc hwz _).grown hg9 hbz (λq hq=>(hownA.lt q hq).1);have HR9:=Lib.hid hor9;have HB9:=Lib.hid hb9;clear hown9 hg9 hf9 hor9 hb9 hownA hcx hbz;go_wp2_with fail;go_roundw
     case rel=>exact ⟨k+1,[],some ⟨lo,hi,t⟩,by omega,by go_num,HR9,HB9,HJ.out.first HEK.out HCL.out HBY.out⟩
     case measure=>simp[intOf];omega
    | some q=>
     have hcells:=HOW.out.cells edC_E;obtain ⟨A',c',e',hc',hor⟩:=hcells;have hne:¬(done++(some q).toList)=[]:=by simp
     obtain ⟨go,hgo,hgoB,hgol,hcc⟩:=hor.resolve_left hne;injection e' with e1 e2 e3;subst e3;rw[hgo]at e1;subst e1;obtain ⟨nd,hnd⟩:∃n,done.length=n:=⟨_,rfl⟩;have hno1:no=nd+1:=by rw[<-HNO.out,List.length_append,hnd];rfl
     have hq:=hcc nd (by rw[List.length_append,hnd];simp)
     have hqe:(done++(some q).toList)[nd]'(by rw[List.length_append,hnd];simp)=q:=by subst hnd;simp
     rw[hqe]at hq;obtain ⟨x2,-⟩:=hq 2 (by decide)
     obtain ⟨x1,fz1⟩:=hq 1 (by decide)
     obtain ⟨qlo,qhi,qto⟩:=q;have x2':W.cell? ⟨go,nd*3+2,none⟩=some (.int .i64 (qto:Int)):=x2;have x1':W.cell? ⟨go,nd*3+1,none⟩=some (.int .u8 (qhi:Int)):=x1;have hqb:=HJ.out.by_ _ rfl;have hlo6:lo<256:=HBY.out.1;simp only at hqb;have hdn:decide ((0:Int)<=(no:Int) - 1)=true:=decide_eq_true (by omega)
     have htn2:((no:Int) - 1).toNat=nd:=by omega
     have hdn2:decide (nd<no)=true:=decide_eq_true (by omega)
     have hw3:IntKind.i64.wrap ((qhi:Int)+1)=(qhi:Int)+1:=IntWalk.i64_in _ (by omega)
     have HND:=Lib.hid hnd;have hlen1:(done++(some (⟨qlo,qhi,qto⟩:Ed)).toList).length=no:=HNO.out;have hgolW:go<W.heap.size:=hgol;obtain ⟨OQ,hOQ⟩:∃O:List Ed,done++(some (⟨qlo,qhi,qto⟩:Ed)).toList=O:=⟨_,rfl⟩;have hOW2:=HOW.out;rw[hOQ]at hOW2 hlen1;have HOQ:=Lib.hid hOW2;have HOE:=Lib.hid hOQ;clear hOW2 hOQ;clear hcc hq hqe x1 x2 hor hne hnd e2 hgo hc';by_cases h1:qto=t
     .by_cases h2:qhi+1=lo
      .have d1:((qto:Int) == (t:Int))=true:=by simp;omega
       have d2:((qhi:Int)+1 == (lo:Int))=true:=by simp;omega
       have H12:=Lib.hid (And.intro h1 h2);clear h1 h2
       go_quiet (fail)
       refine ex_named λW2 hW2=>?_;have hb2:Below W.heap.size W W2:=by rw[hW2];exact below_drewN (Below.refl _ _) _
       have q1:=(hb2.cell (p:=⟨wr.heap.size,1,none⟩) hlW).trans b1;have y1:=(hb2.cell (p:=⟨go,nd*3+1,none⟩) hgolW).trans x1';have fy1:W2.frozen? ⟨go,nd*3+1,none⟩=false:=by rw[hW2];exact fz1
       have hl2:wr.heap.size<W2.heap.size:=by have:=hb2.size;omega
       have hl3:go<W2.heap.size:=by have:=hb2.size;omega
       have hR2:=HOW.out.later hb2;have hB2:=HBW.out.trans (hb2.mono HBW.out.size);have hns:no=done.length+1:=by rw[<-HNO.out,List.length_append];rfl
       have hor9:OR 195 3 edC w.heap.size (.slice (some ⟨go,0,none⟩) no co) (done++(some (⟨qlo,hi,qto⟩:Ed)).toList) (W2.setCell ⟨go,nd*3+1,none⟩ (.int .u8 (hi:Int))):=by
        rw[hns]at hR2|-;rw[<-HND.out];exact hR2.setLast edC_E (x:=⟨qlo,hi,qto⟩) 1 (.int .u8 (hi:Int)) rfl
       have HR9:=Lib.hid hor9;have HB9:=Lib.hid (hB2.setCell (p:=⟨go,nd*3+1,none⟩) hgoB (.int .u8 (hi:Int)));clear hW2 hb2 b0 b1 b2 x1' x2' fz1 hR2 hB2 hns hor9;go_wp2_with fail;go_roundw
       case rel=>exact ⟨k+1,done,some ⟨qlo,hi,qto⟩,by omega,by go_num,HR9,HB9,HJ.out.join HEK.out HCL.out HBY.out H12.out.1 H12.out.2⟩
       case measure=>simp[intOf];omega
      .have d1:((qto:Int) == (t:Int))=true:=by simp;omega
       have d2:((qhi:Int)+1 == (lo:Int))=false:=by simp;omega
       have H12:=Lib.hid (show ¬(qto=t/\qhi+1=lo) from λh=>h2 h.2);clear h1 h2
       go_quiet (fail)
       refine ex_named λW2 hW2=>?_;have hb2:Below W.heap.size W W2:=by rw[hW2];exact below_drewN (Below.refl _ _) _
       have q0:=(hb2.cell (p:=⟨wr.heap.size,0,none⟩) hlW).trans b0;have q1:=(hb2.cell (p:=⟨wr.heap.size,1,none⟩) hlW).trans b1;have q2:=(hb2.cell (p:=⟨wr.heap.size,2,none⟩) hlW).trans b2;have hl2:wr.heap.size<W2.heap.size:=by have:=hb2.size;omega
       have hwz:w.heap.size<=W2.heap.size:=by omega
       have hownA:(W2.alloc (.cells #[.int .u8 (lo:Int), .int .u8 (hi:Int), .int .i64 (t:Int)] 195)).ownsRow w.heap.size 195 3 (.slice (some ⟨go,0,none⟩) no co) OQ.length (rowF edC OQ):=(HOQ.out.later hb2).alloc _;have hcx:=ed_cells W2 lo hi t;have hbz:w.heap.size<=(W2.alloc (.cells #[.int .u8 (lo:Int), .int .u8 (hi:Int), .int .i64 (t:Int)] 195)).heap.size:=by simp;omega
       have HB2:=Lib.hid (HBW.out.trans (hb2.mono HBW.out.size));have hL1:OQ.length<=100000:=by omega
       clear hW2 hb2 b0 b1 b2;go_wp2_with (at_builtin; refine appI_at rfl _ _ 187 rfl w.heap.size 195 i3 _ 3 16 Tryz.underlying187 hi3 hk0 hk1 hk2 rfl (by decide) _ OQ.length (rowF edC OQ) rfl hownA ⟨W2.heap.size,0,none⟩ 1 1 [.int .u8 (lo:Int), .int .u8 (hi:Int), .int .i64 (t:Int)] rfl rfl hcx (by intro u hu; simp at hu; rcases hu with rfl | rfl | rfl <;> rfl) (by unfold maxLen; omega) (by omega) hbz ?_)
       intro v' w9 hown9 hg9 hf9;have hor9:OR 195 3 edC w.heap.size v' (OQ++[⟨lo,hi,t⟩]) w9:=by
        show w9.ownsRow _ _ _ _ (OQ++[_]).length (rowF edC (OQ++[_]));rw[rowF_app,rowF_single,List.length_append,hlen1,hno1];exact hown9
       obtain ⟨A9,n9,c9,rfl⟩:∃A n c,v' = .slice A n c:=by
        obtain ⟨A,c,e,-⟩:=own_form hown9;exact ⟨_,_,_,e⟩
       have hb9:Below w.heap.size w w9:=(HB2.out.alloc hwz _).grown hg9 hbz (λq hq=>(hownA.lt q hq).1);have HR9:=Lib.hid hor9;have HB9:=Lib.hid hb9;clear hown9 hg9 hf9 hor9 hb9 hownA hcx hbz;go_wp2_with fail;go_roundw
       case rel=>exact ⟨k+1,done++[(⟨qlo,qhi,qto⟩:Ed)],some ⟨lo,hi,t⟩,by omega,by go_num,(by have:=HR9.out;rw[<-HOE.out]at this;exact this),HB9,(show JnI cs l (k+1) (done++[(⟨qlo,qhi,qto⟩:Ed)]) (some ⟨lo,hi,t⟩) from HJ.out.part HEK.out HCL.out HBY.out H12.out)⟩
       case measure=>simp[intOf];omega
     .have d1:((qto:Int) == (t:Int))=false:=by simp;omega
      have H12:=Lib.hid (show ¬(qto=t/\qhi+1=lo) from λh=>h1 h.1);clear h1
      go_quiet (fail)
      refine ex_named λW2 hW2=>?_;have hb2:Below W.heap.size W W2:=by rw[hW2];exact below_drewN (Below.refl _ _) _
      have q0:=(hb2.cell (p:=⟨wr.heap.size,0,none⟩) hlW).trans b0;have q1:=(hb2.cell (p:=⟨wr.heap.size,1,none⟩) hlW).trans b1;have q2:=(hb2.cell (p:=⟨wr.heap.size,2,none⟩) hlW).trans b2;have hl2:wr.heap.size<W2.heap.size:=by have:=hb2.size;omega
      have hwz:w.heap.size<=W2.heap.size:=by omega
      have hownA:(W2.alloc (.cells #[.int .u8 (lo:Int), .int .u8 (hi:Int), .int .i64 (t:Int)] 195)).ownsRow w.heap.size 195 3 (.slice (some ⟨go,0,none⟩) no co) OQ.length (rowF edC OQ):=(HOQ.out.later hb2).alloc _;have hcx:=ed_cells W2 lo hi t;have hbz:w.heap.size<=(W2.alloc (.cells #[.int .u8 (lo:Int), .int .u8 (hi:Int), .int .i64 (t:Int)] 195)).heap.size:=by simp;omega
      have HB2:=Lib.hid (HBW.out.trans (hb2.mono HBW.out.size));have hL1:OQ.length<=100000:=by omega
      clear hW2 hb2 b0 b1 b2;go_wp2_with (at_builtin; refine appI_at rfl _ _ 187 rfl w.heap.size 195 i3 _ 3 16 Tryz.underlying187 hi3 hk0 hk1 hk2 rfl (by decide) _ OQ.length (rowF edC OQ) rfl hownA ⟨W2.heap.size,0,none⟩ 1 1 [.int .u8 (lo:Int), .int .u8 (hi:Int), .int .i64 (t:Int)] rfl rfl hcx (by intro u hu; simp at hu; rcases hu with rfl | rfl | rfl <;> rfl) (by unfold maxLen; omega) (by omega) hbz ?_)
      intro v' w9 hown9 hg9 hf9;have hor9:OR 195 3 edC w.heap.size v' (OQ++[⟨lo,hi,t⟩]) w9:=by
       show w9.ownsRow _ _ _ _ (OQ++[_]).length (rowF edC (OQ++[_]));rw[rowF_app,rowF_single,List.length_append,hlen1,hno1];exact hown9
      obtain ⟨A9,n9,c9,rfl⟩:∃A n c,v' = .slice A n c:=by
       obtain ⟨A,c,e,-⟩:=own_form hown9;exact ⟨_,_,_,e⟩
      have hb9:Below w.heap.size w w9:=(HB2.out.alloc hwz _).grown hg9 hbz (λq hq=>(hownA.lt q hq).1);have HR9:=Lib.hid hor9;have HB9:=Lib.hid hb9;clear hown9 hg9 hf9 hor9 hb9 hownA hcx hbz;go_wp2_with fail;go_roundw
      case rel=>exact ⟨k+1,done++[(⟨qlo,qhi,qto⟩:Ed)],some ⟨lo,hi,t⟩,by omega,by go_num,(by have:=HR9.out;rw[<-HOE.out]at this;exact this),HB9,(show JnI cs l (k+1) (done++[(⟨qlo,qhi,qto⟩:Ed)]) (some ⟨lo,hi,t⟩) from HJ.out.part HEK.out HCL.out HBY.out H12.out)⟩
      case measure=>simp[intOf];omega
  .obtain rfl:k=nl:=by omega
   have hd:decide ((k:Int)<(k:Int))=false:=decide_eq_false (by omega)
   obtain ⟨Ao,no,co,rfl⟩:∃A n c,u5 = .slice A n c:=by
    obtain ⟨A,c,e,-⟩:=own_form HO.out;exact ⟨_,_,_,e⟩
   go_wp2_with fail;refine post_named λWf hWf=>?_;subst hWf;refine bodyPost_ret (v:=.slice Ao no co) (by simp[results,Tryz.results171,go_sem];try rfl) rfl ?_
   have hj:=HJ.out;rw[<-HN.out.1]at hj;exact ⟨_,rfl,by rw[<-hj.done_];exact HO.out,HB.out⟩
def bC (b:Bool):List Value:=[.bool b]
theorem bC_E:EncS bC 1:=⟨by decide,λ_=>rfl,λx u hu=>by simp[bC]at hu;subst hu;rfl⟩
theorem info_bool:(Tryz.prog.info? 4).map (λi=>(i.zero,i.size,i.bytes))=some (some (.bool false),1,1):=by kernel_rfl
def BlIn (w:World) (v:Value) (l:List Bool):Prop:=∃A c,v = .slice A l.length c/\(l.length<=c/\c<=9223372036854775807)/\(l=[]\/∃g f,A=some ⟨g,f,none⟩/\g<w.heap.size/\∀i (h:i<l.length),w.cell? ⟨g,f+i,none⟩=some (.bool l[i]))
theorem BlIn.keep {fp fp':List Nat} {w w':World} {v:Value} {l:List Bool} (h:BlIn w v l) (ho:outOf fp v) (hk:KeepF fp fp' w w'):BlIn w' v l:=by
 obtain ⟨A,c,rfl,hc,h⟩:=h;refine ⟨A,c,rfl,hc,h.imp id ?_⟩;rintro ⟨g,f,rfl,hg,hcell⟩;exact ⟨g,f,rfl,Nat.lt_of_lt_of_le hg hk.size,λi hi=>(World.cell?_of_block (a:=⟨g,f+i,none⟩) (hk.blk g hg (ho g rfl))).trans (hcell i hi)⟩
theorem BlIn.later {w w':World} {v:Value} {l:List Bool} (h:BlIn w v l) (hb:Below w.heap.size w w'):BlIn w' v l:=h.keep (fp:=[]) (fp':=[]) (outOf_nil v) (KeepF.of_below hb)
theorem BlIn.of_OR {w:World} {B:Nat} {v:Value} {l:List Bool} (h:OR 4 1 bC B v l w):BlIn w v l:=by
 obtain ⟨A,c,e,hc,hor⟩:=h.cells bC_E;have hcm:c<=9223372036854775807:=by
  obtain ⟨A',c',e',-,h'⟩:=own_form (show w.ownsRow _ _ _ _ _ _ from h);rw[e]at e';injection e' with _ _ e3;rw[e3];exact h'
 refine ⟨A,c,e,⟨hc,hcm⟩,hor.imp id ?_⟩;rintro ⟨g,h1,-,hg,hcell⟩;refine ⟨g,0,h1,hg,λi hi=>?_⟩;have:=(hcell i hi 0 (by decide)).1
 rw[Nat.mul_one,Nat.add_zero]at this;rw[Nat.zero_add,this];rfl
def EsIn (w:World) (v:Value) (l:List (List Ed)):Prop:=∃A c,v = .slice A l.length c/\(l.length<=c/\c<=9223372036854775807)/\(l=[]\/∃g f,A=some ⟨g,f,none⟩/\g<w.heap.size/\∀i (h:i<l.length),∃rv,w.cell? ⟨g,f+i,none⟩=some rv/\EdIn w rv l[i])
theorem EsIn.later {w w':World} {v:Value} {l:List (List Ed)} (h:EsIn w v l) (hb:Below w.heap.size w w'):EsIn w' v l:=by
 obtain ⟨A,c,e,hc,h⟩:=h;refine ⟨A,c,e,hc,h.imp id ?_⟩;rintro ⟨g,f,h1,hg,hcell⟩;refine ⟨g,f,h1,Nat.lt_of_lt_of_le hg hb.size,λi hi=>?_⟩;obtain ⟨rv,h2,h3⟩:=hcell i hi;exact ⟨rv,(hb.cell (p:=⟨g,f+i,none⟩) hg).trans h2,h3.later hb⟩
theorem EsIn.form {w:World} {v:Value} {l:List (List Ed)} (h:EsIn w v l):∃A c,v = .slice A l.length c/\(l.length<=c/\c<=9223372036854775807):=by
 obtain ⟨A,c,e,hc,-⟩:=h;exact ⟨A,c,e,hc⟩
theorem BlIn.form {w:World} {v:Value} {l:List Bool} (h:BlIn w v l):∃A c,v = .slice A l.length c/\(l.length<=c/\c<=9223372036854775807):=by
 obtain ⟨A,c,e,hc,-⟩:=h;exact ⟨A,c,e,hc⟩
theorem EsIn.at_ {w:World} {A:Option Addr} {n c:Nat} {l:List (List Ed)} (h:EsIn w (.slice A n c) l) {k:Nat} (hk:k<l.length):∃g f rv,A=some ⟨g,f,none⟩/\n=l.length/\g<w.heap.size/\w.cell? ⟨g,f+k,none⟩=some rv/\EdIn w rv l[k]:=by
 obtain ⟨A',c',e,hc,h⟩:=h;injection e with e1 e2 e3;rcases h with rfl | ⟨g,f,h1,hg,h2⟩
 .cases hk
 .obtain ⟨rv,h3,h4⟩:=h2 k hk;exact ⟨g,f,rv,e1.trans h1,e2,hg,h3,h4⟩
theorem BlIn.at_ {w:World} {A:Option Addr} {n c:Nat} {l:List Bool} (h:BlIn w (.slice A n c) l) {k:Nat} (hk:k<l.length):∃g f,A=some ⟨g,f,none⟩/\n=l.length/\g<w.heap.size/\w.cell? ⟨g,f+k,none⟩=some (.bool l[k]):=by
 obtain ⟨A',c',e,hc,h⟩:=h;injection e with e1 e2 e3;rcases h with rfl | ⟨g,f,h1,hg,h2⟩
 .cases hk
 .exact ⟨g,f,e1.trans h1,e2,hg,h2 k hk⟩
def McIn (w:World) (v:Value) (m:Mc):Prop:=∃ve va,v = .agg #[ve,va]/\EsIn w ve m.ed/\BlIn w va m.ac
theorem McIn.later {w w':World} {v:Value} {m:Mc} (h:McIn w v m) (hb:Below w.heap.size w w'):McIn w' v m:=by
 obtain ⟨ve,va,e,h1,h2⟩:=h;exact ⟨ve,va,e,h1.later hb,h2.later hb⟩
structure McSm (m:Mc):Prop where
 by_:∀r∈m.ed,∀e∈r,e.lo<256/\e.hi<256
 rl:∀r∈m.ed,r.length<=10000
 n:m.ed.length<=100000
theorem clone_bool (v:Value) (l:List Bool) (w:World) (h:BlIn w v l) (hl:l.length<=1000000):Calls Tryz.prog 215 #[v] w λe w'=>∃rv,e = .returned rv/\OR 4 1 bC w.heap.size rv l w'/\Below w.heap.size w w':=by
 obtain ⟨A,c,rfl,hc,h⟩:=h;obtain ⟨i3,hi3,hk0,hk1,hk2⟩:=info_parts info_bool;have hnil:=λw=>Lib.run_eql_slice_nil (P:=Tryz.prog) w 70 4 A l.length c 0 0 Tryz.underlying70
 cases A with
 | none=>
  obtain rfl:l=[]:=h.resolve_right (by rintro ⟨g,f,e,-⟩;cases e)
  simp only[List.length_nil]at hnil
  go_enter Tryz.func215,Tryz.ntmps215
  go_wp2_with fail;go_ret;exact ⟨_,rfl,OR.nil_ _ _ _,Below.refl _ _⟩
 | some ad=>
  have hcell:∀i (hi:i<l.length),∀j<1,w.cell? (ad.add (i*1+j))=(bC l[i])[j]?:=by
   intro i hi j hj;obtain ⟨g,f,e,-,hcc⟩:=h.resolve_left (by rintro rfl;cases hi)
   injection e with e;subst e;obtain rfl:j=0:=by omega
   rw[Addr.add_lit,Nat.mul_one,Nat.add_zero,hcc i hi];rfl
  have hlt:l=[]\/ad.block<w.heap.size:=h.imp id (by rintro ⟨g,f,e,hg,-⟩;injection e with e;subst e;exact hg)
  have hcell2:∀i (hi:i<l.length),∀j<1,(w.alloc (.cells #[] 4)).cell? (ad.add (i*1+j))=(bC l[i])[j]?:=by
   intro i hi j hj;rw[<-hcell i hi j hj];exact World.cell?_of_block (by rw[Reads_block];exact old_alloc w _ _ (hlt.resolve_left (by rintro rfl;cases hi)))
  have HC:=Lib.hid hcell2;clear h hcell hcell2 hlt;have hOR0:OR 4 1 bC w.heap.size (.slice (some ⟨w.heap.size,0,none⟩) 0 0) [] (w.alloc (.cells #[] 4)):=OR.empty _ _;have HO:=Lib.hid hOR0;clear hOR0
  go_enter Tryz.func215,Tryz.ntmps215
  go_wp2_with (at_builtin;refine app_at bC_E Tryz.underlying70 hi3 hk0 hk1 hk2 rfl (by decide) _ _ (.slice (some ⟨w.heap.size,0,none⟩) 0 0) ad c [] l w.heap.size rfl rfl rfl rfl HO.out HC.out (by simp) hl (by simp) ?_)
  intro v' w1 hown1 hb1;obtain ⟨A',n',c',rfl⟩:∃A n c,v' = .slice A n c:=by
   obtain ⟨A,c,e,-⟩:=own_form (show w1.ownsRow _ _ _ _ _ _ from hown1);exact ⟨_,_,_,e⟩
  have HO1:=Lib.hid hown1;have HB1:=Lib.hid (((Below.refl _ w).alloc (Nat.le_refl _) (.cells #[] 4)).trans hb1);clear hown1 hb1;go_wp2_with fail;go_ret;exact ⟨_,rfl,HO1.out,HB1.out⟩
end Go.Proofs.YtdmoogjddmdmbaaGreatDoor
namespace Go.Proofs.YtdmoogjddmdmbaaGreatDoor
set_option linter.unusedVariables false
set_option linter.unusedSimpArgs false
set_option maxRecDepth 100000
open Go.RowKit
open Go.Maps (Keyed)
theorem own_type {w:World} {B k n:Nat} {e:TypeId} {v:Value} {xs:List Value} (h:w.ownsRow B e k v n xs):∀g,v.ownBlock=some g->∃cs m,w.heap[g]?=some (.cells cs e m):=λg hg=>by
 rcases h.2 with ⟨h1,-⟩ | ⟨g',cap,cur,h1,-,hg',-⟩
 .subst h1;simp[Value.ownBlock]at hg
 .subst h1;simp[Value.ownBlock]at hg;subst hg;exact ⟨_,_,hg'⟩
theorem own_apart {w:World} {B B' k k' n n':Nat} {e e':TypeId} {v u:Value} {xs ys:List Value} (h:w.ownsRow B e k v n xs) (h':w.ownsRow B' e' k' u n' ys) (he:e≠e'):∀g,v.ownBlock=some g->u.ownBlock≠some g:=λg hg hu=>by
 obtain ⟨cs,m,h1⟩:=own_type h g hg;obtain ⟨cs',m',h2⟩:=own_type h' g hu;rw[h1]at h2;injection h2 with h2;injection h2 with _ h3 _;exact he h3
theorem own_ne {w:World} {B k n:Nat} {e e':TypeId} {v:Value} {xs:List Value} (h:w.ownsRow B e k v n xs) {N:Nat} {cs:Array Value} {m:Nat×Nat} (hN:w.heap[N]?=some (.cells cs e' m)) (he:e≠e'):v.ownBlock≠some N:=λhv=>by
 obtain ⟨cs',m',h1⟩:=own_type h N hv;rw[hN]at h1;injection h1 with h1;injection h1 with _ h3 _;exact he h3.symm
def fpM (N:Nat) (vE vA:Value):List Nat:=N::(blk vE++blk vA)
theorem mem_fpM {N:Nat} {vE vA:Value} {k:Nat}:k∈fpM N vE vA↔k=N\/vE.ownBlock=some k\/vA.ownBlock=some k:=by
 unfold fpM;simp only[List.mem_cons,List.mem_append,mem_blk]
structure MkM (B N:Nat) (fx:List Nat) (vE vA:Value) (gv:List Value) (rs:List (List Ed)) (acs:List Bool) (w:World):Prop where
 hN:w.heap[N]?=some (.cells #[vE,vA] 93 (0,0))
 bN:B<=N
 own:w.ownsRow B 187 1 vE rs.length gv
 gvs:∀i (h:i<rs.length),∃v,gv[i]?=some v/\EdIn w v rs[i]/\outOf (fpM N vE vA) v/\outOf fx v/\∀g,v.ownBlock=some g->B<=g/\g<w.heap.size
 acc:OR 4 1 bC B vA acs w
 out:∀k∈fpM N vE vA,k∉fx
section
variable {B N:Nat} {fx fx':List Nat} {vE vA:Value} {gv:List Value} {rs:List (List Ed)} {acs:List Bool} {w w':World}
theorem MkM.lt (h:MkM B N fx vE vA gv rs acs w):∀k∈fpM N vE vA,B<=k/\k<w.heap.size:=λk hk=>by
 rcases mem_fpM.1 hk with rfl | hk | hk
 .exact ⟨h.bN,(Array.getElem?_eq_some_iff.1 h.hN).1⟩
 .exact h.own.lt k hk
 .exact World.ownsRow.lt h.acc k hk
theorem MkM.keep (h:MkM B N fx vE vA gv rs acs w) (hk:KeepF fx fx' w w'):MkM B N fx' vE vA gv rs acs w':=by
 have hlt:=h.lt;have hb:∀k∈fpM N vE vA,w'.heap[k]?=w.heap[k]?:=λk hm=>hk.blk k (hlt k hm).2 (h.out k hm);refine ⟨(hb N (mem_fpM.2 (.inl rfl))).trans h.hN,h.bN,own_same h.own λg hg=>hb g (mem_fpM.2 (.inr (.inl hg))),λi hi=>?_,OR.keep h.acc λg hg=>hb g (mem_fpM.2 (.inr (.inr hg))),λk hm hx=>(hk.new k hx).elim (h.out k hm) λhz=>by have:=(hlt k hm).2;omega⟩
 obtain ⟨v,h1,h2,h3,h4,h5⟩:=h.gvs i hi;exact ⟨v,h1,h2.keep h4 hk,h3,outOf_keep h4 (λg hg=>(h5 g hg).2) hk,λg hg=>⟨(h5 g hg).1,Nat.lt_of_lt_of_le (h5 g hg).2 hk.size⟩⟩
theorem MkM.later (h:MkM B N fx vE vA gv rs acs w) (hb:Below w.heap.size w w'):MkM B N fx vE vA gv rs acs w':=h.keep (KeepF.of_below hb)
theorem fresh_keep {v v':Value} {n k:Nat} (hf:Fresh v' v n) (h:v'.ownBlock=some k):v.ownBlock=some k\/n<=k:=by
 rcases hf with hf | ⟨g,hf,h2⟩
 .exact .inl (hf▸h)
 .rw[hf]at h;injection h with h;exact .inr (h▸h2)
theorem MkM.put (h:MkM B N fx vE vA gv rs acs w) (hfx:∀k∈fx,k<w.heap.size) (hk:KeepF (fpM N vE vA) [] w w') {vE' vA':Value} {gv':List Value} {rs':List (List Ed)} {acs':List Bool}
  (hN:w'.heap[N]?=some (.cells #[vE',vA'] 93 (0,0))) (hE:w'.ownsRow B 187 1 vE' rs'.length gv') (hA:OR 4 1 bC B vA' acs' w') (fE:Fresh vE' vE w.heap.size) (fA:Fresh vA' vA w.heap.size)
  (hr:∀i (hi:i<rs'.length),∃v,gv'[i]?=some v/\EdIn w v rs'[i]/\outOf (fpM N vE vA) v/\outOf fx v/\∀g,v.ownBlock=some g->B<=g/\g<w.heap.size) :
  MkM B N fx vE' vA' gv' rs' acs' w'/\KeepF (fpM N vE vA) (fpM N vE' vA') w w':=by
 have hnew:∀k∈fpM N vE' vA',k∈fpM N vE vA\/w.heap.size<=k:=λk hm=>by
  rcases mem_fpM.1 hm with rfl | hm | hm
  .exact .inl (mem_fpM.2 (.inl rfl))
  .exact (fresh_keep fE hm).imp (λh=>mem_fpM.2 (.inr (.inl h))) id
  .exact (fresh_keep fA hm).imp (λh=>mem_fpM.2 (.inr (.inr h))) id
 have hk2:KeepF (fpM N vE vA) (fpM N vE' vA') w w':=⟨hk.os,hk.tape,hk.output,hk.size,hk.blk,hnew⟩;refine ⟨⟨hN,h.bN,hE,λi hi=>?_,hA,λk hm hx=>(hnew k hm).elim (λh1=>h.out k h1 hx) λh1=>by have:=hfx k hx;omega⟩,hk2⟩
 obtain ⟨v,h1,h2,h3,h4,h5⟩:=hr i hi;exact ⟨v,h1,h2.keep h3 hk2,outOf_keep h3 (λg hg=>(h5 g hg).2) hk2,h4,λg hg=>⟨(h5 g hg).1,Nat.lt_of_lt_of_le (h5 g hg).2 hk.size⟩⟩
theorem MkM.rowsOld (h:MkM B N fx vE vA gv rs acs w):∀i (hi:i<rs.length),∃v,gv[i]?=some v/\EdIn w v rs[i]/\outOf (fpM N vE vA) v/\outOf fx v/\∀g,v.ownBlock=some g->B<=g/\g<w.heap.size:=h.gvs
theorem MkM.rowsNew (h:MkM B N fx vE vA gv rs acs w) {v:Value} {r:List Ed} (hv:EdIn w v r) (ho:outOf (fpM N vE vA) v) (hx:outOf fx v) (hl:∀g,v.ownBlock=some g->B<=g/\g<w.heap.size) :
  ∀i (hi:i<(rs++[r]).length),∃u,(gv++[v])[i]?=some u/\EdIn w u (rs++[r])[i]/\outOf (fpM N vE vA) u/\outOf fx u/\∀g,u.ownBlock=some g->B<=g/\g<w.heap.size:=λi hi=>by
 have hgl:gv.length=rs.length:=by have:=h.own.1;omega
 by_cases hlt:i<rs.length
 .obtain ⟨u,h1,h2,h3,h4,h5⟩:=h.gvs i hlt;refine ⟨u,by rw[List.getElem?_append_left (by omega)];exact h1,?_,h3,h4,h5⟩
  rw[List.getElem_append_left hlt];exact h2
 .have hie:i=rs.length:=by simp at hi;omega
  subst hie;refine ⟨v,by rw[List.getElem?_append_right (by omega),hgl];simp,?_,ho,hx,hl⟩
  rw[List.getElem_append_right (Nat.le_refl _)];simpa using hv
theorem MkM.box0 {w1:World} (h:MkM B N fx vE vA gv rs acs w) (hg:w1.heap[N]?=w.heap[N]?) (v:Value):(w1.setCell ⟨N,0,none⟩ v).heap[N]?=some (.cells #[v,vA] 93 (0,0)):=by
 have:=set_row3 (hg.trans h.hN) 0 v;simpa using this
theorem MkM.box1 {w1:World} (h:MkM B N fx vE vA gv rs acs w) (hg:w1.heap[N]?=w.heap[N]?) (v:Value):(w1.setCell ⟨N,1,none⟩ v).heap[N]?=some (.cells #[vE,v] 93 (0,0)):=by
 have:=set_row3 (hg.trans h.hN) 1 v;simpa using this
theorem MkM.neE (h:MkM B N fx vE vA gv rs acs w):vE.ownBlock≠some N:=own_ne h.own h.hN (by decide)
theorem MkM.neA (h:MkM B N fx vE vA gv rs acs w):vA.ownBlock≠some N:=own_ne (show w.ownsRow _ _ _ _ _ _ from h.acc) h.hN (by decide)
theorem MkM.neEA (h:MkM B N fx vE vA gv rs acs w):∀g,vE.ownBlock=some g->vA.ownBlock≠some g:=own_apart h.own (show w.ownsRow _ _ _ _ _ _ from h.acc) (by decide)
theorem MkM.addE {w1:World} (h:MkM B N fx vE vA gv rs acs w) (hfx:∀k∈fx,k<w.heap.size) {v:Value} {r:List Ed} (hv:EdIn w v r) (ho:outOf (fpM N vE vA) v) (hx:outOf fx v) (hl:∀g,v.ownBlock=some g->B<=g/\g<w.heap.size)
  {vE':Value} (hown:w1.ownsRow B 187 1 vE' (rs.length+1) (gv++[v])) (hg:w.grownBy w1 vE.ownBlock) (hf:Fresh vE' vE w.heap.size) :
  MkM B N fx vE' vA (gv++[v]) (rs++[r]) acs (w1.setCell ⟨N,0,none⟩ vE')/\KeepF (fpM N vE vA) (fpM N vE' vA) w (w1.setCell ⟨N,0,none⟩ vE'):=by
 have hlt:=h.lt;have hNlt:=(hlt N (mem_fpM.2 (.inl rfl))).2;have hz:=hg.size;have hset:∀k,k≠N->(w1.setCell ⟨N,0,none⟩ vE').heap[k]?=w1.heap[k]?:=λk hk=>Below.heap_setCell _ _ _ _ hk;have hk1:KeepF (fpM N vE vA) [] w w1:=kf_of_gb hg λg hg=>mem_fpM.2 (.inr (.inl hg));have hk:KeepF (fpM N vE vA) [] w (w1.setCell ⟨N,0,none⟩ vE'):=hk1.tr ⟨rfl,rfl,rfl,by simp[World.setCell],λk _ hn=>hset k (λe=>hn (mem_fpM.2 (.inl e))),λk hk=>by cases hk⟩
 have hN1:w1.heap[N]?=w.heap[N]?:=hg.block N hNlt (λe=>h.neE e.symm);have e1:(w1.setCell ⟨N,0,none⟩ vE').ownsRow B 187 1 vE' (rs++[r]).length (gv++[v]):=by
  rw[List.length_append];refine own_same hown λg hgx=>hset g ?_;rintro rfl;rcases fresh_keep hf hgx with h1 | h1
  .exact h.neE h1
  .omega
 have e2:OR 4 1 bC B vA acs (w1.setCell ⟨N,0,none⟩ vE'):=OR.keep h.acc λg hgx=>(hset g (by rintro rfl;exact h.neA hgx)).trans (hg.block g (hlt g (mem_fpM.2 (.inr (.inr hgx)))).2 λe=>h.neEA g e.symm hgx)
 exact h.put hfx hk (h.box0 hN1 vE') e1 e2 hf (.inl rfl) (h.rowsNew hv ho hx hl)
theorem MkM.addA {w1:World} (h:MkM B N fx vE vA gv rs acs w) (hfx:∀k∈fx,k<w.heap.size) {a:Bool}
  {vA':Value} (hown:OR 4 1 bC B vA' (acs++[a]) w1) (hg:w.grownBy w1 vA.ownBlock) (hf:Fresh vA' vA w.heap.size) :
  MkM B N fx vE vA' gv rs (acs++[a]) (w1.setCell ⟨N,1,none⟩ vA')/\KeepF (fpM N vE vA) (fpM N vE vA') w (w1.setCell ⟨N,1,none⟩ vA'):=by
 have hlt:=h.lt;have hNlt:=(hlt N (mem_fpM.2 (.inl rfl))).2;have hz:=hg.size;have hset:∀k,k≠N->(w1.setCell ⟨N,1,none⟩ vA').heap[k]?=w1.heap[k]?:=λk hk=>Below.heap_setCell _ _ _ _ hk;have hk1:KeepF (fpM N vE vA) [] w w1:=kf_of_gb hg λg hg=>mem_fpM.2 (.inr (.inr hg));have hk:KeepF (fpM N vE vA) [] w (w1.setCell ⟨N,1,none⟩ vA'):=hk1.tr ⟨rfl,rfl,rfl,by simp[World.setCell],λk _ hn=>hset k (λe=>hn (mem_fpM.2 (.inl e))),λk hk=>by cases hk⟩
 have hN1:w1.heap[N]?=w.heap[N]?:=hg.block N hNlt (λe=>h.neA e.symm);have e1:(w1.setCell ⟨N,1,none⟩ vA').ownsRow B 187 1 vE rs.length gv:=own_same h.own λg hgx=>(hset g (by rintro rfl;exact h.neE hgx)).trans (hg.block g (hlt g (mem_fpM.2 (.inr (.inl hgx)))).2 λe=>h.neEA g hgx e.symm)
 have e2:OR 4 1 bC B vA' (acs++[a]) (w1.setCell ⟨N,1,none⟩ vA'):=OR.keep hown λg hgx=>hset g (by
  rintro rfl;rcases fresh_keep hf hgx with h1 | h1
  .exact h.neA h1
  .omega)
 exact h.put hfx hk (h.box1 hN1 vA') e1 e2 (.inl rfl) hf h.rowsOld
theorem MkM.mcIn (h:MkM B N fx vE vA gv rs acs w):McIn w (.agg #[vE,vA]) ⟨rs,acs⟩:=by
 refine ⟨vE,vA,rfl,?_,BlIn.of_OR h.acc⟩;have hgl:gv.length=rs.length:=by have:=h.own.1;omega
 rcases h.own.2 with ⟨h1,h2⟩ | ⟨g,cap,cur,h1,-,hg,hle,hm,hcs,ht⟩
 .exact ⟨none,0,by rw[h1,h2],⟨by show rs.length<=0;omega,by decide⟩, .inl (List.length_eq_zero_iff.1 h2)⟩
 .refine ⟨_,cap,h1,⟨by omega,by unfold maxLen at hm;omega⟩, .inr ⟨g,0,rfl,(Array.getElem?_eq_some_iff.1 hg).1,λi hi=>?_⟩⟩
  obtain ⟨v,e1,e2,-⟩:=h.gvs i hi;refine ⟨v,?_,e2⟩;subst h1;have:=h.own.cellAt i (by rw[Nat.mul_one];exact hi)
  rw[Nat.zero_add,this,e1]
end
theorem MkM.low {B N:Nat} {fx:List Nat} {vE vA:Value} {gv:List Value} {rs:List (List Ed)} {acs:List Bool} {w w':World} {L L':List Nat} (h:MkM B N fx vE vA gv rs acs w) (hk:KeepF L L' w w') (hL:∀k∈L,k<B):MkM B N fx vE vA gv rs acs w':=by
 have hlt:=h.lt;have hb:∀k∈fpM N vE vA,w'.heap[k]?=w.heap[k]?:=λk hm=>hk.blk k (hlt k hm).2 λhl=>by have:=hL k hl;have:=(hlt k hm).1;omega
 refine ⟨(hb N (mem_fpM.2 (.inl rfl))).trans h.hN,h.bN,own_same h.own λg hg=>hb g (mem_fpM.2 (.inr (.inl hg))),λi hi=>?_,OR.keep h.acc λg hg=>hb g (mem_fpM.2 (.inr (.inr hg))),h.out⟩;obtain ⟨v,h1,h2,h3,h4,h5⟩:=h.gvs i hi;exact ⟨v,h1,h2.keep (λg hg hl=>by have:=hL g hl;have:=(h5 g hg).1;omega) hk,h3,h4,λg hg=>⟨(h5 g hg).1,Nat.lt_of_lt_of_le (h5 g hg).2 hk.size⟩⟩
def McUp (B:Nat) (w:World) (v:Value) (m:Mc):Prop:=∀w',KeepF (List.range B) [] w w'->McIn w' v m
theorem McUp.mc {B:Nat} {w:World} {v:Value} {m:Mc} (h:McUp B w v m):McIn w v m:=h w ⟨rfl,rfl,rfl,Nat.le_refl _,λ_ _ _=>rfl,λk hk=>by cases hk⟩
theorem McUp.mono {B B':Nat} {w:World} {v:Value} {m:Mc} (h:McUp B w v m) (hB:B'<=B):McUp B' w v m:=λw' hk=>
 h w' ⟨hk.os,hk.tape,hk.output,hk.size,λk h1 hn=>hk.blk k h1 λhm=>hn (List.mem_range.2 (by have:=List.mem_range.1 hm;omega)),λk hk=>by cases hk⟩
theorem McUp.keep {B:Nat} {w w':World} {v:Value} {m:Mc} {L L':List Nat} (h:McUp B w v m) (hk:KeepF L L' w w') (hL:∀k∈L,k<B):McUp B w' v m:=λw2 hk2=>
 h w2 ⟨hk2.os.trans hk.os,hk2.tape.trans hk.tape,hk2.output.trans hk.output,Nat.le_trans hk.size hk2.size,λk h1 hn=>(hk2.blk k (Nat.lt_of_lt_of_le h1 hk.size) hn).trans (hk.blk k h1 λhm=>hn (List.mem_range.2 (hL k hm))),λk hk=>by cases hk⟩
theorem McUp.later {B:Nat} {w w':World} {v:Value} {m:Mc} (h:McUp B w v m) (hb:Below w.heap.size w w'):McUp B w' v m:=h.keep (KeepF.of_below (fp:=[]) hb) (λk hk=>by cases hk)
theorem MkM.up {B N:Nat} {fx:List Nat} {vE vA:Value} {gv:List Value} {rs:List (List Ed)} {acs:List Bool} {w:World} (h:MkM B N fx vE vA gv rs acs w):McUp B w (.agg #[vE,vA]) ⟨rs,acs⟩:=λ_ hk=>(h.low hk λ_ hk=>List.mem_range.1 hk).mcIn
theorem OR.setAt {α:Type} {enc:α->List Value} {n:Nat} (E:EncS enc n) {e:TypeId} {B g c:Nat} {o:List α} {w:World} (h:OR e n enc B (.slice (some ⟨g,0,none⟩) o.length c) o w) (k j:Nat) (hk:k<o.length) (hj:j<n) (x:α) (u:Value) (hx:enc x=(enc o[k]).set j u) :
  OR e n enc B (.slice (some ⟨g,0,none⟩) o.length c) (o.set k x) (w.setCell ⟨g,k*n+j,none⟩ u):=by
 have h1:w.ownsRow B e n (.slice (some ⟨g,0,none⟩) o.length c) o.length (rowF enc o):=h;have h2:=(h1.stored (k*n+j) u).1;have ho:o=o.take k++([o[k]]++o.drop (k+1)):=by
  rw[List.singleton_append,<-List.drop_eq_getElem_cons hk,List.take_append_drop]
 have hs:o.set k x=o.take k++([x]++o.drop (k+1)):=by
  rw[List.set_eq_take_append_cons_drop,if_pos hk,List.singleton_append]
 have hA:(rowF enc (o.take k)).length=k*n:=by rw[rowF_len E,List.length_take,Nat.min_eq_left (Nat.le_of_lt hk)]
 have h3:(rowF enc o).set (k*n+j) u=rowF enc (o.set k x):=by
  rw[hs]
  conv=>lhs;rw[ho]
  rw[rowF_app,rowF_app,rowF_single,rowF_app,rowF_app,rowF_single,List.set_append_right _ _ (by rw[hA];omega),hA,show k*n+j-k*n=j by omega,List.set_append_left _ _ (by rw[E.len];exact hj),hx]
 show World.ownsRow _ _ _ _ _ _ _;rw[List.length_set,<-h3];exact h2
def clC (c:Option Nat):List Value:=[.int .i64 (clV c)]
theorem clC_E:EncS clC 1:=⟨by decide,λ_=>rfl,λx u hu=>by simp[clC]at hu;subst hu;rfl⟩
theorem rowF_cl (o:List (Option Nat)):rowF clC o=o.map λc=>.int .i64 (clV c):=by
 unfold rowF
 induction o with
 | nil=>rfl
 | cons b r ih=>simp only[List.map_cons,List.flatten_cons,ih];rfl
theorem ClIn.of_OR {w:World} {B:Nat} {v:Value} {l:List (Option Nat)} (h:OR 3 1 clC B v l w):ClIn w v l:=by
 obtain ⟨A,c,e,hc,hor⟩:=h.cells clC_E;have hcm:c<=9223372036854775807:=by
  obtain ⟨A',c',e',-,h'⟩:=own_form (show w.ownsRow _ _ _ _ _ _ from h);rw[e]at e';injection e' with _ _ e3;rw[e3];exact h'
 refine ⟨A,c,e,⟨hc,hcm⟩,hor.imp id ?_⟩;rintro ⟨g,h1,-,hg,hcell⟩;refine ⟨g,0,h1,hg,λi hi=>?_⟩;have:=(hcell i hi 0 (by decide)).1
 rw[Nat.mul_one,Nat.add_zero]at this;rw[Nat.zero_add,this];rfl
theorem OR.setC {B g n c:Nat} {o:List (Option Nat)} {w:World} (h:OR 3 1 clC B (.slice (some ⟨g,0,none⟩) n c) o w) (hn:o.length=n) (s:Nat) (x:Option Nat):OR 3 1 clC B (.slice (some ⟨g,0,none⟩) n c) (o.set s x) (w.setCell ⟨g,s,none⟩ (.int .i64 (clV x))):=by
 have h1:w.ownsRow B 3 1 (.slice (some ⟨g,0,none⟩) n c) n (rowF clC o):=by have:=h;unfold OR at this;rwa [hn]at this
 have h2:=(h1.stored s (.int .i64 (clV x))).1;show World.ownsRow _ _ _ _ _ _ _;rw[List.length_set,hn,rowF_cl,List.map_set];rw[rowF_cl]at h2;exact h2
theorem zeros_new (w:World) (n:Nat) (hn:n<=1000000):OR 3 1 clC w.heap.size (.slice (some ⟨w.heap.size,0,none⟩) n n) (List.replicate n (some 0)) (w.alloc (.cells (Array.replicate n (.int .i64 0)) 3)):=by
 refine ⟨by rw[rowF_cl];simp, .inr ⟨w.heap.size,n,Array.replicate n (.int .i64 0),by simp,Nat.le_refl _,heap_alloc_new w _,by simp,by unfold maxLen;omega,by simp,?_⟩⟩
 rw[rowF_cl,List.length_replicate];simp[clV]
theorem mk_zeros (n:Nat) (hn:n<=1000000) (w:World):(Instr.makeSlice 22 (.int .i64 (n:Int)) (.int .i64 (n:Int))).run Tryz.prog w = .ok (.slice (some ⟨w.heap.size,0,none⟩) n n) (w.alloc (.cells (Array.replicate n (.int .i64 0)) 3)):=by
 obtain ⟨i0,hi,hz0,hz1,hz2⟩:=info_parts info_int;have h:=run_makeSlice (P:=Tryz.prog) (w:=w) 22 3 i0 (.int .i64 0) Tryz.underlying22 hi hz0 .i64 .i64 (n:Int) (n:Int) (by omega) (Int.le_refl _) (by rw[hz1];omega) (by rw[hz2];omega) (by omega)
 rw[hz1,Int.toNat_natCast]at h;rw[show madeCells (Value.int IntKind.i64 0).cells (n*1)=Array.replicate n (.int .i64 0) from Array.toList_inj.1 (by
  simp only[madeCells,Value.cells,Nat.mul_one,Array.toList_map,Array.toList_range,Array.toList_replicate];rw[List.eq_replicate_iff];refine ⟨by simp,λx hx=>?_⟩
  obtain ⟨i,-,rfl⟩:=List.mem_map.1 hx;simp[Nat.mod_one])]at h
 exact h
def MN (P:Program) (k:TypeId) (b n:Nat) (f:Lit->Option Value) (w:World):Prop:=
 ∃D:DataW Value,w.ownsMap P k heldR b n D/\Maps.size D=n/\∀x,WideAt.IsKeyLit x->(∀z,D.atKey x z=match f x with | none=>z | some v=>.held v)/\Maps.has D x=(f x).isSome
theorem MN.mv {P:Program} {k:TypeId} {b n:Nat} {f:Lit->Option Value} {w:World} (h:MN P k b n f w):MV P k b n f w:=by
 obtain ⟨D,h1,-,h3⟩:=h;exact ⟨D,h1,h3⟩
theorem MN.made (P:Program) (k:TypeId) (w:World):MN P k w.heap.size 0 (λ_=>none) (w.alloc (.map #[] 0)):=
 ⟨_,World.ownsMap_made w P k heldR,rfl,λx _=>⟨λz=>rfl,rfl⟩⟩
theorem MN.kept {P:Program} {k:TypeId} {b n:Nat} {f:Lit->Option Value} {w w':World} (h:MN P k b n f w) (hb:w'.heap[b]?=w.heap[b]?):MN P k b n f w':=by
 obtain ⟨D,⟨es,c,h1,h2⟩,h3⟩:=h;exact ⟨D,⟨es,c,hb.trans h1,h2⟩,h3⟩
theorem MN.put {P:Program} {k e t:TypeId} {b n:Nat} {f:Lit->Option Value} {w:World} (h:MN P k b n f w) (K:Keyed P k) (ht:P.underlying t=some (.map k e)) (hn:n<maxLen) {key:Value} {x:Lit} (hkey:keyOf P k key=some x) (hx:WideAt.IsKeyLit x) (v:Value) (hnew:f x=none) :
  ∃w',(Instr.mapUpdate t (.map (some b)) key v).run P w = .ok () w'/\MN P k b (n+1) (updV f x (some v)) w'/\w.grownBy w' (some b):=by
 obtain ⟨D,h1,hs,h2⟩:=h;obtain ⟨w',hr,h3,h4⟩:=h1.update K ht hn hkey (show heldR v=some (.held v,[]) from rfl);have hD:Maps.IsMap D:=h1.isMap;refine ⟨w',hr,⟨_,h3,?_,λy hy=>?_⟩,h4⟩
 .rw[Maps.size_put (h1.tidy K),(h2 x hx).2,hnew,hs];rfl
 .unfold updV;by_cases e:y=x
  .subst e;rw[if_pos (WideAt.sameKey_self hx)];exact ⟨λz=>Maps.atKey_put_same hD hx _ _,Maps.has_put_same hD hx _⟩
  .rw[if_neg (λh=>e (WideAt.sameKey_eq h))];exact ⟨λz=>by rw[Maps.atKey_put_other e];exact (h2 y hy).1 z,by rw[Maps.has_put_other e];exact (h2 y hy).2⟩
theorem wpList_put_MN {P:Program} (w:World) {ops:Array Oper} {rest:List Oper} {o:Oper} {a:Act} {Q:Exit->Act->World->Prop}
  (hg:o.guard=none) (m x v:Operand) (t:TypeId) (hop:o.op=Op.mapUpdate t m x v) (k e:TypeId) (K:Keyed P k) (ht:P.underlying t=some (.map k e)) (b n:Nat) (f:Lit->Option Value)
  (hm:a.eval m = .map (some b)) (h:MN P k b n f w) (hn:n<maxLen) (key val:Value) (kl:Lit) (hx:a.eval x=key) (hv:a.eval v=val) (hkey:keyOf P k key=some kl) (hkl:WideAt.IsKeyLit kl) (hnew:f kl=none)
  (hK:∀w',MN P k b (n+1) (updV f kl (some val)) w'->w.grownBy w' (some b)->wpList P ops Q rest (a.put o.dst undef) w') :
  wpList P ops Q (o::rest) a w:=by
 refine wpList_plain hg λK' hK'=>?_;obtain ⟨w',hrun,r1,r2⟩:=h.put K ht hn hkey hkl val hnew;unfold Oper.wp;simp[execOp,hop,hm,hx,hv,hrun,Result.andThen];exact hK' _ _ (hK w' r1 r2)
theorem wpList_len_MN {P:Program} {w:World} {ops:Array Oper} {rest:List Oper} {o:Oper} {a:Act} {Q:Exit->Act->World->Prop} (hg:o.guard=none) (m:Operand) (t:TypeId) (hop:o.op=Op.call { callee:=Callee.builtin Builtin.len,args:=#[m],argTypes:=#[t] })
  (k e:TypeId) (ht:P.underlying t=some (.map k e)) (b n:Nat) (f:Lit->Option Value) (hm:a.eval m = .map (some b)) (h:MN P k b n f w)
  (hK:wpList P ops Q rest (a.put o.dst (.int .i64 (n:Int))) w):wpList P ops Q (o::rest) a w:=by
 obtain ⟨D,h1,h2,-⟩:=h;refine wpList_len_own w hg m t hop k e ht heldR b n D hm h1 ?_;rw[h2];exact hK
def dsc (m:Mc) (cs:List (Option Nat)) (s:Nat):Bool×List Ed:=descF m (clF cs) s
def idxD (seen:List (Bool×List Ed)) (x:Bool×List Ed):Option Value:=if x∈seen then some (.int .i64 ((seen.idxOf x:Nat):Int)) else none
def SaysD (F:Lit->Option Value) (seen:List (Bool×List Ed)):Prop:=∀x:Bool×List Ed,F (.string (descT x.1 x.2))=idxD seen x
theorem getElem?_idxOfD {α:Type} [BEq α] [LawfulBEq α] {l:List α} {x:α} (h:x∈l):l.idxOf x<l.length/\l[l.idxOf x]?=some x:=by
 have h1:=List.idxOf_lt_length_of_mem h;exact ⟨h1,by rw[List.getElem?_eq_getElem h1,List.getElem_idxOf]⟩
theorem SaysD.nil:SaysD (λ_=>none) []:=λx=>rfl
theorem SaysD.put {F:Lit->Option Value} {seen:List (Bool×List Ed)} (h:SaysD F seen) (x:Bool×List Ed) (hx:x∉seen) (n:Int) (hn:n=(seen.length:Int)):SaysD (updV F (.string (descT x.1 x.2)) (some (.int .i64 n))) (seen++[x]):=by
 intro y;subst hn;unfold updV;by_cases e:y=x
 .subst e;rw[if_pos (by simp[Lit.sameKey])]
  unfold idxD;rw[if_pos (by simp),List.idxOf_append,if_neg hx]
  simp
 .rw[if_neg (by
   simp only[Lit.sameKey,beq_iff_eq];intro he;obtain ⟨h1,h2⟩:=descT_inj he;exact e (Prod.ext h1 h2)),h y]
  unfold idxD;by_cases hy:y∈seen
  .rw[if_pos hy,if_pos (by simp[hy]),List.idxOf_append,if_pos hy]
  .rw[if_neg hy,if_neg (by simp[hy,e])]
structure RndI (m:Mc) (cs ds:List (Option Nat)) (seen:List (Bool×List Ed)) (k:Nat):Prop where
 len:ds.length=m.ed.length
 nd:seen.Nodup
 dead:∀s,s<k->clF cs s=none->clF ds s=none
 live:∀s,s<k->clF cs s≠none->dsc m cs s∈seen/\clF ds s=some (seen.idxOf (dsc m cs s))
 of_:∀x∈seen,∃s,s<k/\clF cs s≠none/\dsc m cs s=x
theorem RndI.start {m:Mc} {cs:List (Option Nat)} (ds:List (Option Nat)) (h:ds.length=m.ed.length):RndI m cs ds [] 0:=⟨h,List.nodup_nil,λs hs=>absurd hs (Nat.not_lt_zero _),λs hs=>absurd hs (Nat.not_lt_zero _),λx hx=>by cases hx⟩
theorem clF_set {ds:List (Option Nat)} {k:Nat} {x:Option Nat} (hk:k<ds.length) (s:Nat):clF (ds.set k x) s=if s=k then x else clF ds s:=by
 unfold clF;rw[List.getElem?_set];by_cases h:s=k
 .subst h;rw[if_pos rfl,if_pos rfl,if_pos hk];rfl
 .rw[if_neg (Ne.symm h),if_neg h]
section
variable {m:Mc} {cs ds:List (Option Nat)} {seen:List (Bool×List Ed)} {k:Nat}
theorem RndI.none_ (h:RndI m cs ds seen k) (hk:k<m.ed.length) (hc:clF cs k=none):RndI m cs (ds.set k none) seen (k+1):=by
 have hl:k<ds.length:=by rw[h.len];exact hk
 refine ⟨by rw[List.length_set];exact h.len,h.nd,λs hs hcs=>?_,λs hs hcs=>?_,λx hx=>?_⟩
 .rw[clF_set hl];by_cases e:s=k
  .rw[if_pos e]
  .rw[if_neg e];exact h.dead s (by omega) hcs
 .rw[clF_set hl];by_cases e:s=k
  .subst e;exact absurd hc hcs
  .rw[if_neg e];exact h.live s (by omega) hcs
 .obtain ⟨s,h1,h2,h3⟩:=h.of_ x hx;exact ⟨s,by omega,h2,h3⟩
theorem RndI.old (h:RndI m cs ds seen k) (hk:k<m.ed.length) (hc:clF cs k≠none) (hin:dsc m cs k∈seen):RndI m cs (ds.set k (some (seen.idxOf (dsc m cs k)))) seen (k+1):=by
 have hl:k<ds.length:=by rw[h.len];exact hk
 refine ⟨by rw[List.length_set];exact h.len,h.nd,λs hs hcs=>?_,λs hs hcs=>?_,λx hx=>?_⟩
 .rw[clF_set hl];by_cases e:s=k
  .subst e;exact absurd hcs hc
  .rw[if_neg e];exact h.dead s (by omega) hcs
 .rw[clF_set hl];by_cases e:s=k
  .subst e;rw[if_pos rfl];exact ⟨hin,rfl⟩
  .rw[if_neg e];exact h.live s (by omega) hcs
 .obtain ⟨s,h1,h2,h3⟩:=h.of_ x hx;exact ⟨s,by omega,h2,h3⟩
theorem RndI.new (h:RndI m cs ds seen k) (hk:k<m.ed.length) (hc:clF cs k≠none) (hin:dsc m cs k∉seen):RndI m cs (ds.set k (some seen.length)) (seen++[dsc m cs k]) (k+1):=by
 have hl:k<ds.length:=by rw[h.len];exact hk
 refine ⟨by rw[List.length_set];exact h.len,?_,λs hs hcs=>?_,λs hs hcs=>?_,λx hx=>?_⟩
 .rw[List.nodup_append];exact ⟨h.nd,by simp,λx hx y hy=>by rw[List.mem_singleton]at hy;subst hy;rintro rfl;exact hin hx⟩
 .rw[clF_set hl];by_cases e:s=k
  .subst e;exact absurd hcs hc
  .rw[if_neg e];exact h.dead s (by omega) hcs
 .rw[clF_set hl];by_cases e:s=k
  .subst e;rw[if_pos rfl,List.idxOf_append,if_neg hin];simp
  .rw[if_neg e];obtain ⟨h1,h2⟩:=h.live s (by omega) hcs
   exact ⟨List.mem_append_left _ h1,by rw[h2,List.idxOf_append,if_pos h1]⟩
 .rcases List.mem_append.1 hx with hx | hx
  .obtain ⟨s,h1,h2,h3⟩:=h.of_ x hx;exact ⟨s,by omega,h2,h3⟩
  .rw[List.mem_singleton]at hx;exact ⟨k,by omega,hc,hx.symm⟩
structure HeadC (m:Mc) (cs:List (Option Nat)) (kn:Nat):Prop where
 len:cs.length=m.ed.length
 cl:ClsI m (clF cs)
 kn:kn=0\/(∀c,c<kn↔∃s,s<m.ed.length/\clF cs s=some c)
 lt:∀s c,clF cs s=some c->c<m.ed.length
theorem live_of {m:Mc} {c:Nat->Option Nat} (h:ClsI m c) {s:Nat} (hs:s<m.ed.length):c s≠none↔LiveS m s:=by
 constructor
 .intro hn;by_cases hl:LiveS m s
  .exact hl
  .exact absurd ((h.dead s hs).2 hl) hn
 .intro hl hn;exact (h.dead s hs).1 hn hl
theorem seen_len (h:RndI m cs ds seen m.ed.length):seen.length<=m.ed.length:=by
 have h1:(List.range m.ed.length).length=m.ed.length:=List.length_range;have:=nodup_le (l:=seen) (r:=(List.range m.ed.length).map (dsc m cs)) h.nd (λx hx=>by
  obtain ⟨s,h1,-,h3⟩:=h.of_ x hx;exact List.mem_map.2 ⟨s,List.mem_range.2 h1,h3⟩)
 simpa using this
theorem RndI.nextC (h:RndI m cs ds seen m.ed.length) (hh:ClsI m (clF cs)):NextC m (clF cs) (clF ds):=by
 refine ⟨λs hs=>?_,λs t hs ht h1 h2=>?_⟩
 .rw[<-hh.dead s hs];constructor
  .intro hd;by_cases hc:clF cs s=none
   .exact hc
   .rw[(h.live s hs hc).2]at hd;cases hd
  .exact h.dead s hs
 .obtain ⟨a1,a2⟩:=h.live s hs ((live_of hh hs).2 h1);obtain ⟨b1,b2⟩:=h.live t ht ((live_of hh ht).2 h2);rw[a2,b2];constructor
  .intro he;injection he with he;have e1:=(getElem?_idxOfD a1).2;have e2:=(getElem?_idxOfD b1).2;rw[he,e2]at e1;exact (Option.some.inj e1).symm
  .intro he;show some (seen.idxOf (descF m (clF cs) s))=some (seen.idxOf (descF m (clF cs) t));rw[he]
theorem seen_at (h:RndI m cs ds seen m.ed.length) (y:Nat):y<seen.length↔∃s,s<m.ed.length/\clF ds s=some y:=by
 constructor
 .intro hy;obtain ⟨s,h1,h2,h3⟩:=h.of_ seen[y] (List.getElem_mem hy);refine ⟨s,h1,?_⟩;rw[(h.live s h1 h2).2,h3,h.nd.idxOf_getElem y hy]
 .rintro ⟨s,hs,hd⟩;by_cases hc:clF cs s=none
  .rw[h.dead s hs hc]at hd;cases hd
  .obtain ⟨h1,h2⟩:=h.live s hs hc;rw[h2]at hd;injection hd with hd;rw[<-hd];exact (getElem?_idxOfD h1).1
theorem HeadC.count {kn:Nat} (hh:HeadC m cs kn) (h:RndI m cs ds seen m.ed.length):kn<=seen.length/\(kn=seen.length->∀s t,s<m.ed.length->t<m.ed.length->LiveS m s->LiveS m t->clF cs s=clF cs t->clF ds s=clF ds t):=by
 have hn:=h.nextC hh.cl;rcases hh.kn with h0 | hp
 .subst h0;refine ⟨Nat.zero_le _,λhe s t hs ht hl _ _=>?_⟩;have:=(h.live s hs ((live_of hh.cl hs).2 hl)).1;rw[List.length_eq_zero_iff.1 he.symm]at this
  cases this
 .have hS:∀s,s∈(List.range m.ed.length).filter (λs=>(clF cs s).isSome)↔s<m.ed.length/\clF cs s≠none:=λs=>by
   rw[List.mem_filter,List.mem_range,Option.isSome_iff_ne_none]
  have hds:∀s,s<m.ed.length->clF cs s≠none->∃y,clF ds s=some y:=λs hs hc=>⟨_,(h.live s hs hc).2⟩;have hrc:=refine_count (S:=(List.range m.ed.length).filter λs=>(clF cs s).isSome) (f:=λs=>(clF cs s).getD 0) (g:=λs=>(clF ds s).getD 0) (F:=List.range kn) (G:=List.range seen.length) List.nodup_range
   (λx=>by
    rw[List.mem_range,hp x];constructor
    .rintro ⟨s,h1,h2⟩;exact ⟨s,(hS s).2 ⟨h1,by rw[h2];simp⟩,by simp only[h2,Option.getD_some]⟩
    .rintro ⟨s,h1,h2⟩;obtain ⟨h3,h4⟩:=(hS s).1 h1;refine ⟨s,h3,?_⟩
     cases hc:clF cs s with
     | none=>exact absurd hc h4
     | some c=>simp only[hc,Option.getD_some]at h2;rw[h2])
   (λy=>by
    rw[List.mem_range,seen_at h y];constructor
    .rintro ⟨s,h1,h2⟩;have hc:clF cs s≠none:=λhc=>by rw[h.dead s h1 hc]at h2;cases h2
     exact ⟨s,(hS s).2 ⟨h1,hc⟩,by simp only[h2,Option.getD_some]⟩
    .rintro ⟨s,h1,h2⟩;obtain ⟨h3,h4⟩:=(hS s).1 h1;obtain ⟨y',hy'⟩:=hds s h3 h4;simp only[hy',Option.getD_some]at h2;exact ⟨s,h3,by rw[hy',h2]⟩)
   (λs hs t ht he=>by
    obtain ⟨s1,s2⟩:=(hS s).1 hs;obtain ⟨t1,t2⟩:=(hS t).1 ht;obtain ⟨ys,hys⟩:=hds s s1 s2;obtain ⟨yt,hyt⟩:=hds t t1 t2;simp only[hys,hyt,Option.getD_some]at he;have hd:clF ds s=clF ds t:=by rw[hys,hyt,he]
    have ls:=(live_of hh.cl s1).1 s2;have lt:=(live_of hh.cl t1).1 t2;have:=hh.cl.fine s t s1 t1 ls lt ((hn.eq s t s1 t1 ls lt).1 hd);simp only[this])
  simp only[List.length_range]at hrc;refine ⟨hrc.1,λhe s t hs ht ls lt hc=>?_⟩;have s2:=(live_of hh.cl hs).2 ls;have t2:=(live_of hh.cl ht).2 lt;have:=hrc.2 he s ((hS s).2 ⟨hs,s2⟩) t ((hS t).2 ⟨ht,t2⟩) (by simp only[hc])
  obtain ⟨ys,hys⟩:=hds s hs s2;obtain ⟨yt,hyt⟩:=hds t ht t2;simp only[hys,hyt,Option.getD_some]at this;rw[hys,hyt,this]
theorem RndI.lt_ (h:RndI m cs ds seen m.ed.length):∀s c,clF ds s=some c->c<m.ed.length:=λs c hc=>by
 have hs:s<m.ed.length:=by
  by_cases hs:s<ds.length
  .rw[h.len]at hs;exact hs
  .unfold clF at hc;rw[List.getElem?_eq_none (by omega)]at hc;cases hc
 have:=(seen_at h c).2 ⟨s,hs,hc⟩;have:=seen_len h;omega
theorem HeadC.done {kn:Nat} (hv:Vld m) (hh:HeadC m cs kn) (h:RndI m cs ds seen m.ed.length) (he:seen.length=kn):ClsOK m (clF ds):=hh.cl.done hv (h.nextC hh.cl) ((hh.count h).2 he.symm)
theorem HeadC.next {kn:Nat} (hv:Vld m) (hh:HeadC m cs kn) (h:RndI m cs ds seen m.ed.length) (he:seen.length≠kn):HeadC m ds seen.length/\kn<seen.length/\seen.length<=m.ed.length:=by
 have h1:=(hh.count h).1;exact ⟨⟨h.len,hh.cl.next hv (h.nextC hh.cl), .inr (seen_at h),h.lt_⟩,by omega,seen_len h⟩
end
def firstC (o:List Bool) (k n:Nat):List (Option Nat):=(List.range n).map λs=>if s<k/\o[s]?=some false then none else some 0
theorem firstC_zero (o:List Bool) (n:Nat):firstC o 0 n=List.replicate n (some 0):=by
 unfold firstC;rw[List.eq_replicate_iff];refine ⟨by simp,λx hx=>?_⟩
 obtain ⟨s,-,rfl⟩:=List.mem_map.1 hx;rw[if_neg (by omega)]
theorem firstC_len (o:List Bool) (k n:Nat):(firstC o k n).length=n:=by simp[firstC]
theorem firstC_true {o:List Bool} {k n:Nat} (h:o[k]?=some true):firstC o (k+1) n=firstC o k n:=by
 unfold firstC;refine List.map_congr_left λs _=>?_;by_cases e:s=k
 .subst e;rw[h];simp
 .congr 1
  simp only[eq_iff_iff];constructor <;> (rintro ⟨h1,h2⟩; exact ⟨by omega,h2⟩)
theorem firstC_get (o:List Bool) (k n s:Nat) (h:s<n):(firstC o k n)[s]?=some (if s<k/\o[s]?=some false then none else some 0):=by
 unfold firstC;rw[List.getElem?_map,List.getElem?_range h];rfl
theorem firstC_false {o:List Bool} {k n:Nat} (h:o[k]?=some false):firstC o (k+1) n=(firstC o k n).set k none:=by
 apply List.ext_getElem?;intro s;by_cases hs:s<n
 .rw[firstC_get o (k+1) n s hs,List.getElem?_set];by_cases e:k=s
  .subst e;rw[if_pos ⟨by omega,h⟩,if_pos rfl,if_pos (by rw[firstC_len];exact hs)]
  .rw[if_neg e,firstC_get o k n s hs];by_cases hx:s<k/\o[s]?=some false
   .rw[if_pos hx,if_pos ⟨by omega,hx.2⟩]
   .rw[if_neg hx,if_neg (λh=>hx ⟨by omega,h.2⟩)]
 .rw[List.getElem?_eq_none (by rw[firstC_len];omega),List.getElem?_eq_none (by rw[List.length_set,firstC_len];omega)]
theorem firstC_at {o:List Bool} {n s:Nat} (ho:o.length=n):clF (firstC o n n) s=if o[s]?=some true then some 0 else none:=by
 unfold clF firstC;rw[List.getElem?_map];by_cases hs:s<n
 .rw[List.getElem?_range hs];simp only[Option.map_some,Option.getD_some];have hl:s<o.length:=by omega
  rw[List.getElem?_eq_getElem hl]
  cases o[s] <;> simp[hs]
 .rw[List.getElem?_eq_none (by simp;omega),List.getElem?_eq_none (by omega)]
  simp
theorem HeadC.first {m:Mc} {o:List Bool} (ho:o.length=m.ed.length) (h:∀s,s<m.ed.length->(o[s]?=some true↔LiveS m s)) (h1:1<=m.ed.length):HeadC m (firstC o m.ed.length m.ed.length) 0:=by
 refine ⟨firstC_len _ _ _,ClsI.start _ (λs hs=>?_) (λs hs hl=>?_), .inl rfl,λs c hc=>?_⟩
 .rw[firstC_at ho,<-h s hs];by_cases hx:o[s]?=some true <;> simp[hx]
 .rw[firstC_at ho,if_pos ((h s hs).2 hl)]
 .rw[firstC_at ho]at hc
  split at hc
  .injection hc with hc;omega
  .cases hc
end Go.Proofs.YtdmoogjddmdmbaaGreatDoor
namespace Go.Proofs.YtdmoogjddmdmbaaGreatDoor
set_option linter.unusedVariables false
set_option linter.unusedSimpArgs false
set_option maxRecDepth 100000
open Go.RowKit
def ClPost (m:Mc) (n:Nat) (w:World) (e:Ending) (w':World):Prop:=∃rv cs,e = .returned rv/\OR 3 1 clC w.heap.size rv cs w'/\Below w.heap.size w w'/\cs.length=n/\ClsOK m (clF cs)/\∀s c,clF cs s=some c->c<n
theorem OR.lt1 {e:TypeId} {B g c n:Nat} {o:List (Option Nat)} {w:World} (h:OR e 1 clC B (.slice (some ⟨g,0,none⟩) n c) o w):g<w.heap.size:=by
 exact (World.ownsRow.lt h g rfl).2
theorem OR.cellC {B g c n:Nat} {o:List (Option Nat)} {w:World} (h:OR 3 1 clC B (.slice (some ⟨g,0,none⟩) n c) o w) (s:Nat) (hs:s<o.length):w.cell? ⟨g,s,none⟩=some (.int .i64 (clV (clF o s)))/\w.frozen? ⟨g,s,none⟩=false:=by
 obtain ⟨A,c',e,-,hor⟩:=h.cells clC_E;obtain ⟨g',hA,-,hg,hcc⟩:=hor.resolve_left (by rintro rfl;cases hs)
 injection e with e1 _ _;rw[hA]at e1;injection e1 with e1;injection e1 with e1;subst e1;have:=hcc s hs 0 (by decide)
 rw[Nat.mul_one,Nat.add_zero]at this;refine ⟨?_,this.2⟩;rw[this.1];unfold clF;rw[List.getElem?_eq_getElem hs];rfl
end Go.Proofs.YtdmoogjddmdmbaaGreatDoor
namespace Go.Proofs.YtdmoogjddmdmbaaGreatDoor
set_option linter.unusedVariables false
set_option linter.unusedSimpArgs false
set_option maxRecDepth 100000
open Go.RowKit
open Go.Maps (Keyed)
theorem first_at {α:Type} (p:α->Prop) [DecidablePred p]:∀(l:List α),(∃x∈l,p x)->∃k,∃h:k<l.length,p l[k]/\∀j,(hj:j<k)->¬p (l[j]'(by omega))
 | [],h=>by obtain ⟨x,hx,-⟩:=h;cases hx
 | a::l,h=>by
  by_cases ha:p a
  .exact ⟨0,by simp,ha,λj hj=>absurd hj (Nat.not_lt_zero _)⟩
  .obtain ⟨k,hk,h1,h2⟩:=first_at p l (by
    obtain ⟨x,hx,hp⟩:=h;rcases List.mem_cons.1 hx with rfl | hx
    .exact absurd hp ha
    .exact ⟨x,hx,hp⟩)
   refine ⟨k+1,by simpa using hk,by simpa using h1,λj hj=>?_⟩
   cases j with
   | zero=>simpa using ha
   | succ j=>simpa using h2 j (by omega)
theorem index_cls (B g n c cl:Nat) (cs:List (Option Nat)) (w:World) (h:OR 3 1 clC B (.slice (some ⟨g,0,none⟩) n c) cs w) (hn:cs.length=n) (hbig:n<=1000000) (hex:∃s,s<n/\clF cs s=some cl) :
  Calls Tryz.prog 172 #[.slice (some ⟨g,0,none⟩) n c, .int .i64 (cl:Int)] w λe w'=>∃s:Nat,e = .returned (.int .i64 (s:Int))/\w'=w/\s<n/\clF cs s=some cl:=by
 have hz:∀j,j<n->(cs.map clV).getD j 0=clV (clF cs j):=λj hj=>by
  unfold clF;simp only[List.getD_eq_getElem?_getD,List.getElem?_map,List.getElem?_eq_getElem (show j<cs.length by omega),Option.map_some,Option.getD_some]
 have hcell:∀j,j<(cs.map clV).length->w.cell? ⟨g,0+j,none⟩=some (.int .i64 ((cs.map clV).getD j 0)):=λj hj=>by
  rw[List.length_map]at hj;rw[Nat.zero_add,hz j (by omega)]
  exact (h.cellC j hj).1
 refine (Tryz.slices_Index_int g 0 n c (cs.map clV) (cl:Int) w (by simp;omega) (by omega) hcell).mono ?_
 rintro e w' ⟨rfl,rfl⟩;obtain ⟨s,hs,hsc⟩:=hex;obtain ⟨k,hk,h1,h2⟩:=first_at (λx=>x=some cl) cs ⟨cs[s]'(by omega),List.getElem_mem _,by
  have:=hsc;unfold clF at this;rwa [List.getElem?_eq_getElem (by omega:s<cs.length),Option.getD_some]at this⟩
 have hkc:clF cs k=some cl:=by unfold clF;rw[List.getElem?_eq_getElem hk,h1];rfl
 refine ⟨k,?_,rfl,by omega,hkc⟩
 rw[Lib.idxOf_hit (cs.map clV) n k (cl:Int) (by omega) (by simp;omega) (by rw[hz k (by omega),hkc];rfl) λj hj=>?_]
 rw[hz j (by omega)]
 intro hc;have h3:=h2 j hj;have hjc:clF cs j=cs[j]'(by omega):=by unfold clF;rw[List.getElem?_eq_getElem (by omega:j<cs.length)];rfl
 rw[hjc]at hc
 cases hq:cs[j]'(by omega) with
 | none=>rw[hq]at hc;have h9:(-1:Int)=(cl:Int):=hc;omega
 | some y=>
  rw[hq]at hc;have h9:(y:Int)=(cl:Int):=hc;have h8:y=cl:=by omega
  subst h8;exact h3 hq
def SaysC (F:Lit->Option Value) (c:Nat->Option Nat) (st:List Nat):Prop:=∀cl:Nat,F (.int .i64 (cl:Int))=if some cl∈st.map c then some (.int .i64 ((numC c st cl:Nat):Int)) else none
theorem SaysC.first {c:Nat->Option Nat} {c0:Nat} (h:c 0=some c0):SaysC (updV (λ_=>none) (.int .i64 (c0:Int)) (some (.int .i64 0))) c [0]:=λcl=>by
 unfold updV;by_cases e:cl=c0
 .subst e;rw[if_pos (by simp[Lit.sameKey]),if_pos (by simp[h])]
  simp[numC,h]
 .rw[if_neg (by simp[Lit.sameKey];omega),if_neg (by simp[h];omega)]
theorem SaysC.put {F:Lit->Option Value} {c:Nat->Option Nat} {st:List Nat} (h:SaysC F c st) {cl s:Nat} (hn:¬some cl∈st.map c) (hc:c s=some cl) (x:Int) (hx:x=(st.length:Int)):SaysC (updV F (.int .i64 (cl:Int)) (some (.int .i64 x))) c (st++[s]):=λy=>by
 subst hx;unfold updV;by_cases e:y=cl
 .subst e;rw[if_pos (by simp[Lit.sameKey]),if_pos (by simp[hc]),numC_new hn hc]
 .rw[if_neg (by simp[Lit.sameKey];omega),h y]
  by_cases hy:some y∈st.map c
  .rw[if_pos hy,if_pos (by rw[List.map_append];exact List.mem_append_left _ hy),numC_grow s hy]
  .rw[if_neg hy,if_neg];intro hm;rw[List.map_append,List.mem_append]at hm;rcases hm with hm | hm
   .exact hy hm
   .simp[hc]at hm;exact e hm
theorem wpList_ins_MV {P:Program} (w:World) {ops:Array Oper} {rest:List Oper} {o:Oper} {a:Act} {Q:Exit->Act->World->Prop}
  (hg:o.guard=none) (m x v:Operand) (t:TypeId) (hop:o.op=Op.insert t m x v) (k e:TypeId) (K:Keyed P k) (ht:P.underlying t=some (.map k e)) (b n:Nat) (f:Lit->Option Value)
  (hm:a.eval m = .map (some b)) (h:MV P k b n f w) (hn:n<maxLen) (key val:Value) (kl:Lit) (hx:a.eval x=key) (hv:a.eval v=val) (hkey:keyOf P k key=some kl) (hkl:WideAt.IsKeyLit kl)
  (hK:∀w',MV P k b (n+1) (updV f kl (some val)) w'->w.grownBy w' (some b)->wpList P ops Q rest (a.put o.dst undef) w') :
  wpList P ops Q (o::rest) a w:=by
 refine wpList_plain hg λK' hK'=>?_;obtain ⟨w',hrun,r1,r2⟩:=h.put K ht hn hkey hkl val;unfold Oper.wp;simp[execOp,hop,hm,hx,hv,hrun,Result.andThen];exact hK' _ _ (hK w' r1 r2)
theorem mv_ne {P:Program} {k e:TypeId} {b n B q n':Nat} {f:Lit->Option Value} {w:World} {v:Value} {xs:List Value} (h:MV P k b n f w) (ho:w.ownsRow B e q v n' xs):v.ownBlock≠some b:=λhv=>by
 obtain ⟨D,⟨es,c,h1,-⟩,-⟩:=h;obtain ⟨cs,md,h2⟩:=own_type ho b hv;rw[h1]at h2;injection h2 with h2
 cases h2
theorem MkM.sub {B N:Nat} {fx fx':List Nat} {vE vA:Value} {gv:List Value} {rs:List (List Ed)} {acs:List Bool} {w:World} (h:MkM B N fx vE vA gv rs acs w) (hs:∀k∈fx',k∈fx):MkM B N fx' vE vA gv rs acs w:=
 h.keep ⟨rfl,rfl,rfl,Nat.le_refl _,λ_ _ _=>rfl,λk hk=>.inl (hs k hk)⟩
structure LeS (m:Mc) (c:Nat->Option Nat) (B N mb i:Nat) (bl:List Nat) (rs:List (List Ed)) (acs:List Bool) (vE vA:Value) (gv:List Value) (p:List Ed) (t:Nat) (st:List Nat) (F:Lit->Option Value) (vst:Value) (w:World):Prop where
 ma:MkM B N (mb::(blk vst++bl)) vE vA gv rs acs w
 mv:MV Tryz.prog 3 mb st.length F w
 bm:B<=mb
 say:SaysC F c st
 own:w.ownsRow B 3 1 vst st.length (ints st)
 le:LeI m c st i rs p t
 ac:acs=(st.take i).map λs=>(m.ac[s]?).getD false
section
variable {m:Mc} {c:Nat->Option Nat} {B N mb i:Nat} {bl:List Nat} {rs:List (List Ed)} {acs:List Bool} {vE vA:Value} {gv:List Value} {p:List Ed} {t:Nat} {st:List Nat} {F:Lit->Option Value} {vst:Value} {w w':World}
theorem LeS.later (h:LeS m c B N mb i bl rs acs vE vA gv p t st F vst w) (hb:Below w.heap.size w w'):LeS m c B N mb i bl rs acs vE vA gv p t st F vst w':=
 ⟨h.ma.later hb,h.mv.kept (hb.block _ h.mv.lt),h.bm,h.say,own_later h.own hb,h.le,h.ac⟩
theorem LeS.rowIn (h:LeS m c B N mb i [] rs acs vE vA gv p t st F vst w) (hb:Below w.heap.size w w') (lv:Value) (hl:∀g,lv.ownBlock=some g->w.heap.size<=g):LeS m c B N mb i (blk lv) rs acs vE vA gv p t st F vst w':=
 ⟨h.ma.keep ⟨hb.os,hb.tape,hb.output,hb.size,λk hk _=>hb.block k hk,λk hk=>by
  rcases List.mem_cons.1 hk with rfl | hk
  .exact .inl (by simp)
  .rcases List.mem_append.1 hk with hk | hk
   .exact .inl (by simp[hk])
   .exact .inr (hl k (mem_blk.1 hk))⟩,h.mv.kept (hb.block _ h.mv.lt),h.bm,h.say,own_later h.own hb,h.le,h.ac⟩
theorem LeS.rowSet {lv:Value} {g:Nat} {a:Addr} (h:LeS m c B N mb i (blk lv) rs acs vE vA gv p t st F vst w) (hg:lv.ownBlock=some g) (ha:a.block=g) (hcs:∃cs md,w.heap[g]?=some (.cells cs 195 md)) (x:Value) {p':List Ed} (hp:LeI m c st i rs p' t):LeS m c B N mb i (blk lv) rs acs vE vA gv p' t st F vst (w.setCell a x):=by
 have hset:∀k,k≠g->(w.setCell a x).heap[k]?=w.heap[k]?:=λk hk=>Below.heap_setCell _ _ _ _ (by rw[ha];exact hk)
 obtain ⟨cs,md,hcs⟩:=hcs;have hm:g≠mb:=by
  rintro rfl;obtain ⟨D,⟨es,c,h1,-⟩,-⟩:=h.mv;rw[hcs]at h1;injection h1 with h1
  cases h1
 have hgl:=(Array.getElem?_eq_some_iff.1 hcs).1;refine ⟨h.ma.keep ⟨rfl,rfl,rfl,by simp[World.setCell],λk _ hn=>hset k (λe=>hn (by simp[mem_blk,e,hg])),λk hk=>.inl hk⟩,h.mv.kept (hset mb (Ne.symm hm)),h.bm,h.say,own_same h.own λq hq=>hset q ?_,hp,h.ac⟩
 rintro rfl;exact own_ne h.own hcs (by decide) hq
theorem LeS.meet {w1 w2 w3:World} {lv vst':Value} {F':Lit->Option Value} {st':List Nat} (h:LeS m c B N mb i (blk lv) rs acs vE vA gv p t st F vst w) (hg1:w.grownBy w1 (some mb)) (hm1:MV Tryz.prog 3 mb st'.length F' w1)
  (hb2:Below w1.heap.size w1 w2) (hg3:w2.grownBy w3 vst.ownBlock) (ho3:w3.ownsRow B 3 1 vst' st'.length (ints st')) (hf3:Fresh vst' vst w2.heap.size) (hlv:∀g,lv.ownBlock=some g->g<w.heap.size)
  (hs':SaysC F' c st') {p':List Ed} (hle:LeI m c st' i rs p' t) (htk:st'.take i=st.take i):LeS m c B N mb i (blk lv) rs acs vE vA gv p' t st' F' vst' w3:=by
 have hne:=mv_ne h.mv h.own;have z1:=hg1.size;have z2:=hb2.size;have z3:=hg3.size;have hmb:=h.mv.lt;have hk:KeepF (mb::(blk vst++blk lv)) (mb::(blk vst'++blk lv)) w w3:=by
  refine ⟨hg3.os.trans (hb2.os.trans hg1.os),hg3.tape.trans (hb2.tape.trans hg1.tape),hg3.output.trans (hb2.output.trans hg1.output),by omega,λk hk hn=>?_,λk hk=>?_⟩
  .exact (hg3.block k (by omega) (λe=>hn (by simp[mem_blk,e.symm]))).trans ((hb2.block k (by omega)).trans (hg1.block k hk (λe=>hn (by injection e with e;simp[e]))))
  .rcases List.mem_cons.1 hk with rfl | hk
   .exact .inl (by simp)
   .rcases List.mem_append.1 hk with hk | hk
    .exact (fresh_keep hf3 (mem_blk.1 hk)).imp (λh=>by simp[mem_blk,h]) (λh=>by omega)
    .exact .inl (by simp[hk])
 exact ⟨h.ma.keep hk,hm1.kept ((hg3.block mb (by omega) (λe=>hne e.symm)).trans (hb2.block mb (by omega))),h.bm,hs',ho3,hle,by rw[htk];exact h.ac⟩
end
def LeOK (m m':Mc):Prop:=((LiveS m 0/\Canon m'/\∀w,acF m' w 0=acF m w 0)\/(¬LiveS m 0/\m'=⟨[[]],[false]⟩))/\m'.ed.length<=m.ed.length/\McSm m'
def LePost (m:Mc) (w:World) (e:Ending) (w':World):Prop:=∃rv m',e = .returned rv/\McUp w.heap.size w' rv m'/\Below w.heap.size w w'/\LeOK m m'
theorem ren_set (f:Nat->Nat) (J:List Ed) (k:Nat) (h:k<J.length):(renE f (J.take k)++J.drop k).set k ⟨J[k].lo,J[k].hi,f J[k].to⟩=renE f (J.take (k+1))++J.drop (k+1):=by
 have hl:(renE f (J.take k)).length=k:=by rw[renE_len,List.length_take];omega
 rw[List.set_append_right _ _ (by omega),hl,Nat.sub_self,List.drop_eq_getElem_cons h,List.set_cons_zero,List.take_succ_eq_append_getElem h,renE_snoc,List.append_assoc]
 rfl
theorem ren_at (f:Nat->Nat) (J:List Ed) (k:Nat) (h:k<J.length):∃h2,(renE f (J.take k)++J.drop k)[k]'h2=J[k]:=by
 have hl:(renE f (J.take k)).length=k:=by rw[renE_len,List.length_take];omega
 refine ⟨by rw[List.length_append,hl,List.length_drop];omega,?_⟩
 rw[List.getElem_append_right (by omega)]
 simp[hl]
theorem ren_len (f:Nat->Nat) (J:List Ed) (k:Nat) (h:k<=J.length):(renE f (J.take k)++J.drop k).length=J.length:=by
 rw[List.length_append,renE_len,List.length_take,List.length_drop];omega
theorem LeS.rowDone {m:Mc} {c:Nat->Option Nat} {B N mb i:Nat} {rs:List (List Ed)} {acs:List Bool} {vE vA vE' vA' lv:Value} {gv:List Value} {p:List Ed} {t:Nat} {st:List Nat} {F:Lit->Option Value} {vst:Value} {w w':World} {B1 s:Nat} {a:Bool}
  (h:LeS m c B N mb i (blk lv) rs acs vE vA gv p t st F vst w) (hB1:B<=B1) (hlv:OR 195 3 edC B1 lv (renE (numC c st) p) w) (hk:KeepF (fpM N vE vA) [] w w')
  (hN:w'.heap[N]?=some (.cells #[vE',vA'] 93 (0,0))) (hE:w'.ownsRow B 187 1 vE' (rs.length+1) (gv++[lv])) (hA:OR 4 1 bC B vA' (acs++[a]) w') (fE:Fresh vE' vE w.heap.size) (fA:Fresh vA' vA w.heap.size)
  (hit:i<=t) (hs:st[i]?=some s) (hp:p=joinF c (rowM m s)) (ha:a=(m.ac[s]?).getD false) :
  LeS m c B N mb (i+1) [] (rs++[renE (numC c st) p]) (acs++[a]) vE' vA' (gv++[lv]) [] (topE t (renE (numC c st) p)) st F vst w':=by
 have hout:outOf (fpM N vE vA) lv:=λg hg hm=>h.ma.out g hm (by simp[mem_blk,hg])
 have hx:outOf (mb::(blk vst++[])) lv:=λg hg hm=>by
  rcases List.mem_cons.1 hm with rfl | hm
  .exact mv_ne h.mv (show w.ownsRow _ _ _ _ _ _ from hlv) hg
  .rw[List.append_nil]at hm;exact own_apart (show w.ownsRow _ _ _ _ _ _ from hlv) h.own (by decide) g hg (mem_blk.1 hm)
 have hl:∀g,lv.ownBlock=some g->B<=g/\g<w.heap.size:=λg hg=>⟨Nat.le_trans hB1 (World.ownsRow.lt hlv g hg).1,(World.ownsRow.lt hlv g hg).2⟩;have hmk:=h.ma.sub (fx':=mb::(blk vst++[])) (λk hk=>by
  rw[List.append_nil]at hk;rcases List.mem_cons.1 hk with rfl | hk
  .simp
  .simp[hk])
 have hmm:mb∉fpM N vE vA:=λhm=>hmk.out mb hm (by simp)
 have hvm:∀k∈blk vst,k∉fpM N vE vA:=λk hk hm=>hmk.out k hm (by simp[hk])
 obtain ⟨q1,q2⟩:=hmk.put (rs':=rs++[renE (numC c st) p]) (λk hk=>by
  rw[List.append_nil]at hk;rcases List.mem_cons.1 hk with rfl | hk
  .exact h.mv.lt
  .exact (h.own.lt k (mem_blk.1 hk)).2) hk hN (by rw[List.length_append];exact hE) hA fE fA (hmk.rowsNew (EdIn.of_OR hlv) hout hx hl)
 refine ⟨q1,h.mv.kept (hk.blk mb h.mv.lt hmm),h.bm,h.say,own_same h.own λg hg=>hk.blk g (h.own.lt g hg).2 (hvm g (mem_blk.2 hg)),h.le.row hit hs hp,?_⟩;rw[h.ac,ha,List.take_add_one,hs,List.map_append];rfl
structure LeK (m:Mc) (c:Nat->Option Nat) (N mb i BL:Nat) (rs:List (List Ed)) (acs:List Bool) (vE vA:Value) (gv:List Value) (J:List Ed) (t:Nat) (st:List Nat) (lv:Value) (w1:World) (kp k:Nat) (st':List Nat) (F:Lit->Option Value) (vst:Value) (wr:World):Prop where
 le:LeS m c w1.heap.size N mb i (blk lv) rs acs vE vA gv (J.take kp) t st' F vst wr
 row:OR 195 3 edC BL lv (renE (numC c st') (J.take k)++J.drop k) wr
 pre:∃more,st'=st++more
 bl:Below w1.heap.size w1 wr
 hB:w1.heap.size<=BL
section
variable {m:Mc} {c:Nat->Option Nat} {N mb i BL:Nat} {rs:List (List Ed)} {acs:List Bool} {vE vA:Value} {gv:List Value} {J:List Ed} {t:Nat} {st:List Nat} {lv:Value} {w1:World} {kp k:Nat} {st':List Nat} {F:Lit->Option Value} {vst:Value} {wr wr':World}
theorem LeK.later (h:LeK m c N mb i BL rs acs vE vA gv J t st lv w1 kp k st' F vst wr) (hb:Below wr.heap.size wr wr'):LeK m c N mb i BL rs acs vE vA gv J t st lv w1 kp k st' F vst wr':=
 ⟨h.le.later hb,h.row.later hb,h.pre,h.bl.trans (hb.mono h.bl.size),h.hB⟩
theorem LeK.old (h:LeK m c N mb i BL rs acs vE vA gv J t st lv w1 k k st' F vst wr) (hk:k<J.length) (he:some J[k].to∈st'.map c):LeK m c N mb i BL rs acs vE vA gv J t st lv w1 (k+1) k st' F vst wr:=
 ⟨⟨h.le.ma,h.le.mv,h.le.bm,h.le.say,h.le.own,by rw[List.take_succ_eq_append_getElem hk];exact h.le.le.old J[k] he,h.le.ac⟩,h.row,h.pre,h.bl,h.hB⟩
theorem LeK.new {w2 w3 wm:World} {s2:Nat} {vst':Value} (h:LeK m c N mb i BL rs acs vE vA gv J t st lv w1 k k st' F vst wr) (hk:k<J.length) (hgm:wr.grownBy wm (some mb)) (hm1:MV Tryz.prog 3 mb (st'.length+1) (updV F (.int .i64 (J[k].to:Int)) (some (.int .i64 (st'.length:Int)))) wm)
  (hb2:Below wm.heap.size wm w2) (hg3:w2.grownBy w3 vst.ownBlock) (ho3:w3.ownsRow w1.heap.size 3 1 vst' (st'.length+1) (ints st'++[.int .i64 (s2:Int)])) (hf3:Fresh vst' vst w2.heap.size) (hne:¬some J[k].to∈st'.map c) (hs:s2<m.ed.length) (hc:c s2=some J[k].to) :
  LeK m c N mb i BL rs acs vE vA gv J t st lv w1 (k+1) k (st'++[s2]) (updV F (.int .i64 (J[k].to:Int)) (some (.int .i64 (st'.length:Int)))) vst' w3/\numC c (st'++[s2]) J[k].to=st'.length:=by
 obtain ⟨q1,q2⟩:=h.le.le.new J[k] s2 hne hs hc;have hr:w3.ownsRow w1.heap.size 3 1 vst' (st'++[s2]).length (ints (st'++[s2])):=by rw[ints_app,List.length_append];exact ho3
 have hrow:wr.ownsRow _ _ _ _ _ _:=h.row;have hlv:∀g,lv.ownBlock=some g->g<wr.heap.size:=λg hg=>(World.ownsRow.lt h.row g hg).2;have z1:=hgm.size;have z2:=hb2.size;have z3:=hg3.size;have zb:=h.bl.size;have hle:=h.le.meet hgm (st':=st'++[s2]) (by rw[List.length_append];exact hm1) hb2 hg3 hr hf3 hlv (h.le.say.put hne hc _ rfl) (by rw[<-List.take_succ_eq_append_getElem hk]at q1;exact q1) (List.take_append_of_le_length h.le.le.il)
 refine ⟨⟨hle,?_,?_,?_,h.hB⟩,q2⟩
 .rw[ren_grow s2 h.le.le.ptg];refine OR.keep h.row λg hg=>(hg3.block g (by have:=hlv g hg;omega) λe=>own_apart hrow h.le.own (by decide) g hg e.symm).trans ((hb2.block g (by have:=hlv g hg;omega)).trans (hgm.block g (hlv g hg) λe=>mv_ne h.le.mv hrow (by rw[hg,e])))
 .obtain ⟨more,e⟩:=h.pre;exact ⟨more++[s2],by rw[e,List.append_assoc]⟩
 .exact ((h.bl.grown hgm zb (λq hq=>by injection hq with hq;have:=h.le.bm;omega)).trans (hb2.mono (by omega))).grown hg3 (by omega) (λq hq=>(h.le.own.lt q hq).1)
theorem LeK.put {gl cc:Nat} (h:LeK m c N mb i BL rs acs vE vA gv J t st (.slice (some ⟨gl,0,none⟩) J.length cc) w1 (k+1) k st' F vst wr) (hk:k<J.length) {x:Int} (hx:x=(numC c st' J[k].to:Int)) :
  LeK m c N mb i BL rs acs vE vA gv J t st (.slice (some ⟨gl,0,none⟩) J.length cc) w1 (k+1) (k+1) st' F vst (wr.setCell ⟨gl,k*3+2,none⟩ (.int .i64 x)):=by
 subst hx;have hrow:wr.ownsRow _ _ _ _ _ _:=h.row;have hgl:=(hrow.lt gl rfl).1;have hl:=ren_len (numC c st') J k (Nat.le_of_lt hk);obtain ⟨hk2,hat⟩:=ren_at (numC c st') J k hk;refine ⟨h.le.rowSet (g:=gl) rfl rfl (own_type hrow gl rfl) _ h.le.le,?_,h.pre,h.bl.setCell (p:=⟨gl,k*3+2,none⟩) (Nat.le_trans h.hB hgl) _,h.hB⟩;have h1:=h.row;rw[<-ren_set _ _ _ hk];have h2:OR 195 3 edC BL (.slice (some ⟨gl,0,none⟩) (renE (numC c st') (J.take k)++J.drop k).length cc) (renE (numC c st') (J.take k)++J.drop k) wr:=by rw[hl];exact h1
 have h3:=h2.setAt edC_E k 2 hk2 (by decide) ⟨J[k].lo,J[k].hi,numC c st' J[k].to⟩ (.int .i64 (numC c st' J[k].to:Int)) (by rw[hat];rfl)
 rw[hl]at h3;exact h3
theorem LeK.cells {gl cc:Nat} (h:LeK m c N mb i BL rs acs vE vA gv J t st (.slice (some ⟨gl,0,none⟩) J.length cc) w1 kp k st' F vst wr) (hk:k<J.length) :
  (wr.cell? ⟨gl,k*3,none⟩=some (.int .u8 (J[k].lo:Int))/\wr.cell? ⟨gl,k*3+1,none⟩=some (.int .u8 (J[k].hi:Int))/\wr.cell? ⟨gl,k*3+2,none⟩=some (.int .i64 (J[k].to:Int)))/\wr.frozen? ⟨gl,k*3+2,none⟩=false/\gl<wr.heap.size:=by
 obtain ⟨hk2,hat⟩:=ren_at (numC c st') J k hk;obtain ⟨A,c',e,-,hor⟩:=h.row.cells edC_E;obtain ⟨g',hA,-,hg,hcc⟩:=hor.resolve_left (by intro e2;rw[e2]at hk2;cases hk2)
 injection e with e1 _ _;rw[hA]at e1;injection e1 with e1;injection e1 with e1;subst e1;have h0:=(hcc k hk2 0 (by decide)).1
 have h1:=(hcc k hk2 1 (by decide)).1
 obtain ⟨h2,f2⟩:=hcc k hk2 2 (by decide)
 rw[hat]at h0 h1 h2;exact ⟨⟨h0,h1,h2⟩,f2,hg⟩
theorem LeS.begin {lv:Value} {w':World} {vst:Value} (h:LeS m c w1.heap.size N mb i [] rs acs vE vA gv [] t st F vst wr) (hb:Below wr.heap.size wr w') (hbl:Below w1.heap.size w1 wr) (ho:OR 195 3 edC wr.heap.size lv J w'):LeK m c N mb i wr.heap.size rs acs vE vA gv J t st lv w1 0 0 st F vst w':=
 ⟨h.rowIn hb lv λg hg=>(World.ownsRow.lt ho g hg).1,by simpa [renE] using ho,⟨[],by simp⟩,hbl.trans (hb.mono hbl.size),hbl.size⟩
end
end Go.Proofs.YtdmoogjddmdmbaaGreatDoor
namespace Go.Proofs.YtdmoogjddmdmbaaGreatDoor
set_option linter.unusedVariables false
set_option linter.unusedSimpArgs false
set_option maxRecDepth 100000
open Go.RowKit
theorem EdIn.rows {w:World} {v:Value} {l:List Ed} (h:EdIn w v l):RowsV 3 w v (l.map edC):=by
 obtain ⟨A,c,rfl,hc,h⟩:=h;refine ⟨A,c,by simp,by simpa using hc,?_⟩
 rcases h with rfl | ⟨g,f,h1,h2,h3⟩
 .exact .inl rfl
 .refine .inr ⟨g,f,h1,h2,λi hi=>?_⟩;have hi':i<l.length:=by simpa using hi
  obtain ⟨q1,q2,q3⟩:=h3 i hi';refine ⟨by simp[edC],λj hj=>?_⟩
  match j,hj with
  | 0,_=>rw[Nat.add_zero,q1];simp[edC]
  | 1,_=>rw[q2];simp[edC]
  | 2,_=>rw[q3];simp[edC]
theorem alk_any (e:Ed) (bx go n c:Nat) (b:Bool) (w:World) (h0:w.cell? ⟨bx,0,none⟩=some (.slice (some ⟨go,0,none⟩) n c)) (h1:w.cell? ⟨go,e.to,none⟩=some (.bool b)) (hn:e.to<n) :
  Calls Tryz.prog 217 #[.agg (edC e).toArray, .pointer (some ⟨bx,0,none⟩)] w λe' w'=>e' = .returned (.bool b)/\Below w.heap.size w w':=by
 have hlt:∀{g j:Nat} {v:Value},w.cell? ⟨g,j,none⟩=some v->g<w.heap.size:=λ{g j v} h=>by
  by_cases hg:g<w.heap.size
  .exact hg
  .simp[World.cell?,Array.getElem?_eq_none (Nat.le_of_not_lt hg)]at h
 have hbs:=hlt h0;have hgs:=hlt h1;have hne:bx≠w.heap.size:=by omega
 have hne2:go≠w.heap.size:=by omega
 obtain ⟨lo,hi,tq⟩:=e;simp only at h1 hn;have hd:decide (tq<n)=true:=decide_eq_true hn;have hB:Below w.heap.size w (w.alloc (.cells #[.int .u8 (lo:Int), .int .u8 (hi:Int), .int .i64 (tq:Int)] 195)):=(Below.refl _ _).alloc (Nat.le_refl _) _;have HB:=Lib.hid hB;clear hB hlt;show Calls Tryz.prog _ #[.agg #[.int .u8 (lo:Int), .int .u8 (hi:Int), .int .i64 (tq:Int)],_] w _
 go_enter Tryz.func217,Tryz.ntmps217
 go_wp2_with fail;go_ret;exact ⟨rfl,HB.out⟩
theorem callAlk (args:Array Value) (w:World):(callFunc 217 args).run Tryz.prog w = .ok (.enter 217 args) w:=by rfl
def cfO:List Bool->Nat
 | []=>0
 | b::r=>(if b=true then 0 else 1)+cfO r
theorem cfO_set:∀(o:List Bool) (i:Nat),o[i]?=some false->cfO (o.set i true)+1=cfO o
 | b::r,0,h=>by
  simp at h;subst h;simp[cfO];omega
 | b::r,i+1,h=>by
  have:=cfO_set r i (by simpa using h)
  rw[List.set_cons_succ,cfO,cfO];omega
structure AlI (m:Mc) (o:List Bool):Prop where
 len:o.length=m.ed.length
 acc:∀s,s<m.ed.length->(m.ac[s]?).getD false=true->o[s]?=some true
 snd:∀s,o[s]?=some true->LiveS m s
def ClosO (m:Mc) (o:List Bool) (j:Nat):Prop:=∀s,j<=s->o[s]?=some false->∀e∈rowM m s,o[e.to]?=some false
theorem AlI.start {m:Mc} (hv:Vld m):AlI m m.ac:=⟨hv.len,λs hs h=>by
 have hl:s<m.ac.length:=by rw[hv.len];exact hs
 rw[List.getElem?_eq_getElem hl]at h|-;simpa using h,λs h=>live_acc (by rw[h];rfl)⟩
theorem AlI.set {m:Mc} {o:List Bool} (hv:Vld m) (h:AlI m o) {s:Nat} {e:Ed} (he:e∈rowM m s) (ho:o[e.to]?=some true):AlI m (o.set s true):=by
 refine ⟨by rw[List.length_set];exact h.len,λt ht ha=>?_,λt ht=>?_⟩
 .rw[List.getElem?_set]
  split
  .next hst=>
   subst hst;rw[if_pos (by rw[h.len];exact ht)]
  .exact h.acc t ht ha
 .rw[List.getElem?_set]at ht
  split at ht
  .next hst=>subst hst;exact live_edge hv he (h.snd _ ho)
  .exact h.snd t ht
theorem AlI.done {m:Mc} {o:List Bool} (hv:Vld m) (h:AlI m o) (hc:ClosO m o 0):∀s,s<m.ed.length->(o[s]?=some true↔LiveS m s):=λs hs=>by
 refine ⟨h.snd s,λhl=>?_⟩;have hst:∀t,t<m.ed.length->(o[t]?).getD false=false->∀e∈rowM m t,(o[e.to]?).getD false=false:=λt ht hf e he=>by
  have hl':t<o.length:=by rw[h.len];exact ht
  have h1:=hc t (Nat.zero_le _) (by rw[List.getElem?_eq_getElem hl']at hf|-;simpa using hf) e he
  rw[h1];rfl
 have:=live_all hv (out:=λs=>(o[s]?).getD false) (λt ht ha=>by rw[h.acc t ht ha];rfl) hst hs hl
 cases hx:o[s]? with
 | none=>rw[hx]at this;cases this
 | some b=>rw[hx]at this;simp at this;rw[this]
structure AlR (W:World) (B go n c:Nat) (o:List Bool) (wr:World):Prop where
 own:OR 4 1 bC B (.slice (some ⟨go,0,none⟩) n c) o wr
 kf:KeepF [go] [go] W wr
theorem AlR.cell {W:World} {B go n c:Nat} {o:List Bool} {wr:World} (h:AlR W B go n c o wr) {s:Nat} {b:Bool} (hs:o[s]?=some b):wr.cell? ⟨go,s,none⟩=some (.bool b)/\wr.frozen? ⟨go,s,none⟩=false/\go<wr.heap.size:=by
 obtain ⟨A,c',e,-,hor⟩:=h.own.cells bC_E;obtain ⟨hsl,hse⟩:=List.getElem?_eq_some_iff.1 hs;obtain ⟨g,hA,-,hg,hcc⟩:=hor.resolve_left (by rintro rfl;cases hsl)
 injection e with e1 _ _;rw[hA]at e1;injection e1 with e1;injection e1 with e1;subst e1;have:=hcc s hsl 0 (by decide)
 rw[Nat.mul_one,Nat.add_zero,hse]at this;exact ⟨this.1,this.2,hg⟩
theorem AlR.set {W:World} {B go n c:Nat} {o:List Bool} {wr:World} (h:AlR W B go n c o wr) (hn:o.length=n) (s:Nat):AlR W B go n c (o.set s true) (wr.setCell ⟨go,s,none⟩ (.bool true)):=by
 have hrow:∀o:List Bool,rowF bC o=o.map Value.bool:=λo=>by
  unfold rowF
  induction o with
  | nil=>rfl
  | cons b r ih=>simp only[List.map_cons,List.flatten_cons,ih];rfl
 refine ⟨?_,?_⟩
 .have h1:wr.ownsRow B 4 1 (.slice (some ⟨go,0,none⟩) n c) n (rowF bC o):=by have:=h.own;unfold OR at this;rwa [hn]at this
  have h2:=(h1.stored s (.bool true)).1;show World.ownsRow _ _ _ _ _ _ _;rw[List.length_set,hn,hrow,List.map_set];rw[hrow]at h2;exact h2
 .exact h.kf.trans ⟨rfl,rfl,rfl,by simp[World.setCell],λk _ hn=>Below.heap_setCell _ _ _ _ (λe=>hn (by simp[show k=go from e])),λk hk=>.inl hk⟩
theorem AlR.later {W:World} {B go n c:Nat} {o:List Bool} {wr w':World} (h:AlR W B go n c o wr) (hb:Below wr.heap.size wr w'):AlR W B go n c o w':=⟨h.own.later hb,h.kf.trans (KeepF.of_below hb)⟩
def AlPost (m:Mc) (n:Nat) (w:World) (e:Ending) (w':World):Prop:=∃rv o,e = .returned rv/\OR 4 1 bC w.heap.size rv o w'/\Below w.heap.size w w'/\o.length=n/\∀s,s<n->(o[s]?=some true↔LiveS m s)
set_option maxHeartbeats 8000000 in
theorem alive_any (v:Value) (m:Mc) (w:World) (hm:McIn w v m) (hv:Vld m) (hsm:McSm m) (h1:1<=m.ed.length) :
  Calls Tryz.prog 194 #[v] w (AlPost m m.ed.length w):=by
 obtain ⟨ve,va,rfl,he,ha⟩:=hm;obtain ⟨Ae,ce,rfl,hce1,hce2⟩:=he.form;obtain ⟨Aa,ca,rfl,hca1,hca2⟩:=ha.form;obtain ⟨n,hn⟩:∃n,m.ed.length=n:=⟨_,rfl⟩;have hac:m.ac.length=n:=by rw[hv.len,hn]
 have hnn:=hsm.n;have hcl:=λW (h:Below w.heap.size w W)=>clone_bool _ m.ac W (ha.later h) (by rw[hac];omega)
 rw[hac]at hcl ha hca1;rw[hn]at he hce1 h1 hnn;have HCL:=Lib.hid hcl;have HE:=Lib.hid he;have HV:=Lib.hid hv;have HSM:=Lib.hid hsm;have HN:=Lib.hid (And.intro hn hac);have HAI:=Lib.hid (AlI.start hv);rw[hac,hn];clear hcl he ha hv hsm hn hac
 go_enter Tryz.func194,Tryz.ntmps194
 have hB0:=(Below.refl w.heap.size w).alloc (Nat.le_refl _) (.cells #[.slice Ae n ce, .slice Aa n ca] 93);have HB0:=Lib.hid hB0;clear hB0;go_wp2_with fail;refine (HCL.out _ HB0.out).mono ?_;rintro e w1 ⟨rv,rfl,hown1,hb1⟩;obtain ⟨A1,c1,e1,hc1,hor⟩:=hown1.cells bC_E;obtain ⟨go,hgo,hgoB,hgol,-⟩:=hor.resolve_left (by intro e;have:=HN.out.2;rw[e]at this;simp at this;omega)
 subst hgo;rw[HN.out.2]at e1;subst e1;have hN1:w1.heap[w.heap.size]?=some (.cells #[.slice Ae n ce, .slice Aa n ca] 93 (0,0)):=(hb1.block _ (by simp)).trans (heap_alloc_new w _)
 have hz1:w.heap.size+1<=w1.heap.size:=by have:=hb1.size;simpa using this
 have HO1:=Lib.hid hown1;have HN1:=Lib.hid hN1;have HB1:=Lib.hid (HB0.out.trans (hb1.mono (by simp)))
 clear hown1 hN1 hb1 hor hc1;go_wp2_with fail;refine wp_named λW hW=>?_;have hbW:Below w1.heap.size w1 W:=by rw[hW];exact (Below.refl _ _).alloc (Nat.le_refl _) _
 have hzW:W.heap.size=w1.heap.size+1:=by rw[hW];simp
 have hrW:W.heap[w1.heap.size]?=some (.cells #[.slice (some ⟨go,0,none⟩) n c1] 70 (0,0)):=by rw[hW];exact heap_alloc_new w1 _
 have hnW:=(hbW.block w.heap.size (by omega)).trans HN1.out
 have hR0:AlR W (w.heap.size+1) go n c1 m.ac W:=⟨HO1.out.later hbW |>.mono (by simp),KeepF.refl _ _⟩
 have hgB:w.heap.size+1<=go:=by simpa using hgoB
 have hgoW:go<W.heap.size:=by omega
 have hne1:w.heap.size≠go:=by omega
 have hne2:w1.heap.size≠go:=by omega
 have hcW:∀wr,KeepF [go] [go] W wr->wr.heap[w.heap.size]?=some (.cells #[.slice Ae n ce, .slice Aa n ca] 93 (0,0))/\wr.heap[w1.heap.size]?=some (.cells #[.slice (some ⟨go,0,none⟩) n c1] 70 (0,0))/\Below w.heap.size w wr:=λwr h=>by
  refine ⟨(h.blk _ (by omega) (by simpa using hne1)).trans hnW,(h.blk _ (by omega) (by simpa using hne2)).trans hrW,?_⟩
  exact (HB1.out.trans (hbW.mono (by omega))).trans (h.below (λk hk=>by rw[List.mem_singleton]at hk;omega) (by omega))
 have HCW:=Lib.hid hcW;have HR0:=Lib.hid hR0;have hbx:w1.heap.size<W.heap.size:=by omega
 have hbn:w.heap.size<W.heap.size:=by omega
 clear hW hbW hrW hnW hR0 hcW;go_wp2_with fail
 go_loopg [4] (cfO m.ac+2) (λq cv wr=>∃(ch:Bool) (o:List Bool),cv = .bool ch/\cfO o+(if ch=true then 1 else 0)<q/\Hid (AlR W (w.heap.size+1) go n c1 o wr)/\Hid (AlI m o/\(ch=false->ClosO m o 0)))
 case atStart=>exact ⟨true,m.ac,rfl,by simp,HR0,HAI.out,λh=>by cases h⟩
 case round=>
  obtain ⟨ch,o,rfl,hq,HR,HI⟩:=hrel;obtain ⟨hwN,hwX,hwb⟩:=HCW.out wr HR.out.kf;obtain ⟨x0,x1⟩:wr.cell? ⟨w.heap.size,0,none⟩=some (.slice Ae n ce)/\wr.cell? ⟨w.heap.size,1,none⟩=some (.slice Aa n ca):=by
   constructor <;> (rw[cell_of_row _ _ _ _ _ _ hwN]; rfl)
  have y0:wr.cell? ⟨w1.heap.size,0,none⟩=some (.slice (some ⟨go,0,none⟩) n c1):=by rw[cell_of_row _ _ _ _ _ _ hwX];rfl
  have hwz:=HR.out.kf.size;have hbn2:w.heap.size<wr.heap.size:=by omega
  have hbx2:w1.heap.size<wr.heap.size:=by omega
  have HWB:=Lib.hid hwb;clear hwN hwX hwb
  cases ch with
  | false=>
   go_wp2_with fail;refine post_named λWf hWf=>?_;subst hWf;refine bodyPost_ret (v:=.slice (some ⟨go,0,none⟩) n c1) (by simp[results,Tryz.results194,go_sem];try rfl) rfl ?_
   have hd:=HI.out.1.done HV.out (HI.out.2 trivial);rw[HN.out.1]at hd;exact ⟨_,o,rfl,HR.out.own.mono (by omega),HWB.out,by rw[HI.out.1.len,HN.out.1],hd⟩
  | true=>
   have hw1:IntKind.i64.wrap ((n:Int) - 1)=(n:Int) - 1:=IntWalk.i64_in _ (by omega)
   go_wp2_with fail;obtain ⟨WO,rfl⟩:∃W:World,W=wr:=⟨_,rfl⟩
   go_loopg [5,4] n (λj iv cv wr=>∃(x:Int) (ch:Bool) (o2:List Bool),j<=n/\x=(j:Int) - 1/\iv = .int .i64 x/\cv = .bool ch/\Hid (AlR W (w.heap.size+1) go n c1 o2 wr)/\Hid (AlI m o2/\(ch=false->o2=o/\ClosO m o j)/\(ch=true->cfO o2<cfO o)))
   case atStart=>exact ⟨_,false,o,Nat.le_refl _,rfl,rfl,rfl,HR,HI.out.1,λ_=>⟨rfl,λs hs ho=>by have:=(List.getElem?_eq_some_iff.1 ho).1;have:=HI.out.1.len;have:=HN.out.1;omega⟩,λh=>by cases h⟩
   case round=>
    obtain ⟨x,ch,o2,hj,hx,rfl,rfl,HR2,HI2⟩:=hrel;obtain ⟨hwN,hwX,hwb⟩:=HCW.out wr HR2.out.kf;obtain ⟨z0,z1⟩:wr.cell? ⟨w.heap.size,0,none⟩=some (.slice Ae n ce)/\wr.cell? ⟨w.heap.size,1,none⟩=some (.slice Aa n ca):=by
     constructor <;> (rw[cell_of_row _ _ _ _ _ _ hwN]; rfl)
    have t0:wr.cell? ⟨w1.heap.size,0,none⟩=some (.slice (some ⟨go,0,none⟩) n c1):=by rw[cell_of_row _ _ _ _ _ _ hwX];rfl
    have hwz2:=HR2.out.kf.size;have hbn3:w.heap.size<wr.heap.size:=by omega
    have hbx3:w1.heap.size<wr.heap.size:=by omega
    have hgo3:go<wr.heap.size:=by omega
    have HWB2:=Lib.hid hwb;clear hwN hwX hwb
    cases gk with
    | zero=>
     have hd0:decide ((0:Int)<=x)=false:=decide_eq_false (by omega)
     clear hx;go_wp2_with fail
     go_roundg (cfO o2+(if ch=true then 1 else 0)+1)
     case measure=>
      obtain ⟨h1,h2⟩:=HI2.out.2
      cases ch with
      | false=>rw[(h1 rfl).1];simp at hq|-;omega
      | true=>have:=h2 rfl;simp at hq|-;omega
     case rel=>exact ⟨ch,o2,rfl,Nat.lt_succ_self _,HR2,HI2.out.1,λh=>by obtain ⟨h1,h2⟩:=HI2.out.2.1 h;rw[h1];exact h2⟩
    | succ s=>
     obtain rfl:x=(s:Int):=by omega
     have hd0:decide ((0:Int)<=(s:Int))=true:=decide_eq_true (by omega)
     have hsn:s<n:=by omega
     have hdn:decide (s<n)=true:=decide_eq_true hsn;have hos:s<o2.length:=by rw[HI2.out.1.len,HN.out.1];exact hsn
     obtain ⟨q,hq0⟩:∃q,o2[s]?=some q:=⟨_,List.getElem?_eq_getElem hos⟩;obtain ⟨r1,r2,-⟩:=HR2.out.cell hq0;have hw2:IntKind.i64.wrap ((s:Int) - 1)=(s:Int) - 1:=IntWalk.i64_in _ (by omega)
     have HQ:=Lib.hid hq0;clear hx hq0 hos
     cases q with
     | true=>
      go_wp2_with fail
      go_roundg s
      case measure=>omega
      case rel=>exact ⟨_,ch,o2,by omega,rfl,rfl,rfl,HR2,HI2.out.1,λh=>⟨(HI2.out.2.1 h).1,λt ht ho=>by
       by_cases hts:t=s
       .subst hts;have:=HQ.out;rw[(HI2.out.2.1 h).1,ho]at this;cases this
       .exact (HI2.out.2.1 h).2 t (by omega) ho⟩,HI2.out.2.2⟩
     | false=>
      have hel:=HE.out.later ((Below.refl w.heap.size w));have hsl:s<m.ed.length:=by rw[HN.out.1];exact hsn
      obtain ⟨g,f,rv,rfl,-,hg,hcE,hed⟩:=HE.out.at_ hsl;have hed2:=hed.later HWB2.out;have hcE2:=(World.cell?_of_block (a:=⟨g,f+s,none⟩) (HWB2.out.block g hg)).trans hcE;have hgr:g<wr.heap.size:=by omega
      obtain ⟨row,hrow⟩:∃r,m.ed[s]=r:=⟨_,rfl⟩;have hrm:rowM m s=row:=by unfold rowM;rw[List.getElem?_eq_getElem hsl,hrow];rfl
      rw[hrow]at hed2;have hto:∀e∈row,e.to<n:=λe he=>by rw[<-HN.out.1];exact HV.out.to _ (by rw[<-hrow];exact List.getElem_mem hsl) e he
      have hask:AskR 217 #[.pointer (some ⟨w1.heap.size,0,none⟩)] (row.map edC) (row.map λe=>(o2[e.to]?).getD false) wr:=by
       refine ⟨callAlk,by simp,λi hi b hb w' hw'=>?_⟩
       have hi':i<row.length:=by simpa using hi
       have ht:=hto row[i] (List.getElem_mem hi');rw[List.getElem?_map,List.getElem?_eq_getElem hi']at hb;simp only[Option.map_some,Option.some.injEq]at hb;have hol:row[i].to<o2.length:=by rw[HI2.out.1.len,HN.out.1];exact ht
       rw[List.getElem?_eq_getElem hol]at hb;simp only[Option.getD_some]at hb;have hc:=(HR2.out.cell (s:=row[i].to) (b:=b) (by rw[List.getElem?_eq_getElem hol,hb])).1
       have:=alk_any row[i] w1.heap.size go n c1 b w' ((hw'.cell (p:=⟨w1.heap.size,0,none⟩) hbx3).trans t0) ((hw'.cell (p:=⟨go,row[i].to,none⟩) hgo3).trans hc) ht;simpa using this
      have hany:anyP (row.map λe=>(o2[e.to]?).getD false)=row.any λe=>(o2[e.to]?).getD false:=anyP_map _ row;have hcon:=containsE 217 #[.pointer (some ⟨w1.heap.size,0,none⟩)] _ _ rv wr hed2.rows hask;obtain ⟨q,hqq⟩:∃q,(row.any λe=>(o2[e.to]?).getD false)=q:=⟨_,rfl⟩;rw[hany,hqq]at hcon;have HC:=Lib.hid hcon;have HQQ:=Lib.hid hqq;have HRM:=Lib.hid (And.intro hrm hto);obtain ⟨Ar,cr,hrf,-⟩:=hed2.form;obtain ⟨nr,hnr⟩:∃n,row.length=n:=⟨_,rfl⟩;rw[hnr]at hrf;subst hrf;clear hel hsl hcE hed hed2 hrow hrm hto hask hany hcon hqq hnr;go_wp2_with fail;refine HC.out.mono ?_;rintro e w5 ⟨rfl,hb5⟩;have hR5:=HR2.out.later hb5;have HR5:=Lib.hid hR5;have hw5:=hb5.size
      cases q with
      | false=>
       clear hR5 hb5;go_wp2_with fail
       go_roundg s
       case measure=>omega
       case rel=>exact ⟨_,ch,o2,by omega,rfl,rfl,rfl,HR5,HI2.out.1,λh=>⟨(HI2.out.2.1 h).1,λt ht ho=>by
        by_cases hts:t=s
        .subst hts;rw[HRM.out.1];intro e he;have h1:=List.any_eq_false.1 HQQ.out e he;have h2:=HRM.out.2 e he;have h3:=(HI2.out.2.1 h).1;have hol:e.to<o2.length:=by rw[HI2.out.1.len,HN.out.1];exact h2
         rw[<-h3,List.getElem?_eq_getElem hol];rw[List.getElem?_eq_getElem hol]at h1;simpa using h1
        .exact (HI2.out.2.1 h).2 t (by omega) ho⟩,HI2.out.2.2⟩
      | true=>
       obtain ⟨u1,u2,u3⟩:=hR5.cell HQ.out;obtain ⟨hwX,-⟩:=(HCW.out w5 hR5.kf).2;have u0:w5.cell? ⟨w1.heap.size,0,none⟩=some (.slice (some ⟨go,0,none⟩) n c1):=by rw[cell_of_row _ _ _ _ _ _ hwX];rfl
       have hbx5:w1.heap.size<w5.heap.size:=by omega
       have hset:=hR5.set (by rw[HI2.out.1.len,HN.out.1]) s
       have HS:=Lib.hid hset;have HA:Hid (AlI m (o2.set s true)):=by
        obtain ⟨e,he,h1⟩:=List.any_eq_true.1 HQQ.out;have hol:e.to<o2.length:=by rw[HI2.out.1.len,HN.out.1];exact HRM.out.2 e he
        rw[List.getElem?_eq_getElem hol]at h1;exact HI2.out.1.set HV.out (by rw[HRM.out.1];exact he) (by rw[List.getElem?_eq_getElem hol];simpa using h1)
       have hcf:=cfO_set o2 s HQ.out;have HCF:=Lib.hid hcf;clear hR5 hb5 hwX hset hcf;go_wp2_with fail
       go_roundg s
       case measure=>omega
       case rel=>
        refine ⟨_,true,o2.set s true,by omega,rfl,rfl,rfl,HS,HA,λh=>(by cases h),λ_=>?_⟩
        have h9:=HCF.out
        cases ch with
        | false=>have:=(HI2.out.2.1 rfl).1;subst this;omega
        | true=>have:=HI2.out.2.2 rfl;omega
def cmpE (e:Ed) (c:Nat):Int:=if e.hi<c then -1 else if c<e.lo then 1 else 0
theorem sort_hi:∀{r:List Ed} {b:Nat},SortE b r->∀i j (hi:i<r.length) (hj:j<r.length),i<=j->b<=r[i].hi/\r[i].hi<=r[j].hi
 | e::r,b,⟨h1,h2,h3⟩,0,0,_,_,_=>⟨by show b<=e.hi;omega,Nat.le_refl _⟩
 | e::r,b,⟨h1,h2,h3⟩,0,j+1,_,hj,_=>by
  obtain ⟨q1,-⟩:=sort_hi h3 j j (by simpa using hj) (by simpa using hj) (Nat.le_refl _)
  refine ⟨by show b<=e.hi;omega,?_⟩
  show e.hi<=(e::r)[j+1].hi;rw[List.getElem_cons_succ];omega
 | e::r,b,⟨h1,h2,h3⟩,i+1,j+1,hi,hj,hij=>by
  obtain ⟨q1,q2⟩:=sort_hi h3 i j (by simpa using hi) (by simpa using hj) (by omega)
  refine ⟨?_,?_⟩
  .rw[List.getElem_cons_succ];omega
  .rw[List.getElem_cons_succ,List.getElem_cons_succ];exact q2
theorem trn_at:∀{r:List Ed} {b c:Nat} (k:Nat),SortE b r->(∀t (h:t<r.length),t<k->r[t].hi<c)->(∀(h:k<r.length),c<=r[k].hi)->k<=r.length->trn r c=(r[k]?).bind λe=>if e.lo<=c then some e.to else none
 | [],b,c,k,_,_,_,hk=>by
  obtain rfl:k=0:=by simpa using hk
  rfl
 | e::r,b,c,0,⟨h1,h2,h3⟩,_,hu,_=>by
  have:=hu (by simp)
  rw[List.getElem_cons_zero]at this;rw[trn];simp only[List.getElem?_cons_zero,Option.bind_some];by_cases h:e.lo<=c
  .rw[if_pos ⟨h,this⟩,if_pos h]
  .rw[if_neg (λq=>h q.1),if_neg h];exact trn_low h3 (by omega)
 | e::r,b,c,k+1,⟨h1,h2,h3⟩,hl,hu,hk=>by
  have:=hl 0 (by simp) (by omega)
  rw[List.getElem_cons_zero]at this;rw[trn,if_neg (by omega),List.getElem?_cons_succ]
  exact trn_at k h3 (λt h ht=>by have:=hl (t+1) (by simpa using h) (by omega);rwa [List.getElem_cons_succ]at this) (λh=>by have:=hu (by simpa using h);rwa [List.getElem_cons_succ]at this) (by simpa using hk)
theorem nx1_any (e:Ed) (c:Nat) (w:World):Calls Tryz.prog 151 #[.agg (edC e).toArray, .int .u8 (c:Int)] w λe' w'=>e' = .returned (.int .i64 (cmpE e c))/\Below w.heap.size w w':=by
 obtain ⟨lo,hi,tq⟩:=e;have hB:Below w.heap.size w (w.alloc (.cells #[.int .u8 (lo:Int), .int .u8 (hi:Int), .int .i64 (tq:Int)] 195)):=(Below.refl _ _).alloc (Nat.le_refl _) _;have HB:=Lib.hid hB;clear hB;show Calls Tryz.prog _ #[.agg #[.int .u8 (lo:Int), .int .u8 (hi:Int), .int .i64 (tq:Int)],_] w _;have HV:=Lib.hid (show cmpE ⟨lo,hi,tq⟩ c=if hi<c then -1 else if c<lo then 1 else 0 from rfl);by_cases h1:hi<c
 .have hd:decide ((hi:Int)<(c:Int))=true:=decide_eq_true (by omega)
  go_enter Tryz.func151,Tryz.ntmps151
  go_wp2_with fail;go_ret;exact ⟨ret_int (by rw[HV.out,if_pos h1]),HB.out⟩
 .have hd:decide ((hi:Int)<(c:Int))=false:=decide_eq_false (by omega)
  by_cases h2:c<lo
  .have hd2:decide ((c:Int)<(lo:Int))=true:=decide_eq_true (by omega)
   go_enter Tryz.func151,Tryz.ntmps151
   go_wp2_with fail;go_ret;exact ⟨ret_int (by rw[HV.out,if_neg h1,if_pos h2]),HB.out⟩
  .have hd2:decide ((c:Int)<(lo:Int))=false:=decide_eq_false (by omega)
   go_enter Tryz.func151,Tryz.ntmps151
   go_wp2_with fail;go_ret;exact ⟨ret_int (by rw[HV.out,if_neg h1,if_neg h2]),HB.out⟩
end Go.Proofs.YtdmoogjddmdmbaaGreatDoor
namespace Go.Proofs.YtdmoogjddmdmbaaGreatDoor
set_option linter.unusedVariables false
set_option linter.unusedSimpArgs false
set_option maxRecDepth 100000
structure OwI (n:Nat) (p:List Ed) (a:Nat):Prop where
 srt:SortE 0 p
 top:∀e∈p,e.hi<a/\e.lo<256/\e.hi<256/\e.to<n
 a:a<=256
theorem leOK_vld {m m':Mc} (h:LeOK m m'):Vld m'/\1<=m'.ed.length:=by
 rcases h.1 with ⟨hl,hc,he⟩ | ⟨-,rfl⟩
 .refine ⟨⟨hc.len,hc.srt,hc.to⟩,?_⟩;rcases Nat.eq_zero_or_pos m'.ed.length with h0 | h0
  .exfalso;obtain ⟨w,hw⟩:=hl;rw[<-he]at hw;have e1:m'.ed=[]:=List.length_eq_zero_iff.1 h0;have e2:m'.ac=[]:=List.length_eq_zero_iff.1 (by rw[hc.len,h0])
   cases w with
   | nil=>simp[acF,e2]at hw
   | cons c w=>simp[acF,rowM,e1,trn]at hw
  .exact h0
 .exact ⟨⟨rfl,λr hr=>by simp at hr;subst hr;trivial,λr hr e he=>by simp at hr;subst hr;cases he⟩,Nat.le_refl _⟩
end Go.Proofs.YtdmoogjddmdmbaaGreatDoor
