/- Walks. -/
import Derived.Test.YtdmoogjddmdmbaaGreatDoorV14
import Derived.Test.YtdmoogjddmdmbaaGreatDoorV15
import Derived.Test.YtdmoogjddmdmbaaGreatDoorV04
import Derived.Test.YtdmoogjddmdmbaaGreatDoorV12
import Derived.Test.YtdmoogjddmdmbaaGreatDoorV05
import Derived.Test.YtdmoogjddmdmbaaGreatDoorV07
import Derived.Test.YtdmoogjddmdmbaaGreatDoorV13
import Derived.Test.YtdmoogjddmdmbaaGreatDoorV02
import Derived.Laws.MakeOwn
import Derived.Shelf.Slices.Turned
import Derived.Deep.LoopGhost
set_option maxRecDepth 100000
set_option maxHeartbeats 16000000
set_option linter.unusedVariables false
set_option linter.unusedSimpArgs false
namespace Go.Proofs.YtdmoogjddmdmbaaGreatDoor
open Go.RowKit
section
set_option linter.unusedVariables false
set_option linter.unusedSimpArgs false
open Go.RowKit
def SL (w:World) (v:Value) (l:List Nat):Prop:=∃A c,v = .slice A l.length c/\(l.length<=c/\c<=9223372036854775807)/\(l=[]\/∃g f,A=some ⟨g,f,none⟩/\g<w.heap.size/\∀i (h:i<l.length),w.cell? ⟨g,f+i,none⟩=some (.int .i64 (l[i]:Int)))
theorem SL.fS {w:World} {B:Nat} {v:Value} {l:List Nat} {n:Nat} (h:w.ownsRow B 3 1 v n (bG l)):SL w v l:=by
 have hl:l.length=n:=by have:=h.1;rw[iL,Nat.mul_one]at this;exact this
 rcases h.2 with ⟨h1,h2⟩ | ⟨g,cap,cur,h1,-,hg,hle,hm,hcs,ht⟩
 .subst h1;exact ⟨none,0,by rw[hl,h2],⟨by omega,by decide⟩, .inl (List.length_eq_zero_iff.1 (by omega))⟩
 .subst h1;refine ⟨_,cap,by rw[hl],⟨by omega,by unfold maxLen at hm;omega⟩, .inr ⟨g,0,rfl,(Array.getElem?_eq_some_iff.1 hg).1,λi hi=>?_⟩⟩
  have:=h.cellAt i (by rw[<-hl,Nat.mul_one];exact hi)
  rw[Nat.zero_add,this];simp[bG,hi]
theorem SL.keep {fp fp':List Nat} {w w':World} {v:Value} {l:List Nat} (h:SL w v l) (ho:aG fp v) (hk:ah fp fp' w w'):SL w' v l:=by
 obtain ⟨A,c,rfl,hc,h⟩:=h;refine ⟨A,c,rfl,hc,h.imp id ?_⟩;rintro ⟨g,f,rfl,hg,hcell⟩;refine ⟨g,f,rfl,Nat.lt_of_lt_of_le hg hk.size,λi hi=>?_⟩;rw[<-hcell i hi];exact World.cell?_of_block (a:=⟨g,f+i,none⟩) (hk.blk g hg (ho g rfl))
theorem SL.form {w:World} {v:Value} {l:List Nat} (h:SL w v l):∃A c,v = .slice A l.length c/\(l.length<=c/\c<=9223372036854775807):=by
 obtain ⟨A,c,e,hc,-⟩:=h;exact ⟨A,c,e,hc⟩
def nU (w0:World) (fp:List Nat) (w:World) (v:Value) (sets:List (List (Nat×Nat))):Prop:=∃A c,v = .slice A sets.length c/\(sets.length<=c/\c<=9223372036854775807)/\(sets=[]\/∃g,A=some ⟨g,0,none⟩/\g<w.heap.size/\g∉fp/\∀i (h:i<sets.length),∃rv,w.cell? ⟨g,i,none⟩=some rv/\oB w0 rv sets[i])
theorem nU.keep {w0:World} {fp fp':List Nat} {w w':World} {v:Value} {sets:List (List (Nat×Nat))} (h:nU w0 fp w v sets) (hk:ah fp fp' w w'):nU w0 fp' w' v sets:=by
 obtain ⟨A,c,e,hc,h⟩:=h;refine ⟨A,c,e,hc,h.imp id ?_⟩;rintro ⟨g,rfl,hg,hn,hcell⟩;refine ⟨g,rfl,Nat.lt_of_lt_of_le hg hk.size,λhm=>(hk.new g hm).elim hn (λh=>by omega),λi hi=>?_⟩
 obtain ⟨rv,h1,h2⟩:=hcell i hi;exact ⟨rv,(World.cell?_of_block (a:=⟨g,i,none⟩) (hk.blk g hg hn)).trans h1,h2⟩
theorem nU.later {w0:World} {fp:List Nat} {w w':World} {v:Value} {sets:List (List (Nat×Nat))} (h:nU w0 fp w v sets) (hb:Below w.heap.size w w'):nU w0 fp w' v sets:=h.keep (ah.aa hb)
theorem nU.at_ {w0:World} {fp:List Nat} {w:World} {A:Option Addr} {n c:Nat} {sets:List (List (Nat×Nat))} (h:nU w0 fp w (.slice A n c) sets) {p:Nat} (hp:p<sets.length):∃g rv,A=some ⟨g,0,none⟩/\n=sets.length/\g<w.heap.size/\w.cell? ⟨g,p,none⟩=some rv/\oB w0 rv sets[p]:=by
 obtain ⟨A',c',e,hc,h⟩:=h;injection e with e1 e2 e3;rcases h with rfl | ⟨g,h1,hg,hn,hcell⟩
 .cases hp
 .obtain ⟨rv,h2,h3⟩:=hcell p hp;exact ⟨g,rv,e1.trans h1,e2,hg,h2,h3⟩
theorem nU.lt {w0:World} {fp:List Nat} {w:World} {v:Value} {sets:List (List (Nat×Nat))} (h:nU w0 fp w v sets):∀rs∈sets,∀r∈rs,r.1<256/\r.2<256:=by
 obtain ⟨A,c,e,hc,h⟩:=h;intro rs GX r hr;rcases h with rfl | ⟨g,h1,hg,hn,hcell⟩
 .cases GX
 .obtain ⟨i,hi,rfl⟩:=List.getElem_of_mem GX;obtain ⟨rv,-,A',c',-,-,h3⟩:=hcell i hi;rcases h3 with h3 | ⟨_,_,_,_,h3⟩
  .rw[h3]at hr;cases hr
  .obtain ⟨j,hj,rfl⟩:=List.getElem_of_mem hr;exact (h3 j hj).2
def ki (e:Ed):List Value:=[.int .u8 (e.lo:Int), .int .u8 (e.hi:Int), .int .i64 (e.to:Int)]
theorem yh:jg ki 3:=⟨by decide,λ_=>rfl,λx u hu=>by simp[ki]at hu; rcases hu with rfl | rfl | rfl <;> rfl⟩
def dR (w:World) (v:Value) (l:List Ed):Prop:=∃A c,v = .slice A l.length c/\(l.length<=c/\c<=9223372036854775807)/\(l=[]\/∃g f,A=some ⟨g,f,none⟩/\g<w.heap.size/\∀i (h:i<l.length),w.cell? ⟨g,f+i*3,none⟩=some (.int .u8 (l[i].lo:Int))/\w.cell? ⟨g,f+i*3+1,none⟩=some (.int .u8 (l[i].hi:Int))/\w.cell? ⟨g,f+i*3+2,none⟩=some (.int .i64 (l[i].to:Int)))
theorem dR.gW {w:World} {B:Nat} {v:Value} {l:List Ed} (h:OR 195 3 ki B v l w):dR w v l:=by
 have h':=h;rcases h'.2 with ⟨h1,h2⟩ | ⟨g,cap,cur,h1,-,hg,hle,hm,hcs,ht⟩
 .exact ⟨none,0,by rw[h1,h2],⟨by omega,by decide⟩, .inl (List.length_eq_zero_iff.1 h2)⟩
 .subst h1;refine ⟨_,cap,rfl,⟨hle,by unfold maxLen at hm;omega⟩, .inr ⟨g,0,rfl,(Array.getElem?_eq_some_iff.1 hg).1,λi hi=>?_⟩⟩
  obtain ⟨A,c,e,-,eA⟩:=h.cells yh;injection e with e1 e2 e3;rcases eA with eA | ⟨g',hA,-,-,hcell⟩
  .rw[eA]at hi;cases hi
  .rw[hA]at e1;injection e1 with e1;injection e1 with e1;subst e1;rw[Nat.zero_add];exact ⟨(hcell i hi 0 (by decide)).1,(hcell i hi 1 (by decide)).1,(hcell i hi 2 (by decide)).1⟩
theorem dR.keep {fp fp':List Nat} {w w':World} {v:Value} {l:List Ed} (h:dR w v l) (ho:aG fp v) (hk:ah fp fp' w w'):dR w' v l:=by
 obtain ⟨A,c,rfl,hc,h⟩:=h;refine ⟨A,c,rfl,hc,h.imp id ?_⟩;rintro ⟨g,f,rfl,hg,hcell⟩;refine ⟨g,f,rfl,Nat.lt_of_lt_of_le hg hk.size,λi hi=>?_⟩;have hb:=hk.blk g hg (ho g rfl);obtain ⟨h1,h2,h3⟩:=hcell i hi;exact ⟨(World.cell?_of_block (a:=⟨g,f+i*3,none⟩) hb).trans h1,(World.cell?_of_block (a:=⟨g,f+i*3+1,none⟩) hb).trans h2,(World.cell?_of_block (a:=⟨g,f+i*3+2,none⟩) hb).trans h3⟩
theorem dR.later {w w':World} {v:Value} {l:List Ed} (h:dR w v l) (hb:Below w.heap.size w w'):dR w' v l:=h.keep (fp:=[]) (fp':=[]) (xw v) (ah.aa hb)
theorem oL {fp fp':List Nat} {w w':World} {v:Value} (ho:aG fp v) (hlt:∀g,v.ownBlock=some g->g<w.heap.size) (hk:ah fp fp' w w'):aG fp' v:=λg hg hm=>(hk.new g hm).elim (ho g hg) λh=>by have:=hlt g hg;omega
theorem dR.form {w:World} {v:Value} {l:List Ed} (h:dR w v l):∃A c,v = .slice A l.length c/\(l.length<=c/\c<=9223372036854775807):=by
 obtain ⟨A,c,e,hc,-⟩:=h;exact ⟨A,c,e,hc⟩
end
section
set_option linter.unusedVariables false
set_option linter.unusedSimpArgs false
open Go.RowKit
def Gz:Option Nat->Int
 | none=>-1
 | some k=>(k:Int)
def bR (cs:List (Option Nat)) (s:Nat):Option Nat:=(cs[s]?).getD none
def wE (w:World) (v:Value) (cs:List (Option Nat)):Prop:=∃A c,v = .slice A cs.length c/\(cs.length<=c/\c<=9223372036854775807)/\(cs=[]\/∃g f,A=some ⟨g,f,none⟩/\g<w.heap.size/\∀i (h:i<cs.length),w.cell? ⟨g,f+i,none⟩=some (.int .i64 (Gz cs[i])))
theorem wE.later {w w':World} {v:Value} {cs:List (Option Nat)} (h:wE w v cs) (hb:Below w.heap.size w w'):wE w' v cs:=by
 obtain ⟨A,c,e,hc,h⟩:=h;refine ⟨A,c,e,hc,h.imp id ?_⟩;rintro ⟨g,f,h1,hg,h2⟩;exact ⟨g,f,h1,Nat.lt_of_lt_of_le hg hb.size,λi hi=>(hb.cell (p:=⟨g,f+i,none⟩) hg).trans (h2 i hi)⟩
theorem wE.at_ {w:World} {A:Option Addr} {n c:Nat} {cs:List (Option Nat)} (h:wE w (.slice A n c) cs) {k:Nat} (hk:k<cs.length):∃g f,A=some ⟨g,f,none⟩/\n=cs.length/\g<w.heap.size/\w.cell? ⟨g,f+k,none⟩=some (.int .i64 (Gz (bR cs k))):=by
 obtain ⟨A',c',e,hc,h⟩:=h;injection e with e1 e2 e3;rcases h with rfl | ⟨g,f,h1,hg,h2⟩
 .cases hk
 .refine ⟨g,f,e1.trans h1,e2,hg,?_⟩;rw[h2 k hk];unfold bR;rw[List.getElem?_eq_getElem hk]
  rfl
theorem dR.at_ {w:World} {A:Option Addr} {n c:Nat} {l:List Ed} (h:dR w (.slice A n c) l) {k:Nat} (hk:k<l.length):∃g f,A=some ⟨g,f,none⟩/\n=l.length/\g<w.heap.size/\(w.cell? ⟨g,f+k*3,none⟩=some (.int .u8 (l[k].lo:Int))/\w.cell? ⟨g,f+k*3+1,none⟩=some (.int .u8 (l[k].hi:Int))/\w.cell? ⟨g,f+k*3+2,none⟩=some (.int .i64 (l[k].to:Int))):=by
 obtain ⟨A',c',e,hc,h⟩:=h;injection e with e1 e2 e3;rcases h with rfl | ⟨g,f,h1,hg,h2⟩
 .cases hk
 .exact ⟨g,f,e1.trans h1,e2,hg,h2 k hk⟩
theorem OR.Rv {α:Type} {enc:α->List Value} {n:Nat} (E:jg enc n) {e:TypeId} {B g c:Nat} {o:List α} {q x:α} {w:World} (h:OR e n enc B (.slice (some ⟨g,0,none⟩) (o.length+1) c) (o++[q]) w) (j:Nat) (u:Value) (hx:enc x=(enc q).set j u) :
  OR e n enc B (.slice (some ⟨g,0,none⟩) (o.length+1) c) (o++[x]) (w.setCell ⟨g,o.length*n+j,none⟩ u):=by
 have h0:w.ownsRow B e n (.slice (some ⟨g,0,none⟩) (o.length+1) c) (o.length+1) (aY enc (o++[q])):=by
  have:=h;unfold OR at this;rwa [List.length_append]at this
 have h1:=(h0.stored (o.length*n+j) u).1;show World.ownsRow _ _ _ _ _ _ _;rw[List.length_append,bA,bf,hx];rw[bA,bf,List.set_append_right _ _ (by rw[fD E];omega),fD E]at h1
 rwa [show o.length*n+j-o.length*n=j by omega]at h1
structure yg (cs:List (Option Nat)) (l:List Ed) (k:Nat) (done:List Ed) (p:Option Ed):Prop where
 go:done++ye (bR cs) p (l.drop k)=bJ (bR cs) l
 nl:p=none->done=[]
 bd:done.length+p.toList.length<=k
 ku:∀e,p=some e->e.lo<256/\e.hi<256
theorem yg.start (cs:List (Option Nat)) (l:List Ed):yg cs l 0 [] none:=⟨rfl,λ_=>rfl,Nat.le_refl _,λe h=>by cases h⟩
section
variable {cs:List (Option Nat)} {l:List Ed} {k:Nat} {done:List Ed} {p:Option Ed} {e:Ed}
theorem drop_at {α:Type} {l:List α} {k:Nat} {e:α} (h:l[k]?=some e):l.drop k=e::l.drop (k+1):=by
 obtain ⟨h1,h2⟩:=List.getElem?_eq_some_iff.1 h;rw[List.drop_eq_getElem_cons h1,h2]
theorem yg.skip (h:yg cs l k done p) (he:l[k]?=some e) (hc:bR cs e.to=none):yg cs l (k+1) done p:=by
 refine ⟨?_,h.nl,by have:=h.bd;omega,h.ku⟩
 have:=h.go;rw[drop_at he,ye,hc]at this;exact this
theorem yg.first (h:yg cs l k done none) (he:l[k]?=some e) {t:Nat} (hc:bR cs e.to=some t) (hb:e.lo<256/\e.hi<256):yg cs l (k+1) [] (some ⟨e.lo,e.hi,t⟩):=by
 refine ⟨?_,(λh=>by cases h),by simp,λx hx=>by injection hx with hx;subst hx;exact hb⟩
 have:=h.go;rw[h.nl rfl,drop_at he,ye,hc]at this;exact this
theorem yg.join {q:Ed} (h:yg cs l k done (some q)) (he:l[k]?=some e) {t:Nat} (hc:bR cs e.to=some t) (hb:e.lo<256/\e.hi<256) (h1:q.to=t) (h2:q.hi+1=e.lo):yg cs l (k+1) done (some ⟨q.lo,e.hi,q.to⟩):=by
 refine ⟨?_,(λh=>by cases h),by have:=h.bd;simp at this|-;omega,λx hx=>by injection hx with hx;subst hx;exact ⟨(h.ku q rfl).1,hb.2⟩⟩
 have:=h.go;rw[drop_at he,ye,hc]at this;simp only[h1,h2,and_self,if_true]at this|-;exact this
theorem yg.part {q:Ed} (h:yg cs l k done (some q)) (he:l[k]?=some e) {t:Nat} (hc:bR cs e.to=some t) (hb:e.lo<256/\e.hi<256) (h1:¬(q.to=t/\q.hi+1=e.lo)):yg cs l (k+1) (done++[q]) (some ⟨e.lo,e.hi,t⟩):=by
 refine ⟨?_,(λh=>by cases h),by have:=h.bd;simp at this|-;omega,λx hx=>by injection hx with hx;subst hx;exact hb⟩
 have:=h.go;rw[drop_at he,ye,hc]at this;simp only[h1,if_false]at this;rw[List.append_assoc];exact this
theorem yg.acM (h:yg cs l l.length done p):done++p.toList=bJ (bR cs) l:=by
 have:=h.go;rw[List.drop_length]at this;exact this
end
theorem qo {Q:Exit->Act->World->Prop} {x:Exit} {a:Act} {w:World} (h:∀W,W=w->Q x a W):Q x a w:=h w rfl
theorem uT (w:World) (lo hi t:Nat):∀j u,[Value.int .u8 (lo:Int), .int .u8 (hi:Int), .int .i64 (t:Int)][j]?=some u->(w.alloc (.cells #[.int .u8 (lo:Int), .int .u8 (hi:Int), .int .i64 (t:Int)] 195)).cell? ((⟨w.heap.size,0,none⟩:Addr).add j)=some u:=by
 intro j u hj;rw[Addr.add_lit,Nat.zero_add,World.cell?_alloc_mark];simpa using hj
set_option maxHeartbeats 8000000 in
theorem uk (ev cv:Value) (l:List Ed) (cs:List (Option Nat)) (w:World) (he:dR w ev l) (hc:wE w cv cs) (tI:∀e∈l,e.to<cs.length) (fO:∀e∈l,e.lo<256/\e.hi<256) (hl:l.length<=100000) :
  Calls Tryz.prog 171 #[ev,cv] w λe w'=>∃rv,e = .returned rv/\OR 195 3 ki w.heap.size rv (bJ (bR cs) l) w'/\Below w.heap.size w w':=by
 obtain ⟨Ae,ce,rfl,qO,Ix⟩:=he.form;obtain ⟨Ac,cc,rfl,lK,-⟩:=id hc;obtain ⟨nl,lZ⟩:∃n,l.length=n:=⟨_,rfl⟩;obtain ⟨nc,Bu⟩:∃n,cs.length=n:=⟨_,rfl⟩;rw[lZ]at he qO hl|-;rw[Bu]at hc lK|-;have HE:=Lib.hid he;have HC:=Lib.hid hc;have HT:=Lib.hid tI;have HY:=Lib.hid fO;have HN:=Lib.hid (And.intro lZ Bu);obtain ⟨i3,Ec,oq,gY,bM⟩:=info_parts GW;clear he hc tI fO lZ Bu
 go_enter Tryz.func171,Tryz.ntmps171
 go_wp2_with fail
 go_loopw [11,5] (λiv ov wr=>∃(k:Nat) (done:List Ed) (p:Option Ed),k<=nl/\iv = .int .i64 (k:Int)/\Hid (OR 195 3 ki w.heap.size ov (done++p.toList) wr)/\Hid (Below w.heap.size w wr)/\Hid (yg cs l k done p)) (λiv _ _=>nl - (intOf iv).toNat)
 case atStart=>exact ⟨0,[],none,Nat.zero_le _,rfl,OR.ic _ _ _,Below.refl _ _,yg.start cs l⟩
 case round=>
  obtain ⟨k,done,p,hk,rfl,HO,HB,HJ⟩:=hrel;by_cases hlt:k<nl
  .have hd:decide ((k:Int)<(nl:Int))=true:=decide_eq_true (by omega)
   have di:k<l.length:=by rw[HN.out.1];exact hlt
   obtain ⟨g,f,rfl,-,hg,c0,c1,c2⟩:=HE.out.at_ di;obtain ⟨e,hle⟩:∃e,l[k]=e:=⟨_,rfl⟩;rw[hle]at c0 c1 c2;have hek:l[k]?=some e:=by rw[List.getElem?_eq_getElem di,hle]
   have KQ:e∈l:=List.mem_of_getElem? hek;have hblk:=HB.out.block g hg;have d0:=(World.cell?_of_block (a:=⟨g,f+k*3,none⟩) hblk).trans c0;have d1:=(World.cell?_of_block (a:=⟨g,f+k*3+1,none⟩) hblk).trans c1;have d2:=(World.cell?_of_block (a:=⟨g,f+k*3+2,none⟩) hblk).trans c2;have hwr:=HB.out.size;have M8:g<wr.heap.size:=by omega
   have htl:=HT.out e KQ;have WU:=HY.out e KQ;obtain ⟨g2,f2,rfl,-,jC,cz⟩:=HC.out.at_ htl;have dz:=(World.cell?_of_block (a:=⟨g2,f2+e.to,none⟩) (HB.out.block g2 jC)).trans cz;have asX:g2<wr.heap.size:=by omega
   have Tz:e.to<nc:=by rw[<-HN.out.2];exact htl
   have hdt:decide (e.to<nc)=true:=decide_eq_true Tz;obtain ⟨lo,hi,tq⟩:=e;simp only at d0 d1 d2 dz htl WU Tz hdt;have HEK:=Lib.hid hek;have D5:=Lib.hid WU;obtain ⟨Ao,no,co,rfl⟩:∃A n c,u5 = .slice A n c:=by
    obtain ⟨A,c,e,-⟩:=ag HO.out;exact ⟨_,_,_,e⟩
   clear hle hek KQ hblk c0 c1 c2 cz di htl WU
   cases bD:bR cs tq with
   | none=>
    rw[bD]at dz;have dz':wr.cell? ⟨g2,f2+tq,none⟩=some (.int .i64 (-1)):=dz;have lL:=Lib.hid bD;clear dz bD;go_wp2_with fail;go_roundw
    case rel=>exact ⟨k+1,done,p,by omega,by go_num,HO.out.later ((Below.refl _ _).alloc (Nat.le_refl _) _),HB.out.trans ((Below.refl _ wr).alloc hwr _),HJ.out.skip HEK.out lL.out⟩
    case measure=>simp[intOf];omega
   | some t=>
    rw[bD]at dz;have dz':wr.cell? ⟨g2,f2+tq,none⟩=some (.int .i64 (t:Int)):=dz;have lL:=Lib.hid bD;have asZ:decide ((t:Int)<0)=false:=decide_eq_false (by omega)
    clear dz bD;have hBA:Below w.heap.size wr (wr.alloc (.cells #[.int .u8 (lo:Int), .int .u8 (hi:Int), .int .i64 (t:Int)] 195)):=(Below.refl _ _).alloc hwr _;have PG:=Lib.hid hBA;obtain ⟨no',Rw⟩:∃n,(done++p.toList).length=n:=⟨_,rfl⟩;have G8:no=no':=by
     obtain ⟨A',c',e',-⟩:=ag HO.out;injection e' with _ e2 _;rw[e2,Rw]
    subst G8;have y9:=HJ.out.bd;have as1:no<=k:=by rw[<-Rw,List.length_append];exact y9
    have hw1:IntKind.i64.wrap ((no:Int) - 1)=(no:Int) - 1:=IntWalk.i64_in _ (by omega)
    clear hBA y9;go_wp2_with fail;refine dv λW hW=>?_;have cJ:Below w.heap.size w W:=HB.out.trans (by rw[hW];exact PG.out)
    have EZ:Below wr.heap.size wr W:=by rw[hW];exact (Below.refl _ _).alloc (Nat.le_refl _) _
    have po:W.heap.size=wr.heap.size+1:=by rw[hW];simp
    have Ti:W.heap[wr.heap.size]?=some (.cells #[.int .u8 (lo:Int), .int .u8 (hi:Int), .int .i64 (t:Int)] 195 (0,0)):=by rw[hW];exact heap_alloc_new wr _
    obtain ⟨b0,b1,b2⟩:=aR Ti;have hoW:OR 195 3 ki w.heap.size (.slice Ao no co) (done++p.toList) W:=HO.out.later EZ;have GV:wr.heap.size<W.heap.size:=by omega
    have bI:=Lib.hid cJ;have HOW:=Lib.hid hoW;have Zn:=Lib.hid Rw;clear hW Ti cJ EZ hoW Rw d0 d1 d2 dz'
    cases p with
    | none=>
     have hnil:=HJ.out.nl rfl;subst hnil;obtain rfl:no=0:=by have:=Zn.out;simpa using this.symm
     have iI:decide ((0:Int)<=(0:Int) - 1)=false:=by decide
     go_quiet (fail)
     refine qo λW2 iU=>?_;have aL:Below W.heap.size W W2:=by rw[iU];exact below_drewN (Below.refl _ _) _
     have q0:=(aL.cell (p:=⟨wr.heap.size,0,none⟩) GV).trans b0;have q1:=(aL.cell (p:=⟨wr.heap.size,1,none⟩) GV).trans b1;have q2:=(aL.cell (p:=⟨wr.heap.size,2,none⟩) GV).trans b2;have kA:wr.heap.size<W2.heap.size:=by have:=aL.size;omega
     have xp:w.heap.size<=W2.heap.size:=by omega
     have cT:(W2.alloc (.cells #[.int .u8 (lo:Int), .int .u8 (hi:Int), .int .i64 (t:Int)] 195)).ownsRow w.heap.size 195 3 (.slice Ao 0 co) 0 (aY ki ([]:List Ed)):=(HOW.out.later aL).alloc _;have mZ:=uT W2 lo hi t;have dh:w.heap.size<=(W2.alloc (.cells #[.int .u8 (lo:Int), .int .u8 (hi:Int), .int .i64 (t:Int)] 195)).heap.size:=by simp;omega
     have eO:=Lib.hid (bI.out.trans (aL.mono bI.out.size));have h0:0<=100000:=by omega
     clear iU aL b0 b1 b2;go_wp2_with (at_builtin; refine cN rfl _ _ 187 rfl w.heap.size 195 i3 _ 3 16 Tryz.underlying187 Ec oq gY bM rfl (by decide) _ 0 (aY ki ([]:List Ed)) rfl cT ⟨W2.heap.size,0,none⟩ 1 1 [.int .u8 (lo:Int), .int .u8 (hi:Int), .int .i64 (t:Int)] rfl rfl mZ (by intro u hu; simp at hu; rcases hu with rfl | rfl | rfl <;> rfl) (by unfold maxLen; omega) (by omega) dh ?_)
     intro v' w9 ec we xW;have pY:OR 195 3 ki w.heap.size v' (([]:List Ed)++[⟨lo,hi,t⟩]) w9:=by
      show w9.ownsRow _ _ _ _ (([]:List Ed)++[_]).length (aY ki (([]:List Ed)++[_]));rw[bA,bf,List.length_append];exact ec
     obtain ⟨A9,n9,c9,rfl⟩:∃A n c,v' = .slice A n c:=by
      obtain ⟨A,c,e,-⟩:=ag ec;exact ⟨_,_,_,e⟩
     have pF:Below w.heap.size w w9:=(eO.out.alloc xp _).grown we dh (λq hq=>(cT.lt q hq).1);have WV:=Lib.hid pY;have zy:=Lib.hid pF;clear ec we xW pY pF cT mZ dh;go_wp2_with fail;go_roundw
     case rel=>exact ⟨k+1,[],some ⟨lo,hi,t⟩,by omega,by go_num,WV,zy,HJ.out.first HEK.out lL.out D5.out⟩
     case measure=>simp[intOf];omega
    | some q=>
     have Ff:=HOW.out.cells yh;obtain ⟨A',c',e',YR,eA⟩:=Ff;have hne:¬(done++(some q).toList)=[]:=by simp
     obtain ⟨go,Iy,UI,aah,lK⟩:=eA.resolve_left hne;injection e' with e1 e2 e3;subst e3;rw[Iy]at e1;subst e1;obtain ⟨nd,bL⟩:∃n,done.length=n:=⟨_,rfl⟩;have acO:no=nd+1:=by rw[<-Zn.out,List.length_append,bL];rfl
     have hq:=lK nd (by rw[List.length_append,bL];simp)
     have Lf:(done++(some q).toList)[nd]'(by rw[List.length_append,bL];simp)=q:=by subst bL;simp
     rw[Lf]at hq;obtain ⟨x2,-⟩:=hq 2 (by decide)
     obtain ⟨x1,fz1⟩:=hq 1 (by decide)
     obtain ⟨Rx,G9,Ee⟩:=q;have x2':W.cell? ⟨go,nd*3+2,none⟩=some (.int .i64 (Ee:Int)):=x2;have x1':W.cell? ⟨go,nd*3+1,none⟩=some (.int .u8 (G9:Int)):=x1;have WW:=HJ.out.ku _ rfl;have as2:lo<256:=D5.out.1;simp only at WW;have iI:decide ((0:Int)<=(no:Int) - 1)=true:=decide_eq_true (by omega)
     have as3:((no:Int) - 1).toNat=nd:=by omega
     have ajw:decide (nd<no)=true:=decide_eq_true (by omega)
     have Ma:IntKind.i64.wrap ((G9:Int)+1)=(G9:Int)+1:=IntWalk.i64_in _ (by omega)
     have HND:=Lib.hid bL;have NA:(done++(some (⟨Rx,G9,Ee⟩:Ed)).toList).length=no:=Zn.out;have acP:go<W.heap.size:=aah;obtain ⟨OQ,hOQ⟩:∃O:List Ed,done++(some (⟨Rx,G9,Ee⟩:Ed)).toList=O:=⟨_,rfl⟩;have WX:=HOW.out;rw[hOQ]at WX NA;have HOQ:=Lib.hid WX;have ZL:=Lib.hid hOQ;clear WX hOQ;clear lK hq Lf x1 x2 eA hne bL e2 Iy YR;by_cases h1:Ee=t
     .by_cases h2:G9+1=lo
      .have d1:((Ee:Int) == (t:Int))=true:=by simp;omega
       have d2:((G9:Int)+1 == (lo:Int))=true:=by simp;omega
       have ZM:=Lib.hid (And.intro h1 h2);clear h1 h2
       go_quiet (fail)
       refine qo λW2 iU=>?_;have aL:Below W.heap.size W W2:=by rw[iU];exact below_drewN (Below.refl _ _) _
       have q1:=(aL.cell (p:=⟨wr.heap.size,1,none⟩) GV).trans b1;have y1:=(aL.cell (p:=⟨go,nd*3+1,none⟩) acP).trans x1';have fy1:W2.frozen? ⟨go,nd*3+1,none⟩=false:=by rw[iU];exact fz1
       have kA:wr.heap.size<W2.heap.size:=by have:=aL.size;omega
       have Ry:go<W2.heap.size:=by have:=aL.size;omega
       have uh:=HOW.out.later aL;have ZN:=bI.out.trans (aL.mono bI.out.size);have E0:no=done.length+1:=by rw[<-Zn.out,List.length_append];rfl
       have pY:OR 195 3 ki w.heap.size (.slice (some ⟨go,0,none⟩) no co) (done++(some (⟨Rx,hi,Ee⟩:Ed)).toList) (W2.setCell ⟨go,nd*3+1,none⟩ (.int .u8 (hi:Int))):=by
        rw[E0]at uh|-;rw[<-HND.out];exact uh.Rv yh (x:=⟨Rx,hi,Ee⟩) 1 (.int .u8 (hi:Int)) rfl
       have WV:=Lib.hid pY;have zy:=Lib.hid (ZN.setCell (p:=⟨go,nd*3+1,none⟩) UI (.int .u8 (hi:Int)));clear iU aL b0 b1 b2 x1' x2' fz1 uh ZN E0 pY;go_wp2_with fail;go_roundw
       case rel=>exact ⟨k+1,done,some ⟨Rx,hi,Ee⟩,by omega,by go_num,WV,zy,HJ.out.join HEK.out lL.out D5.out ZM.out.1 ZM.out.2⟩
       case measure=>simp[intOf];omega
      .have d1:((Ee:Int) == (t:Int))=true:=by simp;omega
       have d2:((G9:Int)+1 == (lo:Int))=false:=by simp;omega
       have ZM:=Lib.hid (show ¬(Ee=t/\G9+1=lo) from λh=>h2 h.2);clear h1 h2
       go_quiet (fail)
       refine qo λW2 iU=>?_;have aL:Below W.heap.size W W2:=by rw[iU];exact below_drewN (Below.refl _ _) _
       have q0:=(aL.cell (p:=⟨wr.heap.size,0,none⟩) GV).trans b0;have q1:=(aL.cell (p:=⟨wr.heap.size,1,none⟩) GV).trans b1;have q2:=(aL.cell (p:=⟨wr.heap.size,2,none⟩) GV).trans b2;have kA:wr.heap.size<W2.heap.size:=by have:=aL.size;omega
       have xp:w.heap.size<=W2.heap.size:=by omega
       have cT:(W2.alloc (.cells #[.int .u8 (lo:Int), .int .u8 (hi:Int), .int .i64 (t:Int)] 195)).ownsRow w.heap.size 195 3 (.slice (some ⟨go,0,none⟩) no co) OQ.length (aY ki OQ):=(HOQ.out.later aL).alloc _;have mZ:=uT W2 lo hi t;have dh:w.heap.size<=(W2.alloc (.cells #[.int .u8 (lo:Int), .int .u8 (hi:Int), .int .i64 (t:Int)] 195)).heap.size:=by simp;omega
       have eO:=Lib.hid (bI.out.trans (aL.mono bI.out.size));have hL1:OQ.length<=100000:=by omega
       clear iU aL b0 b1 b2;go_wp2_with (at_builtin; refine cN rfl _ _ 187 rfl w.heap.size 195 i3 _ 3 16 Tryz.underlying187 Ec oq gY bM rfl (by decide) _ OQ.length (aY ki OQ) rfl cT ⟨W2.heap.size,0,none⟩ 1 1 [.int .u8 (lo:Int), .int .u8 (hi:Int), .int .i64 (t:Int)] rfl rfl mZ (by intro u hu; simp at hu; rcases hu with rfl | rfl | rfl <;> rfl) (by unfold maxLen; omega) (by omega) dh ?_)
       intro v' w9 ec we xW;have pY:OR 195 3 ki w.heap.size v' (OQ++[⟨lo,hi,t⟩]) w9:=by
        show w9.ownsRow _ _ _ _ (OQ++[_]).length (aY ki (OQ++[_]));rw[bA,bf,List.length_append,NA,acO];exact ec
       obtain ⟨A9,n9,c9,rfl⟩:∃A n c,v' = .slice A n c:=by
        obtain ⟨A,c,e,-⟩:=ag ec;exact ⟨_,_,_,e⟩
       have pF:Below w.heap.size w w9:=(eO.out.alloc xp _).grown we dh (λq hq=>(cT.lt q hq).1);have WV:=Lib.hid pY;have zy:=Lib.hid pF;clear ec we xW pY pF cT mZ dh;go_wp2_with fail;go_roundw
       case rel=>exact ⟨k+1,done++[(⟨Rx,G9,Ee⟩:Ed)],some ⟨lo,hi,t⟩,by omega,by go_num,(by have:=WV.out;rw[<-ZL.out]at this;exact this),zy,(show yg cs l (k+1) (done++[(⟨Rx,G9,Ee⟩:Ed)]) (some ⟨lo,hi,t⟩) from HJ.out.part HEK.out lL.out D5.out ZM.out)⟩
       case measure=>simp[intOf];omega
     .have d1:((Ee:Int) == (t:Int))=false:=by simp;omega
      have ZM:=Lib.hid (show ¬(Ee=t/\G9+1=lo) from λh=>h1 h.1);clear h1
      go_quiet (fail)
      refine qo λW2 iU=>?_;have aL:Below W.heap.size W W2:=by rw[iU];exact below_drewN (Below.refl _ _) _
      have q0:=(aL.cell (p:=⟨wr.heap.size,0,none⟩) GV).trans b0;have q1:=(aL.cell (p:=⟨wr.heap.size,1,none⟩) GV).trans b1;have q2:=(aL.cell (p:=⟨wr.heap.size,2,none⟩) GV).trans b2;have kA:wr.heap.size<W2.heap.size:=by have:=aL.size;omega
      have xp:w.heap.size<=W2.heap.size:=by omega
      have cT:(W2.alloc (.cells #[.int .u8 (lo:Int), .int .u8 (hi:Int), .int .i64 (t:Int)] 195)).ownsRow w.heap.size 195 3 (.slice (some ⟨go,0,none⟩) no co) OQ.length (aY ki OQ):=(HOQ.out.later aL).alloc _;have mZ:=uT W2 lo hi t;have dh:w.heap.size<=(W2.alloc (.cells #[.int .u8 (lo:Int), .int .u8 (hi:Int), .int .i64 (t:Int)] 195)).heap.size:=by simp;omega
      have eO:=Lib.hid (bI.out.trans (aL.mono bI.out.size));have hL1:OQ.length<=100000:=by omega
      clear iU aL b0 b1 b2;go_wp2_with (at_builtin; refine cN rfl _ _ 187 rfl w.heap.size 195 i3 _ 3 16 Tryz.underlying187 Ec oq gY bM rfl (by decide) _ OQ.length (aY ki OQ) rfl cT ⟨W2.heap.size,0,none⟩ 1 1 [.int .u8 (lo:Int), .int .u8 (hi:Int), .int .i64 (t:Int)] rfl rfl mZ (by intro u hu; simp at hu; rcases hu with rfl | rfl | rfl <;> rfl) (by unfold maxLen; omega) (by omega) dh ?_)
      intro v' w9 ec we xW;have pY:OR 195 3 ki w.heap.size v' (OQ++[⟨lo,hi,t⟩]) w9:=by
       show w9.ownsRow _ _ _ _ (OQ++[_]).length (aY ki (OQ++[_]));rw[bA,bf,List.length_append,NA,acO];exact ec
      obtain ⟨A9,n9,c9,rfl⟩:∃A n c,v' = .slice A n c:=by
       obtain ⟨A,c,e,-⟩:=ag ec;exact ⟨_,_,_,e⟩
      have pF:Below w.heap.size w w9:=(eO.out.alloc xp _).grown we dh (λq hq=>(cT.lt q hq).1);have WV:=Lib.hid pY;have zy:=Lib.hid pF;clear ec we xW pY pF cT mZ dh;go_wp2_with fail;go_roundw
      case rel=>exact ⟨k+1,done++[(⟨Rx,G9,Ee⟩:Ed)],some ⟨lo,hi,t⟩,by omega,by go_num,(by have:=WV.out;rw[<-ZL.out]at this;exact this),zy,(show yg cs l (k+1) (done++[(⟨Rx,G9,Ee⟩:Ed)]) (some ⟨lo,hi,t⟩) from HJ.out.part HEK.out lL.out D5.out ZM.out)⟩
      case measure=>simp[intOf];omega
  .obtain rfl:k=nl:=by omega
   have hd:decide ((k:Int)<(k:Int))=false:=decide_eq_false (by omega)
   obtain ⟨Ao,no,co,rfl⟩:∃A n c,u5 = .slice A n c:=by
    obtain ⟨A,c,e,-⟩:=ag HO.out;exact ⟨_,_,_,e⟩
   go_wp2_with fail;refine ar λWf cH=>?_;subst cH;refine bodyPost_ret (v:=.slice Ao no co) (by simp[results,Tryz.results171,go_sem];try rfl) rfl ?_
   have hj:=HJ.out;rw[<-HN.out.1]at hj;exact ⟨_,rfl,by rw[<-hj.acM];exact HO.out,HB.out⟩
end
section
set_option linter.unusedVariables false
set_option linter.unusedSimpArgs false
open Go.RowKit
def bC (b:Bool):List Value:=[.bool b]
theorem LH:jg bC 1:=⟨by decide,λ_=>rfl,λx u hu=>by simp[bC]at hu;subst hu;rfl⟩
theorem mW:(Tryz.prog.info? 4).map (λi=>(i.zero,i.size,i.bytes))=some (some (.bool false),1,1):=by kernel_rfl
def nR (w:World) (v:Value) (l:List Bool):Prop:=∃A c,v = .slice A l.length c/\(l.length<=c/\c<=9223372036854775807)/\(l=[]\/∃g f,A=some ⟨g,f,none⟩/\g<w.heap.size/\∀i (h:i<l.length),w.cell? ⟨g,f+i,none⟩=some (.bool l[i]))
theorem nR.keep {fp fp':List Nat} {w w':World} {v:Value} {l:List Bool} (h:nR w v l) (ho:aG fp v) (hk:ah fp fp' w w'):nR w' v l:=by
 obtain ⟨A,c,rfl,hc,h⟩:=h;refine ⟨A,c,rfl,hc,h.imp id ?_⟩;rintro ⟨g,f,rfl,hg,hcell⟩;exact ⟨g,f,rfl,Nat.lt_of_lt_of_le hg hk.size,λi hi=>(World.cell?_of_block (a:=⟨g,f+i,none⟩) (hk.blk g hg (ho g rfl))).trans (hcell i hi)⟩
theorem nR.later {w w':World} {v:Value} {l:List Bool} (h:nR w v l) (hb:Below w.heap.size w w'):nR w' v l:=h.keep (fp:=[]) (fp':=[]) (xw v) (ah.aa hb)
theorem nR.gW {w:World} {B:Nat} {v:Value} {l:List Bool} (h:OR 4 1 bC B v l w):nR w v l:=by
 obtain ⟨A,c,e,hc,eA⟩:=h.cells LH;have Bb:c<=9223372036854775807:=by
  obtain ⟨A',c',e',-,h'⟩:=ag (show w.ownsRow _ _ _ _ _ _ from h);rw[e]at e';injection e' with _ _ e3;rw[e3];exact h'
 refine ⟨A,c,e,⟨hc,Bb⟩,eA.imp id ?_⟩;rintro ⟨g,h1,-,hg,hcell⟩;refine ⟨g,0,h1,hg,λi hi=>?_⟩;have:=(hcell i hi 0 (by decide)).1
 rw[Nat.mul_one,Nat.add_zero]at this;rw[Nat.zero_add,this];rfl
def Dc (w:World) (v:Value) (l:List (List Ed)):Prop:=∃A c,v = .slice A l.length c/\(l.length<=c/\c<=9223372036854775807)/\(l=[]\/∃g f,A=some ⟨g,f,none⟩/\g<w.heap.size/\∀i (h:i<l.length),∃rv,w.cell? ⟨g,f+i,none⟩=some rv/\dR w rv l[i])
theorem Dc.later {w w':World} {v:Value} {l:List (List Ed)} (h:Dc w v l) (hb:Below w.heap.size w w'):Dc w' v l:=by
 obtain ⟨A,c,e,hc,h⟩:=h;refine ⟨A,c,e,hc,h.imp id ?_⟩;rintro ⟨g,f,h1,hg,hcell⟩;refine ⟨g,f,h1,Nat.lt_of_lt_of_le hg hb.size,λi hi=>?_⟩;obtain ⟨rv,h2,h3⟩:=hcell i hi;exact ⟨rv,(hb.cell (p:=⟨g,f+i,none⟩) hg).trans h2,h3.later hb⟩
theorem Dc.form {w:World} {v:Value} {l:List (List Ed)} (h:Dc w v l):∃A c,v = .slice A l.length c/\(l.length<=c/\c<=9223372036854775807):=by
 obtain ⟨A,c,e,hc,-⟩:=h;exact ⟨A,c,e,hc⟩
theorem nR.form {w:World} {v:Value} {l:List Bool} (h:nR w v l):∃A c,v = .slice A l.length c/\(l.length<=c/\c<=9223372036854775807):=by
 obtain ⟨A,c,e,hc,-⟩:=h;exact ⟨A,c,e,hc⟩
theorem Dc.at_ {w:World} {A:Option Addr} {n c:Nat} {l:List (List Ed)} (h:Dc w (.slice A n c) l) {k:Nat} (hk:k<l.length):∃g f rv,A=some ⟨g,f,none⟩/\n=l.length/\g<w.heap.size/\w.cell? ⟨g,f+k,none⟩=some rv/\dR w rv l[k]:=by
 obtain ⟨A',c',e,hc,h⟩:=h;injection e with e1 e2 e3;rcases h with rfl | ⟨g,f,h1,hg,h2⟩
 .cases hk
 .obtain ⟨rv,h3,h4⟩:=h2 k hk;exact ⟨g,f,rv,e1.trans h1,e2,hg,h3,h4⟩
theorem nR.at_ {w:World} {A:Option Addr} {n c:Nat} {l:List Bool} (h:nR w (.slice A n c) l) {k:Nat} (hk:k<l.length):∃g f,A=some ⟨g,f,none⟩/\n=l.length/\g<w.heap.size/\w.cell? ⟨g,f+k,none⟩=some (.bool l[k]):=by
 obtain ⟨A',c',e,hc,h⟩:=h;injection e with e1 e2 e3;rcases h with rfl | ⟨g,f,h1,hg,h2⟩
 .cases hk
 .exact ⟨g,f,e1.trans h1,e2,hg,h2 k hk⟩
def ia (w:World) (v:Value) (m:Mc):Prop:=∃ve va,v = .agg #[ve,va]/\Dc w ve m.ed/\nR w va m.ac
theorem ia.later {w w':World} {v:Value} {m:Mc} (h:ia w v m) (hb:Below w.heap.size w w'):ia w' v m:=by
 obtain ⟨ve,va,e,h1,h2⟩:=h;exact ⟨ve,va,e,h1.later hb,h2.later hb⟩
structure sf (m:Mc):Prop where
 ku:∀r∈m.ed,∀e∈r,e.lo<256/\e.hi<256
 rl:∀r∈m.ed,r.length<=10000
 n:m.ed.length<=100000
theorem El (v:Value) (l:List Bool) (w:World) (h:nR w v l) (hl:l.length<=1000000):Calls Tryz.prog 215 #[v] w λe w'=>∃rv,e = .returned rv/\OR 4 1 bC w.heap.size rv l w'/\Below w.heap.size w w':=by
 obtain ⟨A,c,rfl,hc,h⟩:=h;obtain ⟨i3,Ec,oq,gY,bM⟩:=info_parts mW;have hnil:=λw=>Lib.run_eql_slice_nil (P:=Tryz.prog) w 70 4 A l.length c 0 0 Tryz.underlying70
 cases A with
 | none=>
  obtain rfl:l=[]:=h.resolve_right (by rintro ⟨g,f,e,-⟩;cases e)
  simp only[List.length_nil]at hnil
  go_enter Tryz.func215,Tryz.ntmps215
  go_wp2_with fail;go_ret;exact ⟨_,rfl,OR.ic _ _ _,Below.refl _ _⟩
 | some ad=>
  have hcell:∀i (hi:i<l.length),∀j<1,w.cell? (ad.add (i*1+j))=(bC l[i])[j]?:=by
   intro i hi j hj;obtain ⟨g,f,e,-,lK⟩:=h.resolve_left (by rintro rfl;cases hi)
   injection e with e;subst e;obtain rfl:j=0:=by omega
   rw[Addr.add_lit,Nat.mul_one,Nat.add_zero,lK i hi];rfl
  have hlt:l=[]\/ad.block<w.heap.size:=h.imp id (by rintro ⟨g,f,e,hg,-⟩;injection e with e;subst e;exact hg)
  have lX:∀i (hi:i<l.length),∀j<1,(w.alloc (.cells #[] 4)).cell? (ad.add (i*1+j))=(bC l[i])[j]?:=by
   intro i hi j hj;rw[<-hcell i hi j hj];exact World.cell?_of_block (by rw[gw];exact au w _ _ (hlt.resolve_left (by rintro rfl;cases hi)))
  have HC:=Lib.hid lX;clear h hcell lX hlt;have adz:OR 4 1 bC w.heap.size (.slice (some ⟨w.heap.size,0,none⟩) 0 0) [] (w.alloc (.cells #[] 4)):=OR.empty _ _;have HO:=Lib.hid adz;clear adz
  go_enter Tryz.func215,Tryz.ntmps215
  go_wp2_with (at_builtin;refine zQ LH Tryz.underlying70 Ec oq gY bM rfl (by decide) _ _ (.slice (some ⟨w.heap.size,0,none⟩) 0 0) ad c [] l w.heap.size rfl rfl rfl rfl HO.out HC.out (by simp) hl (by simp) ?_)
  intro v' w1 hown1 hb1;obtain ⟨A',n',c',rfl⟩:∃A n c,v' = .slice A n c:=by
   obtain ⟨A,c,e,-⟩:=ag (show w1.ownsRow _ _ _ _ _ _ from hown1);exact ⟨_,_,_,e⟩
  have Gf:=Lib.hid hown1;have bH:=Lib.hid (((Below.refl _ w).alloc (Nat.le_refl _) (.cells #[] 4)).trans hb1);clear hown1 hb1;go_wp2_with fail;go_ret;exact ⟨_,rfl,Gf.out,bH.out⟩
end
section
set_option linter.unusedVariables false
set_option linter.unusedSimpArgs false
open Go.RowKit
open Go.Maps (Keyed)
theorem aT {w:World} {B k n:Nat} {e:TypeId} {v:Value} {xs:List Value} (h:w.ownsRow B e k v n xs):∀g,v.ownBlock=some g->∃cs m,w.heap[g]?=some (.cells cs e m):=λg hg=>by
 rcases h.2 with ⟨h1,-⟩ | ⟨g',cap,cur,h1,-,xA,-⟩
 .subst h1;simp[Value.ownBlock]at hg
 .subst h1;simp[Value.ownBlock]at hg;subst hg;exact ⟨_,_,xA⟩
theorem j8 {w:World} {B B' k k' n n':Nat} {e e':TypeId} {v u:Value} {xs ys:List Value} (h:w.ownsRow B e k v n xs) (h':w.ownsRow B' e' k' u n' ys) (he:e≠e'):∀g,v.ownBlock=some g->u.ownBlock≠some g:=λg hg hu=>by
 obtain ⟨cs,m,h1⟩:=aT h g hg;obtain ⟨cs',m',h2⟩:=aT h' g hu;rw[h1]at h2;injection h2 with h2;injection h2 with _ h3 _;exact he h3
theorem Fs {w:World} {B k n:Nat} {e e':TypeId} {v:Value} {xs:List Value} (h:w.ownsRow B e k v n xs) {N:Nat} {cs:Array Value} {m:Nat×Nat} (hN:w.heap[N]?=some (.cells cs e' m)) (he:e≠e'):v.ownBlock≠some N:=λhv=>by
 obtain ⟨cs',m',h1⟩:=aT h N hv;rw[hN]at h1;injection h1 with h1;injection h1 with _ h3 _;exact he h3.symm
def lA (N:Nat) (vE vA:Value):List Nat:=N::(blk vE++blk vA)
theorem aV {N:Nat} {vE vA:Value} {k:Nat}:k∈lA N vE vA↔k=N\/vE.ownBlock=some k\/vA.ownBlock=some k:=by
 unfold lA;simp only[List.mem_cons,List.mem_append,aA]
structure iR (B N:Nat) (fx:List Nat) (vE vA:Value) (gv:List Value) (rs:List (List Ed)) (bE:List Bool) (w:World):Prop where
 hN:w.heap[N]?=some (.cells #[vE,vA] 93 (0,0))
 bN:B<=N
 own:w.ownsRow B 187 1 vE rs.length gv
 Q1:∀i (h:i<rs.length),∃v,gv[i]?=some v/\dR w v rs[i]/\aG (lA N vE vA) v/\aG fx v/\∀g,v.ownBlock=some g->B<=g/\g<w.heap.size
 acc:OR 4 1 bC B vA bE w
 out:∀k∈lA N vE vA,k∉fx
section
variable {B N:Nat} {fx fx':List Nat} {vE vA:Value} {gv:List Value} {rs:List (List Ed)} {bE:List Bool} {w w':World}
theorem iR.lt (h:iR B N fx vE vA gv rs bE w):∀k∈lA N vE vA,B<=k/\k<w.heap.size:=λk hk=>by
 rcases aV.1 hk with rfl | hk | hk
 .exact ⟨h.bN,(Array.getElem?_eq_some_iff.1 h.hN).1⟩
 .exact h.own.lt k hk
 .exact World.ownsRow.lt h.acc k hk
theorem iR.keep (h:iR B N fx vE vA gv rs bE w) (hk:ah fx fx' w w'):iR B N fx' vE vA gv rs bE w':=by
 have hlt:=h.lt;have hb:∀k∈lA N vE vA,w'.heap[k]?=w.heap[k]?:=λk hm=>hk.blk k (hlt k hm).2 (h.out k hm);refine ⟨(hb N (aV.2 (.inl rfl))).trans h.hN,h.bN,ak h.own λg hg=>hb g (aV.2 (.inr (.inl hg))),λi hi=>?_,OR.keep h.acc λg hg=>hb g (aV.2 (.inr (.inr hg))),λk hm hx=>(hk.new k hx).elim (h.out k hm) λhz=>by have:=(hlt k hm).2;omega⟩
 obtain ⟨v,h1,h2,h3,h4,h5⟩:=h.Q1 i hi;exact ⟨v,h1,h2.keep h4 hk,h3,oL h4 (λg hg=>(h5 g hg).2) hk,λg hg=>⟨(h5 g hg).1,Nat.lt_of_lt_of_le (h5 g hg).2 hk.size⟩⟩
theorem iR.later (h:iR B N fx vE vA gv rs bE w) (hb:Below w.heap.size w w'):iR B N fx vE vA gv rs bE w':=h.keep (ah.aa hb)
theorem iV {v v':Value} {n k:Nat} (hf:cW v' v n) (h:v'.ownBlock=some k):v.ownBlock=some k\/n<=k:=by
 rcases hf with hf | ⟨g,hf,h2⟩
 .exact .inl (hf▸h)
 .rw[hf]at h;injection h with h;exact .inr (h▸h2)
theorem iR.put (h:iR B N fx vE vA gv rs bE w) (PM:∀k∈fx,k<w.heap.size) (hk:ah (lA N vE vA) [] w w') {pG rT:Value} {gv':List Value} {rs':List (List Ed)} {Jm:List Bool}
  (hN:w'.heap[N]?=some (.cells #[pG,rT] 93 (0,0))) (hE:w'.ownsRow B 187 1 pG rs'.length gv') (hA:OR 4 1 bC B rT Jm w') (fE:cW pG vE w.heap.size) (fA:cW rT vA w.heap.size)
  (hr:∀i (hi:i<rs'.length),∃v,gv'[i]?=some v/\dR w v rs'[i]/\aG (lA N vE vA) v/\aG fx v/\∀g,v.ownBlock=some g->B<=g/\g<w.heap.size) :
  iR B N fx pG rT gv' rs' Jm w'/\ah (lA N vE vA) (lA N pG rT) w w':=by
 have jU:∀k∈lA N pG rT,k∈lA N vE vA\/w.heap.size<=k:=λk hm=>by
  rcases aV.1 hm with rfl | hm | hm
  .exact .inl (aV.2 (.inl rfl))
  .exact (iV fE hm).imp (λh=>aV.2 (.inr (.inl h))) id
  .exact (iV fA hm).imp (λh=>aV.2 (.inr (.inr h))) id
 have bM:ah (lA N vE vA) (lA N pG rT) w w':=⟨hk.os,hk.tape,hk.output,hk.size,hk.blk,jU⟩;refine ⟨⟨hN,h.bN,hE,λi hi=>?_,hA,λk hm hx=>(jU k hm).elim (λh1=>h.out k h1 hx) λh1=>by have:=PM k hx;omega⟩,bM⟩
 obtain ⟨v,h1,h2,h3,h4,h5⟩:=hr i hi;exact ⟨v,h1,h2.keep h3 bM,oL h3 (λg hg=>(h5 g hg).2) bM,h4,λg hg=>⟨(h5 g hg).1,Nat.lt_of_lt_of_le (h5 g hg).2 hk.size⟩⟩
theorem iR.RO (h:iR B N fx vE vA gv rs bE w):∀i (hi:i<rs.length),∃v,gv[i]?=some v/\dR w v rs[i]/\aG (lA N vE vA) v/\aG fx v/\∀g,v.ownBlock=some g->B<=g/\g<w.heap.size:=h.Q1
theorem iR.Hh (h:iR B N fx vE vA gv rs bE w) {v:Value} {r:List Ed} (hv:dR w v r) (ho:aG (lA N vE vA) v) (hx:aG fx v) (hl:∀g,v.ownBlock=some g->B<=g/\g<w.heap.size) :
  ∀i (hi:i<(rs++[r]).length),∃u,(gv++[v])[i]?=some u/\dR w u (rs++[r])[i]/\aG (lA N vE vA) u/\aG fx u/\∀g,u.ownBlock=some g->B<=g/\g<w.heap.size:=λi hi=>by
 have dV:gv.length=rs.length:=by have:=h.own.1;omega
 by_cases hlt:i<rs.length
 .obtain ⟨u,h1,h2,h3,h4,h5⟩:=h.Q1 i hlt;refine ⟨u,by rw[List.getElem?_append_left (by omega)];exact h1,?_,h3,h4,h5⟩
  rw[List.getElem_append_left hlt];exact h2
 .have sR:i=rs.length:=by simp at hi;omega
  subst sR;refine ⟨v,by rw[List.getElem?_append_right (by omega),dV];simp,?_,ho,hx,hl⟩
  rw[List.getElem_append_right (Nat.le_refl _)];simpa using hv
theorem iR.ajP {w1:World} (h:iR B N fx vE vA gv rs bE w) (hg:w1.heap[N]?=w.heap[N]?) (v:Value):(w1.setCell ⟨N,0,none⟩ v).heap[N]?=some (.cells #[v,vA] 93 (0,0)):=by
 have:=bh (hg.trans h.hN) 0 v;simpa using this
theorem iR.ajQ {w1:World} (h:iR B N fx vE vA gv rs bE w) (hg:w1.heap[N]?=w.heap[N]?) (v:Value):(w1.setCell ⟨N,1,none⟩ v).heap[N]?=some (.cells #[vE,v] 93 (0,0)):=by
 have:=bh (hg.trans h.hN) 1 v;simpa using this
theorem iR.Zk (h:iR B N fx vE vA gv rs bE w):vE.ownBlock≠some N:=Fs h.own h.hN (by decide)
theorem iR.neA (h:iR B N fx vE vA gv rs bE w):vA.ownBlock≠some N:=Fs (show w.ownsRow _ _ _ _ _ _ from h.acc) h.hN (by decide)
theorem iR.Xn (h:iR B N fx vE vA gv rs bE w):∀g,vE.ownBlock=some g->vA.ownBlock≠some g:=j8 h.own (show w.ownsRow _ _ _ _ _ _ from h.acc) (by decide)
theorem iR.ux {w1:World} (h:iR B N fx vE vA gv rs bE w) (PM:∀k∈fx,k<w.heap.size) {v:Value} {r:List Ed} (hv:dR w v r) (ho:aG (lA N vE vA) v) (hx:aG fx v) (hl:∀g,v.ownBlock=some g->B<=g/\g<w.heap.size)
  {pG:Value} (hown:w1.ownsRow B 187 1 pG (rs.length+1) (gv++[v])) (hg:w.grownBy w1 vE.ownBlock) (hf:cW pG vE w.heap.size) :
  iR B N fx pG vA (gv++[v]) (rs++[r]) bE (w1.setCell ⟨N,0,none⟩ pG)/\ah (lA N vE vA) (lA N pG vA) w (w1.setCell ⟨N,0,none⟩ pG):=by
 have hlt:=h.lt;have Xo:=(hlt N (aV.2 (.inl rfl))).2;have hz:=hg.size;have bg:∀k,k≠N->(w1.setCell ⟨N,0,none⟩ pG).heap[k]?=w1.heap[k]?:=λk hk=>Below.heap_setCell _ _ _ _ hk;have gY:ah (lA N vE vA) [] w w1:=qu hg λg hg=>aV.2 (.inr (.inl hg));have hk:ah (lA N vE vA) [] w (w1.setCell ⟨N,0,none⟩ pG):=gY.tr ⟨rfl,rfl,rfl,by simp[World.setCell],λk _ hn=>bg k (λe=>hn (aV.2 (.inl e))),λk hk=>by cases hk⟩
 have AY:w1.heap[N]?=w.heap[N]?:=hg.block N Xo (λe=>h.Zk e.symm);have e1:(w1.setCell ⟨N,0,none⟩ pG).ownsRow B 187 1 pG (rs++[r]).length (gv++[v]):=by
  rw[List.length_append];refine ak hown λg iy=>bg g ?_;rintro rfl;rcases iV hf iy with h1 | h1
  .exact h.Zk h1
  .omega
 have e2:OR 4 1 bC B vA bE (w1.setCell ⟨N,0,none⟩ pG):=OR.keep h.acc λg iy=>(bg g (by rintro rfl;exact h.neA iy)).trans (hg.block g (hlt g (aV.2 (.inr (.inr iy)))).2 λe=>h.Xn g e.symm iy)
 exact h.put PM hk (h.ajP AY pG) e1 e2 hf (.inl rfl) (h.Hh hv ho hx hl)
theorem iR.aik {w1:World} (h:iR B N fx vE vA gv rs bE w) (PM:∀k∈fx,k<w.heap.size) {a:Bool}
  {rT:Value} (hown:OR 4 1 bC B rT (bE++[a]) w1) (hg:w.grownBy w1 vA.ownBlock) (hf:cW rT vA w.heap.size) :
  iR B N fx vE rT gv rs (bE++[a]) (w1.setCell ⟨N,1,none⟩ rT)/\ah (lA N vE vA) (lA N vE rT) w (w1.setCell ⟨N,1,none⟩ rT):=by
 have hlt:=h.lt;have Xo:=(hlt N (aV.2 (.inl rfl))).2;have hz:=hg.size;have bg:∀k,k≠N->(w1.setCell ⟨N,1,none⟩ rT).heap[k]?=w1.heap[k]?:=λk hk=>Below.heap_setCell _ _ _ _ hk;have gY:ah (lA N vE vA) [] w w1:=qu hg λg hg=>aV.2 (.inr (.inr hg));have hk:ah (lA N vE vA) [] w (w1.setCell ⟨N,1,none⟩ rT):=gY.tr ⟨rfl,rfl,rfl,by simp[World.setCell],λk _ hn=>bg k (λe=>hn (aV.2 (.inl e))),λk hk=>by cases hk⟩
 have AY:w1.heap[N]?=w.heap[N]?:=hg.block N Xo (λe=>h.neA e.symm);have e1:(w1.setCell ⟨N,1,none⟩ rT).ownsRow B 187 1 vE rs.length gv:=ak h.own λg iy=>(bg g (by rintro rfl;exact h.Zk iy)).trans (hg.block g (hlt g (aV.2 (.inr (.inl iy)))).2 λe=>h.Xn g iy e.symm)
 have e2:OR 4 1 bC B rT (bE++[a]) (w1.setCell ⟨N,1,none⟩ rT):=OR.keep hown λg iy=>bg g (by
  rintro rfl;rcases iV hf iy with h1 | h1
  .exact h.neA h1
  .omega)
 exact h.put PM hk (h.ajQ AY rT) e1 e2 (.inl rfl) hf h.RO
theorem iR.abR (h:iR B N fx vE vA gv rs bE w):ia w (.agg #[vE,vA]) ⟨rs,bE⟩:=by
 refine ⟨vE,vA,rfl,?_,nR.gW h.acc⟩;have dV:gv.length=rs.length:=by have:=h.own.1;omega
 rcases h.own.2 with ⟨h1,h2⟩ | ⟨g,cap,cur,h1,-,hg,hle,hm,hcs,ht⟩
 .exact ⟨none,0,by rw[h1,h2],⟨by show rs.length<=0;omega,by decide⟩, .inl (List.length_eq_zero_iff.1 h2)⟩
 .refine ⟨_,cap,h1,⟨by omega,by unfold maxLen at hm;omega⟩, .inr ⟨g,0,rfl,(Array.getElem?_eq_some_iff.1 hg).1,λi hi=>?_⟩⟩
  obtain ⟨v,e1,e2,-⟩:=h.Q1 i hi;refine ⟨v,?_,e2⟩;subst h1;have:=h.own.cellAt i (by rw[Nat.mul_one];exact hi)
  rw[Nat.zero_add,this,e1]
end
theorem iR.low {B N:Nat} {fx:List Nat} {vE vA:Value} {gv:List Value} {rs:List (List Ed)} {bE:List Bool} {w w':World} {L L':List Nat} (h:iR B N fx vE vA gv rs bE w) (hk:ah L L' w w') (hL:∀k∈L,k<B):iR B N fx vE vA gv rs bE w':=by
 have hlt:=h.lt;have hb:∀k∈lA N vE vA,w'.heap[k]?=w.heap[k]?:=λk hm=>hk.blk k (hlt k hm).2 λhl=>by have:=hL k hl;have:=(hlt k hm).1;omega
 refine ⟨(hb N (aV.2 (.inl rfl))).trans h.hN,h.bN,ak h.own λg hg=>hb g (aV.2 (.inr (.inl hg))),λi hi=>?_,OR.keep h.acc λg hg=>hb g (aV.2 (.inr (.inr hg))),h.out⟩;obtain ⟨v,h1,h2,h3,h4,h5⟩:=h.Q1 i hi;exact ⟨v,h1,h2.keep (λg hg hl=>by have:=hL g hl;have:=(h5 g hg).1;omega) hk,h3,h4,λg hg=>⟨(h5 g hg).1,Nat.lt_of_lt_of_le (h5 g hg).2 hk.size⟩⟩
def j0 (B:Nat) (w:World) (v:Value) (m:Mc):Prop:=∀w',ah (List.range B) [] w w'->ia w' v m
theorem j0.mc {B:Nat} {w:World} {v:Value} {m:Mc} (h:j0 B w v m):ia w v m:=h w ⟨rfl,rfl,rfl,Nat.le_refl _,λ_ _ _=>rfl,λk hk=>by cases hk⟩
theorem j0.mono {B B':Nat} {w:World} {v:Value} {m:Mc} (h:j0 B w v m) (hB:B'<=B):j0 B' w v m:=λw' hk=>
 h w' ⟨hk.os,hk.tape,hk.output,hk.size,λk h1 hn=>hk.blk k h1 λhm=>hn (List.mem_range.2 (by have:=List.mem_range.1 hm;omega)),λk hk=>by cases hk⟩
theorem j0.keep {B:Nat} {w w':World} {v:Value} {m:Mc} {L L':List Nat} (h:j0 B w v m) (hk:ah L L' w w') (hL:∀k∈L,k<B):j0 B w' v m:=λw2 bM=>
 h w2 ⟨bM.os.trans hk.os,bM.tape.trans hk.tape,bM.output.trans hk.output,Nat.le_trans hk.size bM.size,λk h1 hn=>(bM.blk k (Nat.lt_of_lt_of_le h1 hk.size) hn).trans (hk.blk k h1 λhm=>hn (List.mem_range.2 (hL k hm))),λk hk=>by cases hk⟩
theorem j0.later {B:Nat} {w w':World} {v:Value} {m:Mc} (h:j0 B w v m) (hb:Below w.heap.size w w'):j0 B w' v m:=h.keep (ah.aa (fp:=[]) hb) (λk hk=>by cases hk)
theorem iR.up {B N:Nat} {fx:List Nat} {vE vA:Value} {gv:List Value} {rs:List (List Ed)} {bE:List Bool} {w:World} (h:iR B N fx vE vA gv rs bE w):j0 B w (.agg #[vE,vA]) ⟨rs,bE⟩:=λ_ hk=>(h.low hk λ_ hk=>List.mem_range.1 hk).abR
theorem OR.setAt {α:Type} {enc:α->List Value} {n:Nat} (E:jg enc n) {e:TypeId} {B g c:Nat} {o:List α} {w:World} (h:OR e n enc B (.slice (some ⟨g,0,none⟩) o.length c) o w) (k j:Nat) (hk:k<o.length) (hj:j<n) (x:α) (u:Value) (hx:enc x=(enc o[k]).set j u) :
  OR e n enc B (.slice (some ⟨g,0,none⟩) o.length c) (o.set k x) (w.setCell ⟨g,k*n+j,none⟩ u):=by
 have h1:w.ownsRow B e n (.slice (some ⟨g,0,none⟩) o.length c) o.length (aY enc o):=h;have h2:=(h1.stored (k*n+j) u).1;have ho:o=o.take k++([o[k]]++o.drop (k+1)):=by
  rw[List.singleton_append,<-List.drop_eq_getElem_cons hk,List.take_append_drop]
 have hs:o.set k x=o.take k++([x]++o.drop (k+1)):=by
  rw[List.set_eq_take_append_cons_drop,if_pos hk,List.singleton_append]
 have hA:(aY enc (o.take k)).length=k*n:=by rw[fD E,List.length_take,Nat.min_eq_left (Nat.le_of_lt hk)]
 have h3:(aY enc o).set (k*n+j) u=aY enc (o.set k x):=by
  rw[hs]
  conv=>lhs;rw[ho]
  rw[bA,bA,bf,bA,bA,bf,List.set_append_right _ _ (by rw[hA];omega),hA,show k*n+j-k*n=j by omega,List.set_append_left _ _ (by rw[E.len];exact hj),hx]
 show World.ownsRow _ _ _ _ _ _ _;rw[List.length_set,<-h3];exact h2
end
section
set_option linter.unusedVariables false
set_option linter.unusedSimpArgs false
open Go.RowKit
open Go.Maps (Keyed)
def zf (c:Option Nat):List Value:=[.int .i64 (Gz c)]
theorem GA:jg zf 1:=⟨by decide,λ_=>rfl,λx u hu=>by simp[zf]at hu;subst hu;rfl⟩
theorem td (o:List (Option Nat)):aY zf o=o.map λc=>.int .i64 (Gz c):=by
 unfold aY
 induction o with
 | nil=>rfl
 | cons b r ih=>simp only[List.map_cons,List.flatten_cons,ih];rfl
theorem wE.gW {w:World} {B:Nat} {v:Value} {l:List (Option Nat)} (h:OR 3 1 zf B v l w):wE w v l:=by
 obtain ⟨A,c,e,hc,eA⟩:=h.cells GA;have Bb:c<=9223372036854775807:=by
  obtain ⟨A',c',e',-,h'⟩:=ag (show w.ownsRow _ _ _ _ _ _ from h);rw[e]at e';injection e' with _ _ e3;rw[e3];exact h'
 refine ⟨A,c,e,⟨hc,Bb⟩,eA.imp id ?_⟩;rintro ⟨g,h1,-,hg,hcell⟩;refine ⟨g,0,h1,hg,λi hi=>?_⟩;have:=(hcell i hi 0 (by decide)).1
 rw[Nat.mul_one,Nat.add_zero]at this;rw[Nat.zero_add,this];rfl
theorem OR.QC {B g n c:Nat} {o:List (Option Nat)} {w:World} (h:OR 3 1 zf B (.slice (some ⟨g,0,none⟩) n c) o w) (hn:o.length=n) (s:Nat) (x:Option Nat):OR 3 1 zf B (.slice (some ⟨g,0,none⟩) n c) (o.set s x) (w.setCell ⟨g,s,none⟩ (.int .i64 (Gz x))):=by
 have h1:w.ownsRow B 3 1 (.slice (some ⟨g,0,none⟩) n c) n (aY zf o):=by have:=h;unfold OR at this;rwa [hn]at this
 have h2:=(h1.stored s (.int .i64 (Gz x))).1;show World.ownsRow _ _ _ _ _ _ _;rw[List.length_set,hn,td,List.map_set];rw[td]at h2;exact h2
theorem qW (w:World) (n:Nat) (hn:n<=1000000):OR 3 1 zf w.heap.size (.slice (some ⟨w.heap.size,0,none⟩) n n) (List.replicate n (some 0)) (w.alloc (.cells (Array.replicate n (.int .i64 0)) 3)):=by
 refine ⟨by rw[td];simp, .inr ⟨w.heap.size,n,Array.replicate n (.int .i64 0),by simp,Nat.le_refl _,heap_alloc_new w _,by simp,by unfold maxLen;omega,by simp,?_⟩⟩
 rw[td,List.length_replicate];simp[Gz]
theorem Ca (n:Nat) (hn:n<=1000000) (w:World):(Instr.makeSlice 22 (.int .i64 (n:Int)) (.int .i64 (n:Int))).run Tryz.prog w = .ok (.slice (some ⟨w.heap.size,0,none⟩) n n) (w.alloc (.cells (Array.replicate n (.int .i64 0)) 3)):=by
 obtain ⟨i0,hi,hz0,hz1,hz2⟩:=info_parts ft;have h:=run_makeSlice (P:=Tryz.prog) (w:=w) 22 3 i0 (.int .i64 0) Tryz.underlying22 hi hz0 .i64 .i64 (n:Int) (n:Int) (by omega) (Int.le_refl _) (by rw[hz1];omega) (by rw[hz2];omega) (by omega)
 rw[hz1,Int.toNat_natCast]at h;rw[show madeCells (Value.int IntKind.i64 0).cells (n*1)=Array.replicate n (.int .i64 0) from Array.toList_inj.1 (by
  simp only[madeCells,Value.cells,Nat.mul_one,Array.toList_map,Array.toList_range,Array.toList_replicate];rw[List.eq_replicate_iff];refine ⟨by simp,λx hx=>?_⟩
  obtain ⟨i,-,rfl⟩:=List.mem_map.1 hx;simp[Nat.mod_one])]at h
 exact h
def MN (P:Program) (k:TypeId) (b n:Nat) (f:Lit->Option Value) (w:World):Prop:=
 ∃D:DataW Value,w.ownsMap P k og b n D/\Maps.size D=n/\∀x,WideAt.IsKeyLit x->(∀z,D.atKey x z=match f x with | none=>z | some v=>.held v)/\Maps.has D x=(f x).isSome
theorem MN.mv {P:Program} {k:TypeId} {b n:Nat} {f:Lit->Option Value} {w:World} (h:MN P k b n f w):MV P k b n f w:=by
 obtain ⟨D,h1,-,h3⟩:=h;exact ⟨D,h1,h3⟩
theorem MN.made (P:Program) (k:TypeId) (w:World):MN P k w.heap.size 0 (λ_=>none) (w.alloc (.map #[] 0)):=
 ⟨_,World.ownsMap_made w P k og,rfl,λx _=>⟨λz=>rfl,rfl⟩⟩
theorem MN.kept {P:Program} {k:TypeId} {b n:Nat} {f:Lit->Option Value} {w w':World} (h:MN P k b n f w) (hb:w'.heap[b]?=w.heap[b]?):MN P k b n f w':=by
 obtain ⟨D,⟨es,c,h1,h2⟩,h3⟩:=h;exact ⟨D,⟨es,c,hb.trans h1,h2⟩,h3⟩
theorem MN.put {P:Program} {k e t:TypeId} {b n:Nat} {f:Lit->Option Value} {w:World} (h:MN P k b n f w) (K:Keyed P k) (ht:P.underlying t=some (.map k e)) (hn:n<maxLen) {key:Value} {x:Lit} (jD:keyOf P k key=some x) (hx:WideAt.IsKeyLit x) (v:Value) (jU:f x=none) :
  ∃w',(Instr.mapUpdate t (.map (some b)) key v).run P w = .ok () w'/\MN P k b (n+1) (jV f x (some v)) w'/\w.grownBy w' (some b):=by
 obtain ⟨D,h1,hs,h2⟩:=h;obtain ⟨w',hr,h3,h4⟩:=h1.update K ht hn jD (show og v=some (.held v,[]) from rfl);have hD:Maps.IsMap D:=h1.isMap;refine ⟨w',hr,⟨_,h3,?_,λy hy=>?_⟩,h4⟩
 .rw[Maps.size_put (h1.tidy K),(h2 x hx).2,jU,hs];rfl
 .unfold jV;by_cases e:y=x
  .subst e;rw[if_pos (WideAt.sameKey_self hx)];exact ⟨λz=>Maps.atKey_put_same hD hx _ _,Maps.has_put_same hD hx _⟩
  .rw[if_neg (λh=>e (WideAt.sameKey_eq h))];exact ⟨λz=>by rw[Maps.atKey_put_other e];exact (h2 y hy).1 z,by rw[Maps.has_put_other e];exact (h2 y hy).2⟩
theorem wF {P:Program} (w:World) {ops:Array Oper} {rest:List Oper} {o:Oper} {a:Act} {Q:Exit->Act->World->Prop}
  (hg:o.guard=none) (m x v:Operand) (t:TypeId) (pD:o.op=Op.mapUpdate t m x v) (k e:TypeId) (K:Keyed P k) (ht:P.underlying t=some (.map k e)) (b n:Nat) (f:Lit->Option Value)
  (hm:a.eval m = .map (some b)) (h:MN P k b n f w) (hn:n<maxLen) (key val:Value) (kl:Lit) (hx:a.eval x=key) (hv:a.eval v=val) (jD:keyOf P k key=some kl) (di:WideAt.IsKeyLit kl) (jU:f kl=none)
  (hK:∀w',MN P k b (n+1) (jV f kl (some val)) w'->w.grownBy w' (some b)->wpList P ops Q rest (a.put o.dst undef) w') :
  wpList P ops Q (o::rest) a w:=by
 refine wpList_plain hg λK' hK'=>?_;obtain ⟨w',Mm,r1,r2⟩:=h.put K ht hn jD di val jU;unfold Oper.wp;simp[execOp,pD,hm,hx,hv,Mm,Result.andThen];exact hK' _ _ (hK w' r1 r2)
theorem jE {P:Program} {w:World} {ops:Array Oper} {rest:List Oper} {o:Oper} {a:Act} {Q:Exit->Act->World->Prop} (hg:o.guard=none) (m:Operand) (t:TypeId) (pD:o.op=Op.call { callee:=Callee.builtin Builtin.len,args:=#[m],argTypes:=#[t] })
  (k e:TypeId) (ht:P.underlying t=some (.map k e)) (b n:Nat) (f:Lit->Option Value) (hm:a.eval m = .map (some b)) (h:MN P k b n f w)
  (hK:wpList P ops Q rest (a.put o.dst (.int .i64 (n:Int))) w):wpList P ops Q (o::rest) a w:=by
 obtain ⟨D,h1,h2,-⟩:=h;refine wpList_len_own w hg m t pD k e ht og b n D hm h1 ?_;rw[h2];exact hK
def Bg (m:Mc) (cs:List (Option Nat)) (s:Nat):Bool×List Ed:=mj m (bR cs) s
def I8 (seen:List (Bool×List Ed)) (x:Bool×List Ed):Option Value:=if x∈seen then some (.int .i64 ((seen.idxOf x:Nat):Int)) else none
def ub (F:Lit->Option Value) (seen:List (Bool×List Ed)):Prop:=∀x:Bool×List Ed,F (.string (oh x.1 x.2))=I8 seen x
theorem gT {α:Type} [BEq α] [LawfulBEq α] {l:List α} {x:α} (h:x∈l):l.idxOf x<l.length/\l[l.idxOf x]?=some x:=by
 have h1:=List.idxOf_lt_length_of_mem h;exact ⟨h1,by rw[List.getElem?_eq_getElem h1,List.getElem_idxOf]⟩
theorem ub.nil:ub (λ_=>none) []:=λx=>rfl
theorem ub.put {F:Lit->Option Value} {seen:List (Bool×List Ed)} (h:ub F seen) (x:Bool×List Ed) (hx:x∉seen) (n:Int) (hn:n=(seen.length:Int)):ub (jV F (.string (oh x.1 x.2)) (some (.int .i64 n))) (seen++[x]):=by
 intro y;subst hn;unfold jV;by_cases e:y=x
 .subst e;rw[if_pos (by simp[Lit.sameKey])]
  unfold I8;rw[if_pos (by simp),List.idxOf_append,if_neg hx]
  simp
 .rw[if_neg (by
   simp only[Lit.sameKey,beq_iff_eq];intro he;obtain ⟨h1,h2⟩:=I9 he;exact e (Prod.ext h1 h2)),h y]
  unfold I8;by_cases hy:y∈seen
  .rw[if_pos hy,if_pos (by simp[hy]),List.idxOf_append,if_pos hy]
  .rw[if_neg hy,if_neg (by simp[hy,e])]
structure jh (m:Mc) (cs ds:List (Option Nat)) (seen:List (Bool×List Ed)) (k:Nat):Prop where
 len:ds.length=m.ed.length
 nd:seen.Nodup
 dC:∀s,s<k->bR cs s=none->bR ds s=none
 live:∀s,s<k->bR cs s≠none->Bg m cs s∈seen/\bR ds s=some (seen.idxOf (Bg m cs s))
 Y4:∀x∈seen,∃s,s<k/\bR cs s≠none/\Bg m cs s=x
theorem jh.start {m:Mc} {cs:List (Option Nat)} (ds:List (Option Nat)) (h:ds.length=m.ed.length):jh m cs ds [] 0:=⟨h,List.nodup_nil,λs hs=>absurd hs (Nat.not_lt_zero _),λs hs=>absurd hs (Nat.not_lt_zero _),λx hx=>by cases hx⟩
theorem mU {ds:List (Option Nat)} {k:Nat} {x:Option Nat} (hk:k<ds.length) (s:Nat):bR (ds.set k x) s=if s=k then x else bR ds s:=by
 unfold bR;rw[List.getElem?_set];by_cases h:s=k
 .subst h;rw[if_pos rfl,if_pos rfl,if_pos hk];rfl
 .rw[if_neg (Ne.symm h),if_neg h]
section
variable {m:Mc} {cs ds:List (Option Nat)} {seen:List (Bool×List Ed)} {k:Nat}
theorem jh.none_ (h:jh m cs ds seen k) (hk:k<m.ed.length) (hc:bR cs k=none):jh m cs (ds.set k none) seen (k+1):=by
 have hl:k<ds.length:=by rw[h.len];exact hk
 refine ⟨by rw[List.length_set];exact h.len,h.nd,λs hs hcs=>?_,λs hs hcs=>?_,λx hx=>?_⟩
 .rw[mU hl];by_cases e:s=k
  .rw[if_pos e]
  .rw[if_neg e];exact h.dC s (by omega) hcs
 .rw[mU hl];by_cases e:s=k
  .subst e;exact absurd hc hcs
  .rw[if_neg e];exact h.live s (by omega) hcs
 .obtain ⟨s,h1,h2,h3⟩:=h.Y4 x hx;exact ⟨s,by omega,h2,h3⟩
theorem jh.old (h:jh m cs ds seen k) (hk:k<m.ed.length) (hc:bR cs k≠none) (dk:Bg m cs k∈seen):jh m cs (ds.set k (some (seen.idxOf (Bg m cs k)))) seen (k+1):=by
 have hl:k<ds.length:=by rw[h.len];exact hk
 refine ⟨by rw[List.length_set];exact h.len,h.nd,λs hs hcs=>?_,λs hs hcs=>?_,λx hx=>?_⟩
 .rw[mU hl];by_cases e:s=k
  .subst e;exact absurd hcs hc
  .rw[if_neg e];exact h.dC s (by omega) hcs
 .rw[mU hl];by_cases e:s=k
  .subst e;rw[if_pos rfl];exact ⟨dk,rfl⟩
  .rw[if_neg e];exact h.live s (by omega) hcs
 .obtain ⟨s,h1,h2,h3⟩:=h.Y4 x hx;exact ⟨s,by omega,h2,h3⟩
theorem jh.new (h:jh m cs ds seen k) (hk:k<m.ed.length) (hc:bR cs k≠none) (dk:Bg m cs k∉seen):jh m cs (ds.set k (some seen.length)) (seen++[Bg m cs k]) (k+1):=by
 have hl:k<ds.length:=by rw[h.len];exact hk
 refine ⟨by rw[List.length_set];exact h.len,?_,λs hs hcs=>?_,λs hs hcs=>?_,λx hx=>?_⟩
 .rw[List.nodup_append];exact ⟨h.nd,by simp,λx hx y hy=>by rw[List.mem_singleton]at hy;subst hy;rintro rfl;exact dk hx⟩
 .rw[mU hl];by_cases e:s=k
  .subst e;exact absurd hcs hc
  .rw[if_neg e];exact h.dC s (by omega) hcs
 .rw[mU hl];by_cases e:s=k
  .subst e;rw[if_pos rfl,List.idxOf_append,if_neg dk];simp
  .rw[if_neg e];obtain ⟨h1,h2⟩:=h.live s (by omega) hcs
   exact ⟨List.mem_append_left _ h1,by rw[h2,List.idxOf_append,if_pos h1]⟩
 .rcases List.mem_append.1 hx with hx | hx
  .obtain ⟨s,h1,h2,h3⟩:=h.Y4 x hx;exact ⟨s,by omega,h2,h3⟩
  .rw[List.mem_singleton]at hx;exact ⟨k,by omega,hc,hx.symm⟩
structure ml (m:Mc) (cs:List (Option Nat)) (kn:Nat):Prop where
 len:cs.length=m.ed.length
 cl:ud m (bR cs)
 kn:kn=0\/(∀c,c<kn↔∃s,s<m.ed.length/\bR cs s=some c)
 lt:∀s c,bR cs s=some c->c<m.ed.length
theorem kD {m:Mc} {c:Nat->Option Nat} (h:ud m c) {s:Nat} (hs:s<m.ed.length):c s≠none↔bc m s:=by
 constructor
 .intro hn;by_cases hl:bc m s
  .exact hl
  .exact absurd ((h.dC s hs).2 hl) hn
 .intro hl hn;exact (h.dC s hs).1 hn hl
theorem Cb (h:jh m cs ds seen m.ed.length):seen.length<=m.ed.length:=by
 have h1:(List.range m.ed.length).length=m.ed.length:=List.length_range;have:=jW (l:=seen) (r:=(List.range m.ed.length).map (Bg m cs)) h.nd (λx hx=>by
  obtain ⟨s,h1,-,h3⟩:=h.Y4 x hx;exact List.mem_map.2 ⟨s,List.mem_range.2 h1,h3⟩)
 simpa using this
theorem jh.Mn (h:jh m cs ds seen m.ed.length) (hh:ud m (bR cs)):Mo m (bR cs) (bR ds):=by
 refine ⟨λs hs=>?_,λs t hs ht h1 h2=>?_⟩
 .rw[<-hh.dC s hs];constructor
  .intro hd;by_cases hc:bR cs s=none
   .exact hc
   .rw[(h.live s hs hc).2]at hd;cases hd
  .exact h.dC s hs
 .obtain ⟨a1,a2⟩:=h.live s hs ((kD hh hs).2 h1);obtain ⟨b1,b2⟩:=h.live t ht ((kD hh ht).2 h2);rw[a2,b2];constructor
  .intro he;injection he with he;have e1:=(gT a1).2;have e2:=(gT b1).2;rw[he,e2]at e1;exact (Option.some.inj e1).symm
  .intro he;show some (seen.idxOf (mj m (bR cs) s))=some (seen.idxOf (mj m (bR cs) t));rw[he]
theorem zg (h:jh m cs ds seen m.ed.length) (y:Nat):y<seen.length↔∃s,s<m.ed.length/\bR ds s=some y:=by
 constructor
 .intro hy;obtain ⟨s,h1,h2,h3⟩:=h.Y4 seen[y] (List.getElem_mem hy);refine ⟨s,h1,?_⟩;rw[(h.live s h1 h2).2,h3,h.nd.idxOf_getElem y hy]
 .rintro ⟨s,hs,hd⟩;by_cases hc:bR cs s=none
  .rw[h.dC s hs hc]at hd;cases hd
  .obtain ⟨h1,h2⟩:=h.live s hs hc;rw[h2]at hd;injection hd with hd;rw[<-hd];exact (gT h1).1
theorem ml.count {kn:Nat} (hh:ml m cs kn) (h:jh m cs ds seen m.ed.length):kn<=seen.length/\(kn=seen.length->∀s t,s<m.ed.length->t<m.ed.length->bc m s->bc m t->bR cs s=bR cs t->bR ds s=bR ds t):=by
 have hn:=h.Mn hh.cl;rcases hh.kn with h0 | hp
 .subst h0;refine ⟨Nat.zero_le _,λhe s t hs ht hl _ _=>?_⟩;have:=(h.live s hs ((kD hh.cl hs).2 hl)).1;rw[List.length_eq_zero_iff.1 he.symm]at this
  cases this
 .have hS:∀s,s∈(List.range m.ed.length).filter (λs=>(bR cs s).isSome)↔s<m.ed.length/\bR cs s≠none:=λs=>by
   rw[List.mem_filter,List.mem_range,Option.isSome_iff_ne_none]
  have Y5:∀s,s<m.ed.length->bR cs s≠none->∃y,bR ds s=some y:=λs hs hc=>⟨_,(h.live s hs hc).2⟩;have hrc:=zh (S:=(List.range m.ed.length).filter λs=>(bR cs s).isSome) (f:=λs=>(bR cs s).getD 0) (g:=λs=>(bR ds s).getD 0) (F:=List.range kn) (G:=List.range seen.length) List.nodup_range
   (λx=>by
    rw[List.mem_range,hp x];constructor
    .rintro ⟨s,h1,h2⟩;exact ⟨s,(hS s).2 ⟨h1,by rw[h2];simp⟩,by simp only[h2,Option.getD_some]⟩
    .rintro ⟨s,h1,h2⟩;obtain ⟨h3,h4⟩:=(hS s).1 h1;refine ⟨s,h3,?_⟩
     cases hc:bR cs s with
     | none=>exact absurd hc h4
     | some c=>simp only[hc,Option.getD_some]at h2;rw[h2])
   (λy=>by
    rw[List.mem_range,zg h y];constructor
    .rintro ⟨s,h1,h2⟩;have hc:bR cs s≠none:=λhc=>by rw[h.dC s h1 hc]at h2;cases h2
     exact ⟨s,(hS s).2 ⟨h1,hc⟩,by simp only[h2,Option.getD_some]⟩
    .rintro ⟨s,h1,h2⟩;obtain ⟨h3,h4⟩:=(hS s).1 h1;obtain ⟨y',hy'⟩:=Y5 s h3 h4;simp only[hy',Option.getD_some]at h2;exact ⟨s,h3,by rw[hy',h2]⟩)
   (λs hs t ht he=>by
    obtain ⟨s1,s2⟩:=(hS s).1 hs;obtain ⟨t1,t2⟩:=(hS t).1 ht;obtain ⟨ys,hys⟩:=Y5 s s1 s2;obtain ⟨yt,hyt⟩:=Y5 t t1 t2;simp only[hys,hyt,Option.getD_some]at he;have hd:bR ds s=bR ds t:=by rw[hys,hyt,he]
    have ls:=(kD hh.cl s1).1 s2;have lt:=(kD hh.cl t1).1 t2;have:=hh.cl.fine s t s1 t1 ls lt ((hn.eq s t s1 t1 ls lt).1 hd);simp only[this])
  simp only[List.length_range]at hrc;refine ⟨hrc.1,λhe s t hs ht ls lt hc=>?_⟩;have s2:=(kD hh.cl hs).2 ls;have t2:=(kD hh.cl ht).2 lt;have:=hrc.2 he s ((hS s).2 ⟨hs,s2⟩) t ((hS t).2 ⟨ht,t2⟩) (by simp only[hc])
  obtain ⟨ys,hys⟩:=Y5 s hs s2;obtain ⟨yt,hyt⟩:=Y5 t ht t2;simp only[hys,hyt,Option.getD_some]at this;rw[hys,hyt,this]
theorem jh.lt_ (h:jh m cs ds seen m.ed.length):∀s c,bR ds s=some c->c<m.ed.length:=λs c hc=>by
 have hs:s<m.ed.length:=by
  by_cases hs:s<ds.length
  .rw[h.len]at hs;exact hs
  .unfold bR at hc;rw[List.getElem?_eq_none (by omega)]at hc;cases hc
 have:=(zg h c).2 ⟨s,hs,hc⟩;have:=Cb h;omega
theorem ml.done {kn:Nat} (hv:pL m) (hh:ml m cs kn) (h:jh m cs ds seen m.ed.length) (he:seen.length=kn):ue m (bR ds):=hh.cl.done hv (h.Mn hh.cl) ((hh.count h).2 he.symm)
theorem ml.next {kn:Nat} (hv:pL m) (hh:ml m cs kn) (h:jh m cs ds seen m.ed.length) (he:seen.length≠kn):ml m ds seen.length/\kn<seen.length/\seen.length<=m.ed.length:=by
 have h1:=(hh.count h).1;exact ⟨⟨h.len,hh.cl.next hv (h.Mn hh.cl), .inr (zg h),h.lt_⟩,by omega,Cb h⟩
end
def dD (o:List Bool) (k n:Nat):List (Option Nat):=(List.range n).map λs=>if s<k/\o[s]?=some false then none else some 0
theorem Cc (o:List Bool) (n:Nat):dD o 0 n=List.replicate n (some 0):=by
 unfold dD;rw[List.eq_replicate_iff];refine ⟨by simp,λx hx=>?_⟩
 obtain ⟨s,-,rfl⟩:=List.mem_map.1 hx;rw[if_neg (by omega)]
theorem fU (o:List Bool) (k n:Nat):(dD o k n).length=n:=by simp[dD]
theorem Cd {o:List Bool} {k n:Nat} (h:o[k]?=some true):dD o (k+1) n=dD o k n:=by
 unfold dD;refine List.map_congr_left λs _=>?_;by_cases e:s=k
 .subst e;rw[h];simp
 .congr 1
  simp only[eq_iff_iff];constructor <;> (rintro ⟨h1,h2⟩; exact ⟨by omega,h2⟩)
theorem uf (o:List Bool) (k n s:Nat) (h:s<n):(dD o k n)[s]?=some (if s<k/\o[s]?=some false then none else some 0):=by
 unfold dD;rw[List.getElem?_map,List.getElem?_range h];rfl
theorem zi {o:List Bool} {k n:Nat} (h:o[k]?=some false):dD o (k+1) n=(dD o k n).set k none:=by
 apply List.ext_getElem?;intro s;by_cases hs:s<n
 .rw[uf o (k+1) n s hs,List.getElem?_set];by_cases e:k=s
  .subst e;rw[if_pos ⟨by omega,h⟩,if_pos rfl,if_pos (by rw[fU];exact hs)]
  .rw[if_neg e,uf o k n s hs];by_cases hx:s<k/\o[s]?=some false
   .rw[if_pos hx,if_pos ⟨by omega,hx.2⟩]
   .rw[if_neg hx,if_neg (λh=>hx ⟨by omega,h.2⟩)]
 .rw[List.getElem?_eq_none (by rw[fU];omega),List.getElem?_eq_none (by rw[List.length_set,fU];omega)]
theorem qX {o:List Bool} {n s:Nat} (ho:o.length=n):bR (dD o n n) s=if o[s]?=some true then some 0 else none:=by
 unfold bR dD;rw[List.getElem?_map];by_cases hs:s<n
 .rw[List.getElem?_range hs];simp only[Option.map_some,Option.getD_some];have hl:s<o.length:=by omega
  rw[List.getElem?_eq_getElem hl]
  cases o[s] <;> simp[hs]
 .rw[List.getElem?_eq_none (by simp;omega),List.getElem?_eq_none (by omega)]
  simp
theorem ml.first {m:Mc} {o:List Bool} (ho:o.length=m.ed.length) (h:∀s,s<m.ed.length->(o[s]?=some true↔bc m s)) (h1:1<=m.ed.length):ml m (dD o m.ed.length m.ed.length) 0:=by
 refine ⟨fU _ _ _,ud.start _ (λs hs=>?_) (λs hs hl=>?_), .inl rfl,λs c hc=>?_⟩
 .rw[qX ho,<-h s hs];by_cases hx:o[s]?=some true <;> simp[hx]
 .rw[qX ho,if_pos ((h s hs).2 hl)]
 .rw[qX ho]at hc
  split at hc
  .injection hc with hc;omega
  .cases hc
end
section
set_option linter.unusedVariables false
set_option linter.unusedSimpArgs false
open Go.RowKit
def Mp (m:Mc) (n:Nat) (w:World) (e:Ending) (w':World):Prop:=∃rv cs,e = .returned rv/\OR 3 1 zf w.heap.size rv cs w'/\Below w.heap.size w w'/\cs.length=n/\ue m (bR cs)/\∀s c,bR cs s=some c->c<n
theorem OR.lt1 {e:TypeId} {B g c n:Nat} {o:List (Option Nat)} {w:World} (h:OR e 1 zf B (.slice (some ⟨g,0,none⟩) n c) o w):g<w.heap.size:=by
 exact (World.ownsRow.lt h g rfl).2
theorem OR.ug {B g c n:Nat} {o:List (Option Nat)} {w:World} (h:OR 3 1 zf B (.slice (some ⟨g,0,none⟩) n c) o w) (s:Nat) (hs:s<o.length):w.cell? ⟨g,s,none⟩=some (.int .i64 (Gz (bR o s)))/\w.frozen? ⟨g,s,none⟩=false:=by
 obtain ⟨A,c',e,-,eA⟩:=h.cells GA;obtain ⟨g',hA,-,hg,lK⟩:=eA.resolve_left (by rintro rfl;cases hs)
 injection e with e1 _ _;rw[hA]at e1;injection e1 with e1;injection e1 with e1;subst e1;have:=lK s hs 0 (by decide)
 rw[Nat.mul_one,Nat.add_zero]at this;refine ⟨?_,this.2⟩;rw[this.1];unfold bR;rw[List.getElem?_eq_getElem hs];rfl
end
section
set_option linter.unusedVariables false
set_option linter.unusedSimpArgs false
open Go.RowKit
open Go.Maps (Keyed)
theorem CY {α:Type} (p:α->Prop) [DecidablePred p]:∀(l:List α),(∃x∈l,p x)->∃k,∃h:k<l.length,p l[k]/\∀j,(hj:j<k)->¬p (l[j]'(by omega))
 | [],h=>by obtain ⟨x,hx,-⟩:=h;cases hx
 | a::l,h=>by
  by_cases ha:p a
  .exact ⟨0,by simp,ha,λj hj=>absurd hj (Nat.not_lt_zero _)⟩
  .obtain ⟨k,hk,h1,h2⟩:=CY p l (by
    obtain ⟨x,hx,hp⟩:=h;rcases List.mem_cons.1 hx with rfl | hx
    .exact absurd hp ha
    .exact ⟨x,hx,hp⟩)
   refine ⟨k+1,by simpa using hk,by simpa using h1,λj hj=>?_⟩
   cases j with
   | zero=>simpa using ha
   | succ j=>simpa using h2 j (by omega)
theorem JQ (B g n c cl:Nat) (cs:List (Option Nat)) (w:World) (h:OR 3 1 zf B (.slice (some ⟨g,0,none⟩) n c) cs w) (hn:cs.length=n) (wO:n<=1000000) (hex:∃s,s<n/\bR cs s=some cl) :
  Calls Tryz.prog 172 #[.slice (some ⟨g,0,none⟩) n c, .int .i64 (cl:Int)] w λe w'=>∃s:Nat,e = .returned (.int .i64 (s:Int))/\w'=w/\s<n/\bR cs s=some cl:=by
 have hz:∀j,j<n->(cs.map Gz).getD j 0=Gz (bR cs j):=λj hj=>by
  unfold bR;simp only[List.getD_eq_getElem?_getD,List.getElem?_map,List.getElem?_eq_getElem (show j<cs.length by omega),Option.map_some,Option.getD_some]
 have hcell:∀j,j<(cs.map Gz).length->w.cell? ⟨g,0+j,none⟩=some (.int .i64 ((cs.map Gz).getD j 0)):=λj hj=>by
  rw[List.length_map]at hj;rw[Nat.zero_add,hz j (by omega)]
  exact (h.ug j hj).1
 refine (Tryz.slices_Index_int g 0 n c (cs.map Gz) (cl:Int) w (by simp;omega) (by omega) hcell).mono ?_
 rintro e w' ⟨rfl,rfl⟩;obtain ⟨s,hs,hsc⟩:=hex;obtain ⟨k,hk,h1,h2⟩:=CY (λx=>x=some cl) cs ⟨cs[s]'(by omega),List.getElem_mem _,by
  have:=hsc;unfold bR at this;rwa [List.getElem?_eq_getElem (by omega:s<cs.length),Option.getD_some]at this⟩
 have lC:bR cs k=some cl:=by unfold bR;rw[List.getElem?_eq_getElem hk,h1];rfl
 refine ⟨k,?_,rfl,by omega,lC⟩
 rw[Lib.idxOf_hit (cs.map Gz) n k (cl:Int) (by omega) (by simp;omega) (by rw[hz k (by omega),lC];rfl) λj hj=>?_]
 rw[hz j (by omega)]
 intro hc;have h3:=h2 j hj;have hjc:bR cs j=cs[j]'(by omega):=by unfold bR;rw[List.getElem?_eq_getElem (by omega:j<cs.length)];rfl
 rw[hjc]at hc
 cases hq:cs[j]'(by omega) with
 | none=>rw[hq]at hc;have h9:(-1:Int)=(cl:Int):=hc;omega
 | some y=>
  rw[hq]at hc;have h9:(y:Int)=(cl:Int):=hc;have h8:y=cl:=by omega
  subst h8;exact h3 hq
def rY (F:Lit->Option Value) (c:Nat->Option Nat) (st:List Nat):Prop:=∀cl:Nat,F (.int .i64 (cl:Int))=if some cl∈st.map c then some (.int .i64 ((bV c st cl:Nat):Int)) else none
theorem rY.first {c:Nat->Option Nat} {c0:Nat} (h:c 0=some c0):rY (jV (λ_=>none) (.int .i64 (c0:Int)) (some (.int .i64 0))) c [0]:=λcl=>by
 unfold jV;by_cases e:cl=c0
 .subst e;rw[if_pos (by simp[Lit.sameKey]),if_pos (by simp[h])]
  simp[bV,h]
 .rw[if_neg (by simp[Lit.sameKey];omega),if_neg (by simp[h];omega)]
theorem rY.put {F:Lit->Option Value} {c:Nat->Option Nat} {st:List Nat} (h:rY F c st) {cl s:Nat} (hn:¬some cl∈st.map c) (hc:c s=some cl) (x:Int) (hx:x=(st.length:Int)):rY (jV F (.int .i64 (cl:Int)) (some (.int .i64 x))) c (st++[s]):=λy=>by
 subst hx;unfold jV;by_cases e:y=cl
 .subst e;rw[if_pos (by simp[Lit.sameKey]),if_pos (by simp[hc]),CZ hn hc]
 .rw[if_neg (by simp[Lit.sameKey];omega),h y]
  by_cases hy:some y∈st.map c
  .rw[if_pos hy,if_pos (by rw[List.map_append];exact List.mem_append_left _ hy),yk s hy]
  .rw[if_neg hy,if_neg];intro hm;rw[List.map_append,List.mem_append]at hm;rcases hm with hm | hm
   .exact hy hm
   .simp[hc]at hm;exact e hm
theorem wS {P:Program} (w:World) {ops:Array Oper} {rest:List Oper} {o:Oper} {a:Act} {Q:Exit->Act->World->Prop}
  (hg:o.guard=none) (m x v:Operand) (t:TypeId) (pD:o.op=Op.insert t m x v) (k e:TypeId) (K:Keyed P k) (ht:P.underlying t=some (.map k e)) (b n:Nat) (f:Lit->Option Value)
  (hm:a.eval m = .map (some b)) (h:MV P k b n f w) (hn:n<maxLen) (key val:Value) (kl:Lit) (hx:a.eval x=key) (hv:a.eval v=val) (jD:keyOf P k key=some kl) (di:WideAt.IsKeyLit kl)
  (hK:∀w',MV P k b (n+1) (jV f kl (some val)) w'->w.grownBy w' (some b)->wpList P ops Q rest (a.put o.dst undef) w') :
  wpList P ops Q (o::rest) a w:=by
 refine wpList_plain hg λK' hK'=>?_;obtain ⟨w',Mm,r1,r2⟩:=h.put K ht hn jD di val;unfold Oper.wp;simp[execOp,pD,hm,hx,hv,Mm,Result.andThen];exact hK' _ _ (hK w' r1 r2)
theorem He {P:Program} {k e:TypeId} {b n B q n':Nat} {f:Lit->Option Value} {w:World} {v:Value} {xs:List Value} (h:MV P k b n f w) (ho:w.ownsRow B e q v n' xs):v.ownBlock≠some b:=λhv=>by
 obtain ⟨D,⟨es,c,h1,-⟩,-⟩:=h;obtain ⟨cs,md,h2⟩:=aT ho b hv;rw[h1]at h2;injection h2 with h2
 cases h2
theorem iR.sub {B N:Nat} {fx fx':List Nat} {vE vA:Value} {gv:List Value} {rs:List (List Ed)} {bE:List Bool} {w:World} (h:iR B N fx vE vA gv rs bE w) (hs:∀k∈fx',k∈fx):iR B N fx' vE vA gv rs bE w:=
 h.keep ⟨rfl,rfl,rfl,Nat.le_refl _,λ_ _ _=>rfl,λk hk=>.inl (hs k hk)⟩
structure ym (m:Mc) (c:Nat->Option Nat) (B N mb i:Nat) (bl:List Nat) (rs:List (List Ed)) (bE:List Bool) (vE vA:Value) (gv:List Value) (p:List Ed) (t:Nat) (st:List Nat) (F:Lit->Option Value) (kX:Value) (w:World):Prop where
 ma:iR B N (mb::(blk kX++bl)) vE vA gv rs bE w
 mv:MV Tryz.prog 3 mb st.length F w
 bm:B<=mb
 say:rY F c st
 own:w.ownsRow B 3 1 kX st.length (bG st)
 le:zO m c st i rs p t
 ac:bE=(st.take i).map λs=>(m.ac[s]?).getD false
section
variable {m:Mc} {c:Nat->Option Nat} {B N mb i:Nat} {bl:List Nat} {rs:List (List Ed)} {bE:List Bool} {vE vA:Value} {gv:List Value} {p:List Ed} {t:Nat} {st:List Nat} {F:Lit->Option Value} {kX:Value} {w w':World}
theorem ym.later (h:ym m c B N mb i bl rs bE vE vA gv p t st F kX w) (hb:Below w.heap.size w w'):ym m c B N mb i bl rs bE vE vA gv p t st F kX w':=
 ⟨h.ma.later hb,h.mv.kept (hb.block _ h.mv.lt),h.bm,h.say,bj h.own hb,h.le,h.ac⟩
theorem ym.ac6 (h:ym m c B N mb i [] rs bE vE vA gv p t st F kX w) (hb:Below w.heap.size w w') (lv:Value) (hl:∀g,lv.ownBlock=some g->w.heap.size<=g):ym m c B N mb i (blk lv) rs bE vE vA gv p t st F kX w':=
 ⟨h.ma.keep ⟨hb.os,hb.tape,hb.output,hb.size,λk hk _=>hb.block k hk,λk hk=>by
  rcases List.mem_cons.1 hk with rfl | hk
  .exact .inl (by simp)
  .rcases List.mem_append.1 hk with hk | hk
   .exact .inl (by simp[hk])
   .exact .inr (hl k (aA.1 hk))⟩,h.mv.kept (hb.block _ h.mv.lt),h.bm,h.say,bj h.own hb,h.le,h.ac⟩
theorem ym.Xm {lv:Value} {g:Nat} {a:Addr} (h:ym m c B N mb i (blk lv) rs bE vE vA gv p t st F kX w) (hg:lv.ownBlock=some g) (ha:a.block=g) (hcs:∃cs md,w.heap[g]?=some (.cells cs 195 md)) (x:Value) {p':List Ed} (hp:zO m c st i rs p' t):ym m c B N mb i (blk lv) rs bE vE vA gv p' t st F kX (w.setCell a x):=by
 have bg:∀k,k≠g->(w.setCell a x).heap[k]?=w.heap[k]?:=λk hk=>Below.heap_setCell _ _ _ _ (by rw[ha];exact hk)
 obtain ⟨cs,md,hcs⟩:=hcs;have hm:g≠mb:=by
  rintro rfl;obtain ⟨D,⟨es,c,h1,-⟩,-⟩:=h.mv;rw[hcs]at h1;injection h1 with h1
  cases h1
 have dV:=(Array.getElem?_eq_some_iff.1 hcs).1;refine ⟨h.ma.keep ⟨rfl,rfl,rfl,by simp[World.setCell],λk _ hn=>bg k (λe=>hn (by simp[aA,e,hg])),λk hk=>.inl hk⟩,h.mv.kept (bg mb (Ne.symm hm)),h.bm,h.say,ak h.own λq hq=>bg q ?_,hp,h.ac⟩
 rintro rfl;exact Fs h.own hcs (by decide) hq
theorem ym.meet {w1 w2 w3:World} {lv uX:Value} {F':Lit->Option Value} {st':List Nat} (h:ym m c B N mb i (blk lv) rs bE vE vA gv p t st F kX w) (et:w.grownBy w1 (some mb)) (tY:MV Tryz.prog 3 mb st'.length F' w1)
  (aL:Below w1.heap.size w1 w2) (rQ:w2.grownBy w3 kX.ownBlock) (ho3:w3.ownsRow B 3 1 uX st'.length (bG st')) (oT:cW uX kX w2.heap.size) (Hf:∀g,lv.ownBlock=some g->g<w.heap.size)
  (Lb:rY F' c st') {p':List Ed} (hle:zO m c st' i rs p' t) (xD:st'.take i=st.take i):ym m c B N mb i (blk lv) rs bE vE vA gv p' t st' F' uX w3:=by
 have hne:=He h.mv h.own;have z1:=et.size;have z2:=aL.size;have z3:=rQ.size;have Va:=h.mv.lt;have hk:ah (mb::(blk kX++blk lv)) (mb::(blk uX++blk lv)) w w3:=by
  refine ⟨rQ.os.trans (aL.os.trans et.os),rQ.tape.trans (aL.tape.trans et.tape),rQ.output.trans (aL.output.trans et.output),by omega,λk hk hn=>?_,λk hk=>?_⟩
  .exact (rQ.block k (by omega) (λe=>hn (by simp[aA,e.symm]))).trans ((aL.block k (by omega)).trans (et.block k hk (λe=>hn (by injection e with e;simp[e]))))
  .rcases List.mem_cons.1 hk with rfl | hk
   .exact .inl (by simp)
   .rcases List.mem_append.1 hk with hk | hk
    .exact (iV oT (aA.1 hk)).imp (λh=>by simp[aA,h]) (λh=>by omega)
    .exact .inl (by simp[hk])
 exact ⟨h.ma.keep hk,tY.kept ((rQ.block mb (by omega) (λe=>hne e.symm)).trans (aL.block mb (by omega))),h.bm,Lb,ho3,hle,by rw[xD];exact h.ac⟩
end
def Jo (m m':Mc):Prop:=((bc m 0/\Canon m'/\∀w,jn m' w 0=jn m w 0)\/(¬bc m 0/\m'=⟨[[]],[false]⟩))/\m'.ed.length<=m.ed.length/\sf m'
def NN (m:Mc) (w:World) (e:Ending) (w':World):Prop:=∃rv m',e = .returned rv/\j0 w.heap.size w' rv m'/\Below w.heap.size w w'/\Jo m m'
end
section
set_option linter.unusedVariables false
set_option linter.unusedSimpArgs false
open Go.RowKit
open Go.Maps (Keyed)
theorem RL (f:Nat->Nat) (J:List Ed) (k:Nat) (h:k<J.length):(dy f (J.take k)++J.drop k).set k ⟨J[k].lo,J[k].hi,f J[k].to⟩=dy f (J.take (k+1))++J.drop (k+1):=by
 have hl:(dy f (J.take k)).length=k:=by rw[qt,List.length_take];omega
 rw[List.set_append_right _ _ (by omega),hl,Nat.sub_self,List.drop_eq_getElem_cons h,List.set_cons_zero,List.take_succ_eq_append_getElem h,j7,List.append_assoc]
 rfl
theorem NP (f:Nat->Nat) (J:List Ed) (k:Nat) (h:k<J.length):∃h2,(dy f (J.take k)++J.drop k)[k]'h2=J[k]:=by
 have hl:(dy f (J.take k)).length=k:=by rw[qt,List.length_take];omega
 refine ⟨by rw[List.length_append,hl,List.length_drop];omega,?_⟩
 rw[List.getElem_append_right (by omega)]
 simp[hl]
theorem Hg (f:Nat->Nat) (J:List Ed) (k:Nat) (h:k<=J.length):(dy f (J.take k)++J.drop k).length=J.length:=by
 rw[List.length_append,qt,List.length_take,List.length_drop];omega
theorem ym.RM {m:Mc} {c:Nat->Option Nat} {B N mb i:Nat} {rs:List (List Ed)} {bE:List Bool} {vE vA pG rT lv:Value} {gv:List Value} {p:List Ed} {t:Nat} {st:List Nat} {F:Lit->Option Value} {kX:Value} {w w':World} {B1 s:Nat} {a:Bool}
  (h:ym m c B N mb i (blk lv) rs bE vE vA gv p t st F kX w) (PQ:B<=B1) (Hf:OR 195 3 ki B1 lv (dy (bV c st) p) w) (hk:ah (lA N vE vA) [] w w')
  (hN:w'.heap[N]?=some (.cells #[pG,rT] 93 (0,0))) (hE:w'.ownsRow B 187 1 pG (rs.length+1) (gv++[lv])) (hA:OR 4 1 bC B rT (bE++[a]) w') (fE:cW pG vE w.heap.size) (fA:cW rT vA w.heap.size)
  (hit:i<=t) (hs:st[i]?=some s) (hp:p=bJ c (br m s)) (ha:a=(m.ac[s]?).getD false) :
  ym m c B N mb (i+1) [] (rs++[dy (bV c st) p]) (bE++[a]) pG rT (gv++[lv]) [] (wT t (dy (bV c st) p)) st F kX w':=by
 have hout:aG (lA N vE vA) lv:=λg hg hm=>h.ma.out g hm (by simp[aA,hg])
 have hx:aG (mb::(blk kX++[])) lv:=λg hg hm=>by
  rcases List.mem_cons.1 hm with rfl | hm
  .exact He h.mv (show w.ownsRow _ _ _ _ _ _ from Hf) hg
  .rw[List.append_nil]at hm;exact j8 (show w.ownsRow _ _ _ _ _ _ from Hf) h.own (by decide) g hg (aA.1 hm)
 have hl:∀g,lv.ownBlock=some g->B<=g/\g<w.heap.size:=λg hg=>⟨Nat.le_trans PQ (World.ownsRow.lt Hf g hg).1,(World.ownsRow.lt Hf g hg).2⟩;have hmk:=h.ma.sub (fx':=mb::(blk kX++[])) (λk hk=>by
  rw[List.append_nil]at hk;rcases List.mem_cons.1 hk with rfl | hk
  .simp
  .simp[hk])
 have hmm:mb∉lA N vE vA:=λhm=>hmk.out mb hm (by simp)
 have hvm:∀k∈blk kX,k∉lA N vE vA:=λk hk hm=>hmk.out k hm (by simp[hk])
 obtain ⟨q1,q2⟩:=hmk.put (rs':=rs++[dy (bV c st) p]) (λk hk=>by
  rw[List.append_nil]at hk;rcases List.mem_cons.1 hk with rfl | hk
  .exact h.mv.lt
  .exact (h.own.lt k (aA.1 hk)).2) hk hN (by rw[List.length_append];exact hE) hA fE fA (hmk.Hh (dR.gW Hf) hout hx hl)
 refine ⟨q1,h.mv.kept (hk.blk mb h.mv.lt hmm),h.bm,h.say,ak h.own λg hg=>hk.blk g (h.own.lt g hg).2 (hvm g (aA.2 hg)),h.le.row hit hs hp,?_⟩;rw[h.ac,ha,List.take_add_one,hs,List.map_append];rfl
structure C0 (m:Mc) (c:Nat->Option Nat) (N mb i BL:Nat) (rs:List (List Ed)) (bE:List Bool) (vE vA:Value) (gv:List Value) (J:List Ed) (t:Nat) (st:List Nat) (lv:Value) (w1:World) (kp k:Nat) (st':List Nat) (F:Lit->Option Value) (kX:Value) (wr:World):Prop where
 le:ym m c w1.heap.size N mb i (blk lv) rs bE vE vA gv (J.take kp) t st' F kX wr
 row:OR 195 3 ki BL lv (dy (bV c st') (J.take k)++J.drop k) wr
 pre:∃more,st'=st++more
 bl:Below w1.heap.size w1 wr
 hB:w1.heap.size<=BL
section
variable {m:Mc} {c:Nat->Option Nat} {N mb i BL:Nat} {rs:List (List Ed)} {bE:List Bool} {vE vA:Value} {gv:List Value} {J:List Ed} {t:Nat} {st:List Nat} {lv:Value} {w1:World} {kp k:Nat} {st':List Nat} {F:Lit->Option Value} {kX:Value} {wr wr':World}
theorem C0.later (h:C0 m c N mb i BL rs bE vE vA gv J t st lv w1 kp k st' F kX wr) (hb:Below wr.heap.size wr wr'):C0 m c N mb i BL rs bE vE vA gv J t st lv w1 kp k st' F kX wr':=
 ⟨h.le.later hb,h.row.later hb,h.pre,h.bl.trans (hb.mono h.bl.size),h.hB⟩
theorem C0.old (h:C0 m c N mb i BL rs bE vE vA gv J t st lv w1 k k st' F kX wr) (hk:k<J.length) (he:some J[k].to∈st'.map c):C0 m c N mb i BL rs bE vE vA gv J t st lv w1 (k+1) k st' F kX wr:=
 ⟨⟨h.le.ma,h.le.mv,h.le.bm,h.le.say,h.le.own,by rw[List.take_succ_eq_append_getElem hk];exact h.le.le.old J[k] he,h.le.ac⟩,h.row,h.pre,h.bl,h.hB⟩
theorem C0.new {w2 w3 wm:World} {s2:Nat} {uX:Value} (h:C0 m c N mb i BL rs bE vE vA gv J t st lv w1 k k st' F kX wr) (hk:k<J.length) (wH:wr.grownBy wm (some mb)) (tY:MV Tryz.prog 3 mb (st'.length+1) (jV F (.int .i64 (J[k].to:Int)) (some (.int .i64 (st'.length:Int)))) wm)
  (aL:Below wm.heap.size wm w2) (rQ:w2.grownBy w3 kX.ownBlock) (ho3:w3.ownsRow w1.heap.size 3 1 uX (st'.length+1) (bG st'++[.int .i64 (s2:Int)])) (oT:cW uX kX w2.heap.size) (hne:¬some J[k].to∈st'.map c) (hs:s2<m.ed.length) (hc:c s2=some J[k].to) :
  C0 m c N mb i BL rs bE vE vA gv J t st lv w1 (k+1) k (st'++[s2]) (jV F (.int .i64 (J[k].to:Int)) (some (.int .i64 (st'.length:Int)))) uX w3/\bV c (st'++[s2]) J[k].to=st'.length:=by
 obtain ⟨q1,q2⟩:=h.le.le.new J[k] s2 hne hs hc;have hr:w3.ownsRow w1.heap.size 3 1 uX (st'++[s2]).length (bG (st'++[s2])):=by rw[jR,List.length_append];exact ho3
 have hrow:wr.ownsRow _ _ _ _ _ _:=h.row;have Hf:∀g,lv.ownBlock=some g->g<wr.heap.size:=λg hg=>(World.ownsRow.lt h.row g hg).2;have z1:=wH.size;have z2:=aL.size;have z3:=rQ.size;have zb:=h.bl.size;have hle:=h.le.meet wH (st':=st'++[s2]) (by rw[List.length_append];exact tY) aL rQ hr oT Hf (h.le.say.put hne hc _ rfl) (by rw[<-List.take_succ_eq_append_getElem hk]at q1;exact q1) (List.take_append_of_le_length h.le.le.il)
 refine ⟨⟨hle,?_,?_,?_,h.hB⟩,q2⟩
 .rw[uY s2 h.le.le.ptg];refine OR.keep h.row λg hg=>(rQ.block g (by have:=Hf g hg;omega) λe=>j8 hrow h.le.own (by decide) g hg e.symm).trans ((aL.block g (by have:=Hf g hg;omega)).trans (wH.block g (Hf g hg) λe=>He h.le.mv hrow (by rw[hg,e])))
 .obtain ⟨more,e⟩:=h.pre;exact ⟨more++[s2],by rw[e,List.append_assoc]⟩
 .exact ((h.bl.grown wH zb (λq hq=>by injection hq with hq;have:=h.le.bm;omega)).trans (aL.mono (by omega))).grown rQ (by omega) (λq hq=>(h.le.own.lt q hq).1)
theorem C0.put {gl cc:Nat} (h:C0 m c N mb i BL rs bE vE vA gv J t st (.slice (some ⟨gl,0,none⟩) J.length cc) w1 (k+1) k st' F kX wr) (hk:k<J.length) {x:Int} (hx:x=(bV c st' J[k].to:Int)) :
  C0 m c N mb i BL rs bE vE vA gv J t st (.slice (some ⟨gl,0,none⟩) J.length cc) w1 (k+1) (k+1) st' F kX (wr.setCell ⟨gl,k*3+2,none⟩ (.int .i64 x)):=by
 subst hx;have hrow:wr.ownsRow _ _ _ _ _ _:=h.row;have dV:=(hrow.lt gl rfl).1;have hl:=Hg (bV c st') J k (Nat.le_of_lt hk);obtain ⟨bM,hat⟩:=NP (bV c st') J k hk;refine ⟨h.le.Xm (g:=gl) rfl rfl (aT hrow gl rfl) _ h.le.le,?_,h.pre,h.bl.setCell (p:=⟨gl,k*3+2,none⟩) (Nat.le_trans h.hB dV) _,h.hB⟩;have h1:=h.row;rw[<-RL _ _ _ hk];have h2:OR 195 3 ki BL (.slice (some ⟨gl,0,none⟩) (dy (bV c st') (J.take k)++J.drop k).length cc) (dy (bV c st') (J.take k)++J.drop k) wr:=by rw[hl];exact h1
 have h3:=h2.setAt yh k 2 bM (by decide) ⟨J[k].lo,J[k].hi,bV c st' J[k].to⟩ (.int .i64 (bV c st' J[k].to:Int)) (by rw[hat];rfl)
 rw[hl]at h3;exact h3
theorem C0.cells {gl cc:Nat} (h:C0 m c N mb i BL rs bE vE vA gv J t st (.slice (some ⟨gl,0,none⟩) J.length cc) w1 kp k st' F kX wr) (hk:k<J.length) :
  (wr.cell? ⟨gl,k*3,none⟩=some (.int .u8 (J[k].lo:Int))/\wr.cell? ⟨gl,k*3+1,none⟩=some (.int .u8 (J[k].hi:Int))/\wr.cell? ⟨gl,k*3+2,none⟩=some (.int .i64 (J[k].to:Int)))/\wr.frozen? ⟨gl,k*3+2,none⟩=false/\gl<wr.heap.size:=by
 obtain ⟨bM,hat⟩:=NP (bV c st') J k hk;obtain ⟨A,c',e,-,eA⟩:=h.row.cells yh;obtain ⟨g',hA,-,hg,lK⟩:=eA.resolve_left (by intro e2;rw[e2]at bM;cases bM)
 injection e with e1 _ _;rw[hA]at e1;injection e1 with e1;injection e1 with e1;subst e1;have h0:=(lK k bM 0 (by decide)).1
 have h1:=(lK k bM 1 (by decide)).1
 obtain ⟨h2,f2⟩:=lK k bM 2 (by decide)
 rw[hat]at h0 h1 h2;exact ⟨⟨h0,h1,h2⟩,f2,hg⟩
theorem ym.begin {lv:Value} {w':World} {kX:Value} (h:ym m c w1.heap.size N mb i [] rs bE vE vA gv [] t st F kX wr) (hb:Below wr.heap.size wr w') (oc:Below w1.heap.size w1 wr) (ho:OR 195 3 ki wr.heap.size lv J w'):C0 m c N mb i wr.heap.size rs bE vE vA gv J t st lv w1 0 0 st F kX w':=
 ⟨h.ac6 hb lv λg hg=>(World.ownsRow.lt ho g hg).1,by simpa [dy] using ho,⟨[],by simp⟩,oc.trans (hb.mono oc.size),oc.size⟩
end
end
section
set_option linter.unusedVariables false
set_option linter.unusedSimpArgs false
open Go.RowKit
theorem dR.rows {w:World} {v:Value} {l:List Ed} (h:dR w v l):jo 3 w v (l.map ki):=by
 obtain ⟨A,c,rfl,hc,h⟩:=h;refine ⟨A,c,by simp,by simpa using hc,?_⟩
 rcases h with rfl | ⟨g,f,h1,h2,h3⟩
 .exact .inl rfl
 .refine .inr ⟨g,f,h1,h2,λi hi=>?_⟩;have hi':i<l.length:=by simpa using hi
  obtain ⟨q1,q2,q3⟩:=h3 i hi';refine ⟨by simp[ki],λj hj=>?_⟩
  match j,hj with
  | 0,_=>rw[Nat.add_zero,q1];simp[ki]
  | 1,_=>rw[q2];simp[ki]
  | 2,_=>rw[q3];simp[ki]
theorem Qf (e:Ed) (bx go n c:Nat) (b:Bool) (w:World) (h0:w.cell? ⟨bx,0,none⟩=some (.slice (some ⟨go,0,none⟩) n c)) (h1:w.cell? ⟨go,e.to,none⟩=some (.bool b)) (hn:e.to<n) :
  Calls Tryz.prog 217 #[.agg (ki e).toArray, .pointer (some ⟨bx,0,none⟩)] w λe' w'=>e' = .returned (.bool b)/\Below w.heap.size w w':=by
 have hlt:∀{g j:Nat} {v:Value},w.cell? ⟨g,j,none⟩=some v->g<w.heap.size:=λ{g j v} h=>by
  by_cases hg:g<w.heap.size
  .exact hg
  .simp[World.cell?,Array.getElem?_eq_none (Nat.le_of_not_lt hg)]at h
 have dK:=hlt h0;have Ir:=hlt h1;have hne:bx≠w.heap.size:=by omega
 have wq:go≠w.heap.size:=by omega
 obtain ⟨lo,hi,tq⟩:=e;simp only at h1 hn;have hd:decide (tq<n)=true:=decide_eq_true hn;have hB:Below w.heap.size w (w.alloc (.cells #[.int .u8 (lo:Int), .int .u8 (hi:Int), .int .i64 (tq:Int)] 195)):=(Below.refl _ _).alloc (Nat.le_refl _) _;have HB:=Lib.hid hB;clear hB hlt;show Calls Tryz.prog _ #[.agg #[.int .u8 (lo:Int), .int .u8 (hi:Int), .int .i64 (tq:Int)],_] w _
 go_enter Tryz.func217,Tryz.ntmps217
 go_wp2_with fail;go_ret;exact ⟨rfl,HB.out⟩
theorem Qg (args:Array Value) (w:World):(callFunc 217 args).run Tryz.prog w = .ok (.enter 217 args) w:=by rfl
def LB:List Bool->Nat
 | []=>0
 | b::r=>(if b=true then 0 else 1)+LB r
theorem Ge:∀(o:List Bool) (i:Nat),o[i]?=some false->LB (o.set i true)+1=LB o
 | b::r,0,h=>by
  simp at h;subst h;simp[LB];omega
 | b::r,i+1,h=>by
  have:=Ge r i (by simpa using h)
  rw[List.set_cons_succ,LB,LB];omega
structure LC (m:Mc) (o:List Bool):Prop where
 len:o.length=m.ed.length
 acc:∀s,s<m.ed.length->(m.ac[s]?).getD false=true->o[s]?=some true
 snd:∀s,o[s]?=some true->bc m s
def LD (m:Mc) (o:List Bool) (j:Nat):Prop:=∀s,j<=s->o[s]?=some false->∀e∈br m s,o[e.to]?=some false
theorem LC.start {m:Mc} (hv:pL m):LC m m.ac:=⟨hv.len,λs hs h=>by
 have hl:s<m.ac.length:=by rw[hv.len];exact hs
 rw[List.getElem?_eq_getElem hl]at h|-;simpa using h,λs h=>LF (by rw[h];rfl)⟩
theorem LC.set {m:Mc} {o:List Bool} (hv:pL m) (h:LC m o) {s:Nat} {e:Ed} (he:e∈br m s) (ho:o[e.to]?=some true):LC m (o.set s true):=by
 refine ⟨by rw[List.length_set];exact h.len,λt ht ha=>?_,λt ht=>?_⟩
 .rw[List.getElem?_set]
  split
  .next bT=>
   subst bT;rw[if_pos (by rw[h.len];exact ht)]
  .exact h.acc t ht ha
 .rw[List.getElem?_set]at ht
  split at ht
  .next bT=>subst bT;exact Iu hv he (h.snd _ ho)
  .exact h.snd t ht
theorem LC.done {m:Mc} {o:List Bool} (hv:pL m) (h:LC m o) (hc:LD m o 0):∀s,s<m.ed.length->(o[s]?=some true↔bc m s):=λs hs=>by
 refine ⟨h.snd s,λhl=>?_⟩;have bT:∀t,t<m.ed.length->(o[t]?).getD false=false->∀e∈br m t,(o[e.to]?).getD false=false:=λt ht hf e he=>by
  have je:t<o.length:=by rw[h.len];exact ht
  have h1:=hc t (Nat.zero_le _) (by rw[List.getElem?_eq_getElem je]at hf|-;simpa using hf) e he
  rw[h1];rfl
 have:=LG hv (out:=λs=>(o[s]?).getD false) (λt ht ha=>by rw[h.acc t ht ha];rfl) bT hs hl
 cases hx:o[s]? with
 | none=>rw[hx]at this;cases this
 | some b=>rw[hx]at this;simp at this;rw[this]
structure Iv (W:World) (B go n c:Nat) (o:List Bool) (wr:World):Prop where
 own:OR 4 1 bC B (.slice (some ⟨go,0,none⟩) n c) o wr
 kf:ah [go] [go] W wr
theorem Iv.cell {W:World} {B go n c:Nat} {o:List Bool} {wr:World} (h:Iv W B go n c o wr) {s:Nat} {b:Bool} (hs:o[s]?=some b):wr.cell? ⟨go,s,none⟩=some (.bool b)/\wr.frozen? ⟨go,s,none⟩=false/\go<wr.heap.size:=by
 obtain ⟨A,c',e,-,eA⟩:=h.own.cells LH;obtain ⟨hsl,Pq⟩:=List.getElem?_eq_some_iff.1 hs;obtain ⟨g,hA,-,hg,lK⟩:=eA.resolve_left (by rintro rfl;cases hsl)
 injection e with e1 _ _;rw[hA]at e1;injection e1 with e1;injection e1 with e1;subst e1;have:=lK s hsl 0 (by decide)
 rw[Nat.mul_one,Nat.add_zero,Pq]at this;exact ⟨this.1,this.2,hg⟩
theorem Iv.set {W:World} {B go n c:Nat} {o:List Bool} {wr:World} (h:Iv W B go n c o wr) (hn:o.length=n) (s:Nat):Iv W B go n c (o.set s true) (wr.setCell ⟨go,s,none⟩ (.bool true)):=by
 have hrow:∀o:List Bool,aY bC o=o.map Value.bool:=λo=>by
  unfold aY
  induction o with
  | nil=>rfl
  | cons b r ih=>simp only[List.map_cons,List.flatten_cons,ih];rfl
 refine ⟨?_,?_⟩
 .have h1:wr.ownsRow B 4 1 (.slice (some ⟨go,0,none⟩) n c) n (aY bC o):=by have:=h.own;unfold OR at this;rwa [hn]at this
  have h2:=(h1.stored s (.bool true)).1;show World.ownsRow _ _ _ _ _ _ _;rw[List.length_set,hn,hrow,List.map_set];rw[hrow]at h2;exact h2
 .exact h.kf.trans ⟨rfl,rfl,rfl,by simp[World.setCell],λk _ hn=>Below.heap_setCell _ _ _ _ (λe=>hn (by simp[show k=go from e])),λk hk=>.inl hk⟩
theorem Iv.later {W:World} {B go n c:Nat} {o:List Bool} {wr w':World} (h:Iv W B go n c o wr) (hb:Below wr.heap.size wr w'):Iv W B go n c o w':=⟨h.own.later hb,h.kf.trans (ah.aa hb)⟩
def UG (m:Mc) (n:Nat) (w:World) (e:Ending) (w':World):Prop:=∃rv o,e = .returned rv/\OR 4 1 bC w.heap.size rv o w'/\Below w.heap.size w w'/\o.length=n/\∀s,s<n->(o[s]?=some true↔bc m s)
set_option maxHeartbeats 8000000 in
theorem Iw (v:Value) (m:Mc) (w:World) (hm:ia w v m) (hv:pL m) (eQ:sf m) (h1:1<=m.ed.length) :
  Calls Tryz.prog 194 #[v] w (UG m m.ed.length w):=by
 obtain ⟨ve,va,rfl,he,ha⟩:=hm;obtain ⟨Ae,ce,rfl,qO,Ix⟩:=he.form;obtain ⟨Aa,ca,rfl,Ek,UH⟩:=ha.form;obtain ⟨n,hn⟩:∃n,m.ed.length=n:=⟨_,rfl⟩;have sS:m.ac.length=n:=by rw[hv.len,hn]
 have DV:=eQ.n;have bD:=λW (h:Below w.heap.size w W)=>El _ m.ac W (ha.later h) (by rw[sS];omega)
 rw[sS]at bD ha Ek;rw[hn]at he qO h1 DV;have lL:=Lib.hid bD;have HE:=Lib.hid he;have HV:=Lib.hid hv;have KO:=Lib.hid eQ;have HN:=Lib.hid (And.intro hn sS);have HAI:=Lib.hid (LC.start hv);rw[sS,hn];clear bD he ha hv eQ hn sS
 go_enter Tryz.func194,Tryz.ntmps194
 have pj:=(Below.refl w.heap.size w).alloc (Nat.le_refl _) (.cells #[.slice Ae n ce, .slice Aa n ca] 93);have nO:=Lib.hid pj;clear pj;go_wp2_with fail;refine (lL.out _ nO.out).mono ?_;rintro e w1 ⟨rv,rfl,hown1,hb1⟩;obtain ⟨A1,c1,e1,tG,eA⟩:=hown1.cells LH;obtain ⟨go,Iy,UI,aah,-⟩:=eA.resolve_left (by intro e;have:=HN.out.2;rw[e]at this;simp at this;omega)
 subst Iy;rw[HN.out.2]at e1;subst e1;have AY:w1.heap[w.heap.size]?=some (.cells #[.slice Ae n ce, .slice Aa n ca] 93 (0,0)):=(hb1.block _ (by simp)).trans (heap_alloc_new w _)
 have hz1:w.heap.size+1<=w1.heap.size:=by have:=hb1.size;simpa using this
 have Gf:=Lib.hid hown1;have mN:=Lib.hid AY;have bH:=Lib.hid (nO.out.trans (hb1.mono (by simp)))
 clear hown1 AY hb1 eA tG;go_wp2_with fail;refine dv λW hW=>?_;have cJ:Below w1.heap.size w1 W:=by rw[hW];exact (Below.refl _ _).alloc (Nat.le_refl _) _
 have po:W.heap.size=w1.heap.size+1:=by rw[hW];simp
 have Ti:W.heap[w1.heap.size]?=some (.cells #[.slice (some ⟨go,0,none⟩) n c1] 70 (0,0)):=by rw[hW];exact heap_alloc_new w1 _
 have hnW:=(cJ.block w.heap.size (by omega)).trans mN.out
 have KP:Iv W (w.heap.size+1) go n c1 m.ac W:=⟨Gf.out.later cJ |>.mono (by simp),ah.refl _ _⟩
 have hgB:w.heap.size+1<=go:=by simpa using UI
 have aqr:go<W.heap.size:=by omega
 have Qh:w.heap.size≠go:=by omega
 have wq:w1.heap.size≠go:=by omega
 have hcW:∀wr,ah [go] [go] W wr->wr.heap[w.heap.size]?=some (.cells #[.slice Ae n ce, .slice Aa n ca] 93 (0,0))/\wr.heap[w1.heap.size]?=some (.cells #[.slice (some ⟨go,0,none⟩) n c1] 70 (0,0))/\Below w.heap.size w wr:=λwr h=>by
  refine ⟨(h.blk _ (by omega) (by simpa using Qh)).trans hnW,(h.blk _ (by omega) (by simpa using wq)).trans Ti,?_⟩
  exact (bH.out.trans (cJ.mono (by omega))).trans (h.below (λk hk=>by rw[List.mem_singleton]at hk;omega) (by omega))
 have HCW:=Lib.hid hcW;have LI:=Lib.hid KP;have gU:w1.heap.size<W.heap.size:=by omega
 have Pr:w.heap.size<W.heap.size:=by omega
 clear hW cJ Ti hnW KP hcW;go_wp2_with fail
 go_loopg [4] (LB m.ac+2) (λq cv wr=>∃(ch:Bool) (o:List Bool),cv = .bool ch/\LB o+(if ch=true then 1 else 0)<q/\Hid (Iv W (w.heap.size+1) go n c1 o wr)/\Hid (LC m o/\(ch=false->LD m o 0)))
 case atStart=>exact ⟨true,m.ac,rfl,by simp,LI,HAI.out,λh=>by cases h⟩
 case round=>
  obtain ⟨ch,o,rfl,hq,HR,HI⟩:=hrel;obtain ⟨hwN,Tj,Gg⟩:=HCW.out wr HR.out.kf;obtain ⟨x0,x1⟩:wr.cell? ⟨w.heap.size,0,none⟩=some (.slice Ae n ce)/\wr.cell? ⟨w.heap.size,1,none⟩=some (.slice Aa n ca):=by
   constructor <;> (rw[cell_of_row _ _ _ _ _ _ hwN]; rfl)
  have y0:wr.cell? ⟨w1.heap.size,0,none⟩=some (.slice (some ⟨go,0,none⟩) n c1):=by rw[cell_of_row _ _ _ _ _ _ Tj];rfl
  have xp:=HR.out.kf.size;have aqs:w.heap.size<wr.heap.size:=by omega
  have aqt:w1.heap.size<wr.heap.size:=by omega
  have HWB:=Lib.hid Gg;clear hwN Tj Gg
  cases ch with
  | false=>
   go_wp2_with fail;refine ar λWf cH=>?_;subst cH;refine bodyPost_ret (v:=.slice (some ⟨go,0,none⟩) n c1) (by simp[results,Tryz.results194,go_sem];try rfl) rfl ?_
   have hd:=HI.out.1.done HV.out (HI.out.2 trivial);rw[HN.out.1]at hd;exact ⟨_,o,rfl,HR.out.own.mono (by omega),HWB.out,by rw[HI.out.1.len,HN.out.1],hd⟩
  | true=>
   have hw1:IntKind.i64.wrap ((n:Int) - 1)=(n:Int) - 1:=IntWalk.i64_in _ (by omega)
   go_wp2_with fail;obtain ⟨WO,rfl⟩:∃W:World,W=wr:=⟨_,rfl⟩
   go_loopg [5,4] n (λj iv cv wr=>∃(x:Int) (ch:Bool) (o2:List Bool),j<=n/\x=(j:Int) - 1/\iv = .int .i64 x/\cv = .bool ch/\Hid (Iv W (w.heap.size+1) go n c1 o2 wr)/\Hid (LC m o2/\(ch=false->o2=o/\LD m o j)/\(ch=true->LB o2<LB o)))
   case atStart=>exact ⟨_,false,o,Nat.le_refl _,rfl,rfl,rfl,HR,HI.out.1,λ_=>⟨rfl,λs hs ho=>by have:=(List.getElem?_eq_some_iff.1 ho).1;have:=HI.out.1.len;have:=HN.out.1;omega⟩,λh=>by cases h⟩
   case round=>
    obtain ⟨x,ch,o2,hj,hx,rfl,rfl,xq,si⟩:=hrel;obtain ⟨hwN,Tj,Gg⟩:=HCW.out wr xq.out.kf;obtain ⟨z0,z1⟩:wr.cell? ⟨w.heap.size,0,none⟩=some (.slice Ae n ce)/\wr.cell? ⟨w.heap.size,1,none⟩=some (.slice Aa n ca):=by
     constructor <;> (rw[cell_of_row _ _ _ _ _ _ hwN]; rfl)
    have t0:wr.cell? ⟨w1.heap.size,0,none⟩=some (.slice (some ⟨go,0,none⟩) n c1):=by rw[cell_of_row _ _ _ _ _ _ Tj];rfl
    have agO:=xq.out.kf.size;have aqv:w.heap.size<wr.heap.size:=by omega
    have Iz:w1.heap.size<wr.heap.size:=by omega
    have agP:go<wr.heap.size:=by omega
    have aaj:=Lib.hid Gg;clear hwN Tj Gg
    cases gk with
    | zero=>
     have hd0:decide ((0:Int)<=x)=false:=decide_eq_false (by omega)
     clear hx;go_wp2_with fail
     go_roundg (LB o2+(if ch=true then 1 else 0)+1)
     case measure=>
      obtain ⟨h1,h2⟩:=si.out.2
      cases ch with
      | false=>rw[(h1 rfl).1];simp at hq|-;omega
      | true=>have:=h2 rfl;simp at hq|-;omega
     case rel=>exact ⟨ch,o2,rfl,Nat.lt_succ_self _,xq,si.out.1,λh=>by obtain ⟨h1,h2⟩:=si.out.2.1 h;rw[h1];exact h2⟩
    | succ s=>
     obtain rfl:x=(s:Int):=by omega
     have hd0:decide ((0:Int)<=(s:Int))=true:=decide_eq_true (by omega)
     have sT:s<n:=by omega
     have iI:decide (s<n)=true:=decide_eq_true sT;have hos:s<o2.length:=by rw[si.out.1.len,HN.out.1];exact sT
     obtain ⟨q,tH⟩:∃q,o2[s]?=some q:=⟨_,List.getElem?_eq_getElem hos⟩;obtain ⟨r1,r2,-⟩:=xq.out.cell tH;have pq:IntKind.i64.wrap ((s:Int) - 1)=(s:Int) - 1:=IntWalk.i64_in _ (by omega)
     have HQ:=Lib.hid tH;clear hx tH hos
     cases q with
     | true=>
      go_wp2_with fail
      go_roundg s
      case measure=>omega
      case rel=>exact ⟨_,ch,o2,by omega,rfl,rfl,rfl,xq,si.out.1,λh=>⟨(si.out.2.1 h).1,λt ht ho=>by
       by_cases hts:t=s
       .subst hts;have:=HQ.out;rw[(si.out.2.1 h).1,ho]at this;cases this
       .exact (si.out.2.1 h).2 t (by omega) ho⟩,si.out.2.2⟩
     | false=>
      have hel:=HE.out.later ((Below.refl w.heap.size w));have hsl:s<m.ed.length:=by rw[HN.out.1];exact sT
      obtain ⟨g,f,rv,rfl,-,hg,Ps,vR⟩:=HE.out.at_ hsl;have Qi:=vR.later aaj.out;have aqw:=(World.cell?_of_block (a:=⟨g,f+s,none⟩) (aaj.out.block g hg)).trans Ps;have oC:g<wr.heap.size:=by omega
      obtain ⟨row,hrow⟩:∃r,m.ed[s]=r:=⟨_,rfl⟩;have jN:br m s=row:=by unfold br;rw[List.getElem?_eq_getElem hsl,hrow];rfl
      rw[hrow]at Qi;have tI:∀e∈row,e.to<n:=λe he=>by rw[<-HN.out.1];exact HV.out.to _ (by rw[<-hrow];exact List.getElem_mem hsl) e he
      have LJ:sj 217 #[.pointer (some ⟨w1.heap.size,0,none⟩)] (row.map ki) (row.map λe=>(o2[e.to]?).getD false) wr:=by
       refine ⟨Qg,by simp,λi hi b hb w' hw'=>?_⟩
       have hi':i<row.length:=by simpa using hi
       have ht:=tI row[i] (List.getElem_mem hi');rw[List.getElem?_map,List.getElem?_eq_getElem hi']at hb;simp only[Option.map_some,Option.some.injEq]at hb;have px:row[i].to<o2.length:=by rw[si.out.1.len,HN.out.1];exact ht
       rw[List.getElem?_eq_getElem px]at hb;simp only[Option.getD_some]at hb;have hc:=(xq.out.cell (s:=row[i].to) (b:=b) (by rw[List.getElem?_eq_getElem px,hb])).1
       have:=Qf row[i] w1.heap.size go n c1 b w' ((hw'.cell (p:=⟨w1.heap.size,0,none⟩) Iz).trans t0) ((hw'.cell (p:=⟨go,row[i].to,none⟩) agP).trans hc) ht;simpa using this
      have pM:bo (row.map λe=>(o2[e.to]?).getD false)=row.any λe=>(o2[e.to]?).getD false:=eD _ row;have IA:=IB 217 #[.pointer (some ⟨w1.heap.size,0,none⟩)] _ _ rv wr Qi.rows LJ;obtain ⟨q,hqq⟩:∃q,(row.any λe=>(o2[e.to]?).getD false)=q:=⟨_,rfl⟩;rw[pM,hqq]at IA;have HC:=Lib.hid IA;have HQQ:=Lib.hid hqq;have YJ:=Lib.hid (And.intro jN tI);obtain ⟨Ar,cr,Bw,-⟩:=Qi.form;obtain ⟨nr,nZ⟩:∃n,row.length=n:=⟨_,rfl⟩;rw[nZ]at Bw;subst Bw;clear hel hsl Ps vR Qi hrow jN tI LJ pM IA hqq nZ;go_wp2_with fail;refine HC.out.mono ?_;rintro e w5 ⟨rfl,gH⟩;have YK:=xq.out.later gH;have HR5:=Lib.hid YK;have hw5:=gH.size
      cases q with
      | false=>
       clear YK gH;go_wp2_with fail
       go_roundg s
       case measure=>omega
       case rel=>exact ⟨_,ch,o2,by omega,rfl,rfl,rfl,HR5,si.out.1,λh=>⟨(si.out.2.1 h).1,λt ht ho=>by
        by_cases hts:t=s
        .subst hts;rw[YJ.out.1];intro e he;have h1:=List.any_eq_false.1 HQQ.out e he;have h2:=YJ.out.2 e he;have h3:=(si.out.2.1 h).1;have px:e.to<o2.length:=by rw[si.out.1.len,HN.out.1];exact h2
         rw[<-h3,List.getElem?_eq_getElem px];rw[List.getElem?_eq_getElem px]at h1;simpa using h1
        .exact (si.out.2.1 h).2 t (by omega) ho⟩,si.out.2.2⟩
      | true=>
       obtain ⟨u1,u2,u3⟩:=YK.cell HQ.out;obtain ⟨Tj,-⟩:=(HCW.out w5 YK.kf).2;have u0:w5.cell? ⟨w1.heap.size,0,none⟩=some (.slice (some ⟨go,0,none⟩) n c1):=by rw[cell_of_row _ _ _ _ _ _ Tj];rfl
       have LK:w1.heap.size<w5.heap.size:=by omega
       have bg:=YK.set (by rw[si.out.1.len,HN.out.1]) s
       have HS:=Lib.hid bg;have HA:Hid (LC m (o2.set s true)):=by
        obtain ⟨e,he,h1⟩:=List.any_eq_true.1 HQQ.out;have px:e.to<o2.length:=by rw[si.out.1.len,HN.out.1];exact YJ.out.2 e he
        rw[List.getElem?_eq_getElem px]at h1;exact si.out.1.set HV.out (by rw[YJ.out.1];exact he) (by rw[List.getElem?_eq_getElem px];simpa using h1)
       have xr:=Ge o2 s HQ.out;have Tk:=Lib.hid xr;clear YK gH Tj bg xr;go_wp2_with fail
       go_roundg s
       case measure=>omega
       case rel=>
        refine ⟨_,true,o2.set s true,by omega,rfl,rfl,rfl,HS,HA,λh=>(by cases h),λ_=>?_⟩
        have h9:=Tk.out
        cases ch with
        | false=>have:=(si.out.2.1 rfl).1;subst this;omega
        | true=>have:=si.out.2.2 rfl;omega
end
section
set_option linter.unusedVariables false
set_option linter.unusedSimpArgs false
open Go.RowKit
def BK (e:Ed) (c:Nat):Int:=if e.hi<c then -1 else if c<e.lo then 1 else 0
theorem sX:∀{r:List Ed} {b:Nat},cB b r->∀i j (hi:i<r.length) (hj:j<r.length),i<=j->b<=r[i].hi/\r[i].hi<=r[j].hi
 | e::r,b,⟨h1,h2,h3⟩,0,0,_,_,_=>⟨by show b<=e.hi;omega,Nat.le_refl _⟩
 | e::r,b,⟨h1,h2,h3⟩,0,j+1,_,hj,_=>by
  obtain ⟨q1,-⟩:=sX h3 j j (by simpa using hj) (by simpa using hj) (Nat.le_refl _)
  refine ⟨by show b<=e.hi;omega,?_⟩
  show e.hi<=(e::r)[j+1].hi;rw[List.getElem_cons_succ];omega
 | e::r,b,⟨h1,h2,h3⟩,i+1,j+1,hi,hj,KT=>by
  obtain ⟨q1,q2⟩:=sX h3 i j (by simpa using hi) (by simpa using hj) (by omega)
  refine ⟨?_,?_⟩
  .rw[List.getElem_cons_succ];omega
  .rw[List.getElem_cons_succ,List.getElem_cons_succ];exact q2
theorem LZ:∀{r:List Ed} {b c:Nat} (k:Nat),cB b r->(∀t (h:t<r.length),t<k->r[t].hi<c)->(∀(h:k<r.length),c<=r[k].hi)->k<=r.length->bS r c=(r[k]?).bind λe=>if e.lo<=c then some e.to else none
 | [],b,c,k,_,_,_,hk=>by
  obtain rfl:k=0:=by simpa using hk
  rfl
 | e::r,b,c,0,⟨h1,h2,h3⟩,_,hu,_=>by
  have:=hu (by simp)
  rw[List.getElem_cons_zero]at this;rw[bS];simp only[List.getElem?_cons_zero,Option.bind_some];by_cases h:e.lo<=c
  .rw[if_pos ⟨h,this⟩,if_pos h]
  .rw[if_neg (λq=>h q.1),if_neg h];exact gj h3 (by omega)
 | e::r,b,c,k+1,⟨h1,h2,h3⟩,hl,hu,hk=>by
  have:=hl 0 (by simp) (by omega)
  rw[List.getElem_cons_zero]at this;rw[bS,if_neg (by omega),List.getElem?_cons_succ]
  exact LZ k h3 (λt h ht=>by have:=hl (t+1) (by simpa using h) (by omega);rwa [List.getElem_cons_succ]at this) (λh=>by have:=hu (by simpa using h);rwa [List.getElem_cons_succ]at this) (by simpa using hk)
theorem Gn (e:Ed) (c:Nat) (w:World):Calls Tryz.prog 151 #[.agg (ki e).toArray, .int .u8 (c:Int)] w λe' w'=>e' = .returned (.int .i64 (BK e c))/\Below w.heap.size w w':=by
 obtain ⟨lo,hi,tq⟩:=e;have hB:Below w.heap.size w (w.alloc (.cells #[.int .u8 (lo:Int), .int .u8 (hi:Int), .int .i64 (tq:Int)] 195)):=(Below.refl _ _).alloc (Nat.le_refl _) _;have HB:=Lib.hid hB;clear hB;show Calls Tryz.prog _ #[.agg #[.int .u8 (lo:Int), .int .u8 (hi:Int), .int .i64 (tq:Int)],_] w _;have HV:=Lib.hid (show BK ⟨lo,hi,tq⟩ c=if hi<c then -1 else if c<lo then 1 else 0 from rfl);by_cases h1:hi<c
 .have hd:decide ((hi:Int)<(c:Int))=true:=decide_eq_true (by omega)
  go_enter Tryz.func151,Tryz.ntmps151
  go_wp2_with fail;go_ret;exact ⟨aH (by rw[HV.out,if_pos h1]),HB.out⟩
 .have hd:decide ((hi:Int)<(c:Int))=false:=decide_eq_false (by omega)
  by_cases h2:c<lo
  .have jO:decide ((c:Int)<(lo:Int))=true:=decide_eq_true (by omega)
   go_enter Tryz.func151,Tryz.ntmps151
   go_wp2_with fail;go_ret;exact ⟨aH (by rw[HV.out,if_neg h1,if_pos h2]),HB.out⟩
  .have jO:decide ((c:Int)<(lo:Int))=false:=decide_eq_false (by omega)
   go_enter Tryz.func151,Tryz.ntmps151
   go_wp2_with fail;go_ret;exact ⟨aH (by rw[HV.out,if_neg h1,if_neg h2]),HB.out⟩
end
section
set_option linter.unusedVariables false
set_option linter.unusedSimpArgs false
open Go.RowKit
def U7 (r:List Ed) (c:Nat) (w:World) (e:Ending) (w':World):Prop:=∃(k:Nat) (f:Bool),e = .returned (.tuple #[.int .i64 (k:Int), .bool f])/\Below w.heap.size w w'/\(f=true->∃e,r[k]?=some e/\bS r c=some e.to)/\(f=false->bS r c=none)
theorem Gm {e:Ed} {c:Nat}:BK e c<0↔e.hi<c:=by
 unfold BK
 split
 .simp_all
 split <;> simp_all
theorem Qq {e:Ed} {c:Nat}:BK e c=0↔e.lo<=c/\c<=e.hi:=by
 unfold BK
 split
 .constructor <;> intro h <;> first | (exfalso; revert h; decide) | omega
 .split
  .constructor <;> intro h <;> first | (exfalso; revert h; decide) | omega
  .exact ⟨λ_=>by omega,λ_=>rfl⟩
set_option maxHeartbeats 2000000 in
theorem BM (r:List Ed) (c:Nat) (v:Value) (w:World) (h:dR w v r) (hs:cB 0 r) (hl:r.length<=10000) :
  Calls Tryz.prog 150 #[v, .int .u8 (c:Int), .func (.func 151) #[] #[]] w (U7 r c w):=by
 obtain ⟨A,cp,rfl,hc,hcell⟩:=h;obtain ⟨n,hn⟩:∃n,r.length=n:=⟨_,rfl⟩;have HC:=Lib.hid hcell;have HS:=Lib.hid hs;have HN:=Lib.hid hn;rw[hn]at hc hl|-;clear hcell hs hn
 go_enter Tryz.func150,Tryz.ntmps150
 go_wp2_with fail
 go_loopg [9,10] n (λkx s9 s10 wr=>∃lo hi:Nat,s9 = .int .i64 (lo:Int)/\s10 = .int .i64 (hi:Int)/\lo<=hi/\hi<=n/\hi-lo<=kx/\Hid (Below w.heap.size w wr)/\
  Hid ((∀t (h:t<r.length),t<lo->r[t].hi<c)/\(∀t (h:t<r.length),hi<=t->c<=r[t].hi)))
 case atStart=>exact ⟨0,n,rfl,rfl,Nat.zero_le _,Nat.le_refl _,by omega,Lib.hid (Below.refl _ _),λt _ ht=>absurd ht (Nat.not_lt_zero _),λt h ht=>by have:=HN.out;omega⟩
 case round=>
  obtain ⟨lo,hi,rfl,rfl,hlh,dk,hg,HB,HI⟩:=hrel;by_cases hlt:lo<hi
  .have yU:(lo+hi) / 2<n:=by omega
   have sW:(lo+hi) / 2<r.length:=by rw[HN.out];exact yU
   obtain ⟨g,ff,rfl,Ir,hcs⟩:=HC.out.resolve_left (by intro e;rw[e]at sW;simp at sW)
   obtain ⟨p0,p1,p2⟩:=hcs _ sW;obtain ⟨e,he⟩:∃e,r[(lo+hi) / 2]=e:=⟨_,rfl⟩;rw[he]at p0 p1 p2;have q0:=(HB.out.cell (p:=⟨g,ff+(lo+hi) / 2*3,none⟩) Ir).trans p0;have q1:=(HB.out.cell (p:=⟨g,ff+(lo+hi) / 2*3+1,none⟩) Ir).trans p1;have q2:=(HB.out.cell (p:=⟨g,ff+(lo+hi) / 2*3+2,none⟩) Ir).trans p2;have hdm:decide ((lo+hi) / 2<n)=true:=decide_eq_true yU;have hX:=Gn e c wr;obtain ⟨x,hx⟩:∃x,BK e c=x:=⟨_,rfl⟩;rw[hx]at hX;have HX:=Lib.hid hX;have HE:=Lib.hid (And.intro ((List.getElem?_eq_getElem sW).trans (congrArg some he)) hx);clear hcs p0 p1 p2 sW he hx hX;by_cases IM:x<0
   .have hd:decide (x<0)=true:=decide_eq_true IM;have HG:=Lib.hid IM;clear IM;go_wp2_with fail;refine HX.out.mono ?_;rintro e' w1 ⟨rfl,hb1⟩;have bH:=Lib.hid (HB.out.trans (hb1.mono HB.out.size));clear hb1;go_wp2_with fail
    go_roundg (hi - ((lo+hi) / 2+1))
    case measure=>omega
    case rel=>
     refine ⟨(lo+hi) / 2+1,hi,by rw[show ((lo:Int)+(hi:Int)) / 2+1=(((lo+hi) / 2+1:Nat):Int) by omega],rfl,by omega,dk,Nat.le_refl _,bH,λt h ht=>?_,HI.out.2⟩
     obtain ⟨yV,h3⟩:=HE.out;obtain ⟨h1,h2⟩:=List.getElem?_eq_some_iff.1 yV;have h4:=(Gm (e:=e) (c:=c)).1 (by rw[h3];exact HG.out)
     have h5:=(sX HS.out t _ h h1 (by omega)).2
     rw[h2]at h5;omega
   .have hd:decide (x<0)=false:=decide_eq_false IM;have HG:=Lib.hid IM;clear IM;go_wp2_with fail;refine HX.out.mono ?_;rintro e' w1 ⟨rfl,hb1⟩;have bH:=Lib.hid (HB.out.trans (hb1.mono HB.out.size));clear hb1;go_wp2_with fail
    go_roundg ((lo+hi) / 2-lo)
    case measure=>omega
    case rel=>
     refine ⟨lo,(lo+hi) / 2,rfl,by rw[show ((lo:Int)+(hi:Int)) / 2=(((lo+hi) / 2:Nat):Int) by omega],by omega,by omega,Nat.le_refl _,bH,HI.out.1,λt h ht=>?_⟩
     obtain ⟨yV,h3⟩:=HE.out;obtain ⟨h1,h2⟩:=List.getElem?_eq_some_iff.1 yV;have h4:=mt (Gm (e:=e) (c:=c)).2 (by rw[h3];exact Int.not_lt.2 HG.out)
     have h5:=(sX HS.out _ t h1 h ht).2;rw[h2]at h5;omega
  .obtain rfl:hi=lo:=by omega
   have HT:Hid (bS r c=(r[hi]?).bind λe=>if e.lo<=c then some e.to else none):=LZ hi HS.out HI.out.1 (λh=>HI.out.2 hi h (Nat.le_refl _)) (by rw[HN.out];exact dk)
   by_cases BN:hi<n
   .have sW:hi<r.length:=by rw[HN.out];exact BN
    obtain ⟨g,ff,rfl,Ir,hcs⟩:=HC.out.resolve_left (by intro e;rw[e]at sW;simp at sW)
    obtain ⟨p0,p1,p2⟩:=hcs _ sW;obtain ⟨e,he⟩:∃e,r[hi]=e:=⟨_,rfl⟩;rw[he]at p0 p1 p2;have q0:=(HB.out.cell (p:=⟨g,ff+hi*3,none⟩) Ir).trans p0;have q1:=(HB.out.cell (p:=⟨g,ff+hi*3+1,none⟩) Ir).trans p1;have q2:=(HB.out.cell (p:=⟨g,ff+hi*3+2,none⟩) Ir).trans p2;have hdm:decide (hi<n)=true:=decide_eq_true BN;have hX:=Gn e c wr;obtain ⟨x,hx⟩:∃x,BK e c=x:=⟨_,rfl⟩;rw[hx]at hX;have HX:=Lib.hid hX;have HE:=Lib.hid (And.intro ((List.getElem?_eq_getElem sW).trans (congrArg some he)) hx);have hce:=HI.out.2 hi sW (Nat.le_refl _);rw[he]at hce;have HCE:=Lib.hid hce;have YX:=HT.out;rw[List.getElem?_eq_getElem sW,he,Option.bind_some]at YX;have HT3:=Lib.hid YX;clear hcs p0 p1 p2 hce YX he sW hx hX;go_wp2_with fail;refine HX.out.mono ?_;rintro e' w1 ⟨rfl,hb1⟩;have bH:=Lib.hid (HB.out.trans (hb1.mono HB.out.size));clear hb1;go_wp2_with fail;refine ar λWf cH=>?_;subst cH;refine bodyPost_ret (v:=.tuple #[.int .i64 (hi:Int), .bool (decide (x=0))]) (by simp[results,Tryz.results150,go_sem];try rfl) rfl ?_
    have key:(x=0)↔e.lo<=c:=by rw[<-HE.out.2,Qq];exact ⟨λh=>h.1,λh=>⟨h,HCE.out⟩⟩
    refine ⟨hi,decide (x=0),rfl,bH.out,λh=>⟨e,?_,?_⟩,λh=>?_⟩
    .exact HE.out.1
    .rw[HT3.out,if_pos (key.1 (of_decide_eq_true h))]
    .rw[HT3.out,if_neg (mt key.2 (of_decide_eq_false h))]
   .have hdm:decide (hi<n)=false:=decide_eq_false BN;go_wp2_with fail;refine ar λWf cH=>?_;subst cH;refine bodyPost_ret (v:=.tuple #[.int .i64 (hi:Int), .bool false]) (by simp[results,Tryz.results150,go_sem];try rfl) rfl ?_
    exact ⟨hi,false,rfl,HB.out,λh=>(by cases h),λ_=>by rw[HT.out,List.getElem?_eq_none (by rw[HN.out];omega)];rfl⟩
end
section
set_option linter.unusedVariables false
set_option linter.unusedSimpArgs false
open Go.RowKit
def Uc (m:Mc) (s c:Nat):Int:=match bS (br m s) c with | none=>-1 | some t=>(t:Int)
set_option maxHeartbeats 2000000 in
theorem J7 (v:Value) (m:Mc) (s c:Nat) (w:World) (hm:ia w v m) (hv:pL m) (eQ:sf m) (hs:s<m.ed.length) :
  Calls Tryz.prog 122 #[v, .int .i64 (s:Int), .int .u8 (c:Int)] w λe w'=>e = .returned (.int .i64 (Uc m s c))/\Below w.heap.size w w':=by
 obtain ⟨ve,va,rfl,he,ha⟩:=hm;obtain ⟨Ae,ce,rfl,qO,Ix⟩:=he.form;obtain ⟨g,f,rv,rfl,-,hg,Ps,vR⟩:=he.at_ hs;obtain ⟨n,hn⟩:∃n,m.ed.length=n:=⟨_,rfl⟩;have sT:s<n:=by rw[<-hn];exact hs
 have hd:decide (s<n)=true:=decide_eq_true sT;have DV:=eQ.n;have jN:br m s=m.ed[s]:=by unfold br;rw[List.getElem?_eq_getElem hs];rfl
 have dK:=λW (h:Below w.heap.size w W)=>BM m.ed[s] c rv W (vR.later h) (hv.rR _ (List.getElem_mem hs)) (eQ.rl _ (List.getElem_mem hs));have Oh:=λW (h:Below w.heap.size w W)=>vR.later h;rw[<-jN]at dK Oh vR;obtain ⟨Ar,cr,Bw,-⟩:=vR.form;subst Bw;have PF:=λW (h:Below w.heap.size w W)=>(h.cell (p:=⟨g,f+s,none⟩) hg).trans Ps;obtain ⟨row,hrow⟩:∃r,br m s=r:=⟨_,rfl⟩;have HV:Hid (Uc m s c=match bS row c with | none=>-1 | some t=>(t:Int)):=by rw[<-hrow];rfl
 rw[hrow]at dK Oh PF Ps;obtain ⟨nr,nZ⟩:∃n,row.length=n:=⟨_,rfl⟩;rw[nZ]at dK Oh PF Ps;rw[hn]at qO|-;have HB:=Lib.hid dK;have HE:=Lib.hid Oh;have HG:=Lib.hid PF;clear dK Oh PF vR he ha hv hrow jN hs eQ hn;have hb0:Below w.heap.size w (w.alloc (.cells #[.slice (some ⟨g,f,none⟩) n ce,va] 93)):=(Below.refl _ _).alloc (Nat.le_refl _) _;have ur:=HG.out _ hb0;have nO:=Lib.hid hb0;clear hb0 Ps
 go_enter Tryz.func122,Tryz.ntmps122
 go_wp2_with fail;refine (HB.out _ nO.out).mono ?_;rintro e w1 ⟨k,q,rfl,hb1,ht,hf⟩;have cJ:=nO.out.trans (hb1.mono (by simp))
 have hX:=hf
 cases q with
 | false=>
  have HT:=Lib.hid (And.intro (hf rfl) cJ);clear ht hf cJ hb1 hX;go_wp2_with fail;go_ret;exact ⟨aH (by rw[HV.out,HT.out.1]),HT.out.2⟩
 | true=>
  obtain ⟨ed,hk,uU⟩:=ht rfl;have hel:=HE.out _ cJ;obtain ⟨A2,c2,e2,sV,h2⟩:=hel;injection e2 with e21 e22 e23;obtain ⟨di,hke⟩:=List.getElem?_eq_some_iff.1 hk;obtain ⟨g2,f2,e3,jC,hcs⟩:=h2.resolve_left (by intro e;rw[e]at di;simp at di)
  obtain ⟨-,-,p2⟩:=hcs k di;rw[hke]at p2;obtain rfl:=e21.trans e3;have akn:k<nr:=by omega
  have hkn:decide (k<nr)=true:=decide_eq_true akn;have zU:decide ((k:Int)<(nr:Int))=true:=decide_eq_true (by omega)
  have HT:=Lib.hid (And.intro uU cJ);obtain ⟨tq,tI⟩:∃x,ed.to=x:=⟨_,rfl⟩;rw[tI]at p2;have Y8:=Lib.hid tI;clear ht hf cJ hb1 hX hk h2 hcs hke uU tI di e21 e3 e22 e23 sV nZ;go_wp2_with fail;go_ret;exact ⟨aH (by rw[HV.out,HT.out.1,<-Y8.out]),HT.out.2⟩
end
end Go.Proofs.YtdmoogjddmdmbaaGreatDoor
