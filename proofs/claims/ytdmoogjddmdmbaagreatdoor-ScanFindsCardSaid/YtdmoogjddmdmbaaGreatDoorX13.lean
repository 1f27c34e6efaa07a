/- Walks. -/
import Derived.Test.YtdmoogjddmdmbaaGreatDoorX11
import Derived.Test.YtdmoogjddmdmbaaGreatDoorX12
import Derived.Test.YtdmoogjddmdmbaaGreatDoorX05
import Derived.Test.YtdmoogjddmdmbaaGreatDoorX01
import Derived.Test.YtdmoogjddmdmbaaGreatDoorX06
import Derived.Deep.LoopGhost
import Derived.Test.YtdmoogjddmdmbaaGreatDoorX02
import Derived.Test.YtdmoogjddmdmbaaGreatDoorX04
import Derived.Laws.MakeOwn
set_option maxRecDepth 100000
set_option maxHeartbeats 16000000
set_option linter.unusedVariables false
set_option linter.unusedSimpArgs false
namespace Go.Proofs.YtdmoogjddmdmbaaGreatDoor
open Go.RowKit
def SL(w:World)(v:Value)(l:List Nat):Prop:=∃A c,v=.slice A l.length c/\(l.length<=c/\c<=9223372036854775807)/\(l=[]\/∃g f,A=some ⟨g,f,none⟩/\g<w.heap.size/\∀i (h:i<l.length),w.cell? ⟨g,f+i,none⟩=some (.int .i64 (l[i]:Int)))
theorem SL.fO{w:World}{B:Nat}{v:Value}{l:List Nat}{n:Nat}(h:w.ownsRow B 3 1 v n (bV l)):SL w v l:=by
 have hl:l.length=n:=by have:=h.1;rw[iD,Nat.mul_one]at this;exact this
 rcases h.2 with ⟨h1,h2⟩|⟨g,cap,cur,h1,-,hg,hle,hm,hcs,ht⟩
 .subst h1;exact ⟨none,0,by rw[hl,h2],⟨Y,O⟩,.inl (List.length_eq_zero_iff.1 Y)⟩
 .subst h1;refine ⟨_,cap,by rw[hl],⟨Y,by unfold maxLen at hm;omega⟩,.inr ⟨g,0,rfl,(γ hg).1,λi hi=>?_⟩⟩
  have:=h.cellAt i (by rw[<-hl,Nat.mul_one];exact hi)
  rw[Nat.zero_add,this];simp[bV,hi]
theorem SL.keep{fp fp':List Nat}{w w':World}{v:Value}{l:List Nat}(h:SL w v l)(ho:aL fp v)(hk:aj fp fp' w w'):SL w' v l:=by
 obtain ⟨A,c,rfl,hc,h⟩:=h;refine ⟨A,c,rfl,hc,h.imp id ?_⟩;rintro ⟨g,f,rfl,hg,hcell⟩;refine ⟨g,f,rfl,Nat.lt_of_lt_of_le hg hk.size,λi hi=>?_⟩;rw[<-hcell i hi];exact χ g (f+i) (hk.blk g hg (ho g rfl))
theorem SL.form{w:World}{v:Value}{l:List Nat}(h:SL w v l):∃A c,v=.slice A l.length c/\(l.length<=c/\c<=9223372036854775807):=by
 obtain ⟨A,c,e,hc,-⟩:=h;exact ⟨A,c,e,hc⟩
def nT(w0:World)(fp:List Nat)(w:World)(v:Value)(sets:List (List (Nat×Nat))):Prop:=∃A c,v=.slice A sets.length c/\(sets.length<=c/\c<=9223372036854775807)/\(sets=[]\/∃g,A=some ⟨g,0,none⟩/\g<w.heap.size/\g∉fp/\∀i (h:i<sets.length),∃rv,w.cell? ⟨g,i,none⟩=some rv/\jK w0 rv sets[i])
theorem nT.keep{w0:World}{fp fp':List Nat}{w w':World}{v:Value}{sets:List (List (Nat×Nat))}(h:nT w0 fp w v sets)(hk:aj fp fp' w w'):nT w0 fp' w' v sets:=by
 obtain ⟨A,c,e,hc,h⟩:=h;refine ⟨A,c,e,hc,h.imp id ?_⟩;rintro ⟨g,rfl,hg,hn,hcell⟩;refine ⟨g,rfl,Nat.lt_of_lt_of_le hg hk.size,λhm=>(hk.new g hm).elim hn (λh=>Y),λi hi=>?_⟩;obtain ⟨rv,h1,h2⟩:=hcell i hi;exact ⟨rv,(χ g i (hk.blk g hg hn)).trans h1,h2⟩
theorem nT.later{w0:World}{fp:List Nat}{w w':World}{v:Value}{sets:List (List (Nat×Nat))}(h:nT w0 fp w v sets)(hb:Below w.heap.size w w'):nT w0 fp w' v sets:=h.keep (aj.aa hb)
theorem nT.at_{w0:World}{fp:List Nat}{w:World}{A:Option Addr}{n c:Nat}{sets:List (List (Nat×Nat))}(h:nT w0 fp w (.slice A n c) sets){p:Nat}(hp:p<sets.length):∃g rv,A=some ⟨g,0,none⟩/\n=sets.length/\g<w.heap.size/\w.cell? ⟨g,p,none⟩=some rv/\jK w0 rv sets[p]:=by
 obtain ⟨A',c',e,hc,h⟩:=h;injection e with e1 e2 e3;rcases h with rfl|⟨g,h1,hg,hn,hcell⟩
 .cases hp
 .obtain ⟨rv,h2,h3⟩:=hcell p hp;exact ⟨g,rv,e1.trans h1,e2,hg,h2,h3⟩
theorem nT.lt{w0:World}{fp:List Nat}{w:World}{v:Value}{sets:List (List (Nat×Nat))}(h:nT w0 fp w v sets):∀rs∈sets,∀r∈rs,r.1<256/\r.2<256:=by
 obtain ⟨A,c,e,hc,h⟩:=h;intro rs y7 r hr;rcases h with rfl|⟨g,h1,hg,hn,hcell⟩
 .cases y7
 .obtain ⟨i,hi,rfl⟩:=List.getElem_of_mem y7;obtain ⟨rv,-,A',c',-,-,h3⟩:=hcell i hi;rcases h3 with h3|⟨_,_,_,_,h3⟩
  .rw[h3]at hr;cases hr
  .obtain ⟨j,hj,rfl⟩:=List.getElem_of_mem hr;exact (h3 j hj).2
def j8(e:Ed):List Value:=[.int .u8 (e.lo:Int),.int .u8 (e.hi:Int),.int .i64 (e.to:Int)]
theorem xP:kz j8 3:=⟨O,λ_=>rfl,λx u hu=>by simp[j8]at hu; rcases hu with rfl|rfl|rfl <;> rfl⟩
def eb(w:World)(v:Value)(l:List Ed):Prop:=∃A c,v=.slice A l.length c/\(l.length<=c/\c<=9223372036854775807)/\(l=[]\/∃g f,A=some ⟨g,f,none⟩/\g<w.heap.size/\∀i (h:i<l.length),w.cell? ⟨g,f+i*3,none⟩=some (.int .u8 (l[i].lo:Int))/\w.cell? ⟨g,f+i*3+1,none⟩=some (.int .u8 (l[i].hi:Int))/\w.cell? ⟨g,f+i*3+2,none⟩=some (.int .i64 (l[i].to:Int)))
theorem eb.gq{w:World}{B:Nat}{v:Value}{l:List Ed}(h:OR 195 3 j8 B v l w):eb w v l:=by
 have h':=h;rcases h'.2 with ⟨h1,h2⟩|⟨g,cap,cur,h1,-,hg,hle,hm,hcs,ht⟩
 .exact ⟨none,0,by rw[h1,h2],⟨Y,O⟩,.inl (List.length_eq_zero_iff.1 h2)⟩
 .subst h1;refine ⟨_,cap,rfl,⟨hle,by unfold maxLen at hm;omega⟩,.inr ⟨g,0,rfl,(γ hg).1,λi hi=>?_⟩⟩
  obtain ⟨A,c,e,-,eH⟩:=h.cells xP;injection e with e1 e2 e3;rcases eH with eH|⟨g',hA,-,-,hcell⟩
  .rw[eH]at hi;cases hi
  .rw[hA]at e1;injection e1 with e1;injection e1 with e1;subst e1;rw[Nat.zero_add];exact ⟨(hcell i hi 0 O).1,(hcell i hi 1 O).1,(hcell i hi 2 O).1⟩
theorem eb.keep{fp fp':List Nat}{w w':World}{v:Value}{l:List Ed}(h:eb w v l)(ho:aL fp v)(hk:aj fp fp' w w'):eb w' v l:=by
 obtain ⟨A,c,rfl,hc,h⟩:=h;refine ⟨A,c,rfl,hc,h.imp id ?_⟩;rintro ⟨g,f,rfl,hg,hcell⟩;refine ⟨g,f,rfl,Nat.lt_of_lt_of_le hg hk.size,λi hi=>?_⟩;have hb:=hk.blk g hg (ho g rfl);obtain ⟨h1,h2,h3⟩:=hcell i hi;exact ⟨(χ g (f+i*3) hb).trans h1,(χ g (f+i*3+1) hb).trans h2,(χ g (f+i*3+2) hb).trans h3⟩
theorem eb.later{w w':World}{v:Value}{l:List Ed}(h:eb w v l)(hb:Below w.heap.size w w'):eb w' v l:=h.keep (fp:=[]) (fp':=[]) (xi v) (aj.aa hb)
theorem oT{fp fp':List Nat}{w w':World}{v:Value}(ho:aL fp v)(hlt:∀g,v.ownBlock=some g->g<w.heap.size)(hk:aj fp fp' w w'):aL fp' v:=λg hg hm=>(hk.new g hm).elim (ho g hg) λh=>by have:=hlt g hg;omega
theorem eb.form{w:World}{v:Value}{l:List Ed}(h:eb w v l):∃A c,v=.slice A l.length c/\(l.length<=c/\c<=9223372036854775807):=by
 obtain ⟨A,c,e,hc,-⟩:=h;exact ⟨A,c,e,hc⟩
def F6:Option Nat->Int
 |none=>-1
 |some k=>(k:Int)
def cw(cs:List (Option Nat))(s:Nat):Option Nat:=(cs[s]?).getD none
def wC(w:World)(v:Value)(cs:List (Option Nat)):Prop:=∃A c,v=.slice A cs.length c/\(cs.length<=c/\c<=9223372036854775807)/\(cs=[]\/∃g f,A=some ⟨g,f,none⟩/\g<w.heap.size/\∀i (h:i<cs.length),w.cell? ⟨g,f+i,none⟩=some (.int .i64 (F6 cs[i])))
theorem wC.later{w w':World}{v:Value}{cs:List (Option Nat)}(h:wC w v cs)(hb:Below w.heap.size w w'):wC w' v cs:=by
 obtain ⟨A,c,e,hc,h⟩:=h;refine ⟨A,c,e,hc,h.imp id ?_⟩;rintro ⟨g,f,h1,hg,h2⟩;exact ⟨g,f,h1,Nat.lt_of_lt_of_le hg hb.size,λi hi=>(hb.cl g (f+i) hg).trans (h2 i hi)⟩
theorem wC.at_{w:World}{A:Option Addr}{n c:Nat}{cs:List (Option Nat)}(h:wC w (.slice A n c) cs){k:Nat}(hk:k<cs.length):∃g f,A=some ⟨g,f,none⟩/\n=cs.length/\g<w.heap.size/\w.cell? ⟨g,f+k,none⟩=some (.int .i64 (F6 (cw cs k))):=by
 obtain ⟨A',c',e,hc,h⟩:=h;injection e with e1 e2 e3;rcases h with rfl|⟨g,f,h1,hg,h2⟩
 .cases hk
 .refine ⟨g,f,e1.trans h1,e2,hg,?_⟩;rw[h2 k hk];unfold cw;rw[List.getElem?_eq_getElem hk]
  rfl
theorem eb.at_{w:World}{A:Option Addr}{n c:Nat}{l:List Ed}(h:eb w (.slice A n c) l){k:Nat}(hk:k<l.length):∃g f,A=some ⟨g,f,none⟩/\n=l.length/\g<w.heap.size/\(w.cell? ⟨g,f+k*3,none⟩=some (.int .u8 (l[k].lo:Int))/\w.cell? ⟨g,f+k*3+1,none⟩=some (.int .u8 (l[k].hi:Int))/\w.cell? ⟨g,f+k*3+2,none⟩=some (.int .i64 (l[k].to:Int))):=by
 obtain ⟨A',c',e,hc,h⟩:=h;injection e with e1 e2 e3;rcases h with rfl|⟨g,f,h1,hg,h2⟩
 .cases hk
 .exact ⟨g,f,e1.trans h1,e2,hg,h2 k hk⟩
theorem OR.Rh{α:Type}{enc:α->List Value}{n:Nat}(E:kz enc n){e:TypeId}{B g c:Nat}{o:List α}{q x:α}{w:World}(h:OR e n enc B (.slice (some ⟨g,0,none⟩) (o.length+1) c) (o++[q]) w)(j:Nat)(u:Value)(hx:enc x=(enc q).set j u):
  OR e n enc B (.slice (some ⟨g,0,none⟩) (o.length+1) c) (o++[x]) (w.setCell ⟨g,o.length*n+j,none⟩ u):=by
 have h0:w.ownsRow B e n (.slice (some ⟨g,0,none⟩) (o.length+1) c) (o.length+1) (bF enc (o++[q])):=by
  have:=h;unfold OR at this;rwa [List.length_append]at this
 have h1:=(h0.stored (o.length*n+j) u).1;show World.ownsRow _ _ _ _ _ _ _;rw[List.length_append,bU,bz,hx];rw[bU,bz,List.set_append_right _ _ (by rw[iL E];omega),iL E]at h1
 rwa [show o.length*n+j-o.length*n=j by omega]at h1
structure xO (cs:List (Option Nat)) (l:List Ed) (k:Nat) (done:List Ed) (p:Option Ed):Prop where
 go:done++xN (cw cs) p (l.drop k)=b7 (cw cs) l
 nl:p=none->done=[]
 bd:done.length+p.toList.length<=k
 jo:∀e,p=some e->e.lo<256/\e.hi<256
theorem xO.start(cs:List (Option Nat))(l:List Ed):xO cs l 0 [] none:=⟨rfl,λ_=>rfl,I,λe h=>by cases h⟩
section
variable {cs:List (Option Nat)} {l:List Ed} {k:Nat} {done:List Ed} {p:Option Ed} {e:Ed}
theorem drop_at{α:Type}{l:List α}{k:Nat}{e:α}(h:l[k]?=some e):l.drop k=e::l.drop (k+1):=by
 obtain ⟨h1,h2⟩:=List.getElem?_eq_some_iff.1 h;rw[List.drop_eq_getElem_cons h1,h2]
theorem xO.skip(h:xO cs l k done p)(he:l[k]?=some e)(hc:cw cs e.to=none):xO cs l (k+1) done p:=by
 refine ⟨?_,h.nl,by have:=h.bd;omega,h.jo⟩
 have:=h.go;rw[drop_at he,xN,hc]at this;exact this
theorem xO.first(h:xO cs l k done none)(he:l[k]?=some e){t:Nat}(hc:cw cs e.to=some t)(hb:e.lo<256/\e.hi<256):xO cs l (k+1) [] (some ⟨e.lo,e.hi,t⟩):=by
 refine ⟨?_,(λh=>by cases h),ξ,λx hx=>by injection hx with hx;subst hx;exact hb⟩
 have:=h.go;rw[h.nl rfl,drop_at he,xN,hc]at this;exact this
theorem xO.join{q:Ed}(h:xO cs l k done (some q))(he:l[k]?=some e){t:Nat}(hc:cw cs e.to=some t)(hb:e.lo<256/\e.hi<256)(h1:q.to=t)(h2:q.hi+1=e.lo):xO cs l (k+1) done (some ⟨q.lo,e.hi,q.to⟩):=by
 refine ⟨?_,(λh=>by cases h),by have:=h.bd;simp at this|-;omega,λx hx=>by injection hx with hx;subst hx;exact ⟨(h.jo q rfl).1,hb.2⟩⟩
 have:=h.go;rw[drop_at he,xN,hc]at this;simp only[h1,h2,and_self,if_true]at this|-;exact this
theorem xO.part{q:Ed}(h:xO cs l k done (some q))(he:l[k]?=some e){t:Nat}(hc:cw cs e.to=some t)(hb:e.lo<256/\e.hi<256)(h1:¬(q.to=t/\q.hi+1=e.lo)):xO cs l (k+1) (done++[q]) (some ⟨e.lo,e.hi,t⟩):=by
 refine ⟨?_,(λh=>by cases h),by have:=h.bd;simp at this|-;omega,λx hx=>by injection hx with hx;subst hx;exact hb⟩
 have:=h.go;rw[drop_at he,xN,hc]at this;simp only[h1,if_false]at this;rw[List.append_assoc];exact this
theorem xO.acU(h:xO cs l l.length done p):done++p.toList=b7 (cw cs) l:=by
 have:=h.go;rw[List.drop_length]at this;exact this
end
theorem qh{Q:Exit->Act->World->Prop}{x:Exit}{a:Act}{w:World}(h:∀W,W=w->Q x a W):Q x a w:=h w rfl
theorem uW(w:World)(lo hi t:Nat):∀j u,[Value.int .u8 (lo:Int),.int .u8 (hi:Int),.int .i64 (t:Int)][j]?=some u->(w.alloc (.cells #[.int .u8 (lo:Int),.int .u8 (hi:Int),.int .i64 (t:Int)] 195)).cell? ((⟨w.heap.size,0,none⟩:Addr).add j)=some u:=by
 intro j u hj;rw[Addr.add_lit,Nat.zero_add,World.cell?_alloc_mark];simpa using hj
theorem uo(ev cv:Value)(l:List Ed)(cs:List (Option Nat))(w:World)(he:eb w ev l)(hc:wC w cv cs)(qL:∀e∈l,e.to<cs.length)(dV:∀e∈l,e.lo<256/\e.hi<256)(hl:l.length<=100000):
  Calls Tryz.prog 171 #[ev,cv] w λe w'=>∃rv,e=.returned rv/\OR 195 3 j8 w.heap.size rv (b7 (cw cs) l) w'/\Below w.heap.size w w':=by
 obtain ⟨Ae,ce,rfl,qI,Ht⟩:=he.form;obtain ⟨Ac,cc,rfl,mI,-⟩:=id hc;obtain ⟨nl,kr⟩:∃n,l.length=n:=⟨_,rfl⟩;obtain ⟨nc,yx⟩:∃n,cs.length=n:=⟨_,rfl⟩;rw[kr]at he qI hl|-;rw[yx]at hc mI|-;have HE:=Z he;have HC:=Z hc;have HT:=Z qL;have HY:=Z dV;have HN:=Z (H kr yx);obtain ⟨i3,Er,hZ,dS,bX⟩:=info_parts Gq;clear he hc qL dV kr yx
 go_enter Tryz.func171,Tryz.ntmps171
 go_wp2_with fail;go_loopw [11,5] (λiv ov wr=>∃(k:Nat) (done:List Ed) (p:Option Ed),k<=nl/\iv=.int .i64 (k:Int)/\Hid (OR 195 3 j8 w.heap.size ov (done++p.toList) wr)/\Hid (Below w.heap.size w wr)/\Hid (xO cs l k done p)) (λiv _ _=>nl - (intOf iv).toNat)
 case atStart=>exact ⟨0,[],none,Nat.zero_le _,rfl,OR.km _ _ _,υ,xO.start cs l⟩
 case round=>
  obtain ⟨k,done,p,hk,rfl,HO,HB,HJ⟩:=hrel;by_cases hlt:k<nl
  .have hd:decide ((k:Int)<(nl:Int))=true:=τ;have aU:k<l.length:=by rw[HN.out.1];exact hlt
   obtain ⟨g,f,rfl,-,hg,c0,c1,c2⟩:=HE.out.at_ aU;obtain ⟨e,hle⟩:=ν (l[k]);rw[hle]at c0 c1 c2;have hek:l[k]?=some e:=by rw[List.getElem?_eq_getElem aU,hle]
   have De:e∈l:=List.mem_of_getElem? hek;have hblk:=HB.out.block g hg;have d0:=(χ g (f+k*3) hblk).trans c0;have d1:=(χ g (f+k*3+1) hblk).trans c1;have d2:=(χ g (f+k*3+2) hblk).trans c2;have hwr:=HB.out.size;have Ms:g<wr.heap.size:=Y;have htl:=HT.out e De;have WH:=HY.out e De;obtain ⟨g2,f2,rfl,-,mg,cz⟩:=HC.out.at_ htl;have dz:=(χ g2 (f2+e.to) (HB.out.block g2 mg)).trans cz;have asU:g2<wr.heap.size:=Y;have Y1:e.to<nc:=by rw[<-HN.out.2];exact htl
   have hdt:decide (e.to<nc)=true:=decide_eq_true Y1;obtain ⟨lo,hi,tq⟩:=e;simp only at d0 d1 d2 dz htl WH Y1 hdt;have HEK:=Z hek;have po:=Z WH;obtain ⟨Ao,no,co,rfl⟩:∃A n c,u5=.slice A n c:=by
    obtain ⟨A,c,e,-⟩:=ar HO.out;exact ⟨_,_,_,e⟩
   clear hle hek De hblk c0 c1 c2 cz aU htl WH
   cases bB:cw cs tq with
   |none=>
    rw[bB]at dz;have dz':wr.cell? ⟨g2,f2+tq,none⟩=some (.int .i64 (-1)):=dz;have mJ:=Z bB;clear dz bB;go_wp2_with fail;go_roundw
    case rel=>exact ⟨k+1,done,p,Y,by go_num,HO.out.later (υ.alloc I _),HB.out.trans ((Below.refl _ wr).alloc hwr _),HJ.out.skip HEK.out mJ.out⟩
    case measure=>exact μ
   |some t=>
    rw[bB]at dz;have dz':wr.cell? ⟨g2,f2+tq,none⟩=some (.int .i64 (t:Int)):=dz;have mJ:=Z bB;have asW:decide ((t:Int)<0)=false:=θ;clear dz bB;have hBA:Below w.heap.size wr (wr.alloc (.cells #[.int .u8 (lo:Int),.int .u8 (hi:Int),.int .i64 (t:Int)] 195)):=υ.alloc hwr _;have Ps:=Z hBA;obtain ⟨no',Ri⟩:∃n,(done++p.toList).length=n:=⟨_,rfl⟩;have Py:no=no':=by
     obtain ⟨A',c',e',-⟩:=ar HO.out;injection e' with _ e2 _;rw[e2,Ri]
    subst Py;have yF:=HJ.out.bd;have asY:no<=k:=by rw[<-Ri,List.length_append];exact yF
    have hw1:IntKind.i64.wrap ((no:Int) - 1)=(no:Int) - 1:=IntWalk.i64_in _ Y;clear hBA yF;go_wp2_with fail;refine dB λW hW=>?_;have eY:Below w.heap.size w W:=HB.out.trans (by rw[hW];exact Ps.out)
    have tT:Below wr.heap.size wr W:=by rw[hW];exact υ.alloc I _
    have rL:W.heap.size=wr.heap.size+1:=by rw[hW];simp
    have Te:W.heap[wr.heap.size]?=some (.cells #[.int .u8 (lo:Int),.int .u8 (hi:Int),.int .i64 (t:Int)] 195 (0,0)):=by rw[hW];exact heap_alloc_new wr _
    obtain ⟨b0,b1,b2⟩:=cells3 Te;have hoW:OR 195 3 j8 w.heap.size (.slice Ao no co) (done++p.toList) W:=HO.out.later tT;have Gp:wr.heap.size<W.heap.size:=Y;have b8:=Z eY;have HOW:=Z hoW;have TJ:=Z Ri;clear hW Te eY tT hoW Ri d0 d1 d2 dz'
    cases p with
    |none=>
     have hnil:=HJ.out.nl rfl;subst hnil;obtain rfl:no=0:=by have:=TJ.out;simpa using this.symm
     have cX:decide ((0:Int)<=(0:Int) - 1)=false:=O
     go_quiet (fail)
     refine qh λW2 gK=>?_;have aJ:Below W.heap.size W W2:=by rw[gK];exact below_drewN υ _
     have q0:=(aJ.cl wr.heap.size 0 Gp).trans b0;have q1:=(aJ.cl wr.heap.size 1 Gp).trans b1;have q2:=(aJ.cl wr.heap.size 2 Gp).trans b2;have vO:wr.heap.size<W2.heap.size:=by have:=aJ.size;omega
     have Kc:w.heap.size<=W2.heap.size:=Y;have cZ:(W2.alloc (.cells #[.int .u8 (lo:Int),.int .u8 (hi:Int),.int .i64 (t:Int)] 195)).ownsRow w.heap.size 195 3 (.slice Ao 0 co) 0 (bF j8 ([]:List Ed)):=(HOW.out.later aJ).alloc _;have iY:=uW W2 lo hi t;have dA:w.heap.size<=(W2.alloc (.cells #[.int .u8 (lo:Int),.int .u8 (hi:Int),.int .i64 (t:Int)] 195)).heap.size:=ψ;have dr:=Z (b8.out.trans (aJ.mono b8.out.size));have h0:0<=100000:=Y;clear gK aJ b0 b1 b2;go_wp2_with (at_builtin; refine cQ rfl _ _ 187 rfl w.heap.size 195 i3 _ 3 16 Tryz.underlying187 Er hZ dS bX rfl O _ 0 (bF j8 ([]:List Ed)) rfl cZ ⟨W2.heap.size,0,none⟩ 1 1 [.int .u8 (lo:Int),.int .u8 (hi:Int),.int .i64 (t:Int)] rfl rfl iY (by intro u hu; simp at hu; rcases hu with rfl|rfl|rfl <;> rfl) (by unfold maxLen; omega) Y dA ?_)
     intro v' w9 cT sL wA;have pS:OR 195 3 j8 w.heap.size v' (([]:List Ed)++[⟨lo,hi,t⟩]) w9:=by
      show w9.ownsRow _ _ _ _ (([]:List Ed)++[_]).length (bF j8 (([]:List Ed)++[_]));rw[bU,bz,List.length_append];exact cT
     obtain ⟨A9,n9,c9,rfl⟩:∃A n c,v'=.slice A n c:=by
      obtain ⟨A,c,e,-⟩:=ar cT;exact ⟨_,_,_,e⟩
     have ja:Below w.heap.size w w9:=(dr.out.alloc Kc _).grown sL dA (λq hq=>(cZ.lt q hq).1);have WI:=Z pS;have lT:=Z ja;clear cT sL wA pS ja cZ iY dA;go_wp2_with fail;go_roundw
     case rel=>exact ⟨k+1,[],some ⟨lo,hi,t⟩,Y,by go_num,WI,lT,HJ.out.first HEK.out mJ.out po.out⟩
     case measure=>exact μ
    |some q=>
     have EG:=HOW.out.cells xP;obtain ⟨A',c',e',YM,eH⟩:=EG;have hne:¬(done++(some q).toList)=[]:=ξ;obtain ⟨go,O5,UF,aat,mI⟩:=eH.resolve_left hne;injection e' with e1 e2 e3;subst e3;rw[O5]at e1;subst e1;obtain ⟨nd,bc⟩:∃n,done.length=n:=⟨_,rfl⟩;have acW:no=nd+1:=by rw[<-TJ.out,List.length_append,bc];rfl
     have hq:=mI nd (by rw[List.length_append,bc];simp)
     have Ks:(done++(some q).toList)[nd]'(by rw[List.length_append,bc];simp)=q:=by subst bc;simp
     rw[Ks]at hq;obtain ⟨x2,-⟩:=hq 2 O;obtain ⟨x1,fz1⟩:=hq 1 O;obtain ⟨Rj,GF,Dx⟩:=q;have x2':W.cell? ⟨go,nd*3+2,none⟩=some (.int .i64 (Dx:Int)):=x2;have ZG:W.cell? ⟨go,nd*3+1,none⟩=some (.int .u8 (GF:Int)):=x1;have hqb:=HJ.out.jo _ rfl;have as0:lo<256:=po.out.1;simp only at hqb;have cX:decide ((0:Int)<=(no:Int) - 1)=true:=τ;have as1:((no:Int) - 1).toNat=nd:=Y;have ajO:decide (nd<no)=true:=τ;have yD:IntKind.i64.wrap ((GF:Int)+1)=(GF:Int)+1:=IntWalk.i64_in _ Y;have HND:=Z bc;have M3:(done++(some (⟨Rj,GF,Dx⟩:Ed)).toList).length=no:=TJ.out;have acY:go<W.heap.size:=aat;obtain ⟨OQ,hOQ⟩:∃axH:List Ed,done++(some (⟨Rj,GF,Dx⟩:Ed)).toList=axH:=⟨_,rfl⟩;have WJ:=HOW.out;rw[hOQ]at WJ M3;have HOQ:=Z WJ;have ZH:=Z hOQ;clear WJ hOQ;clear mI hq Ks x1 x2 eH hne bc e2 O5 YM;by_cases h1:Dx=t
     .by_cases h2:GF+1=lo
      .have d1:((Dx:Int) == (t:Int))=true:=ψ;have d2:((GF:Int)+1 == (lo:Int))=true:=ψ;have ZI:=Z (H h1 h2);clear h1 h2
       go_quiet (fail)
       refine qh λW2 gK=>?_;have aJ:Below W.heap.size W W2:=by rw[gK];exact below_drewN υ _
       have q1:=(aJ.cl wr.heap.size 1 Gp).trans b1;have y1:=(aJ.cl go (nd*3+1) acY).trans ZG;have fy1:W2.frozen? ⟨go,nd*3+1,none⟩=false:=by rw[gK];exact fz1
       have vO:wr.heap.size<W2.heap.size:=by have:=aJ.size;omega
       have Rk:go<W2.heap.size:=by have:=aJ.size;omega
       have zU:=HOW.out.later aJ;have Ku:=b8.out.trans (aJ.mono b8.out.size);have Eo:no=done.length+1:=by rw[<-TJ.out,List.length_append];rfl
       have pS:OR 195 3 j8 w.heap.size (.slice (some ⟨go,0,none⟩) no co) (done++(some (⟨Rj,hi,Dx⟩:Ed)).toList) (W2.setCell ⟨go,nd*3+1,none⟩ (.int .u8 (hi:Int))):=by
        rw[Eo]at zU|-;rw[<-HND.out];exact zU.Rh xP (x:=⟨Rj,hi,Dx⟩) 1 (.int .u8 (hi:Int)) rfl
       have WI:=Z pS;have lT:=Z (Ku.sc go (nd*3+1) UF (.int .u8 (hi:Int)));clear gK aJ b0 b1 b2 ZG x2' fz1 zU Ku Eo pS;go_wp2_with fail;go_roundw
       case rel=>exact ⟨k+1,done,some ⟨Rj,hi,Dx⟩,Y,by go_num,WI,lT,HJ.out.join HEK.out mJ.out po.out ZI.out.1 ZI.out.2⟩
       case measure=>exact μ
      .have d1:((Dx:Int) == (t:Int))=true:=ψ;have d2:((GF:Int)+1 == (lo:Int))=false:=ψ;have ZI:=Z (show ¬(Dx=t/\GF+1=lo) from λh=>h2 h.2);clear h1 h2
       go_quiet (fail)
       refine qh λW2 gK=>?_;have aJ:Below W.heap.size W W2:=by rw[gK];exact below_drewN υ _
       have q0:=(aJ.cl wr.heap.size 0 Gp).trans b0;have q1:=(aJ.cl wr.heap.size 1 Gp).trans b1;have q2:=(aJ.cl wr.heap.size 2 Gp).trans b2;have vO:wr.heap.size<W2.heap.size:=by have:=aJ.size;omega
       have Kc:w.heap.size<=W2.heap.size:=Y;have cZ:(W2.alloc (.cells #[.int .u8 (lo:Int),.int .u8 (hi:Int),.int .i64 (t:Int)] 195)).ownsRow w.heap.size 195 3 (.slice (some ⟨go,0,none⟩) no co) OQ.length (bF j8 OQ):=(HOQ.out.later aJ).alloc _;have iY:=uW W2 lo hi t;have dA:w.heap.size<=(W2.alloc (.cells #[.int .u8 (lo:Int),.int .u8 (hi:Int),.int .i64 (t:Int)] 195)).heap.size:=ψ;have dr:=Z (b8.out.trans (aJ.mono b8.out.size));have M4:OQ.length<=100000:=Y;clear gK aJ b0 b1 b2;go_wp2_with (at_builtin; refine cQ rfl _ _ 187 rfl w.heap.size 195 i3 _ 3 16 Tryz.underlying187 Er hZ dS bX rfl O _ OQ.length (bF j8 OQ) rfl cZ ⟨W2.heap.size,0,none⟩ 1 1 [.int .u8 (lo:Int),.int .u8 (hi:Int),.int .i64 (t:Int)] rfl rfl iY (by intro u hu; simp at hu; rcases hu with rfl|rfl|rfl <;> rfl) (by unfold maxLen; omega) Y dA ?_)
       intro v' w9 cT sL wA;have pS:OR 195 3 j8 w.heap.size v' (OQ++[⟨lo,hi,t⟩]) w9:=by
        show w9.ownsRow _ _ _ _ (OQ++[_]).length (bF j8 (OQ++[_]));rw[bU,bz,List.length_append,M3,acW];exact cT
       obtain ⟨A9,n9,c9,rfl⟩:∃A n c,v'=.slice A n c:=by
        obtain ⟨A,c,e,-⟩:=ar cT;exact ⟨_,_,_,e⟩
       have ja:Below w.heap.size w w9:=(dr.out.alloc Kc _).grown sL dA (λq hq=>(cZ.lt q hq).1);have WI:=Z pS;have lT:=Z ja;clear cT sL wA pS ja cZ iY dA;go_wp2_with fail;go_roundw
       case rel=>exact ⟨k+1,done++[(⟨Rj,GF,Dx⟩:Ed)],some ⟨lo,hi,t⟩,Y,by go_num,(by have:=WI.out;rw[<-ZH.out]at this;exact this),lT,(show xO cs l (k+1) (done++[(⟨Rj,GF,Dx⟩:Ed)]) (some ⟨lo,hi,t⟩) from HJ.out.part HEK.out mJ.out po.out ZI.out)⟩
       case measure=>exact μ
     .have d1:((Dx:Int) == (t:Int))=false:=ψ;have ZI:=Z (show ¬(Dx=t/\GF+1=lo) from λh=>h1 h.1);clear h1
      go_quiet (fail)
      refine qh λW2 gK=>?_;have aJ:Below W.heap.size W W2:=by rw[gK];exact below_drewN υ _
      have q0:=(aJ.cl wr.heap.size 0 Gp).trans b0;have q1:=(aJ.cl wr.heap.size 1 Gp).trans b1;have q2:=(aJ.cl wr.heap.size 2 Gp).trans b2;have vO:wr.heap.size<W2.heap.size:=by have:=aJ.size;omega
      have Kc:w.heap.size<=W2.heap.size:=Y;have cZ:(W2.alloc (.cells #[.int .u8 (lo:Int),.int .u8 (hi:Int),.int .i64 (t:Int)] 195)).ownsRow w.heap.size 195 3 (.slice (some ⟨go,0,none⟩) no co) OQ.length (bF j8 OQ):=(HOQ.out.later aJ).alloc _;have iY:=uW W2 lo hi t;have dA:w.heap.size<=(W2.alloc (.cells #[.int .u8 (lo:Int),.int .u8 (hi:Int),.int .i64 (t:Int)] 195)).heap.size:=ψ;have dr:=Z (b8.out.trans (aJ.mono b8.out.size));have M4:OQ.length<=100000:=Y;clear gK aJ b0 b1 b2;go_wp2_with (at_builtin; refine cQ rfl _ _ 187 rfl w.heap.size 195 i3 _ 3 16 Tryz.underlying187 Er hZ dS bX rfl O _ OQ.length (bF j8 OQ) rfl cZ ⟨W2.heap.size,0,none⟩ 1 1 [.int .u8 (lo:Int),.int .u8 (hi:Int),.int .i64 (t:Int)] rfl rfl iY (by intro u hu; simp at hu; rcases hu with rfl|rfl|rfl <;> rfl) (by unfold maxLen; omega) Y dA ?_)
      intro v' w9 cT sL wA;have pS:OR 195 3 j8 w.heap.size v' (OQ++[⟨lo,hi,t⟩]) w9:=by
       show w9.ownsRow _ _ _ _ (OQ++[_]).length (bF j8 (OQ++[_]));rw[bU,bz,List.length_append,M3,acW];exact cT
      obtain ⟨A9,n9,c9,rfl⟩:∃A n c,v'=.slice A n c:=by
       obtain ⟨A,c,e,-⟩:=ar cT;exact ⟨_,_,_,e⟩
      have ja:Below w.heap.size w w9:=(dr.out.alloc Kc _).grown sL dA (λq hq=>(cZ.lt q hq).1);have WI:=Z pS;have lT:=Z ja;clear cT sL wA pS ja cZ iY dA;go_wp2_with fail;go_roundw
      case rel=>exact ⟨k+1,done++[(⟨Rj,GF,Dx⟩:Ed)],some ⟨lo,hi,t⟩,Y,by go_num,(by have:=WI.out;rw[<-ZH.out]at this;exact this),lT,(show xO cs l (k+1) (done++[(⟨Rj,GF,Dx⟩:Ed)]) (some ⟨lo,hi,t⟩) from HJ.out.part HEK.out mJ.out po.out ZI.out)⟩
      case measure=>exact μ
  .obtain rfl:k=nl:=Y;have hd:decide ((k:Int)<(k:Int))=false:=θ;obtain ⟨Ao,no,co,rfl⟩:∃A n c,u5=.slice A n c:=by
    obtain ⟨A,c,e,-⟩:=ar HO.out;exact ⟨_,_,_,e⟩
   go_wp2_with fail;refine az λWf bY=>?_;subst bY;refine bodyPost_ret (v:=.slice Ao no co) (by simp[results,Tryz.results171,go_sem];try rfl) rfl ?_
   have hj:=HJ.out;rw[<-HN.out.1]at hj;exact ⟨_,rfl,by rw[<-hj.acU];exact HO.out,HB.out⟩
def bC(b:Bool):List Value:=[.bool b]
theorem KQ:kz bC 1:=⟨O,λ_=>rfl,λx u hu=>by simp[bC]at hu;subst hu;rfl⟩
theorem mY:(Tryz.prog.info? 4).map (λi=>(i.zero,i.size,i.bytes))=some (some (.bool false),1,1):=κ
def eO(w:World)(v:Value)(l:List Bool):Prop:=∃A c,v=.slice A l.length c/\(l.length<=c/\c<=9223372036854775807)/\(l=[]\/∃g f,A=some ⟨g,f,none⟩/\g<w.heap.size/\∀i (h:i<l.length),w.cell? ⟨g,f+i,none⟩=some (.bool l[i]))
theorem eO.keep{fp fp':List Nat}{w w':World}{v:Value}{l:List Bool}(h:eO w v l)(ho:aL fp v)(hk:aj fp fp' w w'):eO w' v l:=by
 obtain ⟨A,c,rfl,hc,h⟩:=h;refine ⟨A,c,rfl,hc,h.imp id ?_⟩;rintro ⟨g,f,rfl,hg,hcell⟩;exact ⟨g,f,rfl,Nat.lt_of_lt_of_le hg hk.size,λi hi=>(χ g (f+i) (hk.blk g hg (ho g rfl))).trans (hcell i hi)⟩
theorem eO.later{w w':World}{v:Value}{l:List Bool}(h:eO w v l)(hb:Below w.heap.size w w'):eO w' v l:=h.keep (fp:=[]) (fp':=[]) (xi v) (aj.aa hb)
theorem eO.gq{w:World}{B:Nat}{v:Value}{l:List Bool}(h:OR 4 1 bC B v l w):eO w v l:=by
 obtain ⟨A,c,e,hc,eH⟩:=h.cells KQ;have Dh:c<=9223372036854775807:=by
  obtain ⟨A',c',e',-,h'⟩:=ar (show w.ownsRow _ _ _ _ _ _ from h);rw[e]at e';injection e' with _ _ e3;rw[e3];exact h'
 refine ⟨A,c,e,⟨hc,Dh⟩,eH.imp id ?_⟩;rintro ⟨g,h1,-,hg,hcell⟩;refine ⟨g,0,h1,hg,λi hi=>?_⟩;have:=(hcell i hi 0 O).1;rw[Nat.mul_one,Nat.add_zero]at this;rw[Nat.zero_add,this];rfl
def Cw(w:World)(v:Value)(l:List (List Ed)):Prop:=∃A c,v=.slice A l.length c/\(l.length<=c/\c<=9223372036854775807)/\(l=[]\/∃g f,A=some ⟨g,f,none⟩/\g<w.heap.size/\∀i (h:i<l.length),∃rv,w.cell? ⟨g,f+i,none⟩=some rv/\eb w rv l[i])
theorem Cw.later{w w':World}{v:Value}{l:List (List Ed)}(h:Cw w v l)(hb:Below w.heap.size w w'):Cw w' v l:=by
 obtain ⟨A,c,e,hc,h⟩:=h;refine ⟨A,c,e,hc,h.imp id ?_⟩;rintro ⟨g,f,h1,hg,hcell⟩;refine ⟨g,f,h1,Nat.lt_of_lt_of_le hg hb.size,λi hi=>?_⟩;obtain ⟨rv,h2,h3⟩:=hcell i hi;exact ⟨rv,(hb.cl g (f+i) hg).trans h2,h3.later hb⟩
theorem Cw.form{w:World}{v:Value}{l:List (List Ed)}(h:Cw w v l):∃A c,v=.slice A l.length c/\(l.length<=c/\c<=9223372036854775807):=by
 obtain ⟨A,c,e,hc,-⟩:=h;exact ⟨A,c,e,hc⟩
theorem eO.form{w:World}{v:Value}{l:List Bool}(h:eO w v l):∃A c,v=.slice A l.length c/\(l.length<=c/\c<=9223372036854775807):=by
 obtain ⟨A,c,e,hc,-⟩:=h;exact ⟨A,c,e,hc⟩
theorem Cw.at_{w:World}{A:Option Addr}{n c:Nat}{l:List (List Ed)}(h:Cw w (.slice A n c) l){k:Nat}(hk:k<l.length):∃g f rv,A=some ⟨g,f,none⟩/\n=l.length/\g<w.heap.size/\w.cell? ⟨g,f+k,none⟩=some rv/\eb w rv l[k]:=by
 obtain ⟨A',c',e,hc,h⟩:=h;injection e with e1 e2 e3;rcases h with rfl|⟨g,f,h1,hg,h2⟩
 .cases hk
 .obtain ⟨rv,h3,h4⟩:=h2 k hk;exact ⟨g,f,rv,e1.trans h1,e2,hg,h3,h4⟩
theorem eO.at_{w:World}{A:Option Addr}{n c:Nat}{l:List Bool}(h:eO w (.slice A n c) l){k:Nat}(hk:k<l.length):∃g f,A=some ⟨g,f,none⟩/\n=l.length/\g<w.heap.size/\w.cell? ⟨g,f+k,none⟩=some (.bool l[k]):=by
 obtain ⟨A',c',e,hc,h⟩:=h;injection e with e1 e2 e3;rcases h with rfl|⟨g,f,h1,hg,h2⟩
 .cases hk
 .exact ⟨g,f,e1.trans h1,e2,hg,h2 k hk⟩
def gH(w:World)(v:Value)(m:Mc):Prop:=∃ve va,v=.agg #[ve,va]/\Cw w ve m.ed/\eO w va m.ac
theorem gH.later{w w':World}{v:Value}{m:Mc}(h:gH w v m)(hb:Below w.heap.size w w'):gH w' v m:=by
 obtain ⟨ve,va,e,h1,h2⟩:=h;exact ⟨ve,va,e,h1.later hb,h2.later hb⟩
structure sF (m:Mc):Prop where
 jo:∀r∈m.ed,∀e∈r,e.lo<256/\e.hi<256
 rl:∀r∈m.ed,r.length<=10000
 n:m.ed.length<=100000
theorem DG(v:Value)(l:List Bool)(w:World)(h:eO w v l)(hl:l.length<=1000000):Calls Tryz.prog 215 #[v] w λe w'=>∃rv,e=.returned rv/\OR 4 1 bC w.heap.size rv l w'/\Below w.heap.size w w':=by
 obtain ⟨A,c,rfl,hc,h⟩:=h;obtain ⟨i3,Er,hZ,dS,bX⟩:=info_parts mY;have hnil:=λw=>Lib.run_eql_slice_nil (P:=Tryz.prog) w 70 4 A l.length c 0 0 Tryz.underlying70
 cases A with
 |none=>
  obtain rfl:l=[]:=h.resolve_right (by rintro ⟨g,f,e,-⟩;cases e)
  simp only[List.length_nil]at hnil
  go_enter Tryz.func215,Tryz.ntmps215
  go_wp2_with fail;go_ret;exact ⟨_,rfl,OR.km _ _ _,υ⟩
 |some ad=>
  have hcell:∀i (hi:i<l.length),∀j<1,w.cell? (ad.add (i*1+j))=(bC l[i])[j]?:=by
   intro i hi j hj;obtain ⟨g,f,e,-,mI⟩:=h.resolve_left (by rintro rfl;cases hi)
   injection e with e;subst e;obtain rfl:j=0:=Y;rw[Addr.add_lit,Nat.mul_one,Nat.add_zero,mI i hi];rfl
  have hlt:l=[]\/ad.block<w.heap.size:=h.imp id (by rintro ⟨g,f,e,hg,-⟩;injection e with e;subst e;exact hg)
  have mh:∀i (hi:i<l.length),∀j<1,(w.alloc (.cells #[] 4)).cell? (ad.add (i*1+j))=(bC l[i])[j]?:=by
   intro i hi j hj;rw[<-hcell i hi j hj];exact World.cell?_of_block (by rw[gm];exact aB w _ _ (hlt.resolve_left (by rintro rfl;cases hi)))
  have HC:=Z mh;clear h hcell mh hlt;have ad1:OR 4 1 bC w.heap.size (.slice (some ⟨w.heap.size,0,none⟩) 0 0) [] (w.alloc (.cells #[] 4)):=OR.empty _ _;have HO:=Z ad1;clear ad1
  go_enter Tryz.func215,Tryz.ntmps215
  go_wp2_with (at_builtin;refine Xx KQ Tryz.underlying70 Er hZ dS bX rfl O _ _ (.slice (some ⟨w.heap.size,0,none⟩) 0 0) ad c [] l w.heap.size rfl rfl rfl rfl HO.out HC.out ξ hl ξ ?_);intro v' w1 hown1 hb1;obtain ⟨A',n',c',rfl⟩:∃A n c,v'=.slice A n c:=by
   obtain ⟨A,c,e,-⟩:=ar (show w1.ownsRow _ _ _ _ _ _ from hown1);exact ⟨_,_,_,e⟩
  have FF:=Z hown1;have aX:=Z (((Below.refl _ w).alloc I (.cells #[] 4)).trans hb1);clear hown1 hb1;go_wp2_with fail;go_ret;exact ⟨_,rfl,FF.out,aX.out⟩
theorem eb.rows{w:World}{v:Value}{l:List Ed}(h:eb w v l):je 3 w v (l.map j8):=by
 obtain ⟨A,c,rfl,hc,h⟩:=h;refine ⟨A,c,ξ,by simpa using hc,?_⟩
 rcases h with rfl|⟨g,f,h1,h2,h3⟩
 .exact .inl rfl
 .refine .inr ⟨g,f,h1,h2,λi hi=>?_⟩;have hi':i<l.length:=by simpa using hi
  obtain ⟨q1,q2,q3⟩:=h3 i hi';refine ⟨by simp[j8],λj hj=>?_⟩
  match j,hj with
  |0,_=>rw[Nat.add_zero,q1];simp[j8]
  |1,_=>rw[q2];simp[j8]
  |2,_=>rw[q3];simp[j8]
theorem PT(e:Ed)(bx go n c:Nat)(b:Bool)(w:World)(h0:w.cell? ⟨bx,0,none⟩=some (.slice (some ⟨go,0,none⟩) n c))(h1:w.cell? ⟨go,e.to,none⟩=some (.bool b))(hn:e.to<n):
  Calls Tryz.prog 217 #[.agg (j8 e).toArray,.pointer (some ⟨bx,0,none⟩)] w λe' w'=>e'=.returned (.bool b)/\Below w.heap.size w w':=by
 have hlt:∀{g j:Nat} {v:Value},w.cell? ⟨g,j,none⟩=some v->g<w.heap.size:=λ{g j v} h=>by
  by_cases hg:g<w.heap.size
  .exact hg
  .simp[World.cell?,Array.getElem?_eq_none (Nat.le_of_not_lt hg)]at h
 have dL:=hlt h0;have Az:=hlt h1;have hne:bx≠w.heap.size:=Y;have vX:go≠w.heap.size:=Y;obtain ⟨lo,hi,tq⟩:=e;simp only at h1 hn;have hd:decide (tq<n)=true:=decide_eq_true hn;have hB:Below w.heap.size w (w.alloc (.cells #[.int .u8 (lo:Int),.int .u8 (hi:Int),.int .i64 (tq:Int)] 195)):=υ.alloc I _;have HB:=Z hB;clear hB hlt;show Calls Tryz.prog _ #[.agg #[.int .u8 (lo:Int),.int .u8 (hi:Int),.int .i64 (tq:Int)],_] w _
 go_enter Tryz.func217,Tryz.ntmps217
 go_wp2_with fail;go_ret;exact ⟨rfl,HB.out⟩
theorem PU(args:Array Value)(w:World):(callFunc 217 args).run Tryz.prog w=.ok (.enter 217 args) w:=by rfl
def KJ:List Bool->Nat
 | []=>0
 |b::r=>(if b=true then 0 else 1)+KJ r
theorem FE:∀(o:List Bool) (i:Nat),o[i]?=some false->KJ (o.set i true)+1=KJ o
 |b::r,0,h=>by
  simp at h;subst h;simp[KJ];omega
 |b::r,i+1,h=>by
  have:=FE r i (by simpa using h)
  rw[List.set_cons_succ,KJ,KJ];omega
structure KL (m:Mc) (o:List Bool):Prop where
 len:o.length=m.ed.length
 acc:∀s,s<m.ed.length->(m.ac[s]?).getD false=true->o[s]?=some true
 snd:∀s,o[s]?=some true->br m s
def KM(m:Mc)(o:List Bool)(j:Nat):Prop:=∀s,j<=s->o[s]?=some false->∀e∈bE m s,o[e.to]?=some false
theorem KL.start{m:Mc}(hv:pC m):KL m m.ac:=⟨hv.len,λs hs h=>by
 have hl:s<m.ac.length:=by rw[hv.len];exact hs
 rw[List.getElem?_eq_getElem hl]at h|-;simpa using h,λs h=>KO (by rw[h];rfl)⟩
theorem KL.set{m:Mc}{o:List Bool}(hv:pC m)(h:KL m o){s:Nat}{e:Ed}(he:e∈bE m s)(ho:o[e.to]?=some true):KL m (o.set s true):=by
 refine ⟨by rw[List.length_set];exact h.len,λt ht ha=>?_,λt ht=>?_⟩
 .rw[List.getElem?_set];split
  .next cB=>
   subst cB;rw[if_pos (by rw[h.len];exact ht)]
  .exact h.acc t ht ha
 .rw[List.getElem?_set]at ht;split at ht
  .next cB=>subst cB;exact Hr hv he (h.snd _ ho)
  .exact h.snd t ht
theorem KL.done{m:Mc}{o:List Bool}(hv:pC m)(h:KL m o)(hc:KM m o 0):∀s,s<m.ed.length->(o[s]?=some true↔br m s):=λs hs=>by
 refine ⟨h.snd s,λhl=>?_⟩;have cB:∀t,t<m.ed.length->(o[t]?).getD false=false->∀e∈bE m t,(o[e.to]?).getD false=false:=λt ht hf e he=>by
  have iV:t<o.length:=by rw[h.len];exact ht
  have h1:=hc t (Nat.zero_le _) (by rw[List.getElem?_eq_getElem iV]at hf|-;simpa using hf) e he
  rw[h1];rfl
 have:=KP hv (out:=λs=>(o[s]?).getD false) (λt ht ha=>by rw[h.acc t ht ha];rfl) cB hs hl
 cases hx:o[s]? with
 |none=>rw[hx]at this;cases this
 |some b=>rw[hx]at this;simp at this;rw[this]
structure vL (W:World) (B go n c:Nat) (o:List Bool) (wr:World):Prop where
 own:OR 4 1 bC B (.slice (some ⟨go,0,none⟩) n c) o wr
 kf:aj [go] [go] W wr
theorem vL.cell{W:World}{B go n c:Nat}{o:List Bool}{wr:World}(h:vL W B go n c o wr){s:Nat}{b:Bool}(hs:o[s]?=some b):wr.cell? ⟨go,s,none⟩=some (.bool b)/\wr.frozen? ⟨go,s,none⟩=false/\go<wr.heap.size:=by
 obtain ⟨A,c',e,-,eH⟩:=h.own.cells KQ;obtain ⟨hsl,O4⟩:=List.getElem?_eq_some_iff.1 hs;obtain ⟨g,hA,-,hg,mI⟩:=eH.resolve_left (by rintro rfl;cases hsl)
 injection e with e1 _ _;rw[hA]at e1;injection e1 with e1;injection e1 with e1;subst e1;have:=mI s hsl 0 O;rw[Nat.mul_one,Nat.add_zero,O4]at this;exact ⟨this.1,this.2,hg⟩
theorem vL.set{W:World}{B go n c:Nat}{o:List Bool}{wr:World}(h:vL W B go n c o wr)(hn:o.length=n)(s:Nat):vL W B go n c (o.set s true) (wr.setCell ⟨go,s,none⟩ (.bool true)):=by
 have hrow:∀o:List Bool,bF bC o=o.map Value.bool:=λo=>by
  unfold bF
  induction o with
  |nil=>rfl
  |cons b r ih=>simp only[List.map_cons,List.flatten_cons,ih];rfl
 refine ⟨?_,?_⟩
 .have h1:wr.ownsRow B 4 1 (.slice (some ⟨go,0,none⟩) n c) n (bF bC o):=by have:=h.own;unfold OR at this;rwa [hn]at this
  have h2:=(h1.stored s (.bool true)).1;show World.ownsRow _ _ _ _ _ _ _;rw[List.length_set,hn,hrow,List.map_set];rw[hrow]at h2;exact h2
 .exact h.kf.trans ⟨rfl,rfl,rfl,by simp[World.setCell],λk _ hn=>Below.heap_setCell _ _ _ _ (λe=>hn (by simp[show k=go from e])),λk hk=>.inl hk⟩
theorem vL.later{W:World}{B go n c:Nat}{o:List Bool}{wr w':World}(h:vL W B go n c o wr)(hb:Below wr.heap.size wr w'):vL W B go n c o w':=⟨h.own.later hb,h.kf.trans (aj.aa hb)⟩
def UD(m:Mc)(n:Nat)(w:World)(e:Ending)(w':World):Prop:=∃rv o,e=.returned rv/\OR 4 1 bC w.heap.size rv o w'/\Below w.heap.size w w'/\o.length=n/\∀s,s<n->(o[s]?=some true↔br m s)
theorem Hs(v:Value)(m:Mc)(w:World)(hm:gH w v m)(hv:pC m)(j9:sF m)(h1:1<=m.ed.length):
  Calls Tryz.prog 194 #[v] w (UD m m.ed.length w):=by
 obtain ⟨ve,va,rfl,he,ha⟩:=hm;obtain ⟨Ae,ce,rfl,qI,Ht⟩:=he.form;obtain ⟨Aa,ca,rfl,DF,UE⟩:=ha.form;obtain ⟨n,hn⟩:=ν m.ed.length;have pg:m.ac.length=n:=by rw[hv.len,hn]
 have Dd:=j9.n;have bB:=λW (h:Below w.heap.size w W)=>DG _ m.ac W (ha.later h) (by rw[pg];omega)
 rw[pg]at bB ha DF;rw[hn]at he qI h1 Dd;have mJ:=Z bB;have HE:=Z he;have HV:=Z hv;have Kb:=Z j9;have HN:=Z (H hn pg);have HAI:=Z (KL.start hv);rw[pg,hn];clear bB he ha hv j9 hn pg
 go_enter Tryz.func194,Tryz.ntmps194
 have qJ:=(Below.refl w w).alloc I (.cells #[.slice Ae n ce,.slice Aa n ca] 93);have cH:=Z qJ;clear qJ;go_wp2_with fail;refine (mJ.out _ cH.out).mono ?_;rintro e w1 ⟨rv,rfl,hown1,hb1⟩;obtain ⟨A1,c1,e1,lY,eH⟩:=hown1.cells KQ;obtain ⟨go,O5,UF,aat,-⟩:=eH.resolve_left (by intro e;have:=HN.out.2;rw[e]at this;simp at this;omega)
 subst O5;rw[HN.out.2]at e1;subst e1;have vY:w1.heap[w.heap.size]?=some (.cells #[.slice Ae n ce,.slice Aa n ca] 93 (0,0)):=(hb1.block _ ξ).trans (heap_alloc_new w _);have hz1:w.heap.size+1<=w1.heap.size:=by have:=hb1.size;simpa using this
 have FF:=Z hown1;have KS:=Z vY;have aX:=Z (cH.out.trans (hb1.mono ξ));clear hown1 vY hb1 eH lY;go_wp2_with fail;refine dB λW hW=>?_;have eY:Below w1.heap.size w1 W:=by rw[hW];exact υ.alloc I _
 have rL:W.heap.size=w1.heap.size+1:=by rw[hW];simp
 have Te:W.heap[w1.heap.size]?=some (.cells #[.slice (some ⟨go,0,none⟩) n c1] 70 (0,0)):=by rw[hW];exact heap_alloc_new w1 _
 have hnW:=(eY.block w.heap.size Y).trans KS.out;have zN:vL W (w.heap.size+1) go n c1 m.ac W:=⟨FF.out.later eY |>.mono ξ,aj.refl _ _⟩;have hgB:w.heap.size+1<=go:=by simpa using UF
 have aqj:go<W.heap.size:=Y;have PV:w.heap.size≠go:=Y;have vX:w1.heap.size≠go:=Y;have hcW:∀wr,aj [go] [go] W wr->wr.heap[w.heap.size]?=some (.cells #[.slice Ae n ce,.slice Aa n ca] 93 (0,0))/\wr.heap[w1.heap.size]?=some (.cells #[.slice (some ⟨go,0,none⟩) n c1] 70 (0,0))/\Below w.heap.size w wr:=λwr h=>by
  refine ⟨(h.blk _ Y (by simpa using PV)).trans hnW,(h.blk _ Y (by simpa using vX)).trans Te,?_⟩
  exact (aX.out.trans (eY.mono Y)).trans (h.below (λk hk=>by rw[List.mem_singleton]at hk;omega) Y)
 have HCW:=Z hcW;have KT:=Z zN;have qK:w1.heap.size<W.heap.size:=Y;have PW:w.heap.size<W.heap.size:=Y;clear hW eY Te hnW zN hcW;go_wp2_with fail
 go_loopg [4] (KJ m.ac+2) (λq cv wr=>∃(ch:Bool) (o:List Bool),cv=.bool ch/\KJ o+(if ch=true then 1 else 0)<q/\Hid (vL W (w.heap.size+1) go n c1 o wr)/\Hid (KL m o/\(ch=false->KM m o 0)))
 case atStart=>exact ⟨true,m.ac,rfl,ξ,KT,HAI.out,λh=>by cases h⟩
 case round=>
  obtain ⟨ch,o,rfl,hq,HR,HI⟩:=hrel;obtain ⟨hwN,Tf,FG⟩:=HCW.out wr HR.out.kf;obtain ⟨x0,x1⟩:wr.cell? ⟨w.heap.size,0,none⟩=some (.slice Ae n ce)/\wr.cell? ⟨w.heap.size,1,none⟩=some (.slice Aa n ca):=by
   constructor <;> (rw[cell_of_row _ _ _ _ _ _ hwN]; rfl)
  have y0:wr.cell? ⟨w1.heap.size,0,none⟩=some (.slice (some ⟨go,0,none⟩) n c1):=by rw[cell_of_row _ _ _ _ _ _ Tf];rfl
  have Kc:=HR.out.kf.size;have aqk:w.heap.size<wr.heap.size:=Y;have aql:w1.heap.size<wr.heap.size:=Y;have HWB:=Z FG;clear hwN Tf FG
  cases ch with
  |false=>
   go_wp2_with fail;refine az λWf bY=>?_;subst bY;refine bodyPost_ret (v:=.slice (some ⟨go,0,none⟩) n c1) (by simp[results,Tryz.results194,go_sem];try rfl) rfl ?_
   have hd:=HI.out.1.done HV.out (HI.out.2 trivial);rw[HN.out.1]at hd;exact ⟨_,o,rfl,HR.out.own.mono Y,HWB.out,by rw[HI.out.1.len,HN.out.1],hd⟩
  |true=>
   have hw1:IntKind.i64.wrap ((n:Int) - 1)=(n:Int) - 1:=IntWalk.i64_in _ Y;go_wp2_with fail;obtain ⟨WO,rfl⟩:∃W:World,W=wr:=⟨_,rfl⟩
   go_loopg [5,4] n (λj iv cv wr=>∃(x:Int) (ch:Bool) (o2:List Bool),j<=n/\x=(j:Int) - 1/\iv=.int .i64 x/\cv=.bool ch/\Hid (vL W (w.heap.size+1) go n c1 o2 wr)/\Hid (KL m o2/\(ch=false->o2=o/\KM m o j)/\(ch=true->KJ o2<KJ o)))
   case atStart=>exact ⟨_,false,o,I,rfl,rfl,rfl,HR,HI.out.1,λ_=>⟨rfl,λs hs ho=>by have:=(List.getElem?_eq_some_iff.1 ho).1;have:=HI.out.1.len;have:=HN.out.1;omega⟩,λh=>by cases h⟩
   case round=>
    obtain ⟨x,ch,o2,hj,hx,rfl,rfl,rM,qB⟩:=hrel;obtain ⟨hwN,Tf,FG⟩:=HCW.out wr rM.out.kf;obtain ⟨z0,z1⟩:wr.cell? ⟨w.heap.size,0,none⟩=some (.slice Ae n ce)/\wr.cell? ⟨w.heap.size,1,none⟩=some (.slice Aa n ca):=by
     constructor <;> (rw[cell_of_row _ _ _ _ _ _ hwN]; rfl)
    have t0:wr.cell? ⟨w1.heap.size,0,none⟩=some (.slice (some ⟨go,0,none⟩) n c1):=by rw[cell_of_row _ _ _ _ _ _ Tf];rfl
    have agT:=rM.out.kf.size;have aqn:w.heap.size<wr.heap.size:=Y;have agU:w1.heap.size<wr.heap.size:=Y;have agV:go<wr.heap.size:=Y;have aav:=Z FG;clear hwN Tf FG
    cases gk with
    |zero=>
     have hd0:decide ((0:Int)<=x)=false:=θ;clear hx;go_wp2_with fail
     go_roundg (KJ o2+(if ch=true then 1 else 0)+1)
     case measure=>
      obtain ⟨h1,h2⟩:=qB.out.2
      cases ch with
      |false=>rw[(h1 rfl).1];simp at hq|-;omega
      |true=>have:=h2 rfl;simp at hq|-;omega
     case rel=>exact ⟨ch,o2,rfl,Nat.lt_succ_self _,rM,qB.out.1,λh=>by obtain ⟨h1,h2⟩:=qB.out.2.1 h;rw[h1];exact h2⟩
    |succ s=>
     obtain rfl:x=(s:Int):=Y;have hd0:decide ((0:Int)<=(s:Int))=true:=τ;have tj:s<n:=Y;have cX:decide (s<n)=true:=decide_eq_true tj;have hos:s<o2.length:=by rw[qB.out.1.len,HN.out.1];exact tj
     obtain ⟨q,rN⟩:∃q,o2[s]?=some q:=⟨_,List.getElem?_eq_getElem hos⟩;obtain ⟨r1,r2,-⟩:=rM.out.cell rN;have ew:IntKind.i64.wrap ((s:Int) - 1)=(s:Int) - 1:=IntWalk.i64_in _ Y;have HQ:=Z rN;clear hx rN hos
     cases q with
     |true=>
      go_wp2_with fail
      go_roundg s
      case measure=>omega
      case rel=>exact ⟨_,ch,o2,Y,rfl,rfl,rfl,rM,qB.out.1,λh=>⟨(qB.out.2.1 h).1,λt ht ho=>by
       by_cases hts:t=s
       .subst hts;have:=HQ.out;rw[(qB.out.2.1 h).1,ho]at this;cases this
       .exact (qB.out.2.1 h).2 t Y ho⟩,qB.out.2.2⟩
     |false=>
      have hel:=HE.out.later ((Below.refl w w));have hsl:s<m.ed.length:=by rw[HN.out.1];exact tj
      obtain ⟨g,f,rv,rfl,-,hg,O6,vM⟩:=HE.out.at_ hsl;have PX:=vM.later aav.out;have aqo:=(χ g (f+s) (aav.out.block g hg)).trans O6;have od:g<wr.heap.size:=Y;obtain ⟨row,hrow⟩:∃r,m.ed[s]=r:=⟨_,rfl⟩;have jF:bE m s=row:=by unfold bE;rw[List.getElem?_eq_getElem hsl,hrow];rfl
      rw[hrow]at PX;have qL:∀e∈row,e.to<n:=λe he=>by rw[<-HN.out.1];exact HV.out.to _ (by rw[<-hrow];exact List.getElem_mem hsl) e he
      have KU:sG 217 #[.pointer (some ⟨w1.heap.size,0,none⟩)] (row.map j8) (row.map λe=>(o2[e.to]?).getD false) wr:=by
       refine ⟨PU,ξ,λi hi b hb w' hw'=>?_⟩;have hi':i<row.length:=by simpa using hi
       have ht:=qL row[i] (List.getElem_mem hi');rw[List.getElem?_map,List.getElem?_eq_getElem hi']at hb;simp only[Option.map_some,Option.some.injEq]at hb;have pj:row[i].to<o2.length:=by rw[qB.out.1.len,HN.out.1];exact ht
       rw[List.getElem?_eq_getElem pj]at hb;simp only[Option.getD_some]at hb;have hc:=(rM.out.cell (s:=row[i].to) (b:=b) (by rw[List.getElem?_eq_getElem pj,hb])).1
       have:=PT row[i] w1.heap.size go n c1 b w' ((hw'.cl w1.heap.size 0 agU).trans t0) ((hw'.cl go (row[i].to) agV).trans hc) ht;simpa using this
      have pD:bR (row.map λe=>(o2[e.to]?).getD false)=row.any λe=>(o2[e.to]?).getD false:=fg _ row;have Hv:=Hw 217 #[.pointer (some ⟨w1.heap.size,0,none⟩)] _ _ rv wr PX.rows KU;obtain ⟨q,hqq⟩:∃q,(row.any λe=>(o2[e.to]?).getD false)=q:=⟨_,rfl⟩;rw[pD,hqq]at Hv;have HC:=Z Hv;have HQQ:=Z hqq;have YF:=Z (H jF qL);obtain ⟨Ar,cr,AA,-⟩:=PX.form;obtain ⟨nr,sH⟩:∃n,row.length=n:=⟨_,rfl⟩;rw[sH]at AA;subst AA;clear hel hsl O6 vM PX hrow jF qL KU pD Hv hqq sH;go_wp2_with fail;refine HC.out.mono ?_;rintro e w5 ⟨rfl,jq⟩;have Kd:=rM.out.later jq;have HR5:=Z Kd;have hw5:=jq.size
      cases q with
      |false=>
       clear Kd jq;go_wp2_with fail
       go_roundg s
       case measure=>omega
       case rel=>exact ⟨_,ch,o2,Y,rfl,rfl,rfl,HR5,qB.out.1,λh=>⟨(qB.out.2.1 h).1,λt ht ho=>by
        by_cases hts:t=s
        .subst hts;rw[YF.out.1];intro e he;have h1:=List.any_eq_false.1 HQQ.out e he;have h2:=YF.out.2 e he;have h3:=(qB.out.2.1 h).1;have pj:e.to<o2.length:=by rw[qB.out.1.len,HN.out.1];exact h2
         rw[<-h3,List.getElem?_eq_getElem pj];rw[List.getElem?_eq_getElem pj]at h1;simpa using h1
        .exact (qB.out.2.1 h).2 t Y ho⟩,qB.out.2.2⟩
      |true=>
       obtain ⟨u1,u2,u3⟩:=Kd.cell HQ.out;obtain ⟨Tf,-⟩:=(HCW.out w5 Kd.kf).2;have u0:w5.cell? ⟨w1.heap.size,0,none⟩=some (.slice (some ⟨go,0,none⟩) n c1):=by rw[cell_of_row _ _ _ _ _ _ Tf];rfl
       have aqq:w1.heap.size<w5.heap.size:=Y;have bo:=Kd.set (by rw[qB.out.1.len,HN.out.1]) s
       have HS:=Z bo;have HA:Hid (KL m (o2.set s true)):=by
        obtain ⟨e,he,h1⟩:=List.any_eq_true.1 HQQ.out;have pj:e.to<o2.length:=by rw[qB.out.1.len,HN.out.1];exact YF.out.2 e he
        rw[List.getElem?_eq_getElem pj]at h1;exact qB.out.1.set HV.out (by rw[YF.out.1];exact he) (by rw[List.getElem?_eq_getElem pj];simpa using h1)
       have Ke:=FE o2 s HQ.out;have Tg:=Z Ke;clear Kd jq Tf bo Ke;go_wp2_with fail
       go_roundg s
       case measure=>omega
       case rel=>
        refine ⟨_,true,o2.set s true,Y,rfl,rfl,rfl,HS,HA,λh=>(by cases h),λ_=>?_⟩
        have h9:=Tg.out
        cases ch with
        |false=>have:=(qB.out.2.1 rfl).1;subst this;omega
        |true=>have:=qB.out.2.2 rfl;omega
def Bc(e:Ed)(c:Nat):Int:=if e.hi<c then -1 else if c<e.lo then 1 else 0
theorem tu:∀{r:List Ed} {b:Nat},cm b r->∀i j (hi:i<r.length) (hj:j<r.length),i<=j->b<=r[i].hi/\r[i].hi<=r[j].hi
 |e::r,b,⟨h1,h2,h3⟩,0,0,_,_,_=>⟨by show b<=e.hi;omega,I⟩
 |e::r,b,⟨h1,h2,h3⟩,0,j+1,_,hj,_=>by
  obtain ⟨q1,-⟩:=tu h3 j j (by simpa using hj) (by simpa using hj) I
  refine ⟨by show b<=e.hi;omega,?_⟩
  show e.hi<=(e::r)[j+1].hi;rw[List.getElem_cons_succ];omega
 |e::r,b,⟨h1,h2,h3⟩,i+1,j+1,hi,hj,DN=>by
  obtain ⟨q1,q2⟩:=tu h3 i j (by simpa using hi) (by simpa using hj) Y
  refine ⟨?_,?_⟩
  .rw[List.getElem_cons_succ];omega
  .rw[List.getElem_cons_succ,List.getElem_cons_succ];exact q2
theorem Ll:∀{r:List Ed} {b c:Nat} (k:Nat),cm b r->(∀t (h:t<r.length),t<k->r[t].hi<c)->(∀(h:k<r.length),c<=r[k].hi)->k<=r.length->bO r c=(r[k]?).bind λe=>if e.lo<=c then some e.to else none
 | [],b,c,k,_,_,_,hk=>by
  obtain rfl:k=0:=by simpa using hk
  rfl
 |e::r,b,c,0,⟨h1,h2,h3⟩,_,hu,_=>by
  have:=hu ξ;rw[List.getElem_cons_zero]at this;rw[bO];simp only[List.getElem?_cons_zero,Option.bind_some];by_cases h:e.lo<=c
  .rw[if_pos ⟨h,this⟩,if_pos h]
  .rw[if_neg (λq=>h q.1),if_neg h];exact dh h3 Y
 |e::r,b,c,k+1,⟨h1,h2,h3⟩,hl,hu,hk=>by
  have:=hl 0 ξ Y;rw[List.getElem_cons_zero]at this;rw[bO,if_neg Y,List.getElem?_cons_succ];exact Ll k h3 (λt h ht=>by have:=hl (t+1) (by simpa using h) Y;rwa [List.getElem_cons_succ]at this) (λh=>by have:=hu (by simpa using h);rwa [List.getElem_cons_succ]at this) (by simpa using hk)
theorem FP(e:Ed)(c:Nat)(w:World):Calls Tryz.prog 151 #[.agg (j8 e).toArray,.int .u8 (c:Int)] w λe' w'=>e'=.returned (.int .i64 (Bc e c))/\Below w.heap.size w w':=by
 obtain ⟨lo,hi,tq⟩:=e;have hB:Below w.heap.size w (w.alloc (.cells #[.int .u8 (lo:Int),.int .u8 (hi:Int),.int .i64 (tq:Int)] 195)):=υ.alloc I _;have HB:=Z hB;clear hB;show Calls Tryz.prog _ #[.agg #[.int .u8 (lo:Int),.int .u8 (hi:Int),.int .i64 (tq:Int)],_] w _;have HV:=Z (show Bc ⟨lo,hi,tq⟩ c=if hi<c then -1 else if c<lo then 1 else 0 from rfl);by_cases h1:hi<c
 .have hd:decide ((hi:Int)<(c:Int))=true:=τ
  go_enter Tryz.func151,Tryz.ntmps151
  go_wp2_with fail;go_ret;exact ⟨aC (by rw[HV.out,if_pos h1]),HB.out⟩
 .have hd:decide ((hi:Int)<(c:Int))=false:=θ;by_cases h2:c<lo
  .have kc:decide ((c:Int)<(lo:Int))=true:=τ
   go_enter Tryz.func151,Tryz.ntmps151
   go_wp2_with fail;go_ret;exact ⟨aC (by rw[HV.out,if_neg h1,if_pos h2]),HB.out⟩
  .have kc:decide ((c:Int)<(lo:Int))=false:=θ
   go_enter Tryz.func151,Tryz.ntmps151
   go_wp2_with fail;go_ret;exact ⟨aC (by rw[HV.out,if_neg h1,if_neg h2]),HB.out⟩
def UZ(r:List Ed)(c:Nat)(w:World)(e:Ending)(w':World):Prop:=∃(k:Nat) (f:Bool),e=.returned (.tuple #[.int .i64 (k:Int),.bool f])/\Below w.heap.size w w'/\(f=true->∃e,r[k]?=some e/\bO r c=some e.to)/\(f=false->bO r c=none)
theorem FO{e:Ed}{c:Nat}:Bc e c<0↔e.hi<c:=by
 unfold Bc;split
 .simp_all
 split <;> simp_all
theorem Qg{e:Ed}{c:Nat}:Bc e c=0↔e.lo<=c/\c<=e.hi:=by
 unfold Bc;split
 .constructor <;> intro h <;> first | (exfalso; revert h; decide)|omega
 .split
  .constructor <;> intro h <;> first | (exfalso; revert h; decide)|omega
  .exact ⟨λ_=>Y,λ_=>rfl⟩
theorem Bd(r:List Ed)(c:Nat)(v:Value)(w:World)(h:eb w v r)(hs:cm 0 r)(hl:r.length<=10000):
  Calls Tryz.prog 150 #[v,.int .u8 (c:Int),.func (.func 151) #[] #[]] w (UZ r c w):=by
 obtain ⟨A,cp,rfl,hc,hcell⟩:=h;obtain ⟨n,hn⟩:=ν r.length;have HC:=Z hcell;have HS:=Z hs;have HN:=Z hn;rw[hn]at hc hl|-;clear hcell hs hn
 go_enter Tryz.func150,Tryz.ntmps150
 go_wp2_with fail
 go_loopg [9,10] n (λkx s9 s10 wr=>∃lo hi:Nat,s9=.int .i64 (lo:Int)/\s10=.int .i64 (hi:Int)/\lo<=hi/\hi<=n/\hi-lo<=kx/\Hid (Below w.heap.size w wr)/\
  Hid ((∀t (h:t<r.length),t<lo->r[t].hi<c)/\(∀t (h:t<r.length),hi<=t->c<=r[t].hi)))
 case atStart=>exact ⟨0,n,rfl,rfl,Nat.zero_le _,I,Y,Z υ,λt _ ht=>absurd ht (Nat.not_lt_zero _),λt h ht=>by have:=HN.out;omega⟩
 case round=>
  obtain ⟨lo,hi,rfl,rfl,hlh,cY,hg,HB,HI⟩:=hrel;by_cases hlt:lo<hi
  .have zR:(lo+hi) / 2<n:=Y;have Be:(lo+hi) / 2<r.length:=by rw[HN.out];exact zR
   obtain ⟨g,ff,rfl,Az,hcs⟩:=HC.out.resolve_left (by intro e;rw[e]at Be;simp at Be)
   obtain ⟨p0,p1,p2⟩:=hcs _ Be;obtain ⟨e,he⟩:=ν (r[(lo+hi) / 2]);rw[he]at p0 p1 p2;have q0:=(HB.out.cl g (ff+(lo+hi) / 2*3) Az).trans p0;have q1:=(HB.out.cl g (ff+(lo+hi) / 2*3+1) Az).trans p1;have q2:=(HB.out.cl g (ff+(lo+hi) / 2*3+2) Az).trans p2;have hdm:decide ((lo+hi) / 2<n)=true:=decide_eq_true zR;have hX:=FP e c wr;obtain ⟨x,hx⟩:=ν (Bc e c);rw[hx]at hX;have HX:=Z hX;have HE:=Z (H ((List.getElem?_eq_getElem Be).trans (congrArg some he)) hx);clear hcs p0 p1 p2 Be he hx hX;by_cases Ii:x<0
   .have hd:decide (x<0)=true:=decide_eq_true Ii;have HG:=Z Ii;clear Ii;go_wp2_with fail;refine HX.out.mono ?_;rintro e' w1 ⟨rfl,hb1⟩;have aX:=Z (HB.out.trans (hb1.mono HB.out.size));clear hb1;go_wp2_with fail
    go_roundg (hi - ((lo+hi) / 2+1))
    case measure=>omega
    case rel=>
     refine ⟨(lo+hi) / 2+1,hi,by rw[show ((lo:Int)+(hi:Int)) / 2+1=(((lo+hi) / 2+1:Nat):Int) by omega],rfl,Y,cY,I,aX,λt h ht=>?_,HI.out.2⟩
     obtain ⟨U5,h3⟩:=HE.out;obtain ⟨h1,h2⟩:=List.getElem?_eq_some_iff.1 U5;have h4:=(FO (e:=e) (c:=c)).1 (by rw[h3];exact HG.out)
     have h5:=(tu HS.out t _ h h1 Y).2;rw[h2]at h5;omega
   .have hd:decide (x<0)=false:=decide_eq_false Ii;have HG:=Z Ii;clear Ii;go_wp2_with fail;refine HX.out.mono ?_;rintro e' w1 ⟨rfl,hb1⟩;have aX:=Z (HB.out.trans (hb1.mono HB.out.size));clear hb1;go_wp2_with fail
    go_roundg ((lo+hi) / 2-lo)
    case measure=>omega
    case rel=>
     refine ⟨lo,(lo+hi) / 2,rfl,by rw[show ((lo:Int)+(hi:Int)) / 2=(((lo+hi) / 2:Nat):Int) by omega],Y,Y,I,aX,HI.out.1,λt h ht=>?_⟩
     obtain ⟨U5,h3⟩:=HE.out;obtain ⟨h1,h2⟩:=List.getElem?_eq_some_iff.1 U5;have h4:=mt (FO (e:=e) (c:=c)).2 (by rw[h3];exact Int.not_lt.2 HG.out)
     have h5:=(tu HS.out _ t h1 h ht).2;rw[h2]at h5;omega
  .obtain rfl:hi=lo:=Y;have HT:Hid (bO r c=(r[hi]?).bind λe=>if e.lo<=c then some e.to else none):=Ll hi HS.out HI.out.1 (λh=>HI.out.2 hi h I) (by rw[HN.out];exact cY)
   by_cases Bf:hi<n
   .have Be:hi<r.length:=by rw[HN.out];exact Bf
    obtain ⟨g,ff,rfl,Az,hcs⟩:=HC.out.resolve_left (by intro e;rw[e]at Be;simp at Be)
    obtain ⟨p0,p1,p2⟩:=hcs _ Be;obtain ⟨e,he⟩:=ν (r[hi]);rw[he]at p0 p1 p2;have q0:=(HB.out.cl g (ff+hi*3) Az).trans p0;have q1:=(HB.out.cl g (ff+hi*3+1) Az).trans p1;have q2:=(HB.out.cl g (ff+hi*3+2) Az).trans p2;have hdm:decide (hi<n)=true:=decide_eq_true Bf;have hX:=FP e c wr;obtain ⟨x,hx⟩:=ν (Bc e c);rw[hx]at hX;have HX:=Z hX;have HE:=Z (H ((List.getElem?_eq_getElem Be).trans (congrArg some he)) hx);have hce:=HI.out.2 hi Be I;rw[he]at hce;have HCE:=Z hce;have YS:=HT.out;rw[List.getElem?_eq_getElem Be,he,Option.bind_some]at YS;have HT3:=Z YS;clear hcs p0 p1 p2 hce YS he Be hx hX;go_wp2_with fail;refine HX.out.mono ?_;rintro e' w1 ⟨rfl,hb1⟩;have aX:=Z (HB.out.trans (hb1.mono HB.out.size));clear hb1;go_wp2_with fail;refine az λWf bY=>?_;subst bY;refine bodyPost_ret (v:=.tuple #[.int .i64 (hi:Int),.bool (decide (x=0))]) (by simp[results,Tryz.results150,go_sem];try rfl) rfl ?_
    have key:(x=0)↔e.lo<=c:=by rw[<-HE.out.2,Qg];exact ⟨λh=>h.1,λh=>⟨h,HCE.out⟩⟩
    refine ⟨hi,decide (x=0),rfl,aX.out,λh=>⟨e,?_,?_⟩,λh=>?_⟩
    .exact HE.out.1
    .rw[HT3.out,if_pos (key.1 (of_decide_eq_true h))]
    .rw[HT3.out,if_neg (mt key.2 (of_decide_eq_false h))]
   .have hdm:decide (hi<n)=false:=decide_eq_false Bf;go_wp2_with fail;refine az λWf bY=>?_;subst bY;refine bodyPost_ret (v:=.tuple #[.int .i64 (hi:Int),.bool false]) (by simp[results,Tryz.results150,go_sem];try rfl) rfl ?_
    exact ⟨hi,false,rfl,HB.out,λh=>(by cases h),λ_=>by rw[HT.out,List.getElem?_eq_none (by rw[HN.out];omega)];rfl⟩
def Ui(m:Mc)(s c:Nat):Int:=match bO (bE m s) c with|none=>-1|some t=>(t:Int)
theorem JF(v:Value)(m:Mc)(s c:Nat)(w:World)(hm:gH w v m)(hv:pC m)(j9:sF m)(hs:s<m.ed.length):
  Calls Tryz.prog 122 #[v,.int .i64 (s:Int),.int .u8 (c:Int)] w λe w'=>e=.returned (.int .i64 (Ui m s c))/\Below w.heap.size w w':=by
 obtain ⟨ve,va,rfl,he,ha⟩:=hm;obtain ⟨Ae,ce,rfl,qI,Ht⟩:=he.form;obtain ⟨g,f,rv,rfl,-,hg,O6,vM⟩:=he.at_ hs;obtain ⟨n,hn⟩:=ν m.ed.length;have tj:s<n:=by rw[<-hn];exact hs
 have hd:decide (s<n)=true:=decide_eq_true tj;have Dd:=j9.n;have jF:bE m s=m.ed[s]:=by unfold bE;rw[List.getElem?_eq_getElem hs];rfl
 have dL:=λW (h:Below w.heap.size w W)=>Bd m.ed[s] c rv W (vM.later h) (hv.pd _ (List.getElem_mem hs)) (j9.rl _ (List.getElem_mem hs));have NT:=λW (h:Below w.heap.size w W)=>vM.later h;rw[<-jF]at dL NT vM;obtain ⟨Ar,cr,AA,-⟩:=vM.form;subst AA;have Pr:=λW (h:Below w.heap.size w W)=>(h.cl g (f+s) hg).trans O6;obtain ⟨row,hrow⟩:∃r,bE m s=r:=⟨_,rfl⟩;have HV:Hid (Ui m s c=match bO row c with|none=>-1|some t=>(t:Int)):=by rw[<-hrow];rfl
 rw[hrow]at dL NT Pr O6;obtain ⟨nr,sH⟩:∃n,row.length=n:=⟨_,rfl⟩;rw[sH]at dL NT Pr O6;rw[hn]at qI|-;have HB:=Z dL;have HE:=Z NT;have HG:=Z Pr;clear dL NT Pr vM he ha hv hrow jF hs j9 hn;have hb0:Below w.heap.size w (w.alloc (.cells #[.slice (some ⟨g,f,none⟩) n ce,va] 93)):=υ.alloc I _;have yP:=HG.out _ hb0;have cH:=Z hb0;clear hb0 O6
 go_enter Tryz.func122,Tryz.ntmps122
 go_wp2_with fail;refine (HB.out _ cH.out).mono ?_;rintro e w1 ⟨k,q,rfl,hb1,ht,hf⟩;have eY:=cH.out.trans (hb1.mono ξ);have hX:=hf
 cases q with
 |false=>
  have HT:=Z (H (hf rfl) eY);clear ht hf eY hb1 hX;go_wp2_with fail;go_ret;exact ⟨aC (by rw[HV.out,HT.out.1]),HT.out.2⟩
 |true=>
  obtain ⟨ed,hk,sk⟩:=ht rfl;have hel:=HE.out _ eY;obtain ⟨A2,c2,e2,qD,h2⟩:=hel;injection e2 with e21 e22 e23;obtain ⟨aU,hke⟩:=List.getElem?_eq_some_iff.1 hk;obtain ⟨g2,f2,e3,mg,hcs⟩:=h2.resolve_left (by intro e;rw[e]at aU;simp at aU)
  obtain ⟨-,-,p2⟩:=hcs k aU;rw[hke]at p2;obtain rfl:=e21.trans e3;have akT:k<nr:=Y;have hkn:decide (k<nr)=true:=decide_eq_true akT;have atW:decide ((k:Int)<(nr:Int))=true:=τ;have HT:=Z (H sk eY);obtain ⟨tq,qL⟩:∃x,ed.to=x:=⟨_,rfl⟩;rw[qL]at p2;have Y3:=Z qL;clear ht hf eY hb1 hX hk h2 hcs hke sk qL aU e21 e3 e22 e23 qD sH;go_wp2_with fail;go_ret;exact ⟨aC (by rw[HV.out,HT.out.1,<-Y3.out]),HT.out.2⟩
section
open Go.Maps (Keyed)
def yI(c:Option Nat):List Value:=[.int .i64 (F6 c)]
theorem F7:kz yI 1:=⟨O,λ_=>rfl,λx u hu=>by simp[yI]at hu;subst hu;rfl⟩
theorem tB(o:List (Option Nat)):bF yI o=o.map λc=>.int .i64 (F6 c):=by
 unfold bF
 induction o with
 |nil=>rfl
 |cons b r ih=>simp only[List.map_cons,List.flatten_cons,ih];rfl
theorem wC.gq{w:World}{B:Nat}{v:Value}{l:List (Option Nat)}(h:OR 3 1 yI B v l w):wC w v l:=by
 obtain ⟨A,c,e,hc,eH⟩:=h.cells F7;have Dh:c<=9223372036854775807:=by
  obtain ⟨A',c',e',-,h'⟩:=ar (show w.ownsRow _ _ _ _ _ _ from h);rw[e]at e';injection e' with _ _ e3;rw[e3];exact h'
 refine ⟨A,c,e,⟨hc,Dh⟩,eH.imp id ?_⟩;rintro ⟨g,h1,-,hg,hcell⟩;refine ⟨g,0,h1,hg,λi hi=>?_⟩;have:=(hcell i hi 0 O).1;rw[Nat.mul_one,Nat.add_zero]at this;rw[Nat.zero_add,this];rfl
theorem OR.Qr{B g n c:Nat}{o:List (Option Nat)}{w:World}(h:OR 3 1 yI B (.slice (some ⟨g,0,none⟩) n c) o w)(hn:o.length=n)(s:Nat)(x:Option Nat):OR 3 1 yI B (.slice (some ⟨g,0,none⟩) n c) (o.set s x) (w.setCell ⟨g,s,none⟩ (.int .i64 (F6 x))):=by
 have h1:w.ownsRow B 3 1 (.slice (some ⟨g,0,none⟩) n c) n (bF yI o):=by have:=h;unfold OR at this;rwa [hn]at this
 have h2:=(h1.stored s (.int .i64 (F6 x))).1;show World.ownsRow _ _ _ _ _ _ _;rw[List.length_set,hn,tB,List.map_set];rw[tB]at h2;exact h2
theorem qU(w:World)(n:Nat)(hn:n<=1000000):OR 3 1 yI w.heap.size (.slice (some ⟨w.heap.size,0,none⟩) n n) (List.replicate n (some 0)) (w.alloc (.cells (Array.replicate n (.int .i64 0)) 3)):=by
 refine ⟨by rw[tB];simp,.inr ⟨w.heap.size,n,Array.replicate n (.int .i64 0),ξ,I,heap_alloc_new w _,ξ,by unfold maxLen;omega,ξ,?_⟩⟩
 rw[tB,List.length_replicate];simp[F6]
theorem LI(n:Nat)(hn:n<=1000000)(w:World):(Instr.makeSlice 22 (.int .i64 (n:Int)) (.int .i64 (n:Int))).run Tryz.prog w=.ok (.slice (some ⟨w.heap.size,0,none⟩) n n) (w.alloc (.cells (Array.replicate n (.int .i64 0)) 3)):=by
 obtain ⟨i0,hi,hz0,hz1,hz2⟩:=info_parts gp;have h:=run_makeSlice (P:=Tryz.prog) (w:=w) 22 3 i0 (.int .i64 0) Tryz.underlying22 hi hz0 .i64 .i64 (n:Int) (n:Int) Y (Int.le_refl _) (by rw[hz1];omega) (by rw[hz2];omega) Y
 rw[hz1,Int.toNat_natCast]at h;rw[show madeCells (Value.int IntKind.i64 0).cells (n*1)=Array.replicate n (.int .i64 0) from Array.toList_inj.1 (by
  simp only[madeCells,Value.cells,Nat.mul_one,Array.toList_map,Array.toList_range,Array.toList_replicate];rw[List.eq_replicate_iff];refine ⟨ξ,λx hx=>?_⟩;obtain ⟨i,-,rfl⟩:=List.mem_map.1 hx;simp[Nat.mod_one])]at h
 exact h
def MN(P:Program)(k:TypeId)(b n:Nat)(f:Lit->Option Value)(w:World):Prop:=
 ∃D:DataW Value,w.ownsMap P k ot b n D/\Maps.size D=n/\∀x,WideAt.IsKeyLit x->(∀z,D.atKey x z=match f x with|none=>z|some v=>.held v)/\Maps.has D x=(f x).isSome
theorem MN.mv{P:Program}{k:TypeId}{b n:Nat}{f:Lit->Option Value}{w:World}(h:MN P k b n f w):MV P k b n f w:=by
 obtain ⟨D,h1,-,h3⟩:=h;exact ⟨D,h1,h3⟩
theorem MN.made(P:Program)(k:TypeId)(w:World):MN P k w.heap.size 0 (λ_=>none) (w.alloc (.map #[] 0)):=
 ⟨_,World.ownsMap_made w P k ot,rfl,λx _=>⟨λz=>rfl,rfl⟩⟩
theorem MN.kept{P:Program}{k:TypeId}{b n:Nat}{f:Lit->Option Value}{w w':World}(h:MN P k b n f w)(hb:w'.heap[b]?=w.heap[b]?):MN P k b n f w':=by
 obtain ⟨D,⟨es,c,h1,h2⟩,h3⟩:=h;exact ⟨D,⟨es,c,hb.trans h1,h2⟩,h3⟩
theorem MN.put{P:Program}{k e t:TypeId}{b n:Nat}{f:Lit->Option Value}{w:World}(h:MN P k b n f w)(K:Keyed P k)(ht:P.underlying t=some (.map k e))(hn:n<maxLen){key:Value}{x:Lit}(ju:keyOf P k key=some x)(hx:WideAt.IsKeyLit x)(v:Value)(lO:f x=none):
  ∃w',(Instr.mapUpdate t (.map (some b)) key v).run P w=.ok () w'/\MN P k b (n+1) (jQ f x (some v)) w'/\w.grownBy w' (some b):=by
 obtain ⟨D,h1,hs,h2⟩:=h;obtain ⟨w',hr,h3,h4⟩:=h1.update K ht hn ju (show ot v=some (.held v,[]) from rfl);have hD:Maps.IsMap D:=h1.isMap;refine ⟨w',hr,⟨_,h3,?_,λy hy=>?_⟩,h4⟩
 .rw[Maps.size_put (h1.tidy K),(h2 x hx).2,lO,hs];rfl
 .unfold jQ;by_cases e:y=x
  .subst e;rw[if_pos (WideAt.sameKey_self hx)];exact ⟨λz=>Maps.atKey_put_same hD hx _ _,Maps.has_put_same hD hx _⟩
  .rw[if_neg (λh=>e (WideAt.sameKey_eq h))];exact ⟨λz=>by rw[Maps.atKey_put_other e];exact (h2 y hy).1 z,by rw[Maps.has_put_other e];exact (h2 y hy).2⟩
theorem wD{P:Program}(w:World){ops:Array Oper}{rest:List Oper}{o:Oper}{a:Act}{Q:Exit->Act->World->Prop}
  (hg:o.guard=none) (m x v:Operand) (t:TypeId) (ke:o.op=Op.mapUpdate t m x v) (k e:TypeId) (K:Keyed P k) (ht:P.underlying t=some (.map k e)) (b n:Nat) (f:Lit->Option Value)
  (hm:a.eval m=.map (some b)) (h:MN P k b n f w) (hn:n<maxLen) (key val:Value) (kl:Lit) (hx:a.eval x=key) (hv:a.eval v=val) (ju:keyOf P k key=some kl) (aU:WideAt.IsKeyLit kl) (lO:f kl=none)
  (hK:∀w',MN P k b (n+1) (jQ f kl (some val)) w'->w.grownBy w' (some b)->wpList P ops Q rest (a.put o.dst undef) w') :
  wpList P ops Q (o::rest) a w:=by
 refine wpList_plain hg λK' hK'=>?_;obtain ⟨w',LJ,r1,r2⟩:=h.put K ht hn ju aU val lO;unfold Oper.wp;simp[execOp,ke,hm,hx,hv,LJ,Result.andThen];exact hK' _ _ (hK w' r1 r2)
theorem jw{P:Program}{w:World}{ops:Array Oper}{rest:List Oper}{o:Oper}{a:Act}{Q:Exit->Act->World->Prop}(hg:o.guard=none)(m:Operand)(t:TypeId)(ke:o.op=Op.call { callee:=Callee.builtin Builtin.len,args:=#[m],argTypes:=#[t] })
  (k e:TypeId) (ht:P.underlying t=some (.map k e)) (b n:Nat) (f:Lit->Option Value) (hm:a.eval m=.map (some b)) (h:MN P k b n f w)
  (hK:wpList P ops Q rest (a.put o.dst (.int .i64 (n:Int))) w):wpList P ops Q (o::rest) a w:=by
 obtain ⟨D,h1,h2,-⟩:=h;refine wpList_len_own w hg m t ke k e ht ot b n D hm h1 ?_;rw[h2];exact hK
def zT(m:Mc)(cs:List (Option Nat))(s:Nat):Bool×List Ed:=mq m (cw cs) s
def IB(seen:List (Bool×List Ed))(x:Bool×List Ed):Option Value:=if x∈seen then some (.int .i64 ((seen.idxOf x:Nat):Int)) else none
def ug(F:Lit->Option Value)(seen:List (Bool×List Ed)):Prop:=∀x:Bool×List Ed,F (.string (ou x.1 x.2))=IB seen x
theorem gM{α:Type}[BEq α][LawfulBEq α]{l:List α}{x:α}(h:x∈l):l.idxOf x<l.length/\l[l.idxOf x]?=some x:=by
 have h1:=List.idxOf_lt_length_of_mem h;exact ⟨h1,by rw[List.getElem?_eq_getElem h1,List.getElem_idxOf]⟩
theorem ug.nil:ug (λ_=>none) []:=λx=>rfl
theorem ug.put{F:Lit->Option Value}{seen:List (Bool×List Ed)}(h:ug F seen)(x:Bool×List Ed)(hx:x∉seen)(n:Int)(hn:n=(seen.length:Int)):ug (jQ F (.string (ou x.1 x.2)) (some (.int .i64 n))) (seen++[x]):=by
 intro y;subst hn;unfold jQ;by_cases e:y=x
 .subst e;rw[if_pos (by simp[Lit.sameKey])]
  unfold IB;rw[if_pos ξ,List.idxOf_append,if_neg hx];simp
 .rw[if_neg (by
   simp only[Lit.sameKey,beq_iff_eq];intro he;obtain ⟨h1,h2⟩:=IC he;exact e (Prod.ext h1 h2)),h y]
  unfold IB;by_cases hy:y∈seen
  .rw[if_pos hy,if_pos (by simp[hy]),List.idxOf_append,if_pos hy]
  .rw[if_neg hy,if_neg (by simp[hy,e])]
structure iZ (m:Mc) (cs ds:List (Option Nat)) (seen:List (Bool×List Ed)) (k:Nat):Prop where
 len:ds.length=m.ed.length
 nd:seen.Nodup
 dH:∀s,s<k->cw cs s=none->cw ds s=none
 live:∀s,s<k->cw cs s≠none->zT m cs s∈seen/\cw ds s=some (seen.idxOf (zT m cs s))
 YZ:∀x∈seen,∃s,s<k/\cw cs s≠none/\zT m cs s=x
theorem iZ.start{m:Mc}{cs:List (Option Nat)}(ds:List (Option Nat))(h:ds.length=m.ed.length):iZ m cs ds [] 0:=⟨h,List.nodup_nil,λs hs=>absurd hs (Nat.not_lt_zero _),λs hs=>absurd hs (Nat.not_lt_zero _),λx hx=>by cases hx⟩
theorem mW{ds:List (Option Nat)}{k:Nat}{x:Option Nat}(hk:k<ds.length)(s:Nat):cw (ds.set k x) s=if s=k then x else cw ds s:=by
 unfold cw;rw[List.getElem?_set];by_cases h:s=k
 .subst h;rw[if_pos rfl,if_pos rfl,if_pos hk];rfl
 .rw[if_neg (Ne.symm h),if_neg h]
section
variable {m:Mc} {cs ds:List (Option Nat)} {seen:List (Bool×List Ed)} {k:Nat}
theorem iZ.none_(h:iZ m cs ds seen k)(hk:k<m.ed.length)(hc:cw cs k=none):iZ m cs (ds.set k none) seen (k+1):=by
 have hl:k<ds.length:=by rw[h.len];exact hk
 refine ⟨by rw[List.length_set];exact h.len,h.nd,λs hs hcs=>?_,λs hs hcs=>?_,λx hx=>?_⟩
 .rw[mW hl];by_cases e:s=k
  .rw[if_pos e]
  .rw[if_neg e];exact h.dH s Y hcs
 .rw[mW hl];by_cases e:s=k
  .subst e;exact absurd hc hcs
  .rw[if_neg e];exact h.live s Y hcs
 .obtain ⟨s,h1,h2,h3⟩:=h.YZ x hx;exact ⟨s,Y,h2,h3⟩
theorem iZ.old(h:iZ m cs ds seen k)(hk:k<m.ed.length)(hc:cw cs k≠none)(cY:zT m cs k∈seen):iZ m cs (ds.set k (some (seen.idxOf (zT m cs k)))) seen (k+1):=by
 have hl:k<ds.length:=by rw[h.len];exact hk
 refine ⟨by rw[List.length_set];exact h.len,h.nd,λs hs hcs=>?_,λs hs hcs=>?_,λx hx=>?_⟩
 .rw[mW hl];by_cases e:s=k
  .subst e;exact absurd hcs hc
  .rw[if_neg e];exact h.dH s Y hcs
 .rw[mW hl];by_cases e:s=k
  .subst e;rw[if_pos rfl];exact ⟨cY,rfl⟩
  .rw[if_neg e];exact h.live s Y hcs
 .obtain ⟨s,h1,h2,h3⟩:=h.YZ x hx;exact ⟨s,Y,h2,h3⟩
theorem iZ.new(h:iZ m cs ds seen k)(hk:k<m.ed.length)(hc:cw cs k≠none)(cY:zT m cs k∉seen):iZ m cs (ds.set k (some seen.length)) (seen++[zT m cs k]) (k+1):=by
 have hl:k<ds.length:=by rw[h.len];exact hk
 refine ⟨by rw[List.length_set];exact h.len,?_,λs hs hcs=>?_,λs hs hcs=>?_,λx hx=>?_⟩
 .rw[List.nodup_append];exact ⟨h.nd,ξ,λx hx y hy=>by rw[List.mem_singleton]at hy;subst hy;rintro rfl;exact cY hx⟩
 .rw[mW hl];by_cases e:s=k
  .subst e;exact absurd hcs hc
  .rw[if_neg e];exact h.dH s Y hcs
 .rw[mW hl];by_cases e:s=k
  .subst e;rw[if_pos rfl,List.idxOf_append,if_neg cY];simp
  .rw[if_neg e];obtain ⟨h1,h2⟩:=h.live s Y hcs;exact ⟨List.mem_append_left _ h1,by rw[h2,List.idxOf_append,if_pos h1]⟩
 .rcases List.mem_append.1 hx with hx|hx
  .obtain ⟨s,h1,h2,h3⟩:=h.YZ x hx;exact ⟨s,Y,h2,h3⟩
  .rw[List.mem_singleton]at hx;exact ⟨k,Y,hc,hx.symm⟩
structure mr (m:Mc) (cs:List (Option Nat)) (kn:Nat):Prop where
 len:cs.length=m.ed.length
 cl:uh m (cw cs)
 kn:kn=0\/(∀c,c<kn↔∃s,s<m.ed.length/\cw cs s=some c)
 lt:∀s c,cw cs s=some c->c<m.ed.length
theorem kA{m:Mc}{c:Nat->Option Nat}(h:uh m c){s:Nat}(hs:s<m.ed.length):c s≠none↔br m s:=by
 constructor
 .intro hn;by_cases hl:br m s
  .exact hl
  .exact absurd ((h.dH s hs).2 hl) hn
 .intro hl hn;exact (h.dH s hs).1 hn hl
theorem Bq(h:iZ m cs ds seen m.ed.length):seen.length<=m.ed.length:=by
 have h1:(List.range m.ed.length).length=m.ed.length:=List.length_range;have:=jR (l:=seen) (r:=(List.range m.ed.length).map (zT m cs)) h.nd (λx hx=>by
  obtain ⟨s,h1,-,h3⟩:=h.YZ x hx;exact List.mem_map.2 ⟨s,List.mem_range.2 h1,h3⟩)
 simpa using this
theorem iZ.LK(h:iZ m cs ds seen m.ed.length)(hh:uh m (cw cs)):LL m (cw cs) (cw ds):=by
 refine ⟨λs hs=>?_,λs t hs ht h1 h2=>?_⟩
 .rw[<-hh.dH s hs];constructor
  .intro hd;by_cases hc:cw cs s=none
   .exact hc
   .rw[(h.live s hs hc).2]at hd;cases hd
  .exact h.dH s hs
 .obtain ⟨a1,a2⟩:=h.live s hs ((kA hh hs).2 h1);obtain ⟨b1,b2⟩:=h.live t ht ((kA hh ht).2 h2);rw[a2,b2];constructor
  .intro he;injection he with he;have e1:=(gM a1).2;have e2:=(gM b1).2;rw[he,e2]at e1;exact (Option.some.inj e1).symm
  .intro he;show some (seen.idxOf (mq m (cw cs) s))=some (seen.idxOf (mq m (cw cs) t));rw[he]
theorem yJ(h:iZ m cs ds seen m.ed.length)(y:Nat):y<seen.length↔∃s,s<m.ed.length/\cw ds s=some y:=by
 constructor
 .intro hy;obtain ⟨s,h1,h2,h3⟩:=h.YZ seen[y] (List.getElem_mem hy);refine ⟨s,h1,?_⟩;rw[(h.live s h1 h2).2,h3,h.nd.idxOf_getElem y hy]
 .rintro ⟨s,hs,hd⟩;by_cases hc:cw cs s=none
  .rw[h.dH s hs hc]at hd;cases hd
  .obtain ⟨h1,h2⟩:=h.live s hs hc;rw[h2]at hd;injection hd with hd;rw[<-hd];exact (gM h1).1
theorem mr.count{kn:Nat}(hh:mr m cs kn)(h:iZ m cs ds seen m.ed.length):kn<=seen.length/\(kn=seen.length->∀s t,s<m.ed.length->t<m.ed.length->br m s->br m t->cw cs s=cw cs t->cw ds s=cw ds t):=by
 have hn:=h.LK hh.cl;rcases hh.kn with h0|hp
 .subst h0;refine ⟨Nat.zero_le _,λhe s t hs ht hl _ _=>?_⟩;have:=(h.live s hs ((kA hh.cl hs).2 hl)).1;rw[List.length_eq_zero_iff.1 he.symm]at this
  cases this
 .have hS:∀s,s∈(List.range m.ed.length).filter (λs=>(cw cs s).isSome)↔s<m.ed.length/\cw cs s≠none:=λs=>by
   rw[List.mem_filter,List.mem_range,Option.isSome_iff_ne_none]
  have Y0:∀s,s<m.ed.length->cw cs s≠none->∃y,cw ds s=some y:=λs hs hc=>⟨_,(h.live s hs hc).2⟩;have hrc:=yK (S:=(List.range m.ed.length).filter λs=>(cw cs s).isSome) (f:=λs=>(cw cs s).getD 0) (g:=λs=>(cw ds s).getD 0) (F:=List.range kn) (G:=List.range seen.length) List.nodup_range
   (λx=>by
    rw[List.mem_range,hp x];constructor
    .rintro ⟨s,h1,h2⟩;exact ⟨s,(hS s).2 ⟨h1,by rw[h2];simp⟩,by simp only[h2,Option.getD_some]⟩
    .rintro ⟨s,h1,h2⟩;obtain ⟨h3,h4⟩:=(hS s).1 h1;refine ⟨s,h3,?_⟩
     cases hc:cw cs s with
     |none=>exact absurd hc h4
     |some c=>simp only[hc,Option.getD_some]at h2;rw[h2])
   (λy=>by
    rw[List.mem_range,yJ h y];constructor
    .rintro ⟨s,h1,h2⟩;have hc:cw cs s≠none:=λhc=>by rw[h.dH s h1 hc]at h2;cases h2
     exact ⟨s,(hS s).2 ⟨h1,hc⟩,by simp only[h2,Option.getD_some]⟩
    .rintro ⟨s,h1,h2⟩;obtain ⟨h3,h4⟩:=(hS s).1 h1;obtain ⟨y',hy'⟩:=Y0 s h3 h4;simp only[hy',Option.getD_some]at h2;exact ⟨s,h3,by rw[hy',h2]⟩)
   (λs hs t ht he=>by
    obtain ⟨s1,s2⟩:=(hS s).1 hs;obtain ⟨t1,t2⟩:=(hS t).1 ht;obtain ⟨ys,hys⟩:=Y0 s s1 s2;obtain ⟨yt,hyt⟩:=Y0 t t1 t2;simp only[hys,hyt,Option.getD_some]at he;have hd:cw ds s=cw ds t:=by rw[hys,hyt,he]
    have ls:=(kA hh.cl s1).1 s2;have lt:=(kA hh.cl t1).1 t2;have:=hh.cl.fine s t s1 t1 ls lt ((hn.eq s t s1 t1 ls lt).1 hd);simp only[this])
  simp only[List.length_range]at hrc;refine ⟨hrc.1,λhe s t hs ht ls lt hc=>?_⟩;have s2:=(kA hh.cl hs).2 ls;have t2:=(kA hh.cl ht).2 lt;have:=hrc.2 he s ((hS s).2 ⟨hs,s2⟩) t ((hS t).2 ⟨ht,t2⟩) (by simp only[hc])
  obtain ⟨ys,hys⟩:=Y0 s hs s2;obtain ⟨yt,hyt⟩:=Y0 t ht t2;simp only[hys,hyt,Option.getD_some]at this;rw[hys,hyt,this]
theorem iZ.lt_(h:iZ m cs ds seen m.ed.length):∀s c,cw ds s=some c->c<m.ed.length:=λs c hc=>by
 have hs:s<m.ed.length:=by
  by_cases hs:s<ds.length
  .rw[h.len]at hs;exact hs
  .unfold cw at hc;rw[List.getElem?_eq_none Y]at hc;cases hc
 have:=(yJ h c).2 ⟨s,hs,hc⟩;have:=Bq h;omega
theorem mr.done{kn:Nat}(hv:pC m)(hh:mr m cs kn)(h:iZ m cs ds seen m.ed.length)(he:seen.length=kn):ui m (cw ds):=hh.cl.done hv (h.LK hh.cl) ((hh.count h).2 he.symm)
theorem mr.next{kn:Nat}(hv:pC m)(hh:mr m cs kn)(h:iZ m cs ds seen m.ed.length)(he:seen.length≠kn):mr m ds seen.length/\kn<seen.length/\seen.length<=m.ed.length:=by
 have h1:=(hh.count h).1;exact ⟨⟨h.len,hh.cl.next hv (h.LK hh.cl),.inr (yJ h),h.lt_⟩,Y,Bq h⟩
end
def dI(o:List Bool)(k n:Nat):List (Option Nat):=(List.range n).map λs=>if s<k/\o[s]?=some false then none else some 0
theorem Br(o:List Bool)(n:Nat):dI o 0 n=List.replicate n (some 0):=by
 unfold dI;rw[List.eq_replicate_iff];refine ⟨ξ,λx hx=>?_⟩;obtain ⟨s,-,rfl⟩:=List.mem_map.1 hx;rw[if_neg Y]
theorem fR(o:List Bool)(k n:Nat):(dI o k n).length=n:=by simp[dI]
theorem Bs{o:List Bool}{k n:Nat}(h:o[k]?=some true):dI o (k+1) n=dI o k n:=by
 unfold dI;refine List.map_congr_left λs _=>?_;by_cases e:s=k
 .subst e;rw[h];simp
 .congr 1
  simp only[eq_iff_iff];constructor <;> (rintro ⟨h1,h2⟩; exact ⟨Y,h2⟩)
theorem uj(o:List Bool)(k n s:Nat)(h:s<n):(dI o k n)[s]?=some (if s<k/\o[s]?=some false then none else some 0):=by
 unfold dI;rw[List.getElem?_map,List.getElem?_range h];rfl
theorem yL{o:List Bool}{k n:Nat}(h:o[k]?=some false):dI o (k+1) n=(dI o k n).set k none:=by
 apply List.ext_getElem?;intro s;by_cases hs:s<n
 .rw[uj o (k+1) n s hs,List.getElem?_set];by_cases e:k=s
  .subst e;rw[if_pos ⟨Y,h⟩,if_pos rfl,if_pos (by rw[fR];exact hs)]
  .rw[if_neg e,uj o k n s hs];by_cases hx:s<k/\o[s]?=some false
   .rw[if_pos hx,if_pos ⟨Y,hx.2⟩]
   .rw[if_neg hx,if_neg (λh=>hx ⟨Y,h.2⟩)]
 .rw[List.getElem?_eq_none (by rw[fR];omega),List.getElem?_eq_none (by rw[List.length_set,fR];omega)]
theorem qV{o:List Bool}{n s:Nat}(ho:o.length=n):cw (dI o n n) s=if o[s]?=some true then some 0 else none:=by
 unfold cw dI;rw[List.getElem?_map];by_cases hs:s<n
 .rw[List.getElem?_range hs];simp only[Option.map_some,Option.getD_some];have hl:s<o.length:=Y;rw[List.getElem?_eq_getElem hl]
  cases o[s] <;> simp[hs]
 .rw[List.getElem?_eq_none ψ,List.getElem?_eq_none Y];simp
theorem mr.first{m:Mc}{o:List Bool}(ho:o.length=m.ed.length)(h:∀s,s<m.ed.length->(o[s]?=some true↔br m s))(h1:1<=m.ed.length):mr m (dI o m.ed.length m.ed.length) 0:=by
 refine ⟨fR _ _ _,uh.start _ (λs hs=>?_) (λs hs hl=>?_),.inl rfl,λs c hc=>?_⟩
 .rw[qV ho,<-h s hs];by_cases hx:o[s]?=some true <;> simp[hx]
 .rw[qV ho,if_pos ((h s hs).2 hl)]
 .rw[qV ho]at hc;split at hc
  .injection hc with hc;omega
  .cases hc
end
def LM(m:Mc)(n:Nat)(w:World)(e:Ending)(w':World):Prop:=∃rv cs,e=.returned rv/\OR 3 1 yI w.heap.size rv cs w'/\Below w.heap.size w w'/\cs.length=n/\ui m (cw cs)/\∀s c,cw cs s=some c->c<n
theorem OR.lt1{e:TypeId}{B g c n:Nat}{o:List (Option Nat)}{w:World}(h:OR e 1 yI B (.slice (some ⟨g,0,none⟩) n c) o w):g<w.heap.size:=by
 exact (World.ownsRow.lt h g rfl).2
theorem OR.uk{B g c n:Nat}{o:List (Option Nat)}{w:World}(h:OR 3 1 yI B (.slice (some ⟨g,0,none⟩) n c) o w)(s:Nat)(hs:s<o.length):w.cell? ⟨g,s,none⟩=some (.int .i64 (F6 (cw o s)))/\w.frozen? ⟨g,s,none⟩=false:=by
 obtain ⟨A,c',e,-,eH⟩:=h.cells F7;obtain ⟨g',hA,-,hg,mI⟩:=eH.resolve_left (by rintro rfl;cases hs)
 injection e with e1 _ _;rw[hA]at e1;injection e1 with e1;injection e1 with e1;subst e1;have:=mI s hs 0 O;rw[Nat.mul_one,Nat.add_zero]at this;refine ⟨?_,this.2⟩;rw[this.1];unfold cw;rw[List.getElem?_eq_getElem hs];rfl
end Go.Proofs.YtdmoogjddmdmbaaGreatDoor
