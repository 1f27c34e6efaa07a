/- Walks. -/
import Derived.Test.YthamegenljmgmaaGreatDoorY14
import Derived.Test.YthamegenljmgmaaGreatDoorY11
import Derived.Test.YthamegenljmgmaaGreatDoorY04
import Derived.Test.YthamegenljmgmaaGreatDoorY10
import Derived.Test.YthamegenljmgmaaGreatDoorY01
import Derived.Test.YthamegenljmgmaaGreatDoorY05
import Derived.Deep.LoopGhost
import Derived.Test.YthamegenljmgmaaGreatDoorY13
import Derived.Test.YthamegenljmgmaaGreatDoorY03
import Derived.Laws.MakeOwn
set_option maxRecDepth 100000
set_option maxHeartbeats 16000000
set_option linter.unusedVariables false
set_option linter.unusedSimpArgs false
namespace Go.Proofs.YthamegenljmgmaaGreatDoor
open Go.RowKit
def SL(w:World)(v:Value)(l:List Nat):Prop:=∃A c,v=.slice A l.length c/\(l.length<=c/\c<=9223372036854775807)/\(l=[]\/∃g f,A=some ⟨g,f,none⟩/\g<w.heap.size/\∀i (h:i<l.length),w.cell? (Z g (f+i))=some (.int .i64 (l[i]:Int)))
theorem SL.ia{w:World}{B:Nat}{v:Value}{l:List Nat}{n:Nat}(h:w.ownsRow B 3 1 v n (b9 l)):SL w v l:=by
 have hl:l.length=n:=by have:=h.1;rw[jO,Nat.mul_one]at this;exact this
 rcases h.2 with ⟨h1,h2⟩|⟨g,cap,cur,h1,-,hg,hle,hm,bH,ht⟩
 .subst h1;exact ⟨none,0,by rw[hl,h2],⟨U,O⟩,.inl (List.length_eq_zero_iff.1 U)⟩
 .subst h1;refine ⟨_,cap,by rw[hl],⟨U,by unfold maxLen at hm;omega⟩,.inr ⟨g,0,rfl,(γ hg).1,λi hi=>?_⟩⟩
  have:=h.cellAt i (by rw[<-hl,Nat.mul_one];exact hi)
  rw[Nat.zero_add,this];simp[b9,hi]
theorem SL.keep{fp fp':List Nat}{w w':World}{v:Value}{l:List Nat}(h:SL w v l)(ho:aO fp v)(hk:ab fp fp' w w'):SL w' v l:=by
 obtain ⟨A,c,rfl,hc,h⟩:=h;refine ⟨A,c,rfl,hc,h.imp id ?_⟩;rintro ⟨g,f,rfl,hg,ak⟩;refine ⟨g,f,rfl,Nat.lt_of_lt_of_le hg hk.size,λi hi=>?_⟩;rw[<-ak i hi];exact χ g (f+i) (hk.aq g hg (ho g rfl))
theorem SL.form{w:World}{v:Value}{l:List Nat}(h:SL w v l):∃A c,v=.slice A l.length c/\(l.length<=c/\c<=9223372036854775807):=by
 obtain ⟨A,c,e,hc,-⟩:=h;exact ⟨A,c,e,hc⟩
def pw(w0:World)(fp:List Nat)(w:World)(v:Value)(sets:List (List (Nat×Nat))):Prop:=∃A c,v=.slice A sets.length c/\(sets.length<=c/\c<=9223372036854775807)/\(sets=[]\/∃g,A=some ⟨g,0,none⟩/\g<w.heap.size/\g∉fp/\∀i (h:i<sets.length),∃rv,w.cell? (Z g i)=some rv/\gD w0 rv sets[i])
theorem pw.keep{w0:World}{fp fp':List Nat}{w w':World}{v:Value}{sets:List (List (Nat×Nat))}(h:pw w0 fp w v sets)(hk:ab fp fp' w w'):pw w0 fp' w' v sets:=by
 obtain ⟨A,c,e,hc,h⟩:=h;refine ⟨A,c,e,hc,h.imp id ?_⟩;rintro ⟨g,rfl,hg,hn,ak⟩;refine ⟨g,rfl,Nat.lt_of_lt_of_le hg hk.size,λhm=>(hk.new g hm).elim hn (λh=>U),λi hi=>?_⟩;obtain ⟨rv,h1,h2⟩:=ak i hi;exact ⟨rv,(χ g i (hk.aq g hg hn)).t h1,h2⟩
theorem pw.later{w0:World}{fp:List Nat}{w w':World}{v:Value}{sets:List (List (Nat×Nat))}(h:pw w0 fp w v sets)(hb:Below w w w'):pw w0 fp w' v sets:=h.keep (ab.aj hb)
theorem pw.jL{w0:World}{fp:List Nat}{w:World}{A:Option Addr}{n c:Nat}{sets:List (List (Nat×Nat))}(h:pw w0 fp w (.slice A n c) sets){p:Nat}(hp:p<sets.length):∃g rv,A=some ⟨g,0,none⟩/\n=sets.length/\g<w.heap.size/\w.cell? (Z g p)=some rv/\gD w0 rv sets[p]:=by
 obtain ⟨A',c',e,hc,h⟩:=h;injection e with e1 e2 e3;rcases h with rfl|⟨g,h1,hg,hn,ak⟩
 .cases hp
 .obtain ⟨rv,h2,h3⟩:=ak p hp;exact ⟨g,rv,e1.t h1,e2,hg,h2,h3⟩
theorem pw.lt{w0:World}{fp:List Nat}{w:World}{v:Value}{sets:List (List (Nat×Nat))}(h:pw w0 fp w v sets):∀rs∈sets,∀r∈rs,r.1<256/\r.2<256:=by
 obtain ⟨A,c,e,hc,h⟩:=h;intro rs lU r hr;rcases h with rfl|⟨g,h1,hg,hn,ak⟩
 .cases lU
 .obtain ⟨i,hi,rfl⟩:=List.getElem_of_mem lU;obtain ⟨rv,-,A',c',-,-,h3⟩:=ak i hi;rcases h3 with h3|⟨_,_,_,_,h3⟩
  .rw[h3]at hr;cases hr
  .obtain ⟨j,hj,rfl⟩:=List.getElem_of_mem hr;exact (h3 j hj).2
def gm(e:Ed):List Value:=[.int .u8 (e.lo:Int),.int .u8 (e.hi:Int),.int .i64 (e.to:Int)]
theorem tc:p4 gm 3:=⟨O,λ_=>rfl,λx u hu=>by simp[gm]at hu; rcases hu with rfl|rfl|rfl <;> rfl⟩
def eQ(w:World)(v:Value)(l:List Ed):Prop:=∃A c,v=.slice A l.length c/\(l.length<=c/\c<=9223372036854775807)/\(l=[]\/∃g f,A=some ⟨g,f,none⟩/\g<w.heap.size/\∀i (h:i<l.length),w.cell? (Z g (f+i*3))=some (.int .u8 (l[i].lo:Int))/\w.cell? (Z g (f+i*3+1))=some (.int .u8 (l[i].hi:Int))/\w.cell? (Z g (f+i*3+2))=some (.int .i64 (l[i].to:Int)))
theorem eQ.eu{w:World}{B:Nat}{v:Value}{l:List Ed}(h:OR 74 3 gm B v l w):eQ w v l:=by
 have h':=h;rcases h'.2 with ⟨h1,h2⟩|⟨g,cap,cur,h1,-,hg,hle,hm,bH,ht⟩
 .exact ⟨none,0,by rw[h1,h2],⟨U,O⟩,.inl (List.length_eq_zero_iff.1 h2)⟩
 .subst h1;refine ⟨_,cap,rfl,⟨hle,by unfold maxLen at hm;omega⟩,.inr ⟨g,0,rfl,(γ hg).1,λi hi=>?_⟩⟩
  obtain ⟨A,c,e,-,dt⟩:=h.cells tc;injection e with e1 e2 e3;rcases dt with dt|⟨g',hA,-,-,ak⟩
  .rw[dt]at hi;cases hi
  .rw[hA]at e1;injection e1 with e1;injection e1 with e1;subst e1;rw[Nat.zero_add];exact ⟨(ak i hi 0 O).1,(ak i hi 1 O).1,(ak i hi 2 O).1⟩
theorem eQ.keep{fp fp':List Nat}{w w':World}{v:Value}{l:List Ed}(h:eQ w v l)(ho:aO fp v)(hk:ab fp fp' w w'):eQ w' v l:=by
 obtain ⟨A,c,rfl,hc,h⟩:=h;refine ⟨A,c,rfl,hc,h.imp id ?_⟩;rintro ⟨g,f,rfl,hg,ak⟩;refine ⟨g,f,rfl,Nat.lt_of_lt_of_le hg hk.size,λi hi=>?_⟩;have hb:=hk.aq g hg (ho g rfl);obtain ⟨h1,h2,h3⟩:=ak i hi;exact ⟨(χ g (f+i*3) hb).t h1,(χ g (f+i*3+1) hb).t h2,(χ g (f+i*3+2) hb).t h3⟩
theorem eQ.later{w w':World}{v:Value}{l:List Ed}(h:eQ w v l)(hb:Below w w w'):eQ w' v l:=h.keep (fp:=[]) (fp':=[]) (xQ v) (ab.aj hb)
theorem qf{fp fp':List Nat}{w w':World}{v:Value}(ho:aO fp v)(aB:∀g,v.ownBlock=some g->g<w.heap.size)(hk:ab fp fp' w w'):aO fp' v:=λg hg hm=>(hk.new g hm).elim (ho g hg) λh=>by have:=aB g hg;omega
theorem eQ.form{w:World}{v:Value}{l:List Ed}(h:eQ w v l):∃A c,v=.slice A l.length c/\(l.length<=c/\c<=9223372036854775807):=by
 obtain ⟨A,c,e,hc,-⟩:=h;exact ⟨A,c,e,hc⟩
def FX:Option Nat->Int
 |none=>-1
 |some k=>(k:Int)
def cY(cs:List (Option Nat))(s:Nat):Option Nat:=(cs[s]?).getD none
def xe(w:World)(v:Value)(cs:List (Option Nat)):Prop:=∃A c,v=.slice A cs.length c/\(cs.length<=c/\c<=9223372036854775807)/\(cs=[]\/∃g f,A=some ⟨g,f,none⟩/\g<w.heap.size/\∀i (h:i<cs.length),w.cell? (Z g (f+i))=some (.int .i64 (FX cs[i])))
theorem xe.later{w w':World}{v:Value}{cs:List (Option Nat)}(h:xe w v cs)(hb:Below w w w'):xe w' v cs:=by
 obtain ⟨A,c,e,hc,h⟩:=h;refine ⟨A,c,e,hc,h.imp id ?_⟩;rintro ⟨g,f,h1,hg,h2⟩;exact ⟨g,f,h1,Nat.lt_of_lt_of_le hg hb.size,λi hi=>(hb.cl g (f+i) hg).t (h2 i hi)⟩
theorem xe.jL{w:World}{A:Option Addr}{n c:Nat}{cs:List (Option Nat)}(h:xe w (.slice A n c) cs){k:Nat}(hk:k<cs.length):∃g f,A=some ⟨g,f,none⟩/\n=cs.length/\g<w.heap.size/\w.cell? (Z g (f+k))=some (.int .i64 (FX (cY cs k))):=by
 obtain ⟨A',c',e,hc,h⟩:=h;injection e with e1 e2 e3;rcases h with rfl|⟨g,f,h1,hg,h2⟩
 .cases hk
 .refine ⟨g,f,e1.t h1,e2,hg,?_⟩;rw[h2 k hk];unfold cY;rw[List.getElem?_eq_getElem hk]
  rfl
theorem eQ.jL{w:World}{A:Option Addr}{n c:Nat}{l:List Ed}(h:eQ w (.slice A n c) l){k:Nat}(hk:k<l.length):∃g f,A=some ⟨g,f,none⟩/\n=l.length/\g<w.heap.size/\(w.cell? (Z g (f+k*3))=some (.int .u8 (l[k].lo:Int))/\w.cell? (Z g (f+k*3+1))=some (.int .u8 (l[k].hi:Int))/\w.cell? (Z g (f+k*3+2))=some (.int .i64 (l[k].to:Int))):=by
 obtain ⟨A',c',e,hc,h⟩:=h;injection e with e1 e2 e3;rcases h with rfl|⟨g,f,h1,hg,h2⟩
 .cases hk
 .exact ⟨g,f,e1.t h1,e2,hg,h2 k hk⟩
theorem OR.setLast{α:Type}{enc:α->List Value}{n:Nat}(E:p4 enc n){e:TypeId}{B g c:Nat}{o:List α}{q x:α}{w:World}(h:OR e n enc B (.slice (Z g 0) (o.length+1) c) (o++[q]) w)(j:Nat)(u:Value)(hx:enc x=(enc q).set j u):
  OR e n enc B (.slice (Z g 0) (o.length+1) c) (o++[x]) (w.setCell (Z g (o.length*n+j)) u):=by
 have h0:w.ownsRow B e n (.slice (Z g 0) (o.length+1) c) (o.length+1) (a8 enc (o++[q])):=by
  have:=h;unfold OR at this;rwa [List.length_append]at this
 have h1:=(h0.stored (o.length*n+j) u).1;show World.ownsRow _ _ _ _ _ _ _;rw[List.length_append,bV,bF,hx];rw[bV,bF,List.set_append_right _ _ (by rw[jV E];omega),jV E]at h1
 rwa [show o.length*n+j-o.length*n=j by omega]at h1
structure yp (cs:List (Option Nat)) (l:List Ed) (k:Nat) (done:List Ed) (p:Option Ed):Prop where
 go:done++yo (cY cs) p (l.drop k)=cD (cY cs) l
 nl:p=none->done=[]
 bd:done.length+p.toList.length<=k
 qM:∀e,p=some e->e.lo<256/\e.hi<256
theorem yp.start(cs:List (Option Nat))(l:List Ed):yp cs l 0 [] none:=⟨rfl,λ_=>rfl,V,λe h=>by cases h⟩
section
variable {cs:List (Option Nat)} {l:List Ed} {k:Nat} {done:List Ed} {p:Option Ed} {e:Ed}
theorem drop_at{α:Type}{l:List α}{k:Nat}{e:α}(h:l[k]?=some e):l.drop k=e::l.drop (k+1):=by
 obtain ⟨h1,h2⟩:=List.getElem?_eq_some_iff.1 h;rw[List.drop_eq_getElem_cons h1,h2]
theorem yp.skip(h:yp cs l k done p)(he:l[k]?=some e)(hc:cY cs e.to=none):yp cs l (k+1) done p:=by
 refine ⟨?_,h.nl,by have:=h.bd;omega,h.qM⟩
 have:=h.go;rw[drop_at he,yo,hc]at this;exact this
theorem yp.first(h:yp cs l k done none)(he:l[k]?=some e){t:Nat}(hc:cY cs e.to=some t)(hb:e.lo<256/\e.hi<256):yp cs l (k+1) [] (some ⟨e.lo,e.hi,t⟩):=by
 refine ⟨?_,(λh=>by cases h),H,λx hx=>by injection hx with hx;subst hx;exact hb⟩
 have:=h.go;rw[h.nl rfl,drop_at he,yo,hc]at this;exact this
theorem yp.join{q:Ed}(h:yp cs l k done (some q))(he:l[k]?=some e){t:Nat}(hc:cY cs e.to=some t)(hb:e.lo<256/\e.hi<256)(h1:q.to=t)(h2:q.hi+1=e.lo):yp cs l (k+1) done (some ⟨q.lo,e.hi,q.to⟩):=by
 refine ⟨?_,(λh=>by cases h),by have:=h.bd;simp at this|-;omega,λx hx=>by injection hx with hx;subst hx;exact ⟨(h.qM q rfl).1,hb.2⟩⟩
 have:=h.go;rw[drop_at he,yo,hc]at this;simp only[h1,h2,and_self,if_true]at this|-;exact this
theorem yp.part{q:Ed}(h:yp cs l k done (some q))(he:l[k]?=some e){t:Nat}(hc:cY cs e.to=some t)(hb:e.lo<256/\e.hi<256)(h1:¬(q.to=t/\q.hi+1=e.lo)):yp cs l (k+1) (done++[q]) (some ⟨e.lo,e.hi,t⟩):=by
 refine ⟨?_,(λh=>by cases h),by have:=h.bd;simp at this|-;omega,λx hx=>by injection hx with hx;subst hx;exact hb⟩
 have:=h.go;rw[drop_at he,yo,hc]at this;simp only[h1,if_false]at this;rw[List.append_assoc];exact this
theorem yp.abd(h:yp cs l l.length done p):done++p.toList=cD (cY cs) l:=by
 have:=h.go;rw[List.drop_length]at this;exact this
end
theorem q9{Q:Exit->Act->World->Prop}{x:Exit}{a:Act}{w:World}(h:∀W,W=w->Q x a W):Q x a w:=h w rfl
theorem vG(w:World)(lo hi t:Nat):∀j u,[Value.int .u8 (lo:Int),.int .u8 (hi:Int),.int .i64 (t:Int)][j]?=some u->(w.alloc (.cells #[.int .u8 (lo:Int),.int .u8 (hi:Int),(t:Int)] 74)).cell? (((Z w 0):Addr).add j)=some u:=by
 intro j u hj;rw[Addr.add_lit,Nat.zero_add,World.cell?_alloc_mark];simpa using hj
theorem uT(ev cv:Value)(l:List Ed)(cs:List (Option Nat))(w:World)(he:eQ w ev l)(hc:xe w cv cs)(jM:∀e∈l,e.to<cs.length)(jl:∀e∈l,e.lo<256/\e.hi<256)(hl:l.length<=100000):
  Calls Tryz.prog 46 #[ev,cv] w λe w'=>∃rv,e=.returned rv/\OR 74 3 gm w rv (cD (cY cs) l) w'/\Below w w w':=by
 obtain ⟨Ae,ce,rfl,kG,tz⟩:=he.form;obtain ⟨Ac,cc,rfl,nZ,-⟩:=id hc;obtain ⟨nl,mr⟩:∃n,l.length=n:=⟨_,rfl⟩;obtain ⟨nc,AG⟩:∃n,cs.length=n:=⟨_,rfl⟩;rw[mr]at he kG hl|-;rw[AG]at hc nZ|-;have HE:=Y he;have HC:=Y hc;have HT:=Y jM;have HY:=Y jl;have HN:=Y (I mr AG);obtain ⟨i3,BZ,mJ,bQ,bE⟩:=info_parts uh;clear he hc jM jl mr AG
 go_enter Tryz.func46,Tryz.ntmps46
 go_wp2_with fail;go_loopw [11,5] (λiv ov wr=>∃(k:Nat) (done:List Ed) (p:Option Ed),k<=nl/\iv=.int .i64 (k:Int)/\Hid (OR 74 3 gm w ov (done++p.toList) wr)/\Hid (Below w w wr)/\Hid (yp cs l k done p)) (λiv _ _=>nl - (intOf iv).toNat)
 case atStart=>exact ⟨0,[],none,Nat.zero_le _,rfl,OR.iG _ _ _,D,yp.start cs l⟩
 case round=>
  obtain ⟨k,done,p,hk,rfl,HO,HB,HJ⟩:=hrel;by_cases aB:k<nl
  .have hd:decide ((k:Int)<(nl:Int))=true:=τ;have aV:k<l.length:=by rw[HN.1];exact aB
   obtain ⟨g,f,rfl,-,hg,c0,c1,c2⟩:=HE.jL aV;obtain ⟨e,hle⟩:=ν (l[k]);rw[hle]at c0 c1 c2;have hek:l[k]?=some e:=by rw[List.getElem?_eq_getElem aV,hle]
   have SI:e∈l:=List.mem_of_getElem? hek;have kR:=HB.block g hg;have d0:=(χ g (f+k*3) kR).t c0;have d1:=(χ g (f+k*3+1) kR).t c1;have d2:=(χ g (f+k*3+2) kR).t c2;have p5:=HB.size;have xq:g<wr:=U;have Dj:=HT e SI;have VP:=HY e SI;obtain ⟨g2,f2,rfl,-,dZ,cz⟩:=HC.jL Dj;have dz:=(χ g2 (f2+e.to) (HB.block g2 dZ)).t cz;have QO:g2<wr:=U;have YH:e.to<nc:=by rw[<-HN.2];exact Dj
   have hdt:decide (e.to<nc)=true:=decide_eq_true YH;obtain ⟨lo,hi,to⟩:=e;simp only at d0 d1 d2 dz Dj VP YH hdt;have HEK:=Y hek;have wO:=Y VP;obtain ⟨Ao,no,co,rfl⟩:∃A n c,u5=.slice A n c:=by
    obtain ⟨A,c,e,-⟩:=ae HO.o;exact ⟨_,_,_,e⟩
   clear hle hek SI kR c0 c1 c2 cz aV Dj VP
   cases dj:cY cs to with
   |none=>
    rw[dj]at dz;have dz':wr.cell? (Z g2 (f2+to))=some (.int .i64 (-1)):=dz;have nJ:=Y dj;clear dz dj;go_wp2_with fail;go_roundw
    case rel=>exact ⟨k+1,done,p,U,by go_num,HO.later (D.alloc V _),HB.t ((Below.refl _ wr).alloc p5 _),HJ.skip HEK.o nJ.o⟩
    case measure=>exact μ
   |some t=>
    rw[dj]at dz;have dz':wr.cell? (Z g2 (f2+to))=some (.int .i64 (t:Int)):=dz;have nJ:=Y dj;have aip:decide ((t:Int)<0)=false:=θ;clear dz dj;have hBA:Below w wr (wr.alloc (.cells #[.int .u8 (lo:Int),.int .u8 (hi:Int),(t:Int)] 74)):=D.alloc p5 _;have ue:=Y hBA;obtain ⟨no',QP⟩:∃n,(done++p.toList).length=n:=⟨_,rfl⟩;have YI:no=no':=by
     obtain ⟨A',c',e',-⟩:=ae HO.o;injection e' with _ e2 _;rw[e2,QP]
    subst YI;have rO:=HJ.bd;have arc:no<=k:=by rw[<-QP,List.length_append];exact rO
    have AF:IntKind.i64.wrap ((no:Int) - 1)=(no:Int) - 1:=IntWalk.i64_in _ U;clear hBA rO;go_wp2_with fail;refine br λW hW=>?_;have du:Below w w W:=HB.t (by rw[hW];exact ue.o)
    have Ea:Below wr wr W:=by rw[hW];exact D.alloc V _
    have jc:W.heap.size=wr+1:=by rw[hW];simp
    have JT:W.heap[wr.heap.size]?=some (.cells #[.int .u8 (lo:Int),.int .u8 (hi:Int),(t:Int)] 74):=by rw[hW];exact heap_alloc_new wr _
    obtain ⟨b0,b1,b2⟩:=aK JT;have YJ:OR 74 3 gm w (.slice Ao no co) (done++p.toList) W:=HO.later Ea;have AM:wr.heap.size<W:=U;have dc:=Y du;have wL:=Y YJ;have Tb:=Y QP;clear hW JT du Ea YJ QP d0 d1 d2 dz'
    cases p with
    |none=>
     have fP:=HJ.nl rfl;subst fP;obtain rfl:no=0:=by have:=Tb.o;simpa using this.symm
     have dV:decide ((0:Int)<=(0:Int) - 1)=false:=O
     go_quiet (fail)
     refine q9 λW2 ke=>?_;have aS:Below W W W2:=by rw[ke];exact below_drewN D _
     have q0:=(aS.cl wr 0 AM).t b0;have q1:=(aS.cl wr 1 AM).t b1;have q2:=(aS.cl wr 2 AM).t b2;have wI:wr.heap.size<W2:=by have:=aS.size;omega
     have Hj:w.heap.size<=W2:=U;have bL:(W2.alloc (.cells #[.int .u8 (lo:Int),.int .u8 (hi:Int),(t:Int)] 74)).ownsRow w 74 3 (.slice Ao 0 co) 0 (a8 gm ([]:List Ed)):=(wL.later aS).alloc _;have iY:=vG W2 lo hi t;have bw:w.heap.size<=(W2.alloc (.cells #[.int .u8 (lo:Int),.int .u8 (hi:Int),(t:Int)] 74)).heap.size:=ψ;have fS:=Y (dc.t (aS.mono dc.size));have h0:0<=100000:=U;clear ke aS b0 b1 b2;go_wp2_with (at_builtin; refine bn rfl _ _ 59 rfl w 74 i3 _ 3 16 Tryz.underlying59 BZ mJ bQ bE rfl O _ 0 (a8 gm ([]:List Ed)) rfl bL (Z W2 0) 1 1 [.int .u8 (lo:Int),.int .u8 (hi:Int),.int .i64 (t:Int)] rfl rfl iY (by intro u hu; simp at hu; rcases hu with rfl|rfl|rfl <;> rfl) (by unfold maxLen; omega) U bw ?_)
     intro v' w9 da qx kT;have nP:OR 74 3 gm w v' (([]:List Ed)++[⟨lo,hi,t⟩]) w9:=by
      show w9.ownsRow _ _ _ _ (([]:List Ed)++[_]).length (a8 gm (([]:List Ed)++[_]));rw[bV,bF,List.length_append];exact da
     obtain ⟨A9,n9,c9,rfl⟩:∃A n c,v'=.slice A n c:=by
      obtain ⟨A,c,e,-⟩:=ae da;exact ⟨_,_,_,e⟩
     have jF:Below w w w9:=(fS.alloc Hj _).grown qx bw (λq hq=>(bL.lt q hq).1);have zE:=Y nP;have Kg:=Y jF;clear da qx kT nP jF bL iY bw;go_wp2_with fail;go_roundw
     case rel=>exact ⟨k+1,[],some ⟨lo,hi,t⟩,U,by go_num,zE,Kg,HJ.first HEK.o nJ.o wO.o⟩
     case measure=>exact μ
    |some q=>
     have qi:=wL.cells tc;obtain ⟨A',c',e',wJ,dt⟩:=qi;have bf:¬(done++(some q).toList)=[]:=H;obtain ⟨go,C6,Ue,Zp,nZ⟩:=dt.resolve_left bf;injection e' with e1 e2 e3;subst e3;rw[C6]at e1;subst e1;obtain ⟨nd,aY⟩:∃n,done.length=n:=⟨_,rfl⟩;have abf:no=nd+1:=by rw[<-Tb.o,List.length_append,aY];rfl
     have hq:=nZ nd (by rw[List.length_append,aY];simp)
     have Kk:(done++(some q).toList)[nd]'(by rw[List.length_append,aY];simp)=q:=by subst aY;simp
     rw[Kk]at hq;obtain ⟨x2,-⟩:=hq 2 O;obtain ⟨x1,Qs⟩:=hq 1 O;obtain ⟨QQ,Gx,Dk⟩:=q;have x2':W.cell? (Z go (nd*3+2))=some (.int .i64 (Dk:Int)):=x2;have YK:W.cell? (Z go (nd*3+1))=some (.int .u8 (Gx:Int)):=x1;have hqb:=HJ.qM _ rfl;have ard:lo<256:=wO.1;simp only at hqb;have dV:decide ((0:Int)<=(no:Int) - 1)=true:=τ;have arf:((no:Int) - 1).toNat=nd:=U;have QR:decide (nd<no)=true:=τ;have SW:IntKind.i64.wrap ((Gx:Int)+1)=(Gx:Int)+1:=IntWalk.i64_in _ U;have Ty:=Y aY;have Mt:(done++(some (⟨QQ,Gx,Dk⟩:Ed)).toList).length=no:=Tb.o;have abh:go<W:=Zp;obtain ⟨OQ,hOQ⟩:∃awK:List Ed,done++(some (⟨QQ,Gx,Dk⟩:Ed)).toList=awK:=⟨_,rfl⟩;have VQ:=wL.o;rw[hOQ]at VQ Mt;have HOQ:=Y VQ;have YL:=Y hOQ;clear VQ hOQ;clear nZ hq Kk x1 x2 dt bf aY e2 C6 wJ;by_cases h1:Dk=t
     .by_cases h2:Gx+1=lo
      .have d1:((Dk:Int) == (t:Int))=true:=ψ;have d2:((Gx:Int)+1 == (lo:Int))=true:=ψ;have YM:=Y (I h1 h2);clear h1 h2
       go_quiet (fail)
       refine q9 λW2 ke=>?_;have aS:Below W W W2:=by rw[ke];exact below_drewN D _
       have q1:=(aS.cl wr 1 AM).t b1;have y1:=(aS.cl go (nd*3+1) abh).t YK;have ug:W2.frozen? (Z go (nd*3+1))=false:=by rw[ke];exact Qs
       have wI:wr.heap.size<W2:=by have:=aS.size;omega
       have hl3:go<W2:=by have:=aS.size;omega
       have AK:=wL.later aS;have hB2:=dc.t (aS.mono dc.size);have qV:no=done.length+1:=by rw[<-Tb.o,List.length_append];rfl
       have nP:OR 74 3 gm w (.slice (Z go 0) no co) (done++(some (⟨QQ,hi,Dk⟩:Ed)).toList) (W2.setCell (Z go (nd*3+1)) (.int .u8 (hi:Int))):=by
        rw[qV]at AK|-;rw[<-Ty.o];exact AK.setLast tc (x:=⟨QQ,hi,Dk⟩) 1 (.int .u8 (hi:Int)) rfl
       have zE:=Y nP;have Kg:=Y (hB2.sc go (nd*3+1) Ue (.int .u8 (hi:Int)));clear ke aS b0 b1 b2 YK x2' Qs AK hB2 qV nP;go_wp2_with fail;go_roundw
       case rel=>exact ⟨k+1,done,some ⟨QQ,hi,Dk⟩,U,by go_num,zE,Kg,HJ.join HEK.o nJ.o wO.o YM.1 YM.2⟩
       case measure=>exact μ
      .have d1:((Dk:Int) == (t:Int))=true:=ψ;have d2:((Gx:Int)+1 == (lo:Int))=false:=ψ;have YM:=Y (show ¬(Dk=t/\Gx+1=lo) from λh=>h2 h.2);clear h1 h2
       go_quiet (fail)
       refine q9 λW2 ke=>?_;have aS:Below W W W2:=by rw[ke];exact below_drewN D _
       have q0:=(aS.cl wr 0 AM).t b0;have q1:=(aS.cl wr 1 AM).t b1;have q2:=(aS.cl wr 2 AM).t b2;have wI:wr.heap.size<W2:=by have:=aS.size;omega
       have Hj:w.heap.size<=W2:=U;have bL:(W2.alloc (.cells #[.int .u8 (lo:Int),.int .u8 (hi:Int),(t:Int)] 74)).ownsRow w 74 3 (.slice (Z go 0) no co) OQ.length (a8 gm OQ):=(HOQ.later aS).alloc _;have iY:=vG W2 lo hi t;have bw:w.heap.size<=(W2.alloc (.cells #[.int .u8 (lo:Int),.int .u8 (hi:Int),(t:Int)] 74)).heap.size:=ψ;have fS:=Y (dc.t (aS.mono dc.size));have hL1:OQ.length<=100000:=U;clear ke aS b0 b1 b2;go_wp2_with (at_builtin; refine bn rfl _ _ 59 rfl w 74 i3 _ 3 16 Tryz.underlying59 BZ mJ bQ bE rfl O _ OQ.length (a8 gm OQ) rfl bL (Z W2 0) 1 1 [.int .u8 (lo:Int),.int .u8 (hi:Int),.int .i64 (t:Int)] rfl rfl iY (by intro u hu; simp at hu; rcases hu with rfl|rfl|rfl <;> rfl) (by unfold maxLen; omega) U bw ?_)
       intro v' w9 da qx kT;have nP:OR 74 3 gm w v' (OQ++[⟨lo,hi,t⟩]) w9:=by
        show w9.ownsRow _ _ _ _ (OQ++[_]).length (a8 gm (OQ++[_]));rw[bV,bF,List.length_append,Mt,abf];exact da
       obtain ⟨A9,n9,c9,rfl⟩:∃A n c,v'=.slice A n c:=by
        obtain ⟨A,c,e,-⟩:=ae da;exact ⟨_,_,_,e⟩
       have jF:Below w w w9:=(fS.alloc Hj _).grown qx bw (λq hq=>(bL.lt q hq).1);have zE:=Y nP;have Kg:=Y jF;clear da qx kT nP jF bL iY bw;go_wp2_with fail;go_roundw
       case rel=>exact ⟨k+1,done++[(⟨QQ,Gx,Dk⟩:Ed)],some ⟨lo,hi,t⟩,U,by go_num,(by have:=zE.o;rw[<-YL.o]at this;exact this),Kg,(show yp cs l (k+1) (done++[(⟨QQ,Gx,Dk⟩:Ed)]) (some ⟨lo,hi,t⟩) from HJ.part HEK.o nJ.o wO.o YM.o)⟩
       case measure=>exact μ
     .have d1:((Dk:Int) == (t:Int))=false:=ψ;have YM:=Y (show ¬(Dk=t/\Gx+1=lo) from λh=>h1 h.1);clear h1
      go_quiet (fail)
      refine q9 λW2 ke=>?_;have aS:Below W W W2:=by rw[ke];exact below_drewN D _
      have q0:=(aS.cl wr 0 AM).t b0;have q1:=(aS.cl wr 1 AM).t b1;have q2:=(aS.cl wr 2 AM).t b2;have wI:wr.heap.size<W2:=by have:=aS.size;omega
      have Hj:w.heap.size<=W2:=U;have bL:(W2.alloc (.cells #[.int .u8 (lo:Int),.int .u8 (hi:Int),(t:Int)] 74)).ownsRow w 74 3 (.slice (Z go 0) no co) OQ.length (a8 gm OQ):=(HOQ.later aS).alloc _;have iY:=vG W2 lo hi t;have bw:w.heap.size<=(W2.alloc (.cells #[.int .u8 (lo:Int),.int .u8 (hi:Int),(t:Int)] 74)).heap.size:=ψ;have fS:=Y (dc.t (aS.mono dc.size));have hL1:OQ.length<=100000:=U;clear ke aS b0 b1 b2;go_wp2_with (at_builtin; refine bn rfl _ _ 59 rfl w 74 i3 _ 3 16 Tryz.underlying59 BZ mJ bQ bE rfl O _ OQ.length (a8 gm OQ) rfl bL (Z W2 0) 1 1 [.int .u8 (lo:Int),.int .u8 (hi:Int),.int .i64 (t:Int)] rfl rfl iY (by intro u hu; simp at hu; rcases hu with rfl|rfl|rfl <;> rfl) (by unfold maxLen; omega) U bw ?_)
      intro v' w9 da qx kT;have nP:OR 74 3 gm w v' (OQ++[⟨lo,hi,t⟩]) w9:=by
       show w9.ownsRow _ _ _ _ (OQ++[_]).length (a8 gm (OQ++[_]));rw[bV,bF,List.length_append,Mt,abf];exact da
      obtain ⟨A9,n9,c9,rfl⟩:∃A n c,v'=.slice A n c:=by
       obtain ⟨A,c,e,-⟩:=ae da;exact ⟨_,_,_,e⟩
      have jF:Below w w w9:=(fS.alloc Hj _).grown qx bw (λq hq=>(bL.lt q hq).1);have zE:=Y nP;have Kg:=Y jF;clear da qx kT nP jF bL iY bw;go_wp2_with fail;go_roundw
      case rel=>exact ⟨k+1,done++[(⟨QQ,Gx,Dk⟩:Ed)],some ⟨lo,hi,t⟩,U,by go_num,(by have:=zE.o;rw[<-YL.o]at this;exact this),Kg,(show yp cs l (k+1) (done++[(⟨QQ,Gx,Dk⟩:Ed)]) (some ⟨lo,hi,t⟩) from HJ.part HEK.o nJ.o wO.o YM.o)⟩
      case measure=>exact μ
  .obtain rfl:k=nl:=U;have hd:decide ((k:Int)<(k:Int))=false:=θ;obtain ⟨Ao,no,co,rfl⟩:∃A n c,u5=.slice A n c:=by
    obtain ⟨A,c,e,-⟩:=ae HO.o;exact ⟨_,_,_,e⟩
   go_wp2_with fail;refine au λWf bG=>?_;subst bG;refine bodyPost_ret (v:=.slice Ao no co) (by simp[results,Tryz.results46,go_sem];try rfl) rfl ?_
   have hj:=HJ.o;rw[<-HN.1]at hj;exact ⟨_,rfl,by rw[<-hj.abd];exact HO.o,HB.o⟩
def bC(b:Bool):List Value:=[.bool b]
theorem Hg:p4 bC 1:=⟨O,λ_=>rfl,λx u hu=>by simp[bC]at hu;subst hu;rfl⟩
theorem ik:(Tryz.prog.info? 4).map (λi=>(i.zero,i.size,i.bytes))=some (some (.bool false),1,1):=R
def mA(w:World)(v:Value)(l:List Bool):Prop:=∃A c,v=.slice A l.length c/\(l.length<=c/\c<=9223372036854775807)/\(l=[]\/∃g f,A=some ⟨g,f,none⟩/\g<w.heap.size/\∀i (h:i<l.length),w.cell? (Z g (f+i))=some (.bool l[i]))
theorem mA.keep{fp fp':List Nat}{w w':World}{v:Value}{l:List Bool}(h:mA w v l)(ho:aO fp v)(hk:ab fp fp' w w'):mA w' v l:=by
 obtain ⟨A,c,rfl,hc,h⟩:=h;refine ⟨A,c,rfl,hc,h.imp id ?_⟩;rintro ⟨g,f,rfl,hg,ak⟩;exact ⟨g,f,rfl,Nat.lt_of_lt_of_le hg hk.size,λi hi=>(χ g (f+i) (hk.aq g hg (ho g rfl))).t (ak i hi)⟩
theorem mA.later{w w':World}{v:Value}{l:List Bool}(h:mA w v l)(hb:Below w w w'):mA w' v l:=h.keep (fp:=[]) (fp':=[]) (xQ v) (ab.aj hb)
theorem mA.eu{w:World}{B:Nat}{v:Value}{l:List Bool}(h:OR 4 1 bC B v l w):mA w v l:=by
 obtain ⟨A,c,e,hc,dt⟩:=h.cells Hg;have tY:c<=9223372036854775807:=by
  obtain ⟨A',c',e',-,h'⟩:=ae (show w.ownsRow _ _ _ _ _ _ from h);rw[e]at e';injection e' with _ _ e3;rw[e3];exact h'
 refine ⟨A,c,e,⟨hc,tY⟩,dt.imp id ?_⟩;rintro ⟨g,h1,-,hg,ak⟩;refine ⟨g,0,h1,hg,λi hi=>?_⟩;have:=(ak i hi 0 O).1;rw[Nat.mul_one,Nat.add_zero]at this;rw[Nat.zero_add,this];rfl
def tL(w:World)(v:Value)(l:List (List Ed)):Prop:=∃A c,v=.slice A l.length c/\(l.length<=c/\c<=9223372036854775807)/\(l=[]\/∃g f,A=some ⟨g,f,none⟩/\g<w.heap.size/\∀i (h:i<l.length),∃rv,w.cell? (Z g (f+i))=some rv/\eQ w rv l[i])
theorem tL.later{w w':World}{v:Value}{l:List (List Ed)}(h:tL w v l)(hb:Below w w w'):tL w' v l:=by
 obtain ⟨A,c,e,hc,h⟩:=h;refine ⟨A,c,e,hc,h.imp id ?_⟩;rintro ⟨g,f,h1,hg,ak⟩;refine ⟨g,f,h1,Nat.lt_of_lt_of_le hg hb.size,λi hi=>?_⟩;obtain ⟨rv,h2,h3⟩:=ak i hi;exact ⟨rv,(hb.cl g (f+i) hg).t h2,h3.later hb⟩
theorem tL.form{w:World}{v:Value}{l:List (List Ed)}(h:tL w v l):∃A c,v=.slice A l.length c/\(l.length<=c/\c<=9223372036854775807):=by
 obtain ⟨A,c,e,hc,-⟩:=h;exact ⟨A,c,e,hc⟩
theorem mA.form{w:World}{v:Value}{l:List Bool}(h:mA w v l):∃A c,v=.slice A l.length c/\(l.length<=c/\c<=9223372036854775807):=by
 obtain ⟨A,c,e,hc,-⟩:=h;exact ⟨A,c,e,hc⟩
theorem tL.jL{w:World}{A:Option Addr}{n c:Nat}{l:List (List Ed)}(h:tL w (.slice A n c) l){k:Nat}(hk:k<l.length):∃g f rv,A=some ⟨g,f,none⟩/\n=l.length/\g<w.heap.size/\w.cell? (Z g (f+k))=some rv/\eQ w rv l[k]:=by
 obtain ⟨A',c',e,hc,h⟩:=h;injection e with e1 e2 e3;rcases h with rfl|⟨g,f,h1,hg,h2⟩
 .cases hk
 .obtain ⟨rv,h3,h4⟩:=h2 k hk;exact ⟨g,f,rv,e1.t h1,e2,hg,h3,h4⟩
theorem mA.jL{w:World}{A:Option Addr}{n c:Nat}{l:List Bool}(h:mA w (.slice A n c) l){k:Nat}(hk:k<l.length):∃g f,A=some ⟨g,f,none⟩/\n=l.length/\g<w.heap.size/\w.cell? (Z g (f+k))=some (.bool l[k]):=by
 obtain ⟨A',c',e,hc,h⟩:=h;injection e with e1 e2 e3;rcases h with rfl|⟨g,f,h1,hg,h2⟩
 .cases hk
 .exact ⟨g,f,e1.t h1,e2,hg,h2 k hk⟩
def jb(w:World)(v:Value)(m:Mc):Prop:=∃ve va,v=.agg #[ve,va]/\tL w ve m.ed/\mA w va m.ac
theorem jb.later{w w':World}{v:Value}{m:Mc}(h:jb w v m)(hb:Below w w w'):jb w' v m:=by
 obtain ⟨ve,va,e,h1,h2⟩:=h;exact ⟨ve,va,e,h1.later hb,h2.later hb⟩
structure iE (m:Mc):Prop where
 qM:∀r∈m.ed,∀e∈r,e.lo<256/\e.hi<256
 rl:∀r∈m.ed,r.length<=10000
 n:m.ed.length<=100000
theorem Du(v:Value)(l:List Bool)(w:World)(h:mA w v l)(hl:l.length<=1000000):Calls Tryz.prog 98 #[v] w λe w'=>∃rv,e=.returned rv/\OR 4 1 bC w rv l w'/\Below w w w':=by
 obtain ⟨A,c,rfl,hc,h⟩:=h;obtain ⟨i3,BZ,mJ,bQ,bE⟩:=info_parts ik;have fP:=λw=>Lib.run_eql_slice_nil (P:=Tryz.prog) w 33 4 A l.length c 0 0 Tryz.underlying33
 cases A with
 |none=>
  obtain rfl:l=[]:=h.resolve_right (by rintro ⟨g,f,e,-⟩;cases e)
  simp only[List.length_nil]at fP
  go_enter Tryz.func98,Tryz.ntmps98
  go_wp2_with fail;go_ret;exact ⟨_,rfl,OR.iG _ _ _,D⟩
 |some ad=>
  have ak:∀i (hi:i<l.length),∀j<1,w.cell? (ad.add (i*1+j))=(bC l[i])[j]?:=by
   intro i hi j hj;obtain ⟨g,f,e,-,nZ⟩:=h.resolve_left (by rintro rfl;cases hi)
   injection e with e;subst e;obtain rfl:j=0:=U;rw[Addr.add_lit,Nat.mul_one,Nat.add_zero,nZ i hi];rfl
  have aB:l=[]\/ad.block<w.heap.size:=h.imp id (by rintro ⟨g,f,e,hg,-⟩;injection e with e;subst e;exact hg)
  have oi:∀i (hi:i<l.length),∀j<1,(w.alloc (.cells #[] 4)).cell? (ad.add (i*1+j))=(bC l[i])[j]?:=by
   intro i hi j hj;rw[<-ak i hi j hj];exact World.cell?_of_block (by rw[fX];exact az w _ _ (aB.resolve_left (by rintro rfl;cases hi)))
  have HC:=Y oi;clear h ak oi aB;have abS:OR 4 1 bC w (.slice (Z w 0) 0 0) [] (w.alloc (.cells #[] 4)):=OR.empty _ _;have HO:=Y abS;clear abS
  go_enter Tryz.func98,Tryz.ntmps98
  go_wp2_with (at_builtin;refine V9 Hg Tryz.underlying33 BZ mJ bQ bE rfl O _ _ (.slice (Z w 0) 0 0) ad c [] l w rfl rfl rfl rfl HO.o HC.o H hl H ?_);intro v' w1 ai aM;obtain ⟨A',n',c',rfl⟩:∃A n c,v'=.slice A n c:=by
   obtain ⟨A,c,e,-⟩:=ae (show w1.ownsRow _ _ _ _ _ _ from ai);exact ⟨_,_,_,e⟩
  have xM:=Y ai;have cM:=Y (((Below.refl _ w).alloc V (.cells #[] 4)).t aM);clear ai aM;go_wp2_with fail;go_ret;exact ⟨_,rfl,xM.o,cM.o⟩
theorem eQ.rows{w:World}{v:Value}{l:List Ed}(h:eQ w v l):nh 3 w v (l.map gm):=by
 obtain ⟨A,c,rfl,hc,h⟩:=h;refine ⟨A,c,H,by simpa using hc,?_⟩
 rcases h with rfl|⟨g,f,h1,h2,h3⟩
 .exact .inl rfl
 .refine .inr ⟨g,f,h1,h2,λi hi=>?_⟩;have fQ:i<l.length:=by simpa using hi
  obtain ⟨q1,q2,q3⟩:=h3 i fQ;refine ⟨by simp[gm],λj hj=>?_⟩
  match j,hj with
  |0,_=>rw[Nat.add_zero,q1];simp[gm]
  |1,_=>rw[q2];simp[gm]
  |2,_=>rw[q3];simp[gm]
theorem Pv(e:Ed)(bx go n c:Nat)(b:Bool)(w:World)(h0:w.cell? (Z bx 0)=some (.slice (Z go 0) n c))(h1:w.cell? (Z go e.to)=some (.bool b))(hn:e.to<n):
  Calls Tryz.prog 100 #[.agg (gm e).toArray,.pointer (Z bx 0)] w λe' w'=>e'=.returned (.bool b)/\Below w w w':=by
 have aB:∀{g j:Nat} {v:Value},w.cell? (Z g j)=some v->g<w:=λ{g j v} h=>by
  by_cases hg:g<w
  .exact hg
  .simp[World.cell?,Array.getElem?_eq_none (Nat.le_of_not_lt hg)]at h
 have jK:=aB h0;have Bb:=aB h1;have bf:bx≠w.heap.size:=U;have uw:go≠w.heap.size:=U;obtain ⟨lo,hi,to⟩:=e;simp only at h1 hn;have hd:decide (to<n)=true:=decide_eq_true hn;have hB:Below w w (w.alloc (.cells #[.int .u8 (lo:Int),.int .u8 (hi:Int),(to:Int)] 74)):=D.alloc V _;have HB:=Y hB;clear hB aB;show Calls Tryz.prog _ #[.agg #[.int .u8 (lo:Int),.int .u8 (hi:Int),(to:Int)],_] w _
 go_enter Tryz.func100,Tryz.ntmps100
 go_wp2_with fail;go_ret;exact ⟨rfl,HB.o⟩
theorem Pw(args:Array Value)(w:World):(callFunc 100 args).run Tryz.prog w=.ok (.enter 100 args) w:=by rfl
def sN:List Bool->Nat
 | []=>0
 |b::r=>(if b=true then 0 else 1)+sN r
theorem yR:∀(o:List Bool) (i:Nat),o[i]?=some false->sN (o.set i true)+1=sN o
 |b::r,0,h=>by
  simp at h;subst h;simp[sN];omega
 |b::r,i+1,h=>by
  have:=yR r i (by simpa using h)
  rw[List.set_cons_succ,sN,sN];omega
structure Bc (m:Mc) (o:List Bool):Prop where
 len:o.length=m.ed.length
 acc:∀s,s<m.ed.length->(m.ac[s]?).getD false=true->o[s]?=some true
 snd:∀s,o[s]?=some true->aW m s
def FK(m:Mc)(o:List Bool)(j:Nat):Prop:=∀s,j<=s->o[s]?=some false->∀e∈aU m s,o[e.to]?=some false
theorem Bc.start{m:Mc}(hv:jB m):Bc m m.ac:=⟨hv.len,λs hs h=>by
 have hl:s<m.ac.length:=by rw[hv.len];exact hs
 rw[List.getElem?_eq_getElem hl]at h|-;simpa using h,λs h=>KC (by rw[h];rfl)⟩
theorem Bc.set{m:Mc}{o:List Bool}(hv:jB m)(h:Bc m o){s:Nat}{e:Ed}(he:e∈aU m s)(ho:o[e.to]?=some true):Bc m (o.set s true):=by
 refine ⟨by rw[List.length_set];exact h.len,λt ht ha=>?_,λt ht=>?_⟩
 .rw[List.getElem?_set];split
  .next fw=>
   subst fw;rw[if_pos (by rw[h.len];exact ht)]
  .exact h.acc t ht ha
 .rw[List.getElem?_set]at ht;split at ht
  .next fw=>subst fw;exact Hf hv he (h.snd _ ho)
  .exact h.snd t ht
theorem Bc.done{m:Mc}{o:List Bool}(hv:jB m)(h:Bc m o)(hc:FK m o 0):∀s,s<m.ed.length->(o[s]?=some true↔aW m s):=λs hs=>by
 refine ⟨h.snd s,λhl=>?_⟩;have fw:∀t,t<m.ed.length->(o[t]?).getD false=false->∀e∈aU m t,(o[e.to]?).getD false=false:=λt ht hf e he=>by
  have dU:t<o.length:=by rw[h.len];exact ht
  have h1:=hc t (Nat.zero_le _) (by rw[List.getElem?_eq_getElem dU]at hf|-;simpa using hf) e he
  rw[h1];rfl
 have:=KD hv (out:=λs=>(o[s]?).getD false) (λt ht ha=>by rw[h.acc t ht ha];rfl) fw hs hl
 cases hx:o[s]? with
 |none=>rw[hx]at this;cases this
 |some b=>rw[hx]at this;simp at this;rw[this]
structure wW (W:World) (B go n c:Nat) (o:List Bool) (wr:World):Prop where
 own:OR 4 1 bC B (.slice (Z go 0) n c) o wr
 kf:ab [go] [go] W wr
theorem wW.cell{W:World}{B go n c:Nat}{o:List Bool}{wr:World}(h:wW W B go n c o wr){s:Nat}{b:Bool}(hs:o[s]?=some b):wr.cell? (Z go s)=some (.bool b)/\wr.frozen? (Z go s)=false/\go<wr:=by
 obtain ⟨A,c',e,-,dt⟩:=h.own.cells Hg;obtain ⟨eP,Hh⟩:=List.getElem?_eq_some_iff.1 hs;obtain ⟨g,hA,-,hg,nZ⟩:=dt.resolve_left (by rintro rfl;cases eP)
 injection e with e1 _ _;rw[hA]at e1;injection e1 with e1;injection e1 with e1;subst e1;have:=nZ s eP 0 O;rw[Nat.mul_one,Nat.add_zero,Hh]at this;exact ⟨this.1,this.2,hg⟩
theorem wW.set{W:World}{B go n c:Nat}{o:List Bool}{wr:World}(h:wW W B go n c o wr)(hn:o.length=n)(s:Nat):wW W B go n c (o.set s true) (wr.setCell (Z go s) (.bool true)):=by
 have aC:∀o:List Bool,a8 bC o=o.map Value.bool:=λo=>by
  unfold a8
  induction o with
  |nil=>rfl
  |cons b r ih=>simp only[List.map_cons,List.flatten_cons,ih];rfl
 refine ⟨?_,?_⟩
 .have h1:wr.ownsRow B 4 1 (.slice (Z go 0) n c) n (a8 bC o):=by have:=h.own;unfold OR at this;rwa [hn]at this
  have h2:=(h1.stored s (.bool true)).1;show World.ownsRow _ _ _ _ _ _ _;rw[List.length_set,hn,aC,List.map_set];rw[aC]at h2;exact h2
 .exact h.kf.t ⟨rfl,rfl,rfl,by simp[World.setCell],λk _ hn=>Below.heap_setCell _ _ _ _ (λe=>hn (by simp[show k=go from e])),λk hk=>.inl hk⟩
theorem wW.later{W:World}{B go n c:Nat}{o:List Bool}{wr w':World}(h:wW W B go n c o wr)(hb:Below wr wr w'):wW W B go n c o w':=⟨h.own.later hb,h.kf.t (ab.aj hb)⟩
def KE(m:Mc)(n:Nat)(w:World)(e:Ending)(w':World):Prop:=∃rv o,e=.returned rv/\OR 4 1 bC w rv o w'/\Below w w w'/\o.length=n/\∀s,s<n->(o[s]?=some true↔aW m s)
theorem Hi(v:Value)(m:Mc)(w:World)(hm:jb w v m)(hv:jB m)(eg:iE m)(h1:1<=m.ed.length):
  Calls Tryz.prog 71 #[v] w (KE m m.ed.length w):=by
 obtain ⟨ve,va,rfl,he,ha⟩:=hm;obtain ⟨Ae,ce,rfl,kG,tz⟩:=he.form;obtain ⟨Aa,ca,rfl,pT,yQ⟩:=ha.form;obtain ⟨n,hn⟩:=ν m.ed.length;have ej:m.ac.length=n:=by rw[hv.len,hn]
 have tS:=eg.n;have dj:=λW (h:Below w w W)=>Du _ m.ac W (ha.later h) (by rw[ej];omega)
 rw[ej]at dj ha pT;rw[hn]at he kG h1 tS;have nJ:=Y dj;have HE:=Y he;have HV:=Y hv;have tT:=Y eg;have HN:=Y (I hn ej);have HAI:=Y (Bc.start hv);rw[ej,hn];clear dj he ha hv eg hn ej
 go_enter Tryz.func71,Tryz.ntmps71
 have sO:=(Below.refl w w).alloc V (.cells #[.slice Ae n ce,.slice Aa n ca] 35);have dA:=Y sO;clear sO;go_wp2_with fail;refine (nJ _ dA.o).mono ?_;rintro e w1 ⟨rv,rfl,ai,aM⟩;obtain ⟨A1,c1,e1,kr,dt⟩:=ai.cells Hg;obtain ⟨go,C6,Ue,Zp,-⟩:=dt.resolve_left (by intro e;have:=HN.2;rw[e]at this;simp at this;omega)
 subst C6;rw[HN.2]at e1;subst e1;have FL:w1.heap[w.heap.size]?=some (.cells #[.slice Ae n ce,.slice Aa n ca] 35):=(aM.block _ H).t (heap_alloc_new w _);have dh:w.heap.size+1<=w1:=by have:=aM.size;simpa using this
 have xM:=Y ai;have tU:=Y FL;have cM:=Y (dA.t (aM.mono H));clear ai FL aM dt kr;go_wp2_with fail;refine br λW hW=>?_;have du:Below w1 w1 W:=by rw[hW];exact D.alloc V _
 have jc:W.heap.size=w1+1:=by rw[hW];simp
 have JT:W.heap[w1.heap.size]?=some (.cells #[.slice (Z go 0) n c1] 33):=by rw[hW];exact heap_alloc_new w1 _
 have hnW:=(du.block w U).t tU.o;have Hd:wW W (w+1) go n c1 m.ac W:=⟨xM.later du |>.mono H,ab.refl _ _⟩;have hgB:w+1<=go:=by simpa using Ue
 have aph:go<W:=U;have Px:w.heap.size≠go:=U;have uw:w1.heap.size≠go:=U;have hcW:∀wr,ab [go] [go] W wr->wr.heap[w.heap.size]?=some (.cells #[.slice Ae n ce,.slice Aa n ca] 35)/\wr.heap[w1.heap.size]?=some (.cells #[.slice (Z go 0) n c1] 33)/\Below w w wr:=λwr h=>by
  refine ⟨(h.aq _ U (by simpa using Px)).t hnW,(h.aq _ U (by simpa using uw)).t JT,?_⟩
  exact (cM.t (du.mono U)).t (h.below (λk hk=>by rw[List.mem_singleton]at hk;omega) U)
 have KF:=Y hcW;have ux:=Y Hd;have iw:w1.heap.size<W:=U;have OD:w.heap.size<W:=U;clear hW du JT hnW Hd hcW;go_wp2_with fail
 go_loopg [4] (sN m.ac+2) (λq cv wr=>∃(ch:Bool) (o:List Bool),cv=.bool ch/\sN o+(if ch=true then 1 else 0)<q/\Hid (wW W (w+1) go n c1 o wr)/\Hid (Bc m o/\(ch=false->FK m o 0)))
 case atStart=>exact ⟨true,m.ac,rfl,H,ux,HAI.o,λh=>by cases h⟩
 case round=>
  obtain ⟨ch,o,rfl,hq,HR,HI⟩:=hrel;obtain ⟨KG,SF,xN⟩:=KF wr HR.kf;obtain ⟨x0,x1⟩:wr.cell? (Z w 0)=some (.slice Ae n ce)/\wr.cell? (Z w 1)=some (.slice Aa n ca):=by
   constructor <;> (rw[Φ KG]; rfl)
  have y0:wr.cell? (Z w1 0)=some (.slice (Z go 0) n c1):=by rw[Φ SF];rfl
  have Hj:=HR.kf.size;have api:w.heap.size<wr:=U;have Uf:w1.heap.size<wr:=U;have Bd:=Y xN;clear KG SF xN
  cases ch with
  |false=>
   go_wp2_with fail;refine au λWf bG=>?_;subst bG;refine bodyPost_ret (v:=.slice (Z go 0) n c1) (by simp[results,Tryz.results71,go_sem];try rfl) rfl ?_
   have hd:=HI.1.done HV.o (HI.2 trivial);rw[HN.1]at hd;exact ⟨_,o,rfl,HR.own.mono U,Bd.o,by rw[HI.1.len,HN.1],hd⟩
  |true=>
   have AF:IntKind.i64.wrap ((n:Int) - 1)=(n:Int) - 1:=IntWalk.i64_in _ U;go_wp2_with fail;obtain ⟨WO,rfl⟩:∃W:World,W=wr:=⟨_,rfl⟩
   go_loopg [5,4] n (λj iv cv wr=>∃(x:Int) (ch:Bool) (o2:List Bool),j<=n/\x=(j:Int) - 1/\iv=.int .i64 x/\cv=.bool ch/\Hid (wW W (w+1) go n c1 o2 wr)/\Hid (Bc m o2/\(ch=false->o2=o/\FK m o j)/\(ch=true->sN o2<sN o)))
   case atStart=>exact ⟨_,false,o,V,rfl,rfl,rfl,HR,HI.1,λ_=>⟨rfl,λs hs ho=>by have:=(List.getElem?_eq_some_iff.1 ho).1;have:=HI.1.len;have:=HN.1;omega⟩,λh=>by cases h⟩
   case round=>
    obtain ⟨x,ch,o2,hj,hx,rfl,rfl,pC,oa⟩:=hrel;obtain ⟨KG,SF,xN⟩:=KF wr pC.kf;obtain ⟨z0,z1⟩:wr.cell? (Z w 0)=some (.slice Ae n ce)/\wr.cell? (Z w 1)=some (.slice Aa n ca):=by
     constructor <;> (rw[Φ KG]; rfl)
    have t0:wr.cell? (Z w1 0)=some (.slice (Z go 0) n c1):=by rw[Φ SF];rfl
    have Zq:=pC.kf.size;have apj:w.heap.size<wr:=U;have Py:w1.heap.size<wr:=U;have afY:go<wr:=U;have Zr:=Y xN;clear KG SF xN
    cases gk with
    |zero=>
     have Be:decide ((0:Int)<=x)=false:=θ;clear hx;go_wp2_with fail
     go_roundg (sN o2+(if ch=true then 1 else 0)+1)
     case measure=>
      obtain ⟨h1,h2⟩:=oa.2
      cases ch with
      |false=>rw[(h1 rfl).1];simp at hq|-;omega
      |true=>have:=h2 rfl;simp at hq|-;omega
     case rel=>exact ⟨ch,o2,rfl,Nat.lt_succ_self _,pC,oa.1,λh=>by obtain ⟨h1,h2⟩:=oa.2.1 h;rw[h1];exact h2⟩
    |succ s=>
     obtain rfl:x=(s:Int):=U;have Be:decide ((0:Int)<=(s:Int))=true:=τ;have ob:s<n:=U;have dV:decide (s<n)=true:=decide_eq_true ob;have xL:s<o2.length:=by rw[oa.1.len,HN.1];exact ob
     obtain ⟨q,uy⟩:∃q,o2[s]?=some q:=⟨_,List.getElem?_eq_getElem xL⟩;obtain ⟨r1,r2,-⟩:=pC.cell uy;have eh:IntKind.i64.wrap ((s:Int) - 1)=(s:Int) - 1:=IntWalk.i64_in _ U;have HQ:=Y uy;clear hx uy xL
     cases q with
     |true=>
      go_wp2_with fail
      go_roundg s
      case measure=>omega
      case rel=>exact ⟨_,ch,o2,U,rfl,rfl,rfl,pC,oa.1,λh=>⟨(oa.2.1 h).1,λt ht ho=>by
       by_cases Ug:t=s
       .subst Ug;have:=HQ.o;rw[(oa.2.1 h).1,ho]at this;cases this
       .exact (oa.2.1 h).2 t U ho⟩,oa.2.2⟩
     |false=>
      have hel:=HE.later ((Below.refl w w));have eP:s<m.ed.length:=by rw[HN.1];exact ob
      obtain ⟨g,f,rv,rfl,-,hg,tC,ni⟩:=HE.jL eP;have Dv:=ni.later Zr.o;have Pz:=(χ g (f+s) (Zr.block g hg)).t tC;have kZ:g<wr:=U;obtain ⟨row,aC⟩:∃r,m.ed[s]=r:=⟨_,rfl⟩;have fW:aU m s=row:=by unfold aU;rw[List.getElem?_eq_getElem eP,aC];rfl
      rw[aC]at Dv;have jM:∀e∈row,e.to<n:=λe he=>by rw[<-HN.1];exact HV.to _ (by rw[<-aC];exact List.getElem_mem eP) e he
      have KH:wX 100 #[.pointer (Z w1 0)] (row.map gm) (row.map λe=>(o2[e.to]?).getD false) wr:=by
       refine ⟨Pw,H,λi hi b hb w' cR=>?_⟩;have fQ:i<row.length:=by simpa using hi
       have ht:=jM row[i] (List.getElem_mem fQ);rw[List.getElem?_map,List.getElem?_eq_getElem fQ]at hb;simp only[Option.map_some,Option.some.injEq]at hb;have tD:row[i].to<o2.length:=by rw[oa.1.len,HN.1];exact ht
       rw[List.getElem?_eq_getElem tD]at hb;simp only[Option.getD_some]at hb;have hc:=(pC.cell (s:=row[i].to) (b:=b) (by rw[List.getElem?_eq_getElem tD,hb])).1
       have:=Pv row[i] w1 go n c1 b w' ((cR.cl w1 0 Py).t t0) ((cR.cl go (row[i].to) afY).t hc) ht;simpa using this
      have Bf:dJ (row.map λe=>(o2[e.to]?).getD false)=row.any λe=>(o2[e.to]?).getD false:=oc _ row;have Uh:=Hk 100 #[.pointer (Z w1 0)] _ _ rv wr Dv.rows KH;obtain ⟨q,hqq⟩:∃q,(row.any λe=>(o2[e.to]?).getD false)=q:=⟨_,rfl⟩;rw[Bf,hqq]at Uh;have HC:=Y Uh;have Zs:=Y hqq;have xO:=Y (I fW jM);obtain ⟨Ar,cr,wH,-⟩:=Dv.form;obtain ⟨nr,uu⟩:∃n,row.length=n:=⟨_,rfl⟩;rw[uu]at wH;subst wH;clear hel eP tC ni Dv aC fW jM KH Bf Uh hqq uu;go_wp2_with fail;refine HC.mono ?_;rintro e w5 ⟨rfl,mj⟩;have JU:=pC.later mj;have HR5:=Y JU;have hw5:=mj.size
      cases q with
      |false=>
       clear JU mj;go_wp2_with fail
       go_roundg s
       case measure=>omega
       case rel=>exact ⟨_,ch,o2,U,rfl,rfl,rfl,HR5,oa.1,λh=>⟨(oa.2.1 h).1,λt ht ho=>by
        by_cases Ug:t=s
        .subst Ug;rw[xO.1];intro e he;have h1:=List.any_eq_false.1 Zs.o e he;have h2:=xO.2 e he;have h3:=(oa.2.1 h).1;have tD:e.to<o2.length:=by rw[oa.1.len,HN.1];exact h2
         rw[<-h3,List.getElem?_eq_getElem tD];rw[List.getElem?_eq_getElem tD]at h1;simpa using h1
        .exact (oa.2.1 h).2 t U ho⟩,oa.2.2⟩
      |true=>
       obtain ⟨u1,u2,u3⟩:=JU.cell HQ.o;obtain ⟨SF,-⟩:=(KF w5 JU.kf).2;have u0:w5.cell? (Z w1 0)=some (.slice (Z go 0) n c1):=by rw[Φ SF];rfl
       have apk:w1.heap.size<w5:=U;have aH:=JU.set (by rw[oa.1.len,HN.1]) s
       have HS:=Y aH;have HA:Hid (Bc m (o2.set s true)):=by
        obtain ⟨e,he,h1⟩:=List.any_eq_true.1 Zs.o;have tD:e.to<o2.length:=by rw[oa.1.len,HN.1];exact xO.2 e he
        rw[List.getElem?_eq_getElem tD]at h1;exact oa.1.set HV.o (by rw[xO.1];exact he) (by rw[List.getElem?_eq_getElem tD];simpa using h1)
       have Bg:=yR o2 s HQ.o;have HCF:=Y Bg;clear JU mj SF aH Bg;go_wp2_with fail
       go_roundg s
       case measure=>omega
       case rel=>
        refine ⟨_,true,o2.set s true,U,rfl,rfl,rfl,HS,HA,λh=>(by cases h),λ_=>?_⟩
        have h9:=HCF.o
        cases ch with
        |false=>have:=(oa.2.1 rfl).1;subst this;omega
        |true=>have:=oa.2.2 rfl;omega
def Bn(e:Ed)(c:Nat):Int:=if e.hi<c then -1 else if c<e.lo then 1 else 0
theorem oR:∀{r:List Ed} {b:Nat},bK b r->∀i j (hi:i<r.length) (hj:j<r.length),i<=j->b<=r[i].hi/\r[i].hi<=r[j].hi
 |e::r,b,⟨h1,h2,h3⟩,0,0,_,_,_=>⟨by show b<=e.hi;omega,V⟩
 |e::r,b,⟨h1,h2,h3⟩,0,j+1,_,hj,_=>by
  obtain ⟨q1,-⟩:=oR h3 j j (by simpa using hj) (by simpa using hj) V
  refine ⟨by show b<=e.hi;omega,?_⟩
  show e.hi<=(e::r)[j+1].hi;rw[List.getElem_cons_succ];omega
 |e::r,b,⟨h1,h2,h3⟩,i+1,j+1,hi,hj,OJ=>by
  obtain ⟨q1,q2⟩:=oR h3 i j (by simpa using hi) (by simpa using hj) U
  refine ⟨?_,?_⟩
  .rw[List.getElem_cons_succ];omega
  .rw[List.getElem_cons_succ,List.getElem_cons_succ];exact q2
theorem KZ:∀{r:List Ed} {b c:Nat} (k:Nat),bK b r->(∀t (h:t<r.length),t<k->r[t].hi<c)->(∀(h:k<r.length),c<=r[k].hi)->k<=r.length->bA r c=(r[k]?).bind λe=>if e.lo<=c then some e.to else none
 | [],b,c,k,_,_,_,hk=>by
  obtain rfl:k=0:=by simpa using hk
  rfl
 |e::r,b,c,0,⟨h1,h2,h3⟩,_,hu,_=>by
  have:=hu H;rw[List.getElem_cons_zero]at this;rw[bA];simp only[List.getElem?_cons_zero,Option.bind_some];by_cases h:e.lo<=c
  .rw[if_pos ⟨h,this⟩,if_pos h]
  .rw[if_neg (λq=>h q.1),if_neg h];exact dS h3 U
 |e::r,b,c,k+1,⟨h1,h2,h3⟩,hl,hu,hk=>by
  have:=hl 0 H U;rw[List.getElem_cons_zero]at this;rw[bA,if_neg U,List.getElem?_cons_succ];exact KZ k h3 (λt h ht=>by have:=hl (t+1) (by simpa using h) U;rwa [List.getElem_cons_succ]at this) (λh=>by have:=hu (by simpa using h);rwa [List.getElem_cons_succ]at this) (by simpa using hk)
theorem FT(e:Ed)(c:Nat)(w:World):Calls Tryz.prog 127 #[.agg (gm e).toArray,.int .u8 (c:Int)] w λe' w'=>e'=.returned (.int .i64 (Bn e c))/\Below w w w':=by
 obtain ⟨lo,hi,to⟩:=e;have hB:Below w w (w.alloc (.cells #[.int .u8 (lo:Int),.int .u8 (hi:Int),(to:Int)] 74)):=D.alloc V _;have HB:=Y hB;clear hB;show Calls Tryz.prog _ #[.agg #[.int .u8 (lo:Int),.int .u8 (hi:Int),(to:Int)],_] w _;have HV:=Y (show Bn ⟨lo,hi,to⟩ c=if hi<c then -1 else if c<lo then 1 else 0 from rfl);by_cases h1:hi<c
 .have hd:decide ((hi:Int)<(c:Int))=true:=τ
  go_enter Tryz.func127,Tryz.ntmps127
  go_wp2_with fail;go_ret;exact ⟨aP (by rw[HV.o,if_pos h1]),HB.o⟩
 .have hd:decide ((hi:Int)<(c:Int))=false:=θ;by_cases h2:c<lo
  .have nw:decide ((c:Int)<(lo:Int))=true:=τ
   go_enter Tryz.func127,Tryz.ntmps127
   go_wp2_with fail;go_ret;exact ⟨aP (by rw[HV.o,if_neg h1,if_pos h2]),HB.o⟩
  .have nw:decide ((c:Int)<(lo:Int))=false:=θ
   go_enter Tryz.func127,Tryz.ntmps127
   go_wp2_with fail;go_ret;exact ⟨aP (by rw[HV.o,if_neg h1,if_neg h2]),HB.o⟩
def UB(r:List Ed)(c:Nat)(w:World)(e:Ending)(w':World):Prop:=∃(k:Nat) (f:Bool),e=.returned (.tuple #[(k:Int),.bool f])/\Below w w w'/\(f=true->∃e,r[k]?=some e/\bA r c=some e.to)/\(f=false->bA r c=none)
theorem FR{e:Ed}{c:Nat}:Bn e c<0↔e.hi<c:=by
 unfold Bn;split
 .simp_all
 split <;> simp_all
theorem PV{e:Ed}{c:Nat}:Bn e c=0↔e.lo<=c/\c<=e.hi:=by
 unfold Bn;split
 .constructor <;> intro h <;> first | (exfalso; revert h; decide)|omega
 .split
  .constructor <;> intro h <;> first | (exfalso; revert h; decide)|omega
  .exact ⟨λ_=>U,λ_=>rfl⟩
theorem Bo(r:List Ed)(c:Nat)(v:Value)(w:World)(h:eQ w v r)(hs:bK 0 r)(hl:r.length<=10000):
  Calls Tryz.prog 126 #[v,.int .u8 (c:Int),.func (.func 127) #[] #[]] w (UB r c w):=by
 obtain ⟨A,cp,rfl,hc,ak⟩:=h;obtain ⟨n,hn⟩:=ν r.length;have HC:=Y ak;have HS:=Y hs;have HN:=Y hn;rw[hn]at hc hl|-;clear ak hs hn
 go_enter Tryz.func126,Tryz.ntmps126
 go_wp2_with fail
 go_loopg [9,10] n (λkx s9 s10 wr=>∃lo hi:Nat,s9=.int .i64 (lo:Int)/\s10=.int .i64 (hi:Int)/\lo<=hi/\hi<=n/\hi-lo<=kx/\Hid (Below w w wr)/\
  Hid ((∀t (h:t<r.length),t<lo->r[t].hi<c)/\(∀t (h:t<r.length),hi<=t->c<=r[t].hi)))
 case atStart=>exact ⟨0,n,rfl,rfl,Nat.zero_le _,V,U,Y D,λt _ ht=>absurd ht (Nat.not_lt_zero _),λt h ht=>by have:=HN.o;omega⟩
 case round=>
  obtain ⟨lo,hi,rfl,rfl,KY,bI,hg,HB,HI⟩:=hrel;by_cases aB:lo<hi
  .have SR:(lo+hi) / 2<n:=U;have Bp:(lo+hi) / 2<r.length:=by rw[HN.o];exact SR
   obtain ⟨g,ff,rfl,Bb,bH⟩:=HC.resolve_left (by intro e;rw[e]at Bp;simp at Bp)
   obtain ⟨p0,p1,p2⟩:=bH _ Bp;obtain ⟨e,he⟩:=ν (r[(lo+hi) / 2]);rw[he]at p0 p1 p2;have q0:=(HB.cl g (ff+(lo+hi) / 2*3) Bb).t p0;have q1:=(HB.cl g (ff+(lo+hi) / 2*3+1) Bb).t p1;have q2:=(HB.cl g (ff+(lo+hi) / 2*3+2) Bb).t p2;have hdm:decide ((lo+hi) / 2<n)=true:=decide_eq_true SR;have hX:=FT e c wr;obtain ⟨x,hx⟩:=ν (Bn e c);rw[hx]at hX;have HX:=Y hX;have HE:=Y (I ((List.getElem?_eq_getElem Bp).t (congrArg some he)) hx);clear bH p0 p1 p2 Bp he hx hX;by_cases Hu:x<0
   .have hd:decide (x<0)=true:=decide_eq_true Hu;have HG:=Y Hu;clear Hu;go_wp2_with fail;refine HX.mono ?_;rintro e' w1 ⟨rfl,aM⟩;have cM:=Y (HB.t (aM.mono HB.size));clear aM;go_wp2_with fail
    go_roundg (hi - ((lo+hi) / 2+1))
    case measure=>omega
    case rel=>
     refine ⟨(lo+hi) / 2+1,hi,by rw[show ((lo:Int)+(hi:Int)) / 2+1=(((lo+hi) / 2+1:Nat):Int) by omega],rfl,U,bI,V,cM,λt h ht=>?_,HI.2⟩
     obtain ⟨h12,h3⟩:=HE.o;obtain ⟨h1,h2⟩:=List.getElem?_eq_some_iff.1 h12;have h4:=(FR (e:=e) (c:=c)).1 (by rw[h3];exact HG.o)
     have h5:=(oR HS.o t _ h h1 U).2;rw[h2]at h5;omega
   .have hd:decide (x<0)=false:=decide_eq_false Hu;have HG:=Y Hu;clear Hu;go_wp2_with fail;refine HX.mono ?_;rintro e' w1 ⟨rfl,aM⟩;have cM:=Y (HB.t (aM.mono HB.size));clear aM;go_wp2_with fail
    go_roundg ((lo+hi) / 2-lo)
    case measure=>omega
    case rel=>
     refine ⟨lo,(lo+hi) / 2,rfl,by rw[show ((lo:Int)+(hi:Int)) / 2=(((lo+hi) / 2:Nat):Int) by omega],U,U,V,cM,HI.1,λt h ht=>?_⟩
     obtain ⟨h12,h3⟩:=HE.o;obtain ⟨h1,h2⟩:=List.getElem?_eq_some_iff.1 h12;have h4:=mt (FR (e:=e) (c:=c)).2 (by rw[h3];exact Int.not_lt.2 HG.o)
     have h5:=(oR HS.o _ t h1 h ht).2;rw[h2]at h5;omega
  .obtain rfl:hi=lo:=U;have HT:Hid (bA r c=(r[hi]?).bind λe=>if e.lo<=c then some e.to else none):=KZ hi HS.o HI.1 (λh=>HI.2 hi h V) (by rw[HN.o];exact bI)
   by_cases Bq:hi<n
   .have Bp:hi<r.length:=by rw[HN.o];exact Bq
    obtain ⟨g,ff,rfl,Bb,bH⟩:=HC.resolve_left (by intro e;rw[e]at Bp;simp at Bp)
    obtain ⟨p0,p1,p2⟩:=bH _ Bp;obtain ⟨e,he⟩:=ν (r[hi]);rw[he]at p0 p1 p2;have q0:=(HB.cl g (ff+hi*3) Bb).t p0;have q1:=(HB.cl g (ff+hi*3+1) Bb).t p1;have q2:=(HB.cl g (ff+hi*3+2) Bb).t p2;have hdm:decide (hi<n)=true:=decide_eq_true Bq;have hX:=FT e c wr;obtain ⟨x,hx⟩:=ν (Bn e c);rw[hx]at hX;have HX:=Y hX;have HE:=Y (I ((List.getElem?_eq_getElem Bp).t (congrArg some he)) hx);have uJ:=HI.2 hi Bp V;rw[he]at uJ;have PW:=Y uJ;have K1:=HT.o;rw[List.getElem?_eq_getElem Bp,he,Option.bind_some]at K1;have HT3:=Y K1;clear bH p0 p1 p2 uJ K1 he Bp hx hX;go_wp2_with fail;refine HX.mono ?_;rintro e' w1 ⟨rfl,aM⟩;have cM:=Y (HB.t (aM.mono HB.size));clear aM;go_wp2_with fail;refine au λWf bG=>?_;subst bG;refine bodyPost_ret (v:=.tuple #[(hi:Int),.bool (decide (x=0))]) (by simp[results,Tryz.results126,go_sem];try rfl) rfl ?_
    have key:(x=0)↔e.lo<=c:=by rw[<-HE.2,PV];exact ⟨λh=>h.1,λh=>⟨h,PW.o⟩⟩
    refine ⟨hi,decide (x=0),rfl,cM.o,λh=>⟨e,?_,?_⟩,λh=>?_⟩
    .exact HE.1
    .rw[HT3.o,if_pos (key.1 (of_decide_eq_true h))]
    .rw[HT3.o,if_neg (mt key.2 (of_decide_eq_false h))]
   .have hdm:decide (hi<n)=false:=decide_eq_false Bq;go_wp2_with fail;refine au λWf bG=>?_;subst bG;refine bodyPost_ret (v:=.tuple #[(hi:Int),.bool false]) (by simp[results,Tryz.results126,go_sem];try rfl) rfl ?_
    exact ⟨hi,false,rfl,HB.o,λh=>(by cases h),λ_=>by rw[HT.o,List.getElem?_eq_none (by rw[HN.o];omega)];rfl⟩
def TK(m:Mc)(s c:Nat):Int:=match bA (aU m s) c with|none=>-1|some t=>(t:Int)
theorem IY(v:Value)(m:Mc)(s c:Nat)(w:World)(hm:jb w v m)(hv:jB m)(eg:iE m)(hs:s<m.ed.length):
  Calls Tryz.prog 107 #[v,.int .i64 (s:Int),.int .u8 (c:Int)] w λe w'=>e=.returned (.int .i64 (TK m s c))/\Below w w w':=by
 obtain ⟨ve,va,rfl,he,ha⟩:=hm;obtain ⟨Ae,ce,rfl,kG,tz⟩:=he.form;obtain ⟨g,f,rv,rfl,-,hg,tC,ni⟩:=he.jL hs;obtain ⟨n,hn⟩:=ν m.ed.length;have ob:s<n:=by rw[<-hn];exact hs
 have hd:decide (s<n)=true:=decide_eq_true ob;have tS:=eg.n;have fW:aU m s=m.ed[s]:=by unfold aU;rw[List.getElem?_eq_getElem hs];rfl
 have jK:=λW (h:Below w w W)=>Bo m.ed[s] c rv W (ni.later h) (hv.kE _ (List.getElem_mem hs)) (eg.rl _ (List.getElem_mem hs));have MT:=λW (h:Below w w W)=>ni.later h;rw[<-fW]at jK MT ni;obtain ⟨Ar,cr,wH,-⟩:=ni.form;subst wH;have zo:=λW (h:Below w w W)=>(h.cl g (f+s) hg).t tC;obtain ⟨row,aC⟩:∃r,aU m s=r:=⟨_,rfl⟩;have HV:Hid (TK m s c=match bA row c with|none=>-1|some t=>(t:Int)):=by rw[<-aC];rfl
 rw[aC]at jK MT zo tC;obtain ⟨nr,uu⟩:∃n,row.length=n:=⟨_,rfl⟩;rw[uu]at jK MT zo tC;rw[hn]at kG|-;have HB:=Y jK;have HE:=Y MT;have HG:=Y zo;clear jK MT zo ni he ha hv aC fW hs eg hn;have hb0:Below w w (w.alloc (.cells #[.slice (Z g f) n ce,va] 35)):=D.alloc V _;have oz:=HG _ hb0;have dA:=Y hb0;clear hb0 tC
 go_enter Tryz.func107,Tryz.ntmps107
 go_wp2_with fail;refine (HB _ dA.o).mono ?_;rintro e w1 ⟨k,q,rfl,aM,ht,hf⟩;have du:=dA.t (aM.mono H);have hX:=hf
 cases q with
 |false=>
  have HT:=Y (I (hf rfl) du);clear ht hf du aM hX;go_wp2_with fail;go_ret;exact ⟨aP (by rw[HV.o,HT.1]),HT.2⟩
 |true=>
  obtain ⟨ed,hk,htr⟩:=ht rfl;have hel:=HE _ du;obtain ⟨A2,c2,e2,jD,h2⟩:=hel;injection e2 with Kq YX YY;obtain ⟨aV,hke⟩:=List.getElem?_eq_some_iff.1 hk;obtain ⟨g2,f2,e3,dZ,bH⟩:=h2.resolve_left (by intro e;rw[e]at aV;simp at aV)
  obtain ⟨-,-,p2⟩:=bH k aV;rw[hke]at p2;obtain rfl:=Kq.t e3;have ai3:k<nr:=U;have jC:decide (k<nr)=true:=decide_eq_true ai3;have arY:decide ((k:Int)<(nr:Int))=true:=τ;have HT:=Y (I htr du);obtain ⟨to,jM⟩:∃x,ed.to=x:=⟨_,rfl⟩;rw[jM]at p2;have Yo:=Y jM;clear ht hf du aM hX hk h2 bH hke htr jM aV Kq e3 YX YY jD uu;go_wp2_with fail;go_ret;exact ⟨aP (by rw[HV.o,HT.1,<-Yo.o]),HT.2⟩
section
open Go.Maps (Keyed)
def qv(c:Option Nat):List Value:=[.int .i64 (FX c)]
theorem FY:p4 qv 1:=⟨O,λ_=>rfl,λx u hu=>by simp[qv]at hu;subst hu;rfl⟩
theorem ua(o:List (Option Nat)):a8 qv o=o.map λc=>.int .i64 (FX c):=by
 unfold a8
 induction o with
 |nil=>rfl
 |cons b r ih=>simp only[List.map_cons,List.flatten_cons,ih];rfl
theorem xe.eu{w:World}{B:Nat}{v:Value}{l:List (Option Nat)}(h:OR 3 1 qv B v l w):xe w v l:=by
 obtain ⟨A,c,e,hc,dt⟩:=h.cells FY;have tY:c<=9223372036854775807:=by
  obtain ⟨A',c',e',-,h'⟩:=ae (show w.ownsRow _ _ _ _ _ _ from h);rw[e]at e';injection e' with _ _ e3;rw[e3];exact h'
 refine ⟨A,c,e,⟨hc,tY⟩,dt.imp id ?_⟩;rintro ⟨g,h1,-,hg,ak⟩;refine ⟨g,0,h1,hg,λi hi=>?_⟩;have:=(ak i hi 0 O).1;rw[Nat.mul_one,Nat.add_zero]at this;rw[Nat.zero_add,this];rfl
theorem OR.xg{B g n c:Nat}{o:List (Option Nat)}{w:World}(h:OR 3 1 qv B (.slice (Z g 0) n c) o w)(hn:o.length=n)(s:Nat)(x:Option Nat):OR 3 1 qv B (.slice (Z g 0) n c) (o.set s x) (w.setCell (Z g s) (.int .i64 (FX x))):=by
 have h1:w.ownsRow B 3 1 (.slice (Z g 0) n c) n (a8 qv o):=by have:=h;unfold OR at this;rwa [hn]at this
 have h2:=(h1.stored s (.int .i64 (FX x))).1;show World.ownsRow _ _ _ _ _ _ _;rw[List.length_set,hn,ua,List.map_set];rw[ua]at h2;exact h2
theorem ig(w:World)(n:Nat)(hn:n<=1000000):OR 3 1 qv w (.slice (Z w 0) n n) (List.replicate n (some 0)) (w.alloc (.cells (Array.replicate n (.int .i64 0)) 3)):=by
 refine ⟨by rw[ua];simp,.inr ⟨w.heap.size,n,Array.replicate n (.int .i64 0),H,V,heap_alloc_new w _,H,by unfold maxLen;omega,H,?_⟩⟩
 rw[ua,List.length_replicate];simp[FX]
theorem uO(n:Nat)(hn:n<=1000000)(w:World):(Instr.makeSlice 22 (.int .i64 (n:Int)) (.int .i64 (n:Int))).run Tryz.prog w=.ok (.slice (Z w 0) n n) (w.alloc (.cells (Array.replicate n (.int .i64 0)) 3)):=by
 obtain ⟨i0,hi,dY,dh,cT⟩:=info_parts dF;have h:=run_makeSlice (P:=Tryz.prog) (w:=w) 22 3 i0 (.int .i64 0) Tryz.underlying22 hi dY .i64 .i64 (n:Int) (n:Int) U (Int.le_refl _) (by rw[dh];omega) (by rw[cT];omega) U
 rw[dh,Int.toNat_natCast]at h;rw[show madeCells (Value.int IntKind.i64 0).cells (n*1)=Array.replicate n (.int .i64 0) from Array.toList_inj.1 (by
  simp only[madeCells,Value.cells,Nat.mul_one,Array.toList_map,Array.toList_range,Array.toList_replicate];rw[List.eq_replicate_iff];refine ⟨H,λx hx=>?_⟩;obtain ⟨i,-,rfl⟩:=List.mem_map.1 hx;simp[Nat.mod_one])]at h
 exact h
def MN(P:Program)(k:TypeId)(b n:Nat)(f:Lit->Option Value)(w:World):Prop:=
 ∃awP:DataW Value,w.ownsMap P k pJ b n awP/\Maps.size awP=n/\∀x,WideAt.IsKeyLit x->(∀z,awP.atKey x z=match f x with|none=>z|some v=>.held v)/\Maps.has awP x=(f x).isSome
theorem MN.mv{P:Program}{k:TypeId}{b n:Nat}{f:Lit->Option Value}{w:World}(h:MN P k b n f w):MV P k b n f w:=by
 obtain ⟨awP,h1,-,h3⟩:=h;exact ⟨awP,h1,h3⟩
theorem MN.made(P:Program)(k:TypeId)(w:World):MN P k w 0 (λ_=>none) (w.alloc (.map #[] 0)):=
 ⟨_,World.ownsMap_made w P k pJ,rfl,λx _=>⟨λz=>rfl,rfl⟩⟩
theorem MN.iJ{P:Program}{k:TypeId}{b n:Nat}{f:Lit->Option Value}{w w':World}(h:MN P k b n f w)(hb:w'.heap[b]?=w.heap[b]?):MN P k b n f w':=by
 obtain ⟨awP,⟨es,c,h1,h2⟩,h3⟩:=h;exact ⟨awP,⟨es,c,hb.t h1,h2⟩,h3⟩
theorem MN.put{P:Program}{k e t:TypeId}{b n:Nat}{f:Lit->Option Value}{w:World}(h:MN P k b n f w)(K:Keyed P k)(ht:P.underlying t=some (.map k e))(hn:n<maxLen){key:Value}{x:Lit}(jq:keyOf P k key=some x)(hx:WideAt.IsKeyLit x)(v:Value)(ew:f x=none):
  ∃w',(Instr.mapUpdate t (.map (some b)) key v).run P w=.ok () w'/\MN P k b (n+1) (je f x (some v)) w'/\w.grownBy w' (some b):=by
 obtain ⟨awP,h1,hs,h2⟩:=h;obtain ⟨w',hr,h3,h4⟩:=h1.update K ht hn jq (show pJ v=some (.held v,[]) from rfl);have hD:Maps.IsMap awP:=h1.isMap;refine ⟨w',hr,⟨_,h3,?_,λy hy=>?_⟩,h4⟩
 .rw[Maps.size_put (h1.tidy K),(h2 x hx).2,ew,hs];rfl
 .unfold je;by_cases e:y=x
  .subst e;rw[if_pos (WideAt.sameKey_self hx)];exact ⟨λz=>Maps.atKey_put_same hD hx _ _,Maps.has_put_same hD hx _⟩
  .rw[if_neg (λh=>e (WideAt.sameKey_eq h))];exact ⟨λz=>by rw[Maps.atKey_put_other e];exact (h2 y hy).1 z,by rw[Maps.has_put_other e];exact (h2 y hy).2⟩
theorem kL{P:Program}(w:World){ops:Array Oper}{rest:List Oper}{o:Oper}{a:Act}{Q:Exit->Act->World->Prop}
  (hg:o.guard=none) (m x v:Operand) (t:TypeId) (jE:o.op=Op.mapUpdate t m x v) (k e:TypeId) (K:Keyed P k) (ht:P.underlying t=some (.map k e)) (b n:Nat) (f:Lit->Option Value)
  (hm:a.eval m=.map (some b)) (h:MN P k b n f w) (hn:n<maxLen) (key b8:Value) (kl:Lit) (hx:a.eval x=key) (hv:a.eval v=b8) (jq:keyOf P k key=some kl) (aV:WideAt.IsKeyLit kl) (ew:f kl=none)
  (hK:∀w',MN P k b (n+1) (je f kl (some b8)) w'->w.grownBy w' (some b)->wpList P ops Q rest (a.put o.dst undef) w') :
  wpList P ops Q (o::rest) a w:=by
 refine wpList_plain hg λK' gz=>?_;obtain ⟨w',Lf,r1,r2⟩:=h.put K ht hn jq aV b8 ew;unfold Oper.wp;simp[execOp,jE,hm,hx,hv,Lf,Result.andThen];exact gz _ _ (hK w' r1 r2)
theorem eC{P:Program}{w:World}{ops:Array Oper}{rest:List Oper}{o:Oper}{a:Act}{Q:Exit->Act->World->Prop}(hg:o.guard=none)(m:Operand)(t:TypeId)(jE:o.op=Op.call { callee:=Callee.builtin Builtin.len,args:=#[m],argTypes:=#[t] })
  (k e:TypeId) (ht:P.underlying t=some (.map k e)) (b n:Nat) (f:Lit->Option Value) (hm:a.eval m=.map (some b)) (h:MN P k b n f w)
  (hK:wpList P ops Q rest (a.put o.dst (.int .i64 (n:Int))) w):wpList P ops Q (o::rest) a w:=by
 obtain ⟨awP,h1,h2,-⟩:=h;refine wpList_len_own w hg m t jE k e ht pJ b n awP hm h1 ?_;rw[h2];exact hK
def AH(m:Mc)(cs:List (Option Nat))(s:Nat):Bool×List Ed:=ot m (cY cs) s
def Hv(seen:List (Bool×List Ed))(x:Bool×List Ed):Option Value:=if x∈seen then some (.int .i64 ((seen.idxOf x:Nat):Int)) else none
def uP(F:Lit->Option Value)(seen:List (Bool×List Ed)):Prop:=∀x:Bool×List Ed,F (.string (pK x.1 x.2))=Hv seen x
theorem dB{α:Type}[BEq α][LawfulBEq α]{l:List α}{x:α}(h:x∈l):l.idxOf x<l.length/\l[l.idxOf x]?=some x:=by
 have h1:=List.idxOf_lt_length_of_mem h;exact ⟨h1,by rw[List.getElem?_eq_getElem h1,List.getElem_idxOf]⟩
theorem uP.nil:uP (λ_=>none) []:=λx=>rfl
theorem uP.put{F:Lit->Option Value}{seen:List (Bool×List Ed)}(h:uP F seen)(x:Bool×List Ed)(hx:x∉seen)(n:Int)(hn:n=(seen.length:Int)):uP (je F (.string (pK x.1 x.2)) (some (.int .i64 n))) (seen++[x]):=by
 intro y;subst hn;unfold je;by_cases e:y=x
 .subst e;rw[if_pos (by simp[Lit.sameKey])]
  unfold Hv;rw[if_pos H,List.idxOf_append,if_neg hx];simp
 .rw[if_neg (by
   simp only[Lit.sameKey,beq_iff_eq];intro he;obtain ⟨h1,h2⟩:=Hw he;exact e (Prod.ext h1 h2)),h y]
  unfold Hv;by_cases hy:y∈seen
  .rw[if_pos hy,if_pos (by simp[hy]),List.idxOf_append,if_pos hy]
  .rw[if_neg hy,if_neg (by simp[hy,e])]
structure kh (m:Mc) (cs ds:List (Option Nat)) (seen:List (Bool×List Ed)) (k:Nat):Prop where
 len:ds.length=m.ed.length
 nd:seen.Nodup
 eJ:∀s,s<k->cY cs s=none->cY ds s=none
 live:∀s,s<k->cY cs s≠none->AH m cs s∈seen/\cY ds s=some (seen.idxOf (AH m cs s))
 Lh:∀x∈seen,∃s,s<k/\cY cs s≠none/\AH m cs s=x
theorem kh.start{m:Mc}{cs:List (Option Nat)}(ds:List (Option Nat))(h:ds.length=m.ed.length):kh m cs ds [] 0:=⟨h,List.nodup_nil,λs hs=>absurd hs (Nat.not_lt_zero _),λs hs=>absurd hs (Nat.not_lt_zero _),λx hx=>by cases hx⟩
theorem oS{ds:List (Option Nat)}{k:Nat}{x:Option Nat}(hk:k<ds.length)(s:Nat):cY (ds.set k x) s=if s=k then x else cY ds s:=by
 unfold cY;rw[List.getElem?_set];by_cases h:s=k
 .subst h;rw[if_pos rfl,if_pos rfl,if_pos hk];rfl
 .rw[if_neg (Ne.symm h),if_neg h]
section
variable {m:Mc} {cs ds:List (Option Nat)} {seen:List (Bool×List Ed)} {k:Nat}
theorem kh.none_(h:kh m cs ds seen k)(hk:k<m.ed.length)(hc:cY cs k=none):kh m cs (ds.set k none) seen (k+1):=by
 have hl:k<ds.length:=by rw[h.len];exact hk
 refine ⟨by rw[List.length_set];exact h.len,h.nd,λs hs bH=>?_,λs hs bH=>?_,λx hx=>?_⟩
 .rw[oS hl];by_cases e:s=k
  .rw[if_pos e]
  .rw[if_neg e];exact h.eJ s U bH
 .rw[oS hl];by_cases e:s=k
  .subst e;exact absurd hc bH
  .rw[if_neg e];exact h.live s U bH
 .obtain ⟨s,h1,h2,h3⟩:=h.Lh x hx;exact ⟨s,U,h2,h3⟩
theorem kh.Li(h:kh m cs ds seen k)(hk:k<m.ed.length)(hc:cY cs k≠none)(bI:AH m cs k∈seen):kh m cs (ds.set k (some (seen.idxOf (AH m cs k)))) seen (k+1):=by
 have hl:k<ds.length:=by rw[h.len];exact hk
 refine ⟨by rw[List.length_set];exact h.len,h.nd,λs hs bH=>?_,λs hs bH=>?_,λx hx=>?_⟩
 .rw[oS hl];by_cases e:s=k
  .subst e;exact absurd bH hc
  .rw[if_neg e];exact h.eJ s U bH
 .rw[oS hl];by_cases e:s=k
  .subst e;rw[if_pos rfl];exact ⟨bI,rfl⟩
  .rw[if_neg e];exact h.live s U bH
 .obtain ⟨s,h1,h2,h3⟩:=h.Lh x hx;exact ⟨s,U,h2,h3⟩
theorem kh.new(h:kh m cs ds seen k)(hk:k<m.ed.length)(hc:cY cs k≠none)(bI:AH m cs k∉seen):kh m cs (ds.set k (some seen.length)) (seen++[AH m cs k]) (k+1):=by
 have hl:k<ds.length:=by rw[h.len];exact hk
 refine ⟨by rw[List.length_set];exact h.len,?_,λs hs bH=>?_,λs hs bH=>?_,λx hx=>?_⟩
 .rw[List.nodup_append];exact ⟨h.nd,H,λx hx y hy=>by rw[List.mem_singleton]at hy;subst hy;rintro rfl;exact bI hx⟩
 .rw[oS hl];by_cases e:s=k
  .subst e;exact absurd bH hc
  .rw[if_neg e];exact h.eJ s U bH
 .rw[oS hl];by_cases e:s=k
  .subst e;rw[if_pos rfl,List.idxOf_append,if_neg bI];simp
  .rw[if_neg e];obtain ⟨h1,h2⟩:=h.live s U bH;exact ⟨List.mem_append_left _ h1,by rw[h2,List.idxOf_append,if_pos h1]⟩
 .rcases List.mem_append.1 hx with hx|hx
  .obtain ⟨s,h1,h2,h3⟩:=h.Lh x hx;exact ⟨s,U,h2,h3⟩
  .rw[List.mem_singleton]at hx;exact ⟨k,U,hc,hx.symm⟩
structure ou (m:Mc) (cs:List (Option Nat)) (kn:Nat):Prop where
 len:cs.length=m.ed.length
 cl:uQ m (cY cs)
 kn:kn=0\/(∀c,c<kn↔∃s,s<m.ed.length/\cY cs s=some c)
 lt:∀s c,cY cs s=some c->c<m.ed.length
theorem mz{m:Mc}{c:Nat->Option Nat}(h:uQ m c){s:Nat}(hs:s<m.ed.length):c s≠none↔aW m s:=by
 constructor
 .intro hn;by_cases hl:aW m s
  .exact hl
  .exact absurd ((h.eJ s hs).2 hl) hn
 .intro hl hn;exact (h.eJ s hs).1 hn hl
theorem Bs(h:kh m cs ds seen m.ed.length):seen.length<=m.ed.length:=by
 have h1:(List.range m.ed.length).length=m.ed.length:=List.length_range;have:=gH (l:=seen) (r:=(List.range m.ed.length).map (AH m cs)) h.nd (λx hx=>by
  obtain ⟨s,h1,-,h3⟩:=h.Lh x hx;exact List.mem_map.2 ⟨s,List.mem_range.2 h1,h3⟩)
 simpa using this
theorem kh.Lj(h:kh m cs ds seen m.ed.length)(hh:uQ m (cY cs)):Lk m (cY cs) (cY ds):=by
 refine ⟨λs hs=>?_,λs t hs ht h1 h2=>?_⟩
 .rw[<-hh.eJ s hs];constructor
  .intro hd;by_cases hc:cY cs s=none
   .exact hc
   .rw[(h.live s hs hc).2]at hd;cases hd
  .exact h.eJ s hs
 .obtain ⟨a1,a2⟩:=h.live s hs ((mz hh hs).2 h1);obtain ⟨b1,b2⟩:=h.live t ht ((mz hh ht).2 h2);rw[a2,b2];constructor
  .intro he;injection he with he;have e1:=(dB a1).2;have e2:=(dB b1).2;rw[he,e2]at e1;exact (Option.some.inj e1).symm
  .intro he;show some (seen.idxOf (ot m (cY cs) s))=some (seen.idxOf (ot m (cY cs) t));rw[he]
theorem zd(h:kh m cs ds seen m.ed.length)(y:Nat):y<seen.length↔∃s,s<m.ed.length/\cY ds s=some y:=by
 constructor
 .intro hy;obtain ⟨s,h1,h2,h3⟩:=h.Lh seen[y] (List.getElem_mem hy);refine ⟨s,h1,?_⟩;rw[(h.live s h1 h2).2,h3,h.nd.idxOf_getElem y hy]
 .rintro ⟨s,hs,hd⟩;by_cases hc:cY cs s=none
  .rw[h.eJ s hs hc]at hd;cases hd
  .obtain ⟨h1,h2⟩:=h.live s hs hc;rw[h2]at hd;injection hd with hd;rw[<-hd];exact (dB h1).1
theorem ou.count{kn:Nat}(hh:ou m cs kn)(h:kh m cs ds seen m.ed.length):kn<=seen.length/\(kn=seen.length->∀s t,s<m.ed.length->t<m.ed.length->aW m s->aW m t->cY cs s=cY cs t->cY ds s=cY ds t):=by
 have hn:=h.Lj hh.cl;rcases hh.kn with h0|hp
 .subst h0;refine ⟨Nat.zero_le _,λhe s t hs ht hl _ _=>?_⟩;have:=(h.live s hs ((mz hh.cl hs).2 hl)).1;rw[List.length_eq_zero_iff.1 he.symm]at this
  cases this
 .have hS:∀s,s∈(List.range m.ed.length).filter (λs=>(cY cs s).isSome)↔s<m.ed.length/\cY cs s≠none:=λs=>by
   rw[List.mem_filter,List.mem_range,Option.isSome_iff_ne_none]
  have PZ:∀s,s<m.ed.length->cY cs s≠none->∃y,cY ds s=some y:=λs hs hc=>⟨_,(h.live s hs hc).2⟩;have Dd:=qJ (S:=(List.range m.ed.length).filter λs=>(cY cs s).isSome) (f:=λs=>(cY cs s).getD 0) (g:=λs=>(cY ds s).getD 0) (F:=List.range kn) (G:=List.range seen.length) List.nodup_range
   (λx=>by
    rw[List.mem_range,hp x];constructor
    .rintro ⟨s,h1,h2⟩;exact ⟨s,(hS s).2 ⟨h1,by rw[h2];simp⟩,by simp only[h2,Option.getD_some]⟩
    .rintro ⟨s,h1,h2⟩;obtain ⟨h3,h4⟩:=(hS s).1 h1;refine ⟨s,h3,?_⟩
     cases hc:cY cs s with
     |none=>exact absurd hc h4
     |some c=>simp only[hc,Option.getD_some]at h2;rw[h2])
   (λy=>by
    rw[List.mem_range,zd h y];constructor
    .rintro ⟨s,h1,h2⟩;have hc:cY cs s≠none:=λhc=>by rw[h.eJ s h1 hc]at h2;cases h2
     exact ⟨s,(hS s).2 ⟨h1,hc⟩,by simp only[h2,Option.getD_some]⟩
    .rintro ⟨s,h1,h2⟩;obtain ⟨h3,h4⟩:=(hS s).1 h1;obtain ⟨y',hy'⟩:=PZ s h3 h4;simp only[hy',Option.getD_some]at h2;exact ⟨s,h3,by rw[hy',h2]⟩)
   (λs hs t ht he=>by
    obtain ⟨s1,s2⟩:=(hS s).1 hs;obtain ⟨t1,t2⟩:=(hS t).1 ht;obtain ⟨ys,ZL⟩:=PZ s s1 s2;obtain ⟨yt,ZM⟩:=PZ t t1 t2;simp only[ZL,ZM,Option.getD_some]at he;have hd:cY ds s=cY ds t:=by rw[ZL,ZM,he]
    have ls:=(mz hh.cl s1).1 s2;have lt:=(mz hh.cl t1).1 t2;have:=hh.cl.ZN s t s1 t1 ls lt ((hn.eq s t s1 t1 ls lt).1 hd);simp only[this])
  simp only[List.length_range]at Dd;refine ⟨Dd.1,λhe s t hs ht ls lt hc=>?_⟩;have s2:=(mz hh.cl hs).2 ls;have t2:=(mz hh.cl ht).2 lt;have:=Dd.2 he s ((hS s).2 ⟨hs,s2⟩) t ((hS t).2 ⟨ht,t2⟩) (by simp only[hc])
  obtain ⟨ys,ZL⟩:=PZ s hs s2;obtain ⟨yt,ZM⟩:=PZ t ht t2;simp only[ZL,ZM,Option.getD_some]at this;rw[ZL,ZM,this]
theorem kh.ZO(h:kh m cs ds seen m.ed.length):∀s c,cY ds s=some c->c<m.ed.length:=λs c hc=>by
 have hs:s<m.ed.length:=by
  by_cases hs:s<ds.length
  .rw[h.len]at hs;exact hs
  .unfold cY at hc;rw[List.getElem?_eq_none U]at hc;cases hc
 have:=(zd h c).2 ⟨s,hs,hc⟩;have:=Bs h;omega
theorem ou.done{kn:Nat}(hv:jB m)(hh:ou m cs kn)(h:kh m cs ds seen m.ed.length)(he:seen.length=kn):sT m (cY ds):=hh.cl.done hv (h.Lj hh.cl) ((hh.count h).2 he.symm)
theorem ou.next{kn:Nat}(hv:jB m)(hh:ou m cs kn)(h:kh m cs ds seen m.ed.length)(he:seen.length≠kn):ou m ds seen.length/\kn<seen.length/\seen.length<=m.ed.length:=by
 have h1:=(hh.count h).1;exact ⟨⟨h.len,hh.cl.next hv (h.Lj hh.cl),.inr (zd h),h.ZO⟩,U,Bs h⟩
end
def eK(o:List Bool)(k n:Nat):List (Option Nat):=(List.range n).map λs=>if s<k/\o[s]?=some false then none else some 0
theorem Bt(o:List Bool)(n:Nat):eK o 0 n=List.replicate n (some 0):=by
 unfold eK;rw[List.eq_replicate_iff];refine ⟨H,λx hx=>?_⟩;obtain ⟨s,-,rfl⟩:=List.mem_map.1 hx;rw[if_neg U]
theorem ij(o:List Bool)(k n:Nat):(eK o k n).length=n:=by simp[eK]
theorem Bu{o:List Bool}{k n:Nat}(h:o[k]?=some true):eK o (k+1) n=eK o k n:=by
 unfold eK;refine List.map_congr_left λs _=>?_;by_cases e:s=k
 .subst e;rw[h];simp
 .congr 1
  simp only[eq_iff_iff];constructor <;> (rintro ⟨h1,h2⟩; exact ⟨U,h2⟩)
theorem uR(o:List Bool)(k n s:Nat)(h:s<n):(eK o k n)[s]?=some (if s<k/\o[s]?=some false then none else some 0):=by
 unfold eK;rw[List.getElem?_map,List.getElem?_range h];rfl
theorem ze{o:List Bool}{k n:Nat}(h:o[k]?=some false):eK o (k+1) n=(eK o k n).set k none:=by
 apply List.ext_getElem?;intro s;by_cases hs:s<n
 .rw[uR o (k+1) n s hs,List.getElem?_set];by_cases e:k=s
  .subst e;rw[if_pos ⟨U,h⟩,if_pos rfl,if_pos (by rw[ij];exact hs)]
  .rw[if_neg e,uR o k n s hs];by_cases hx:s<k/\o[s]?=some false
   .rw[if_pos hx,if_pos ⟨U,hx.2⟩]
   .rw[if_neg hx,if_neg (λh=>hx ⟨U,h.2⟩)]
 .rw[List.getElem?_eq_none (by rw[ij];omega),List.getElem?_eq_none (by rw[List.length_set,ij];omega)]
theorem rX{o:List Bool}{n s:Nat}(ho:o.length=n):cY (eK o n n) s=if o[s]?=some true then some 0 else none:=by
 unfold cY eK;rw[List.getElem?_map];by_cases hs:s<n
 .rw[List.getElem?_range hs];simp only[Option.map_some,Option.getD_some];have hl:s<o.length:=U;rw[List.getElem?_eq_getElem hl]
  cases o[s] <;> simp[hs]
 .rw[List.getElem?_eq_none ψ,List.getElem?_eq_none U];simp
theorem ou.first{m:Mc}{o:List Bool}(ho:o.length=m.ed.length)(h:∀s,s<m.ed.length->(o[s]?=some true↔aW m s))(h1:1<=m.ed.length):ou m (eK o m.ed.length m.ed.length) 0:=by
 refine ⟨ij _ _ _,uQ.start _ (λs hs=>?_) (λs hs hl=>?_),.inl rfl,λs c hc=>?_⟩
 .rw[rX ho,<-h s hs];by_cases hx:o[s]?=some true <;> simp[hx]
 .rw[rX ho,if_pos ((h s hs).2 hl)]
 .rw[rX ho]at hc;split at hc
  .injection hc with hc;omega
  .cases hc
end
def Ll(m:Mc)(n:Nat)(w:World)(e:Ending)(w':World):Prop:=∃rv cs,e=.returned rv/\OR 3 1 qv w rv cs w'/\Below w w w'/\cs.length=n/\sT m (cY cs)/\∀s c,cY cs s=some c->c<n
theorem OR.JZ{e:TypeId}{B g c n:Nat}{o:List (Option Nat)}{w:World}(h:OR e 1 qv B (.slice (Z g 0) n c) o w):g<w:=by
 exact (World.ownsRow.lt h g rfl).2
theorem OR.gY{B g c n:Nat}{o:List (Option Nat)}{w:World}(h:OR 3 1 qv B (.slice (Z g 0) n c) o w)(s:Nat)(hs:s<o.length):w.cell? (Z g s)=some (.int .i64 (FX (cY o s)))/\w.frozen? (Z g s)=false:=by
 obtain ⟨A,c',e,-,dt⟩:=h.cells FY;obtain ⟨g',hA,-,hg,nZ⟩:=dt.resolve_left (by rintro rfl;cases hs)
 injection e with e1 _ _;rw[hA]at e1;injection e1 with e1;injection e1 with e1;subst e1;have:=nZ s hs 0 O;rw[Nat.mul_one,Nat.add_zero]at this;refine ⟨?_,this.2⟩;rw[this.1];unfold cY;rw[List.getElem?_eq_getElem hs];rfl
end Go.Proofs.YthamegenljmgmaaGreatDoor
