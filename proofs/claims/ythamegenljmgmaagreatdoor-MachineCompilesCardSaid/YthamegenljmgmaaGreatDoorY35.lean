/- Walks. -/
import Derived.Test.YthamegenljmgmaaGreatDoorY28
import Derived.Test.YthamegenljmgmaaGreatDoorY11
import Derived.Test.YthamegenljmgmaaGreatDoorY34
import Derived.Deep.CutBlock
set_option maxRecDepth 100000
set_option maxHeartbeats 16000000
set_option linter.unusedVariables false
set_option linter.unusedSimpArgs false
namespace Go.Proofs.YthamegenljmgmaaGreatDoor
open Go.RowKit
structure N5 where
 op:Int
 a1:Option Addr
 n1:Nat
 c1:Nat
 a2:Option Addr
 n2:Nat
 c2:Nat
 mn:Int
 mx:Int
def N5.cs(u:N5):List Value:=[.int .i64 u.op,.slice u.a1 u.n1 u.c1,.slice u.a2 u.n2 u.c2,.int .i64 u.mn,.int .i64 u.mx]
theorem ab9:p4 N5.cs 5:=⟨O,λ_=>rfl,λx u hu=>by
 simp only[N5.cs,List.mem_cons,List.not_mem_nil,or_false]at hu;rcases hu with rfl|rfl|rfl|rfl|rfl <;> rfl⟩
theorem Rj:(Tryz.prog.info? 26).map (λi=>(i.zero,i.size,i.bytes))=some (some (.agg #[(0:Int),(),(),(0:Int),(0:Int)]),5,72):=R
def Pc:Nat->Nd->Prop
 |0,nd=>∃rs,rs∈qW/\nd=.mk 1 rs [] 0 0
 |d+1,nd=>(∃rs,rs∈qW/\nd=.mk 1 rs [] 0 0)\/
  (∃op kids,(op=2\/op=3)/\nd=.mk op [] kids 0 0/\2<=kids.length/\kids.length<=3/\∀k∈kids,Pc d k/\k.op≠op)\/
  (∃k mn mx,nd=.mk 4 [] [k] mn mx/\0<=mn/\mn<=mx/\1<=mx/\mx<=4/\¬(mn=1/\mx=1)/\Pc d k)
theorem Pc.set{rs:List (Nat×Nat)}(h:rs∈qW):∀d,Pc d (.mk 1 rs [] 0 0)
 |0=>⟨rs,h,rfl⟩
 |_+1=>.inl ⟨rs,h,rfl⟩
def kU(B:Nat)(w:World)(vs:List Value)(nd:Nd):Prop:=∀W,ab (List.range B) [] w W->bY W nd vs
theorem um(L:List Nat)(w:World):ab L [] w w:=⟨rfl,rfl,rfl,V,λ_ _ _=>rfl,λk hk=>by cases hk⟩
theorem kU.in_{B:Nat}{w:World}{vs:List Value}{nd:Nd}(h:kU B w vs nd):bY w nd vs:=h w (um _ _)
theorem kU.mono{B B':Nat}{w:World}{vs:List Value}{nd:Nd}(h:kU B w vs nd)(hB:B'<=B):kU B' w vs nd:=λw' hk=>
 h w' ⟨hk.os,hk.tape,hk.output,hk.size,λk h1 hn=>hk.aq k h1 λhm=>hn (List.mem_range.2 (by have:=List.mem_range.1 hm;omega)),λk hk=>by cases hk⟩
theorem kU.keep{B:Nat}{w w':World}{vs:List Value}{nd:Nd}{L L':List Nat}(h:kU B w vs nd)(hk:ab L L' w w')(hL:∀k∈L,k<B):kU B w' vs nd:=λw2 bE=>
 h w2 ⟨bE.os.t hk.os,bE.tape.t hk.tape,bE.output.t hk.output,Nat.le_trans hk.size bE.size,λk h1 hn=>(bE.aq k (Nat.lt_of_lt_of_le h1 hk.size) hn).t (hk.aq k h1 λhm=>hn (List.mem_range.2 (hL k hm))),λk hk=>by cases hk⟩
theorem kU.set{B:Nat}{w:World}{v:Value}{rs:List (Nat×Nat)}(h:II B w v rs):kU B w [.int .i64 1,v,.slice none 0 0,.int .i64 0,.int .i64 0] (.mk 1 rs [] 0 0):=λW hk=>
 ⟨v,.slice none 0 0,rfl,h W hk,none,0,rfl,⟨V,O⟩,.inl rfl⟩
theorem kU.kids{B:Nat}{w:World}{us:List N5}{kids:List Nd}{A:Option Addr}{n c:Nat}(ao:OR 26 5 N5.cs B (.slice A n c) us w)(hl:us.length=kids.length)(h:∀i (h1:i<us.length) (h2:i<kids.length),kU B w us[i].cs kids[i])(op mn mx:Int):
  kU B w [.int .i64 op,.slice none 0 0,.slice A n c,.int .i64 mn,.int .i64 mx] (.mk op [] kids mn mx):=by
 obtain ⟨A',c',e,-,dt⟩:=ao.cells ab9;obtain ⟨A2,c2,e4,kr,jD⟩:=ae (show w.ownsRow _ _ _ _ _ _ from ao);injection e with e1 e2 e3;injection e4 with e5 e6 e7;subst e1 e2 e3 e7;have hc:=I kr jD;intro W hk;refine ⟨_,_,rfl,⟨none,0,rfl,⟨V,O⟩,.inl rfl⟩,A,c,by rw[hl],by rw[<-hl];exact hc,?_⟩
 by_cases h0:kids=[]
 .exact .inl h0
 .have hlen:0<us.length:=by rw[hl];exact List.length_pos_iff.2 h0
  obtain ⟨g,rfl,hgB,hg,dj⟩:=dt.resolve_left (λe=>by rw[e]at hlen;simp at hlen)
  refine .inr ⟨g,0,rfl,Nat.lt_of_lt_of_le hg hk.size,eS.mk λi hi=>?_⟩;have ek:i<us.length:=U;refine ⟨us[i].cs,λj hj=>?_,h i ek hi W hk⟩;rw[Nat.zero_add,χ g (i*5+j) (hk.aq g hg (λhm=>by have:=List.mem_range.1 hm;omega))]
  exact (dj i ek j hj).1
theorem Cw{w Wf:World}{b:Nat}{a0 a1 a2 a3 a4:Value}(h:Wf=((((w.setCell (Z b 0) a0).setCell (Z b 1) a1).setCell (Z b 2) a2).setCell (Z b 3) a3).setCell (Z b 4) a4):(∀k,k≠b->Wf.heap[k]?=w.heap[k]?)/\Wf.heap.size=w/\(Wf.os=w.os/\Wf.tape=w.tape/\Wf.output=w.output)/\
  ∀{o0 o1 o2 o3 o4:Value} {T:TypeId},w.heap[b]?=some (.cells #[o0,o1,o2,o3,o4] T (0,0))->Wf.heap[b]?=some (.cells #[a0,a1,a2,a3,a4] T (0,0)):=by
 subst h;refine ⟨λk hk=>?_,by simp[World.setCell],⟨rfl,rfl,rfl⟩,λ{o0 o1 o2 o3 o4 T} hb=>?_⟩
 .exact (Below.heap_setCell _ (Z b 4) _ k hk).t ((Below.heap_setCell _ (Z b 3) _ k hk).t ((Below.heap_setCell _ (Z b 2) _ k hk).t ((Below.heap_setCell _ (Z b 1) _ k hk).t (Below.heap_setCell _ (Z b 0) _ k hk))))
 .have:=aE (aE (aE (aE (aE hb 0 a0) 1 a1) 2 a2) 3 a3) 4 a4;simpa using this
def Cx(L:List Nat)(w:World)(vs:List Value)(nd:Nd):Prop:=∀W,ab L [] w W->bY W nd vs
theorem Cx.next{L L':List Nat}{w w':World}{vs:List Value}{nd:Nd}(h:Cx L w vs nd)(hk:ab L [] w w')(hs:∀k∈L',k∈L\/w.heap.size<=k):Cx L' w' vs nd:=λW hW=>
 h W ⟨hW.os.t hk.os,hW.tape.t hk.tape,hW.output.t hk.output,Nat.le_trans hk.size hW.size,λk h1 hn=>(hW.aq k (Nat.lt_of_lt_of_le h1 hk.size) λhm=>(hs k hm).elim hn (λh2=>U)).t (hk.aq k h1 hn),λk hk=>by cases hk⟩
theorem EJ{L L':List Nat}{w w':World}(h:ab L [] w w')(hs:∀k∈L,k∈L'):ab L' [] w w':=⟨h.os,h.tape,h.output,h.size,λk h1 hn=>h.aq k h1 λhm=>hn (hs k hm),λk hk=>by cases hk⟩
def Wk(b d:Nat)(w:World)(e:Ending)(w':World):Prop:=∃(nd:Nd) (u:N5),e=.returned (.agg #[.int .i64 u.op,.slice u.a1 u.n1 u.c1,.slice u.a2 u.n2 u.c2,.int .i64 u.mn,.int .i64 u.mx])/\Pc d nd/\kU w w' u.cs nd/\cP b w'/\Fr b w w'
structure yC (b:Nat) (w:World) (nv:Array Value) (wr:World):Prop where
 tp:cP b wr
 fr:Fr b w wr
 y:wr.heap[w.heap.size]?=some (.cells #[(0:Int),(),(),(0:Int),(0:Int)] 26)
 x:wr.heap[w.heap.size+1]?=some (.cells nv 26 (0,0))
 bl:b<w
section
variable {b:Nat} {w wr w':World} {nv:Array Value}
theorem yC.lt(h:yC b w nv wr):w.heap.size+1<wr:=(γ h.x).1
theorem yC.TO(h:yC b w nv wr)(hf:Fr b wr w')(ht:cP b w'):yC b w nv w':=
 have hl:=h.lt;have hb:=h.bl
 ⟨ht,h.fr.t hf,(hf.block _ U (λe=>by injection e with e;omega)).t h.y,(hf.block _ hl (λe=>by injection e with e;omega)).t h.x,h.bl⟩
theorem yC.later(h:yC b w nv wr)(hb:Below wr wr w'):yC b w nv w':=h.TO (Fr.aj hb) (h.tp.below hb)
theorem yC.set(h:yC b w nv wr)(j:Nat)(v:Value):yC b w (nv.setIfInBounds j v) (wr.setCell (Z (w+1) j) v):=
 have hl:=h.lt;have hb:=h.bl;have hs:∀k,k≠w.heap.size+1->(wr.setCell (Z (w+1) j) v).heap[k]?=wr.heap[k]?:=λk hk=>Below.heap_setCell _ _ _ _ hk;have j7:Below w wr (wr.setCell (Z (w+1) j) v):=⟨rfl,rfl,rfl,by simp[World.setCell],λk hk=>hs k U⟩
 ⟨h.tp.qk j7 hb,h.fr.then j7,(hs _ U).t h.y,aE h.x j v,hb⟩
end
theorem yC.grown{b:Nat}{w wr w':World}{nv:Array Value}{r:Option Nat}(h:yC b w nv wr)(hg:wr.grownBy w' r)(hr:∀g,r=some g->w.heap.size+2<=g):yC b w nv w':=
 have hl:=h.lt;have hb:=h.bl;have j7:Below w wr w':=⟨hg.os,hg.tape,hg.output,hg.size,λk hk=>hg.block k U λe=>by have:=hr k e.symm;omega⟩
 ⟨h.tp.qk j7 hb,h.fr.then j7,(hg.block _ U λe=>by have:=hr _ e.symm;omega).t h.y,(hg.block _ hl λe=>by have:=hr _ e.symm;omega).t h.x,hb⟩
theorem db{w:World}{g:Nat}{cs:Array Value}{T:TypeId}(h:w.heap[g]?=some (.cells cs T (0,0)))(j:Nat):w.frozen? (Z g j)=false:=Ψ h
theorem zG(b:Nat):∀(d:Nat) (q:Int) (w:World),d<=10->q=(d:Int)+1->cP b w->Calls Tryz.prog 4 #[.pointer (Z b 0),.int .i64 q] w (Wk b d w):=by
 intro d
 induction d with
 |zero=>
  intro q w hd hq ht;have j7:=ht.lt;have HT:=Y ht;have wP:decide (q<=1)=true:=τ;clear ht hq
  go_enter Tryz.func4,Tryz.ntmps4
  go_wp2_with fail;refine aJ λW0 cG=>?_;have hb0:Below w w W0:=by rw[cG];exact D.alloc V _
  have hY:W0.heap[w.heap.size]?=some (.cells #[(0:Int),(),(),(0:Int),(0:Int)] 26):=by rw[cG];exact heap_alloc_new w _
  have dY:W0.heap.size=w+1:=by rw[cG];simp
  have hS:=sA b W0 (HT.below hb0);have HS:=Y hS;have H0:=Y (I hb0 hY);have dh:w.heap.size<W0:=U;clear cG hb0 hY hS dY;refine HS.mono ?_;rintro e w1 ⟨rs,v,lU,rfl,fB,Co,k5⟩;obtain ⟨Av,cv,rfl,-⟩:=fB w1 (um _ _);obtain ⟨nv,Dm⟩:∃k,rs.length=k:=⟨_,rfl⟩;rw[Dm]at fB|-;have vO:=(k5.block w dh (λe=>by injection e with e;omega)).t H0.2
  obtain ⟨z0,z1,z2,z3,z4⟩:=aD vO;have fy:∀j,w1.frozen? (Z w j)=false:=λj=>by simp[World.frozen?,vO]
  have vl:=fy 0;have ug:=fy 1;have xp:=fy 2;have Kr:=fy 3;have Ks:=fy 4;have lB:w.heap.size<w1:=by have:=k5.size;omega
  have HP:=Y (I lU (I fB (I Co (I k5 Dm))));clear lU fB Co k5 Dm fy vO;go_wp2_with fail;refine au λWf bG=>?_;obtain ⟨u1,u2,u3,-⟩:=Cw bG;refine bodyPost_ret (v:=.agg #[(1:Int),.slice Av nv cv,(),(0:Int),(0:Int)]) (by rw[bG];simp[results,Tryz.results4,go_sem,z0,z1,z2,z3,z4,lB];try rfl) rfl ?_
  have aV:ab [w.heap.size] [] w1 Wf:=⟨u3.1,u3.2.1,u3.2.2,U,λk _ hn=>u1 k (λe=>hn (by simp[e])),λk hk=>by cases hk⟩
  have ju:Below w w1 Wf:=aV.below (λk hk=>by rw[List.mem_singleton]at hk;omega) U
  have hf:=HP.2.2.2.1;have h0:=H0.1;have r9:II (w+1) w1 (.slice Av nv cv) rs:=λW hk=>HP.2.1 W ⟨hk.os,hk.tape,hk.output,hk.size,λk h1 hn=>hk.aq k h1 (λhm=>hn (by simp at hm|-;omega)),λk hk=>by cases hk⟩
  exact ⟨_,⟨1,Av,nv,cv,none,0,0,0,0⟩,rfl,Pc.set HP.1 0,((kU.set r9).keep aV (λk hk=>by rw[List.mem_singleton]at hk;omega)).mono U,HP.2.2.1.qk ju j7,⟨ju.os.t (hf.os.t h0.os),ju.tape.t (hf.tape.t h0.tape),ju.output.t (hf.output.t h0.output),by have:=h0.size;have:=hf.size;have:=ju.size;omega,λk hk bf=>(ju.block k hk).t ((hf.block k (Nat.lt_of_lt_of_le hk h0.size) bf).t (h0.block k hk))⟩⟩
 |succ d ih=>
  intro q w hd hq ht;have j7:=ht.lt;have HT:=Y ht;have HIH:=Y ih;have HQ:=Y hq;have wP:decide (q<=1)=false:=θ;have Tt:0<=q:=U;have Ti:q<=100:=U;clear ht hq ih
  go_enter Tryz.func4,Tryz.ntmps4
  go_wp2_with fail;refine aJ λW0 cG=>?_;have hb0:Below w w W0:=by rw[cG];exact (D.alloc V _).alloc H _
  have hY:W0.heap[w.heap.size]?=some (.cells #[(0:Int),(),(),(0:Int),(0:Int)] 26):=by rw[cG,az _ _ _ H];exact heap_alloc_new w _
  have hX:W0.heap[w.heap.size+1]?=some (.cells #[(0:Int),(),(),(0:Int),(0:Int)] 26):=by rw[cG];simpa using heap_alloc_new (w.alloc _) (.cells #[(0:Int),(),(),(0:Int),(0:Int)] 26)
  have dY:W0.heap.size=w+2:=by rw[cG];simp
  have hN:=rj b 5 W0 O O (HT.below hb0);have HN:=Y hN;have H0:=Y (I hb0 (I hY hX));have dh:w.heap.size+2<=W0:=U;clear cG hb0 hY hX hN dY;refine HN.mono ?_;rintro e w1 ⟨r,rfl,fD,iX,Co,k5⟩;obtain ⟨c,rfl⟩:∃c:Nat,r=(c:Int):=⟨r.toNat,U⟩;have vO:=(k5.block w U (λe=>by injection e with e;omega)).t H0.2.1
  have uk:=(k5.block (w+1) U (λe=>by injection e with e;omega)).t H0.2.2
  have hfw:Fr b w w1:=(Fr.aj H0.1).t k5;have oo:=Y (I Co (I hfw (I vO uk)));have ar2:w.heap.size+2<=w1:=by have:=k5.size;omega
  have Gw:yC b w #[(0:Int),(),(),(0:Int),(0:Int)] w1:=⟨Co,hfw,vO,uk,j7⟩;have MU:=Y Gw;clear Co k5 vO uk hfw Gw oo;obtain ⟨z0,dY⟩:∃z,((c:Int) == 0)=z:=⟨_,rfl⟩;obtain ⟨z1,dh⟩:∃z,((c:Int) == 1)=z:=⟨_,rfl⟩;obtain ⟨z2,cT⟩:∃z,((c:Int) == 2)=z:=⟨_,rfl⟩;obtain ⟨z3,sQ⟩:∃z,((c:Int) == 3)=z:=⟨_,rfl⟩
  go_upto_block 0 with (fail)
  go_cut [] from 15 to 51 (λwx=>∃op:Int,(op=2\/op=3)/\Hid (yC b w #[.int .i64 op,(),(),(0:Int),(0:Int)] wx))
  case first=>
   obtain ⟨x0,x1,x2,x3,x4⟩:=aD MU.x;obtain ⟨y0,y1,y2,y3,y4⟩:=aD MU.y;have YZ:=db MU.x 0;have lX:=MU.lt
   cases z0 with
   |true=>
    go_wp2_with fail
    go_meet
    case rel=>exact ⟨2,.inl rfl,MU.set 0 (.int .i64 2)⟩
   |false=>
   cases z1 with
   |true=>
    go_wp2_with fail
    go_meet
    case rel=>exact ⟨2,.inl rfl,MU.set 0 (.int .i64 2)⟩
   |false=>
   cases z2 with
   |true=>
    go_wp2_with fail
    go_meet
    case rel=>exact ⟨3,.inr rfl,MU.set 0 (.int .i64 3)⟩
   |false=>
   cases z3 with
   |true=>
    clear y0 y1 y2 y3 y4;go_wp2_with fail;refine aJ λW2 ke=>?_;have tW:=MU.set 0 (.int .i64 4);rw[<-ke]at tW;have IC:=Y tW;have HBT:=Y (tl b 1 4 W2 O O O tW.tp);clear ke tW YZ lX x0 x1 x2 x3 x4;refine HBT.mono ?_;rintro e w3 ⟨r1,rfl,ud,I3,AD,yr⟩;have zR:=IC.TO yr AD;have OT:=Y zR;obtain ⟨x0,x1,x2,x3,x4⟩:=aD zR.x;have fx4:=db zR.x 4;have lX:=zR.lt;clear zR AD yr;go_wp2_with fail;refine aJ λW4 Rk=>?_;have hp4:=OT.set 4 (.int .i64 r1);rw[<-Rk]at hp4;have HP4:=Y hp4;have J0:=Y (rj b (r1+1) W4 U U hp4.tp);clear Rk hp4 fx4 lX x0 x1 x2 x3 x4;refine J0.mono ?_;rintro e w5 ⟨r2,rfl,Y0,Y1,ht5,hf5⟩;have hp5:=HP4.TO hf5 ht5;have HP5:=Y hp5;obtain ⟨x0,x1,x2,x3,x4⟩:=aD hp5.x;have Y2:=db hp5.x 3;have lX:=hp5.lt;clear hp5 ht5 hf5;have Wl:=Y (I ud (I I3 (I Y0 Y1)));obtain ⟨e1,DP⟩:∃z,(r2 == 1)=z:=⟨_,rfl⟩;obtain ⟨e2,xi⟩:∃z,(r1 == 1)=z:=⟨_,rfl⟩;have HEE:=Y (I DP xi)
    go_upto_region 15 with (fail)
    go_cut [43] from 36 to 43 (λv wx=>v=.bool (e1 && e2)/\Hid (yC b w #[(4:Int),(),(),.int .i64 r2,.int .i64 r1] wx))
    case first=>
     have J3:=HP5.set 3 (.int .i64 r2);obtain ⟨W6,LF⟩:∃W,W=w5.setCell (Z (w+1) 3) (.int .i64 r2):=⟨_,rfl⟩;rw[<-LF]at J3|-;have TP:=Y J3;obtain ⟨v0,v1,v2,v3,v4⟩:=aD J3.x;have lX6:=J3.lt;clear J3 LF x0 x1 x2 x3 x4 Y2 lX
     cases e1 with
     |true=>
      go_wp2_with fail
      go_meet
      case rel=>exact ⟨rfl,TP.o⟩
     |false=>
      go_wp2_with fail
      go_meet
      case rel=>exact ⟨rfl,TP.o⟩
    case rest=>
    obtain ⟨rfl,TP⟩:=hcut;clear x0 x1 x2 x3 x4 Y2 lX DP xi;obtain ⟨v0,v1,v2,v3,v4⟩:=aD TP.x;have gx4:=db TP.x 4;have lX6:=TP.lt;obtain ⟨ee,DS⟩:∃z,(e1 && e2)=z:=⟨_,rfl⟩;rw[DS];have HEZ:=Y DS;clear DS
    apply_assumption
    go_cut [] from 44 to 44 (λwx=>∃mx:Int,1<=mx/\mx<=4/\r2<=mx/\¬(r2=1/\mx=1)/\Hid (yC b w #[(4:Int),(),(),.int .i64 r2,.int .i64 mx] wx))
    case first=>
     cases ee with
     |true=>
      go_wp2_with fail
      go_meet
      case rel=>
       have h1:=HEZ.o;rw[Bool.and_eq_true]at h1;have h2:=HEE.1;rw[h1.1]at h2;have h3:=of_decide_eq_true h2;exact ⟨2,O,O,U,U,TP.set 4 (.int .i64 2)⟩
     |false=>
      go_wp2_with fail
      go_meet
      case rel=>
       refine ⟨r1,Wl.1,Wl.2.1,by have:=Wl.2.2.2;omega,λh=>?_,TP.o⟩
       have h1:=HEZ.o;rw[<-HEE.1,<-HEE.2,h.1,h.2]at h1
       cases h1
    case rest=>
     obtain ⟨mx,acf,acg,ach,aci,HP7⟩:=hcut;have Wn:=Y (I acf (I acg (I ach (I aci Y0))));have V3:IntKind.i64.wrap (q - 1)=q - 1:=IntWalk.i64_in _ U;have HPT:=Y (HIH (q - 1) wc U (by have:=HQ.o;omega) HP7.tp)
     clear acf acg ach aci v0 v1 v2 v3 v4 gx4 lX6 ud I3 Y0 Y1 V3
     apply_assumption
     go_wp2_with fail;refine HPT.mono ?_;rintro e w8 ⟨nd,u,rfl,lP,fB,ht8,Gf⟩;have Dn:=HP7.TO Gf ht8;have HP8:=Y Dn;have HU8:=Y (I lP fB);obtain ⟨u0,u1,u2,u3,u4,u5,u6,u7,u8⟩:=u;simp only;obtain ⟨x0,x1,x2,x3,x4⟩:=aD Dn.x;obtain ⟨y0,y1,y2,y3,y4⟩:=aD Dn.y;have fx2:=db Dn.x 2;have vl:=db Dn.y 0;have ug:=db Dn.y 1;have xp:=db Dn.y 2;have Kr:=db Dn.y 3;have Ks:=db Dn.y 4;have lX:=Dn.lt;have lX2:w.heap.size+1<w8+1:=U;have lY:w.heap.size<w8:=U;have lY2:w.heap.size<w8+1:=U;clear Dn lP fB ht8 Gf;go_wp2_with fail;refine au λWf bG=>?_;obtain ⟨Wx,hWx⟩:∃W,W=w8.setCell (Z (w+1) 2) (.slice (Z w8 0) 1 1):=⟨_,rfl⟩;rw[<-hWx]at bG;obtain ⟨W5,FN⟩:∃W,W=((((Wx.setCell (Z w 0) (.int .i64 4)).setCell (Z w 1) ()).setCell (Z w 2) (.slice (Z w8 0) 1 1)).setCell (Z w 3) (.int .i64 r2)).setCell (Z w 4) (.int .i64 mx):=⟨_,rfl⟩;rw[<-FN]at bG;obtain ⟨s1,s2,s3,s4⟩:=Cw FN;have Y3:∀k,k≠w.heap.size+1->Wx.heap[k]?=w8.heap[k]?:=λk hk=>by rw[hWx];exact Below.heap_setCell _ _ _ _ hk
     have hzx:Wx.heap.size=w8:=by rw[hWx];simp[World.setCell]
     have Pd:Wx.os=w8.os/\Wx.tape=w8.tape/\Wx.output=w8.output:=by rw[hWx];exact ⟨rfl,rfl,rfl⟩
     have I4:Below W5 W5 Wf:=by rw[bG];exact D.alloc V _
     have hYf:=(I4.block w U).t (s4 ((Y3 w U).t HP8.y));have rK:Wf.heap[w8.heap.size]?=some (.cells #[.int .i64 u0,.slice u1 u2 u3,.slice u4 u5 u6,.int .i64 u7,.int .i64 u8] 26):=by
      rw[bG];have:=heap_alloc_new W5 (.cells #[.int .i64 u0,.slice u1 u2 u3,.slice u4 u5 u6,.int .i64 u7,.int .i64 u8] 26);rwa [s2,hzx]at this
     obtain ⟨q0,q1,q2,q3,q4⟩:=aD hYf;have l9:w.heap.size<Wf:=(γ hYf).1;refine bodyPost_ret (v:=.agg #[(4:Int),(),.slice (Z w8 0) 1 1,.int .i64 r2,.int .i64 mx]) (by simp[results,Tryz.results4,go_sem,q0,q1,q2,q3,q4,l9];try rfl) rfl ?_
     have aV:ab [w.heap.size+1,w.heap.size] [] w8 Wf:=⟨I4.os.t (s3.1.t Pd.1),I4.tape.t (s3.2.1.t Pd.2.1),I4.output.t (s3.2.2.t Pd.2.2),by have:=I4.size;omega,λk hk hn=>(I4.block k U).t ((s1 k (λe=>hn (by simp[e]))).t (Y3 k (λe=>hn (by simp[e])))),λk hk=>by cases hk⟩
     have Ij:Below w w8 Wf:=aV.below (λk hk=>by simp at hk;omega) U
     have hlc:=HP7.lt;have LR:kU w Wf (N5.cs ⟨u0,u1,u2,u3,u4,u5,u6,u7,u8⟩) nd:=(HU8.2.keep aV (λk hk=>by simp at hk;omega)).mono U
     have ao:OR 26 5 N5.cs w (.slice (Z w8 0) 1 1) [⟨u0,u1,u2,u3,u4,u5,u6,u7,u8⟩] Wf:=⟨rfl,.inr ⟨w8.heap.size,1,_,rfl,U,rK,V,O,rfl,rfl⟩⟩;refine ⟨.mk 4 [] [nd] r2 mx,⟨4,none,0,0,some ⟨w8.heap.size,0,none⟩,1,1,r2,mx⟩,rfl,.inr (.inr ⟨nd,r2,mx,rfl,Wn.2.2.2.2,Wn.2.2.1,Wn.1,Wn.2.1,Wn.2.2.2.1,HU8.1⟩),kU.kids ao rfl (λi h1 h2=>?_) 4 r2 mx,HP8.tp.qk Ij j7,HP8.fr.then Ij⟩
     match i,h1 with
     |0,_=>exact LR
   |false=>
    clear YZ;go_wp2_with fail;have HS:=Y (sA b w1 MU.tp);refine HS.mono ?_;rintro e w3 ⟨rs,v,lU,rfl,fB,AD,yr⟩;have zR:=MU.TO yr AD;have OT:=Y zR;obtain ⟨Av,cv,rfl,-⟩:=fB w3 (um _ _);obtain ⟨nv,Dm⟩:∃k,rs.length=k:=⟨_,rfl⟩;rw[Dm]at fB|-;have HU:=Y (I lU (I fB Dm));clear x0 x1 x2 x3 x4 y0 y1 y2 y3 y4 lX lU fB Dm AD yr;obtain ⟨z0',z1',z2',z3',z4'⟩:=aD zR.y;have vl:=db zR.y 0;have ug:=db zR.y 1;have xp:=db zR.y 2;have Kr:=db zR.y 3;have Ks:=db zR.y 4;have lY:w.heap.size<w3:=by have:=zR.lt;omega
    clear zR;go_wp2_with fail;refine au λWf bG=>?_;obtain ⟨s1,s2,s3,-⟩:=Cw bG;refine bodyPost_ret (v:=.agg #[(1:Int),.slice Av nv cv,(),(0:Int),(0:Int)]) (by rw[bG];simp[results,Tryz.results4,go_sem,z0',z1',z2',z3',z4',lY];try rfl) rfl ?_
    have aV:ab [w.heap.size] [] w3 Wf:=⟨s3.1,s3.2.1,s3.2.2,U,λk _ hn=>s1 k (λe=>hn (by simp[e])),λk hk=>by cases hk⟩
    have ju:Below w w3 Wf:=aV.below (λk hk=>by rw[List.mem_singleton]at hk;omega) U
    have ar8:=MU.lt;exact ⟨_,⟨1,Av,nv,cv,none,0,0,0,0⟩,rfl,Pc.set HU.1 (d+1),((kU.set HU.2.1).keep aV (λk hk=>by rw[List.mem_singleton]at hk;omega)).mono U,OT.tp.qk ju j7,OT.fr.then ju⟩
  case rest=>
   obtain ⟨op,jE,HP⟩:=hcut;have HOP:=Y jE;have fS:=Y (tl b 2 3 wc O O O HP.tp);have asa:(2:Int)<=op/\op<=3:=U;clear jE dY dh cT sQ fD iX
   apply_assumption
   go_wp2_with fail;refine fS.mono ?_;rintro e w3 ⟨n0,rfl,gG,Yr,AD,yr⟩;obtain ⟨n,rfl⟩:∃n:Nat,n0=(n:Int):=⟨n0.toNat,U⟩;have zR:=HP.TO yr AD;have OT:=Y zR;have UT:=zR.lt;have HZ3:=Y UT;clear zR AD yr UT;go_wp2_with fail;go_loopw [6] (λkv wr=>∃(k:Nat) (A:Option Addr) (m c:Nat) (us:List N5) (kids:List Nd),k<=n/\kv=.int .i64 (k:Int)/\Hid (m=n-k)/\Hid (yC b w #[.int .i64 op,(),.slice A m c,(0:Int),(0:Int)] wr)/\Hid (OR 26 5 N5.cs (w+2) (.slice A m c) us wr)/\Hid (us.length=m/\kids.length=m/\(∀i (h1:i<us.length) (h2:i<kids.length),Cx (List.range (w.heap.size+2)++aq (.slice A m c)) wr us[i].cs kids[i])/\∀k∈kids,Pc d k/\k.op≠op)) (λkv _=>(intOf kv).toNat)
   case atStart=>exact ⟨n,none,0,0,[],[],V,rfl,by show 0=n-n;omega,OT.o,OR.iG _ _ _,rfl,rfl,λi h1=>absurd h1 (Nat.not_lt_zero _),λk hk=>by cases hk⟩
   case round=>
    obtain ⟨k,A,m,cA,us,kids,hk,rfl,HM,I5,HO,HK⟩:=hrel;by_cases mJ:0<k
    .have nw:decide (0<(k:Int))=true:=τ;have AN:decide (0<k)=true:=decide_eq_true mJ;have V3:IntKind.i64.wrap (q - 1)=q - 1:=IntWalk.i64_in _ U;have HPT:=Y (HIH (q - 1) wr U (by have:=HQ.o;omega) I5.tp)
     clear V3;go_wp2_with fail;refine HPT.mono ?_;rintro e w8 ⟨nd,u,rfl,lP,fB,ht8,Gf⟩;have Dn:=I5.TO Gf ht8;have GM:=I5.lt;obtain ⟨u0,u1,u2,u3,u4,u5,u6,u7,u8⟩:=u;simp only;have acm:u0=nd.op:=by
      obtain ⟨A1,c1,A2,c2,e1,-⟩:=fB.in_.form;injection e1 with e1 _;injection e1
     have xY:Below w8 w8 (w8.alloc (.cells #[.int .i64 u0,.slice u1 u2 u3,.slice u4 u5 u6,.int .i64 u7,.int .i64 u8] 26)):=D.alloc V _;have hp9:=Dn.later xY;have hx9:=heap_alloc_new w8 (.cells #[.int .i64 u0,.slice u1 u2 u3,.slice u4 u5 u6,.int .i64 u7,.int .i64 u8] 26);have BX:ab [b] [] wr (w8.alloc (.cells #[.int .i64 u0,.slice u1 u2 u3,.slice u4 u5 u6,.int .i64 u7,.int .i64 u8] 26)):=(TL (L:=[]) Gf).tr (vM xY);have aC:∀k∈aq (.slice A m cA),w.heap.size+2<=k/\k<wr.heap.size:=λk hk=>World.ownsRow.lt HO.o k (af.1 hk);have acn:Cx (List.range (w.heap.size+2)++aq (.slice A m cA)) (w8.alloc (.cells #[.int .i64 u0,.slice u1 u2 u3,.slice u4 u5 u6,.int .i64 u7,.int .i64 u8] 26)) (N5.cs ⟨u0,u1,u2,u3,u4,u5,u6,u7,u8⟩) nd:=Cx.next (L:=List.range wr) fB (vM xY) (λk hk=>by
      rcases List.mem_append.1 hk with hk|hk
      .have:=List.mem_range.1 hk;exact .inl (List.mem_range.2 U)
      .exact .inl (List.mem_range.2 (aC k hk).2))
     have Pr:=Y aC;have Pe:=Y (I hp9 (I hx9 (I BX (I acn (I lP acm)))));have hz8:=Dn.lt;have asb:=Gf.size;obtain ⟨x0,x1,x2,x3,x4⟩:=aD Dn.x;have lX9:w.heap.size+1<w8+1:=U;clear lP fB ht8 Gf Dn acm xY hp9 hx9 BX acn aC;obtain ⟨zq,Wo⟩:∃z,(u0 == op)=z:=⟨_,rfl⟩;have HZQ:=Y Wo;go_upto_if 66 with (fail)
     go_cut [] from 67 to 68 (λwx=>∃(v:N5) (VT:Nd),Hid (yC b w #[.int .i64 op,(),.slice A m cA,(0:Int),(0:Int)] wx)/\Hid (wx.heap[w8.heap.size]?=some (.cells #[.int .i64 v.op,.slice v.a1 v.n1 v.c1,.slice v.a2 v.n2 v.c2,.int .i64 v.mn,.int .i64 v.mx] 26))/\Hid (ab [b] [] wr wx)/\Hid (Cx (List.range (w.heap.size+2)++aq (.slice A m cA)) wx v.cs VT/\Pc d VT/\VT.op≠op))
     case first=>
      cases zq with
      |true=>
       have HS:=Y (sA b _ Pe.1.tp);clear Wo;go_wp2_with fail;refine HS.mono ?_;rintro e wA ⟨rs,v,lU,rfl,fB,htA,hfA⟩;obtain ⟨Av,cv,rfl,-⟩:=fB wA (um _ _);obtain ⟨nv,Dm⟩:∃k,rs.length=k:=⟨_,rfl⟩;rw[Dm]at fB|-;have hpA:=Pe.1.TO hfA htA;have asd:b<w8:=U;have Rl:=(hfA.block w8 H (λe=>by injection e with e;omega)).t Pe.2.1
       obtain ⟨z0',z1',z2',z3',z4'⟩:=aD Rl;have vl:=db Rl 0;have ug:=db Rl 1;have xp:=db Rl 2;have Kr:=db Rl 3;have Ks:=db Rl 4;have lY:w8.heap.size<wA:=(γ Rl).1;have HA:=Y (I hpA (I Rl (I hfA (I fB lU))));clear hpA Rl hfA fB lU htA Dm x0 x1 x2 x3 x4;go_wp2_with fail
       go_meet
       case rel=>
        obtain ⟨Wf,bG⟩:∃W,W=((((wA.setCell (Z w8 0) (.int .i64 1)).setCell (Z w8 1) (.slice Av nv cv)).setCell (Z w8 2) ()).setCell (Z w8 3) (.int .i64 0)).setCell (Z w8 4) (.int .i64 0):=⟨_,rfl⟩;obtain ⟨s1,s2,s3,s4⟩:=Cw bG;rw[<-bG];have Y4:ab [w8.heap.size] [] wA Wf:=⟨s3.1,s3.2.1,s3.2.2,U,λk _ hn=>s1 k (λe=>hn (by simp[e])),λk hk=>by cases hk⟩
        have hg:wA.grownBy Wf (some w8.heap.size):=⟨s3.1,s3.2.1,s3.2.2,U,λk _ hn=>s1 k (λe=>hn (by rw[e]))⟩
        have Y5:=(Pe.2.2.1.tr (TL (L:=[]) HA.2.2.1));have r9:=kU.set HA.2.2.2.1;have jn:w8.heap.size<(w8.alloc (.cells #[.int .i64 u0,.slice u1 u2 u3,.slice u4 u5 u6,.int .i64 u7,.int .i64 u8] 26)).heap.size:=H;refine ⟨⟨1,Av,nv,cv,none,0,0,0,0⟩,.mk 1 rs [] 0 0,HA.1.grown hg (λg e=>by injection e with e;omega),s4 HA.2.1,⟨Y4.os.t Y5.os,Y4.tape.t Y5.tape,Y4.output.t Y5.output,Nat.le_trans Y5.size Y4.size,λk h1 hn=>(Y4.aq k (Nat.lt_of_lt_of_le h1 Y5.size) (λhm=>by rw[List.mem_singleton]at hm;omega)).t (Y5.aq k h1 hn),λk hk=>by cases hk⟩,?_,Pc.set HA.2.2.2.2 d,?_⟩
        .refine Cx.next (L:=List.range (w8.alloc (.cells #[.int .i64 u0,.slice u1 u2 u3,.slice u4 u5 u6,.int .i64 u7,.int .i64 u8] 26)).heap.size) r9 (EJ Y4 λk hk=>List.mem_range.2 (by rw[List.mem_singleton]at hk;omega)) (λk hk=>.inl (List.mem_range.2 ?_))
         rcases List.mem_append.1 hk with hk|hk
         .have:=List.mem_range.1 hk;omega
         .have:=(Pr k hk).2;omega
        .show (1:Int)≠op;omega
      |false=>
       have Y6:=Y (show ¬u0=op from λe=>by have:=HZQ.o;rw[e]at this;simp at this)
       clear Wo;go_wp2_with fail
       go_meet
       case rel=>exact ⟨⟨u0,u1,u2,u3,u4,u5,u6,u7,u8⟩,nd,Pe.1,Pe.2.1,Pe.2.2.1,Pe.2.2.2.1,Pe.2.2.2.2.1,λe=>Y6.o (Pe.2.2.2.2.2.t e)⟩
     case rest=>
      obtain ⟨v,VT,HPc,HXc,HKc,HVc⟩:=hcut;obtain ⟨Wp,Wq,Ws,Wt,Wu,Wv,Ww,Wy,TQ⟩:=v;simp only at HXc;clear x0 x1 x2 x3 x4 Wo;obtain ⟨x0,x1,x2,x3,x4⟩:=aD HPc.x;obtain ⟨y0,y1,y2,y3,y4⟩:=aD HXc.o;have lXc:=HPc.lt;have ase:w.heap.size+1<wc+1:=U;have lYc:w8.heap.size<wc:=(γ HXc.o).1;have hoc:OR 26 5 N5.cs (w+2) (.slice A m cA) us wc:=HO.keep λg hg=>HKc.aq g (World.ownsRow.lt HO.o g hg).2 (λhm=>by rw[List.mem_singleton]at hm;have:=(World.ownsRow.lt HO.o g hg).1;omega)
      have hul:us.length=m:=HK.1;have bL:(wc.alloc (.cells #[.int .i64 Wp,.slice Wq Ws Wt,.slice Wu Wv Ww,.int .i64 Wy,.int .i64 TQ] 26)).ownsRow (w+2) 26 5 (.slice A m cA) us.length (a8 N5.cs us):=World.ownsRow.alloc hoc _;rw[hul]at bL;have iY:∀j u,([.int .i64 Wp,.slice Wq Ws Wt,.slice Wu Wv Ww,.int .i64 Wy,.int .i64 TQ]:List Value)[j]?=some u->(wc.alloc (.cells #[.int .i64 Wp,.slice Wq Ws Wt,.slice Wu Wv Ww,.int .i64 Wy,.int .i64 TQ] 26)).cell? (((Z wc 0):Addr).add j)=some u:=by
       intro j u hj;rw[Addr.add_lit,Nat.zero_add,World.cell?_alloc_mark];simpa using hj
      obtain ⟨i5,hi5,aje,ajf,ajg⟩:=info_parts Rj;have bw:w.heap.size+2<=(wc.alloc (.cells #[.int .i64 Wp,.slice Wq Ws Wt,.slice Wu Wv Ww,.int .i64 Wy,.int .i64 TQ] 26)).heap.size:=ψ;have Y7:=Y hul;have hm3:m<=3:=by have:=HM.o;omega
      clear hoc hul
      apply_assumption
      go_wp2_with (at_builtin; refine bn rfl _ _ 24 rfl (w+2) 26 i5 _ 5 72 Tryz.underlying24 hi5 aje ajf ajg rfl O _ m (a8 N5.cs us) rfl bL (Z wc 0) 1 1 [.int .i64 Wp,.slice Wq Ws Wt,.slice Wu Wv Ww,.int .i64 Wy,.int .i64 TQ] rfl rfl iY (by intro u hu; simp at hu; rcases hu with rfl|rfl|rfl|rfl|rfl <;> rfl) (by unfold maxLen; omega) U bw ?_)
      intro v' wD MW Vg hfD;obtain ⟨A',c',rfl,-,-⟩:=ae MW;have nz:Below wc wc (wc.alloc (.cells #[.int .i64 Wp,.slice Wq Ws Wt,.slice Wu Wv Ww,.int .i64 Wy,.int .i64 TQ] 26)):=D.alloc V _;have hpD:=(HPc.later nz).grown Vg (λg e=>(bL.lt g e).1);have HPD:=Y hpD;have HDD:=Y (I MW (I Vg (I hfD (I bL nz))));clear x0 x1 x2 x3 x4 y0 y1 y2 y3 y4 bL iY nz MW Vg hfD;obtain ⟨x0,x1,x2,x3,x4⟩:=aD hpD.x;have fx2:=db hpD.x 2;have lXD:=hpD.lt;clear hpD;go_wp2_with fail;go_roundw
      case rel=>
       have aH:∀g,g≠w.heap.size+1->(wD.setCell (Z (w+1) 2) (.slice A' (m+1) c')).heap[g]?=wD.heap[g]?:=λg hg=>Below.heap_setCell _ _ _ _ hg;have hD:=HDD.o;have hkD:ab (List.range (w.heap.size+2)++aq (.slice A m cA)) [] wc (wD.setCell (Z (w+1) 2) (.slice A' (m+1) c')):=⟨hD.2.1.os.t hD.2.2.2.2.os,hD.2.1.tape.t hD.2.2.2.2.tape,hD.2.1.output.t hD.2.2.2.2.output,by have:=hD.2.1.size;have:=hD.2.2.2.2.size;simp[World.setCell];omega,λk h1 hn=>(aH k (λe=>hn (List.mem_append_left _ (List.mem_range.2 U)))).t ((hD.2.1.block k (Nat.lt_of_lt_of_le h1 hD.2.2.2.2.size) (λe=>hn (List.mem_append_right _ (af.2 e.symm)))).t (hD.2.2.2.2.block k h1)),λk hk=>by cases hk⟩
       have ew:∀k∈List.range (w.heap.size+2)++aq (.slice A' (m+1) c'),k∈List.range (w.heap.size+2)++aq (.slice A m cA)\/wc.heap.size<=k:=λk hk=>by
        rcases List.mem_append.1 hk with hk|hk
        .exact .inl (List.mem_append_left _ hk)
        .rcases hD.2.2.1 with e|⟨g,e,hg⟩
         .exact .inl (List.mem_append_right _ (af.2 (by rw[<-e];exact af.1 hk)))
         .have h1:=af.1 hk;rw[e]at h1;injection h1 with h1;subst h1;exact .inr (by first|omega | (simp at hg;omega))
       have Tm:=HKc.size;refine ⟨k - 1,A',m+1,c',us++[⟨Wp,Wq,Ws,Wt,Wu,Wv,Ww,Wy,TQ⟩],kids++[VT],U,?_,by have:=HM.o;show m+1=n - (k - 1);omega,HPD.set 2 (.slice A' (m+1) c'),?_,by rw[List.length_append,Y7.o];rfl,by rw[List.length_append,HK.2.1];rfl,λi h1 h2=>?_,λk' ec=>?_⟩
       .show Value.int .i64 ((k:Int) - 1)=_
        congr 1;omega
       .show World.ownsRow _ _ _ _ _ (us++[_]).length (a8 N5.cs (us++[_]));rw[List.length_append,Y7.o,bV,bF];exact ar hD.1 λg hg=>aH g (by have:=(hD.1.lt g hg).1;omega)
       .by_cases hi:i<us.length
        .rw[List.getElem_append_left hi,List.getElem_append_left (by have:=HK.2.1;have:=Y7.o;omega)]
         have h0:=HK.2.2.1 i hi (by have:=HK.2.1;have:=Y7.o;omega)
         have h3:=h0.next (EJ HKc.o (λk hk=>List.mem_append_left _ (List.mem_range.2 (by rw[List.mem_singleton]at hk;omega)))) (L':=List.range (w.heap.size+2)++aq (.slice A m cA)) (λk hk=>.inl hk)
         exact h3.next hkD ew
        .have nY:i=us.length:=by rw[List.length_append]at h1;simp at h1;omega
         subst nY;rw[List.getElem_append_right V,List.getElem_append_right (by have:=HK.2.1;have:=Y7.o;omega)]
         have e2:us.length-kids.length=0:=by have:=HK.2.1;have:=Y7.o;omega
         simp only[Nat.sub_self,e2,List.getElem_cons_zero];exact HVc.1.next hkD ew
       .rcases List.mem_append.1 ec with ec|ec
        .exact HK.2.2.2 k' ec
        .rw[List.mem_singleton]at ec;subst ec;exact ⟨HVc.2.1,HVc.2.2⟩
      case measure=>exact μ
    .obtain rfl:k=0:=U;obtain ⟨x0,x1,x2,x3,x4⟩:=aD I5.x;obtain ⟨y0,y1,y2,y3,y4⟩:=aD I5.y;have vl:=db I5.y 0;have ug:=db I5.y 1;have xp:=db I5.y 2;have Kr:=db I5.y 3;have Ks:=db I5.y 4;have lX:=I5.lt;have lY:w.heap.size<wr:=U;go_wp2_with fail;refine au λWf bG=>?_;obtain ⟨s1,s2,s3,s4⟩:=Cw bG;refine bodyPost_ret (v:=.agg #[.int .i64 op,(),.slice A m cA,(0:Int),(0:Int)]) (by rw[bG];simp[results,Tryz.results4,go_sem,y0,y1,y2,y3,y4,lY];try rfl) rfl ?_
     have aV:ab [w.heap.size] [] wr Wf:=⟨s3.1,s3.2.1,s3.2.2,U,λk _ hn=>s1 k (λe=>hn (by simp[e])),λk hk=>by cases hk⟩
     have j7:Below w wr Wf:=aV.below (λk hk=>by rw[List.mem_singleton]at hk;omega) U
     have ao:OR 26 5 N5.cs (w+2) (.slice A m cA) us Wf:=HO.keep λg hg=>s1 g (by have:=(World.ownsRow.lt HO.o g hg).1;omega)
     refine ⟨.mk op [] kids 0 0,⟨op,none,0,0,A,m,cA,0,0⟩,rfl,.inr (.inl ⟨op,kids,HOP.o,rfl,by have:=HK.2.1;have:=HM.o;omega,by have:=HK.2.1;have:=HM.o;omega,HK.2.2.2⟩),(kU.kids ao (by rw[HK.1,HK.2.1]) (λi h1 h2=>?_) op 0 0).mono U,I5.tp.qk j7 (by assumption),I5.fr.then j7⟩
     exact (HK.2.2.1 i h1 h2).next (EJ aV (λk hk=>List.mem_append_left _ (List.mem_range.2 (by rw[List.mem_singleton]at hk;omega)))) (L':=List.range (w+2)) (λk hk=>.inl (List.mem_append_left _ hk))
end Go.Proofs.YthamegenljmgmaaGreatDoor
