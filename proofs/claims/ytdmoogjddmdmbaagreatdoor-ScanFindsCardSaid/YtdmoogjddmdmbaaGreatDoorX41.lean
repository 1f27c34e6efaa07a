/- Walks. -/
import Derived.Deep.RegionHeld3
import Derived.Deep.CutRange
import Derived.Test.YtdmoogjddmdmbaaGreatDoorX05
import Derived.Test.YtdmoogjddmdmbaaGreatDoorX31
set_option maxRecDepth 100000
set_option maxHeartbeats 16000000
set_option linter.unusedVariables false
set_option linter.unusedSimpArgs false
namespace Go.Proofs.YtdmoogjddmdmbaaGreatDoor
open Go.RowKit
def fV(b m:Nat)(w:World)(e:Ending)(w':World):Prop:=∃(v:Value) (l:List UInt8),e=.returned v/\l.length<=m/\OB 5 w.heap.size v l w'/\aD b w'/\Fr b w w'
theorem dv{b:Nat}{w w':World}(h:Fr b w.drew w'):Fr b w w':=⟨h.os,h.tape,h.output,h.size,h.block⟩
theorem Fr.drew{b:Nat}{w w':World}(h:Fr b w w'):Fr b w w'.drew:=⟨h.os,h.tape,h.output,h.size,h.block⟩
theorem cN{w:World}{G e:Nat}{cs:Array Value}{m:Nat×Nat}(h:w.heap[G]?=some (.cells cs e m))(j:Nat)(v:Value):(w.setCell ⟨G,j,none⟩ v).heap[G]?=some (.cells (cs.setIfInBounds j v) e m):=by
 simp[World.setCell,Array.getElem?_modify,h]
theorem kS{b K j:Nat}{v:Value}{w w':World}(h:Fr b w w')(hK:w.heap.size<=K):Fr b w (w'.setCell ⟨K,j,none⟩ v):=
 ⟨h.os,h.tape,h.output,by simpa [World.setCell] using h.size,λk hk hne=>(Below.heap_setCell _ _ _ _ (by dsimp only;omega)).trans (h.block k hk hne)⟩
theorem fD{b K j:Nat}{v:Value}{w:World}(h:aD b w)(hK:b<K):aD b (w.setCell ⟨K,j,none⟩ v):=h.keep λk hk=>Below.heap_setCell _ _ _ _ (by dsimp only;omega)
theorem Jw(b:Nat)(n:Int)(w:World)(hn:0<n)(mX:n<=65536)(ht:aD b w):
  Calls Tryz.prog 20 #[.pointer (some ⟨b,0,none⟩),.int .i64 n] w λe w'=>∃r:Int,e=.returned (.int .i64 r)/\0<=r/\r<n/\aD b w'/\Fr b w w'/\w'.heap.size=w.heap.size:=by
 have Cb:=Z ht;obtain ⟨a,m,c,k,hb,hk,hm,hcell⟩:=ht;unfold maxLen at hm;have c0:w.cell? ⟨b,0,none⟩=some (.slice a m c):=by rw[cell_of_row w b 0 _ _ _ hb];rfl
 have c1:w.cell? ⟨b,1,none⟩=some (.int .i64 (k:Int)):=by rw[cell_of_row w b 1 _ _ _ hb];rfl
 have f1:w.frozen? ⟨b,1,none⟩=false:=by simp[World.frozen?,hb]
 by_cases hlt:k<m
 .obtain ⟨ad,x,rfl,akJ,iY⟩:=hcell k hlt;have HB:=Z hb;have HC:=Z hcell;clear hb hcell;obtain ⟨y,hy⟩:=ν (bits .and .i64 x 65535);have Di:=Cx x;rw[hy]at Di
  go_enter Tryz.func20,Tryz.ntmps20
  go_wp2_with fail
  go_quiet (fail)
  go_wp2_with fail
  go_quiet (fail)
  go_wp2
  go_ret;obtain ⟨q1,q2⟩:=xU (some ad) m c k HB.out hlt (by unfold maxLen;omega) HC.out rfl rfl rfl rfl
  exact ⟨y % n,rfl,Int.emod_nonneg _ Y,Int.emod_lt_of_pos _ hn,q1,⟨q2.os,q2.tape,q2.output,q2.size,q2.block⟩,by simp[World.setCell,World.drew,World.drewN]⟩
 .obtain rfl:k=m:=Y
  go_enter Tryz.func20,Tryz.ntmps20
  go_wp2_with fail
  go_quiet (fail)
  go_wp2
  go_ret;exact ⟨0,rfl,Y,Y,Cb.out,⟨rfl,rfl,rfl,I,λ_ _ _=>rfl⟩,rfl⟩
theorem gA(b:Nat)(x y:Int)(w:World)(h:x<=y)(h2:y-x<=65000)(hx:-1000000000<=x)(hy:y<=1000000000)(ht:aD b w):
  Calls Tryz.prog 8 #[.pointer (some ⟨b,0,none⟩),.int .i64 x,.int .i64 y] w λe w'=>∃r:Int,e=.returned (.int .i64 r)/\x<=r/\r<=y/\aD b w'/\Fr b w w':=by
 have N:=bQ b (y-x+1) w Y Y ht;have hw1:IntKind.i64.wrap (y-x)=y-x:=IntWalk.i64_in _ Y;have ew:IntKind.i64.wrap (y-x+1)=y-x+1:=IntWalk.i64_in _ Y;have HN:=Z N;clear N
 go_enter Tryz.func8,Tryz.ntmps8
 go_wp2_with fail;refine HN.out.mono ?_;rintro e w1 ⟨r,rfl,h0,h1,nA,gX⟩;have yD:IntKind.i64.wrap (x+r)=x+r:=IntWalk.i64_in _ Y;go_wp2_with fail;go_ret;exact ⟨x+r,rfl,Y,Y,nA,gX⟩
theorem Fb(b m:Nat)(A B:Option Addr)(n c n' c':Nat)(mn mx:Int)(w:World)(hr:PC b w (.slice A n c))(hm:1<=m)(ht:aD b w):
  Calls Tryz.prog 24 #[.pointer (some ⟨b,0,none⟩),.agg #[.int .i64 1,.slice A n c,.slice B n' c',.int .i64 mn,.int .i64 mx]] w (fV b m w):=by
 obtain ⟨g,f,n0,c0,hv,h1,h2,gL,dR,hcs⟩:=hr;injection hv with e1 e2 e3;subst e1 e2 e3;obtain ⟨W1,hW1⟩:∃W,w.alloc (Obj.cells #[Value.int IntKind.i64 1,Value.slice (some ⟨g,f,none⟩) n c,Value.slice B n' c',Value.int IntKind.i64 mn,Value.int IntKind.i64 mx] 41)=W:=⟨_,rfl⟩;have aT:Below w.heap.size w W1:=by rw[<-hW1];exact υ.alloc I _
 have hz1:W1.heap.size=w.heap.size+1:=by rw[<-hW1];simp
 have m1:W1.cell? ⟨w.heap.size,1,none⟩=some (.slice (some ⟨g,f,none⟩) n c):=by rw[<-hW1,World.cell?_alloc_mark];rfl
 have nA:=ht.below aT;have dL:=ht.lt;obtain ⟨LO,HI,Vb⟩:∃LO HI:Nat->Int,∀j,j<n->(w.cell? ⟨g,f+j*2,none⟩=some (.int .u8 (LO j))/\w.cell? ⟨g,f+j*2+1,none⟩=some (.int .u8 (HI j))/\0<=LO j/\LO j<=HI j/\HI j<256):=by
  refine ⟨λj=>if h:j<n then (hcs j h).choose else 0,λj=>if h:j<n then (hcs j h).choose_spec.choose else 0,λj hj=>?_⟩;simp only[dif_pos hj];exact (hcs j hj).choose_spec.choose_spec
 have Pm:=Z (λ(w':World) (hs:ai b w w')=>show (∀j,j<n->w'.cell? ⟨g,f+j*2,none⟩=some (.int .u8 (LO j)))/\(∀j,j<n->w'.cell? ⟨g,f+j*2+1,none⟩=some (.int .u8 (HI j))) from
  ⟨λj hj=>(hs.cell gL dR).trans (Vb j hj).1,λj hj=>(hs.cell gL dR).trans (Vb j hj).2.1⟩)
 have HBD:=Z (λj hj=>(Vb j hj).2.2);clear Vb;have lC:=Z hW1;have HB:=Z aT;clear hcs hW1 aT ht;have NX:=Z (λw' (ht:aD b w')=>Jw b (n:Int) w' Y Y ht);have PD:=Z nA;have tG:=Z (H m1 hz1);clear nA m1 hz1
 go_enter Tryz.func24,Tryz.ntmps24
 go_upto_region 4 with fail
 rw[lC.out];obtain ⟨m1,hz1⟩:=tG.out;clear tG lC;have Ci:=Z (λw' (hf:Fr b W1 w') (ht:aD b w')=>show w'.cell? ⟨w.heap.size,1,none⟩=some (.slice (some ⟨g,f,none⟩) n c)/\aD b w'/\(∀j,j<n->w'.cell? ⟨g,f+j*2,none⟩=some (.int .u8 (LO j)))/\(∀j,j<n->w'.cell? ⟨g,f+j*2+1,none⟩=some (.int .u8 (HI j))) from
  ⟨(χ w.heap.size 1 (hf.block w.heap.size Y (by intro e;injection e;omega))).trans m1,ht,Pm.out w' ((ai.aa HB.out:ai b w W1).trans (ai.dO hf))⟩)
 have z1:¬w.heap.size=W1.heap.size:=Y;have z2:¬W1.heap.size=w.heap.size:=Y;have z3:¬b=W1.heap.size:=Y;have z7:w.heap.size<W1.heap.size:=Y;have z4:g<W1.heap.size:=Y;have z5:¬g=W1.heap.size:=Y;have z6:¬W1.heap.size=g:=Y;have Qx:=Z hz1;clear hz1
 go_cut [6] from 13 to 88 (λp wx=>∃(R:Nat) (lo hi:Int),p=.pointer (some ⟨R,0,none⟩)/\wx.cell? ⟨R,0,none⟩=some (.int .u8 lo)/\wx.cell? ⟨R,1,none⟩=some (.int .u8 hi)/\0<=lo/\lo<=hi/\hi<256/\aD b wx/\Fr b W1 wx/\R<wx.heap.size/\b<R)
 case first=>
  go_region_with ((go_at_call 20;(first|refine (NX.out _ (PD.out.below υ.drew)).mono ?_|refine (NX.out _ (PD.out.below (υ.alloc I _).drew)).mono ?_);rintro e w2 ⟨r,rfl,GG,nR,jP,eI,vN⟩;have Rn:r.toNat<n:=Y;have gX:Fr b W1 w2:=(by first|exact dv eI|exact ((Fr.refl _ _).then (υ.alloc I _)).drew.trans eI);obtain ⟨mm,tt,ll,hh⟩:=Ci.out w2 gX jP;have l0:=ll r.toNat Rn;have l1:=hh r.toNat Rn;have y1:g<w2.heap.size:=(by have:=gX.size;have:=Qx.out;omega);have y2:¬g=w2.heap.size:=Y;have y4:w.heap.size<w2.heap.size:=(by have:=gX.size;omega);have y5:¬w.heap.size=w2.heap.size:=Y;have y3:¬w2.heap.size=g:=Y;(first | (have kb:w2.heap[W1.heap.size]?=some (.cells #[.int .u8 0,.int .u8 0] 84 (0,0)):=(eI.block W1.heap.size (by simp[World.drew,World.drewN]) (by intro e;injection e with e;exact z3 e.symm)).trans (heap_alloc_new W1 _);have kc0:w2.cell? ⟨W1.heap.size,0,none⟩=some (.int .u8 0):=(by rw[cell_of_row _ _ _ _ _ _ kb];rfl);have kc1:w2.cell? ⟨W1.heap.size,1,none⟩=some (.int .u8 0):=(by rw[cell_of_row _ _ _ _ _ _ kb];rfl);have kf:∀j,w2.frozen? ⟨W1.heap.size,j,none⟩=false:=(λj=>by simp[World.frozen?,kb]);have KB:=Z kb;clear kb)|skip);have hff:=Z (H gX jP);clear vN eI gX ll hh))
  all_goals
   go_wp2_with fail
   go_meet
   obtain ⟨gX,jP⟩:=hff.out;obtain ⟨bd0,bd1,bd2⟩:=HBD.out r.toNat Rn
   first
    |exact ⟨w2.heap.size,LO r.toNat,HI r.toNat,rfl,by rw[World.cell?_alloc_mark];rfl,by rw[World.cell?_alloc_mark];rfl,bd0,bd1,bd2,jP.below (υ.alloc I _),gX.then (υ.alloc gX.size _),ξ,Y⟩
    |exact ⟨W1.heap.size,LO r.toNat,HI r.toNat,rfl,by rw[cell_of_row _ _ _ _ _ _ (cN (cN KB.out 0 _) 1 _)];rfl,by rw[cell_of_row _ _ _ _ _ _ (cN (cN KB.out 0 _) 1 _)];rfl,bd0,bd1,bd2,fD (fD jP Y) Y,kS (kS gX I) I,by simpa [World.setCell] using World.block_lt_of_cell? _ _ kc0,Y⟩
 case rest=>
  obtain ⟨R,lo,hi,rfl,q0,q1,b0,b1,b2,jP,hf,hR,hbR⟩:=hcut;obtain ⟨W2,gK⟩:∃W2:World,W2=wc:=⟨_,rfl⟩;rw[<-gK]at q0 q1 jP hf hR|-;clear gK m1 z1 z2 z3 z4 z5 z6 z7 Ci NX PD Pm HBD;have hT0:w.heap.size<=W2.heap.size:=by have h1:=hf.size;have h2:=HB.out.size;omega
  have hFW:Fr b w W2:=(Fr.aa HB.out).trans hf;have NX:=Z (λw' (ht:aD b w')=>bQ b (hi-lo+1) w' Y Y ht);have FR:IntKind.i64.wrap hi=hi:=IntWalk.i64_in _ Y;have hw1:IntKind.i64.wrap lo=lo:=IntWalk.i64_in _ Y;have ew:IntKind.i64.wrap (hi-lo)=hi-lo:=IntWalk.i64_in _ Y;have yD:IntKind.i64.wrap (hi-lo+1)=hi-lo+1:=IntWalk.i64_in _ Y;have Pk:=Z (λw' (hf:Fr b W2 w') (ht:aD b w')=>show w'.cell? ⟨R,0,none⟩=some (.int .u8 lo)/\w'.cell? ⟨R,1,none⟩=some (.int .u8 hi)/\aD b w' from
   ⟨(χ R 0 (hf.block R hR (by intro e;injection e;omega))).trans q0,(χ R 1 (hf.block R hR (by intro e;injection e;omega))).trans q1,ht⟩)
  have YS:=Z jP;clear jP
  go_upto_region 5 with fail
  go_region_held3 (λw'=>w'.cell? ⟨R,0,none⟩=some (.int .u8 lo)/\w'.cell? ⟨R,1,none⟩=some (.int .u8 hi)/\aD b w')
   (first|exact Pk.out _ (Fr.refl _ _).drew (YS.out.below υ.drew)|exact Pk.out _ (dv qH) Aq|exact Pk.out _ ((dv qH).then (υ.alloc (dv qH).size _)) (Aq.below (υ.alloc I _)))
   ((go_at_call 20;refine (NX.out _ (YS.out.below υ.drew)).mono ?_;rintro e w3 ⟨r,rfl,GG,nR,Aq,qH⟩;have Pv:IntKind.u8.wrap r=r:=(IntWalk.u8_in _ Y);have hw5:IntKind.u8.wrap (lo+r)=lo+r:=(IntWalk.u8_in _ Y)))
  all_goals
   go_wp2_with fail;go_ret;have Dy:=dv qH;have hu:lo+r=((UInt8.ofNat (lo+r).toNat).toNat:Int):=by rw[UInt8.toNat_ofNat'];omega
   refine ⟨_,[UInt8.ofNat (lo+r).toNat],rfl,hm,?_,Aq.below (υ.alloc I _),hFW.trans (Dy.then (υ.alloc Dy.size _))⟩;have h5:=agY (w:=w3.alloc (.cells #[.int .u8 (lo+r)] 5)) (B:=w.heap.size) (cs:=[.int .u8 (lo+r)]) (heap_alloc_new _ _) (by have:=Dy.size;omega) ξ
   show World.ownsRow _ _ _ _ _ _ _;simp only[List.map_cons,List.map_nil,List.length_cons,List.length_nil];rw[<-hu];exact h5
theorem zk.fns{b:Nat}{w:World}{G:List Value->Prop}{n:Nat}{v:Value}(h:zk b w G n v):∃g f c,∃U0 U1 U2 U3 U4:Nat->Value,v=.slice (some ⟨g,f,none⟩) n c/\b<g/\g<w.heap.size/\n<=1000/\
  (∀j,j<n->w.cell? ⟨g,f+j*5,none⟩=some (U0 j))/\(∀j,j<n->w.cell? ⟨g,f+j*5+1,none⟩=some (U1 j))/\(∀j,j<n->w.cell? ⟨g,f+j*5+2,none⟩=some (U2 j))/\(∀j,j<n->w.cell? ⟨g,f+j*5+3,none⟩=some (U3 j))/\(∀j,j<n->w.cell? ⟨g,f+j*5+4,none⟩=some (U4 j))/\
  (∀j,j<n->G [U0 j,U1 j,U2 j,U3 j,U4 j]):=by
 obtain ⟨g,f,c,rfl,h1,h2,h3,h5⟩:=h;have h6:∀j,∃u:Value×Value×Value×Value×Value,j<n->(w.cell? ⟨g,f+j*5,none⟩=some u.1/\w.cell? ⟨g,f+j*5+1,none⟩=some u.2.1/\w.cell? ⟨g,f+j*5+2,none⟩=some u.2.2.1/\w.cell? ⟨g,f+j*5+3,none⟩=some u.2.2.2.1/\w.cell? ⟨g,f+j*5+4,none⟩=some u.2.2.2.2/\G [u.1,u.2.1,u.2.2.1,u.2.2.2.1,u.2.2.2.2]):=by
  intro j;by_cases hj:j<n
  .obtain ⟨u0,u1,u2,u3,u4,r⟩:=h5 j hj;exact ⟨(u0,u1,u2,u3,u4),λ_=>r⟩
  .exact ⟨(undef,undef,undef,undef,undef),λh=>absurd h hj⟩
 obtain ⟨U,hU⟩:=Classical.axiomOfChoice h6;exact ⟨g,f,c,λj=>(U j).1,λj=>(U j).2.1,λj=>(U j).2.2.1,λj=>(U j).2.2.2.1,λj=>(U j).2.2.2.2,rfl,h1,h2,h3,λj hj=>(hU j hj).1,λj hj=>(hU j hj).2.1,λj hj=>(hU j hj).2.2.1,λj hj=>(hU j hj).2.2.2.1,λj hj=>(hU j hj).2.2.2.2.1,λj hj=>(hU j hj).2.2.2.2.2⟩
theorem fV.mono{b m m':Nat}{w:World}{e:Ending}{w':World}(h:fV b m w e w')(hm:m<=m'):fV b m' w e w':=by
 obtain ⟨v,l,h1,h2,r⟩:=h;exact ⟨v,l,h1,Nat.le_trans h2 hm,r⟩
theorem vk(b d m' n:Nat)(A B:Option Addr)(a1 a2 b1 b2:Nat)(mn mx:Int)(w:World)(hk:zk b w (jZ b w d m') n (.slice B b1 b2))(hm:n*m'<=1000000)(ht:aD b w)
  (jk:∀(vs:List Value) (w':World),jZ b w' d m' vs->aD b w'->Calls Tryz.prog 24 #[.pointer (some ⟨b,0,none⟩),.agg vs.toArray] w' (fV b m' w')) :
  Calls Tryz.prog 24 #[.pointer (some ⟨b,0,none⟩),.agg #[.int .i64 2,.slice A a1 a2,.slice B b1 b2,.int .i64 mn,.int .i64 mx]] w (fV b (n*m') w):=by
 obtain ⟨i0,hi,hz0,hz1,hz2⟩:=info_parts kt;obtain ⟨g,f,c,U0,U1,U2,U3,U4,hv,gL,dR,hn,k0,k1,k2,k3,k4,kG⟩:=hk.fns;injection hv with e1 e2 e3;subst e1 e2 e3;obtain ⟨W1,hW1⟩:∃W,w.alloc (Obj.cells #[Value.int IntKind.i64 2,Value.slice A a1 a2,Value.slice (some ⟨g,f,none⟩) b1 b2,Value.int IntKind.i64 mn,Value.int IntKind.i64 mx] 41)=W:=⟨_,rfl⟩;have aT:Below w.heap.size w W1:=by rw[<-hW1];exact υ.alloc I _
 have Cy:W1.heap.size=w.heap.size+1:=by rw[<-hW1];simp
 have m2:W1.cell? ⟨w.heap.size,2,none⟩=some (.slice (some ⟨g,f,none⟩) b1 b2):=by rw[<-hW1,World.cell?_alloc_mark];rfl
 have dL:=ht.lt;have nA:=ht.below aT;have HK:=Z (λ(w':World) (hf:Fr b w w') (j:Nat) (hj:j<b1)=>show (w'.cell? ⟨g,f+j*5,none⟩=some (U0 j)/\w'.cell? ⟨g,f+j*5+1,none⟩=some (U1 j)/\w'.cell? ⟨g,f+j*5+2,none⟩=some (U2 j)/\w'.cell? ⟨g,f+j*5+3,none⟩=some (U3 j)/\w'.cell? ⟨g,f+j*5+4,none⟩=some (U4 j)/\jZ b w' d m' [U0 j,U1 j,U2 j,U3 j,U4 j]) from
  ⟨((ai.dO hf).cell gL dR).trans (k0 j hj),((ai.dO hf).cell gL dR).trans (k1 j hj),((ai.dO hf).cell gL dR).trans (k2 j hj),((ai.dO hf).cell gL dR).trans (k3 j hj),((ai.dO hf).cell gL dR).trans (k4 j hj),(kG j hj).later (ai.dO hf)⟩)
 have PE:=Z jk;have lC:=Z hW1;have HB:=Z aT;have z8:=Z m2;have PD:=Z nA;have HZ:=Z Cy;clear k0 k1 k2 k3 k4 kG jk hW1 aT m2 ht nA hk Cy
 go_enter Tryz.func24,Tryz.ntmps24
 go_wp2_with fail;rw[lC.out];clear lC;go_loopw [5,7] (λv i wr=>∃(k:Nat) (o:List UInt8),k<=b1/\i=.int .i64 (k:Int)/\OB 5 W1.heap.size v o wr/\o.length<=k*m'/\aD b wr/\Fr b W1 wr) (λ_ i _=>b1 - (intOf i).toNat)
 case atStart=>exact ⟨0,[],Y,rfl,OB.km _ _ _,ξ,PD.out,Fr.refl _ _⟩
 case round=>
  obtain ⟨k,o,hk,rfl,hown,ho,sk,dY⟩:=hrel;have Xy:Fr b w wr:=(Fr.aa HB.out).trans dY;have c2:wr.cell? ⟨w.heap.size,2,none⟩=some (.slice (some ⟨g,f,none⟩) b1 b2):=(χ w.heap.size 2 (dY.block w.heap.size (by have:=HZ.out;omega) (by intro e;injection e;omega))).trans z8.out
  by_cases hlt:k<b1
  .have hd:decide ((k:Int)<(b1:Int))=true:=τ;have cX:decide (k<b1)=true:=decide_eq_true hlt;obtain ⟨q0,q1,q2,q3,q4,hP⟩:=HK.out wr Xy k hlt;have IH:=Z (PE.out _ wr hP sk);have Lc:k*m'+m'<=1000000:=by
    have:(k+1)*m'<=b1*m':=Nat.mul_le_mul_right _ hlt;rw[Nat.succ_mul]at this;omega
   have HKM:=Z Lc;clear hP Lc;go_wp2_with fail;refine IH.out.mono ?_;rintro e w2 ⟨v2,l2,rfl,vO,hv2,jP,eI⟩;have NC:b<W1.heap.size:=by have:=HZ.out;omega
   have bh:=hown.fr eI NC;have hlen:o.length+l2.length<1000000000:=by have:=HKM.out;omega
   have hBs:W1.heap.size<=w2.heap.size:=Nat.le_trans dY.size eI.size;have HO:=Z (show (o++l2).length<=(k+1)*m' by rw[List.length_append,Nat.succ_mul];omega)
   clear ho vO q0 q1 q2 q3 q4;go_wp2_with (at_builtin;refine tN Tryz.underlying28 hi hz0 hz1 hz2 _ _ _ _ _ _ _ _ rfl rfl rfl rfl bh hv2 hlen hBs ?_;intro v3 w3 cI bW);go_roundw
   case rel=>exact ⟨k+1,o++l2,Y,by go_num,cI,HO.out,jP.fU bW NC,(dY.trans eI).then bW⟩
   case measure=>exact μ
  .obtain rfl:k=b1:=Y;have hd:decide ((k:Int)<(k:Int))=false:=θ;have cX:decide (k<k)=false:=θ;go_wp2_with fail;go_ret;exact ⟨_,o,rfl,ho,hown.mono (by have:=HZ.out;omega),sk,Xy⟩
theorem Fe(b d m' n:Nat)(A B:Option Addr)(a1 a2 b1 b2:Nat)(mn mx:Int)(w:World)(hk:zk b w (jZ b w d m') n (.slice B b1 b2))(uq:1<=n)(h0:0<=mn)(h1:mn<=mx)(xV:mx<=1000)(hm:mx.toNat*m'<=1000000)(ht:aD b w)
  (jk:∀(vs:List Value) (w':World),jZ b w' d m' vs->aD b w'->Calls Tryz.prog 24 #[.pointer (some ⟨b,0,none⟩),.agg vs.toArray] w' (fV b m' w')) :
  Calls Tryz.prog 24 #[.pointer (some ⟨b,0,none⟩),.agg #[.int .i64 4,.slice A a1 a2,.slice B b1 b2,.int .i64 mn,.int .i64 mx]] w (fV b (mx.toNat*m') w):=by
 obtain ⟨i0,hi,hz0,hz1,hz2⟩:=info_parts kt;obtain ⟨g,f,c,U0,U1,U2,U3,U4,hv,gL,dR,hn,k0,k1,k2,k3,k4,kG⟩:=hk.fns;injection hv with e1 e2 e3;subst e1 e2 e3;obtain ⟨W1,hW1⟩:∃W,w.alloc (Obj.cells #[Value.int IntKind.i64 4,Value.slice A a1 a2,Value.slice (some ⟨g,f,none⟩) b1 b2,Value.int IntKind.i64 mn,Value.int IntKind.i64 mx] 41)=W:=⟨_,rfl⟩;have aT:Below w.heap.size w W1:=by rw[<-hW1];exact υ.alloc I _
 have Cy:W1.heap.size=w.heap.size+1:=by rw[<-hW1];simp
 have m2:W1.cell? ⟨w.heap.size,2,none⟩=some (.slice (some ⟨g,f,none⟩) b1 b2):=by rw[<-hW1,World.cell?_alloc_mark];rfl
 have m3:W1.cell? ⟨w.heap.size,3,none⟩=some (.int .i64 mn):=by rw[<-hW1,World.cell?_alloc_mark];rfl
 have m4:W1.cell? ⟨w.heap.size,4,none⟩=some (.int .i64 mx):=by rw[<-hW1,World.cell?_alloc_mark];rfl
 have dL:=ht.lt;have nA:=ht.below aT;have HK:=Z (λ(w':World) (hf:Fr b w w')=>show (w'.cell? ⟨g,f,none⟩=some (U0 0)/\w'.cell? ⟨g,f+1,none⟩=some (U1 0)/\w'.cell? ⟨g,f+2,none⟩=some (U2 0)/\w'.cell? ⟨g,f+3,none⟩=some (U3 0)/\w'.cell? ⟨g,f+4,none⟩=some (U4 0)/\jZ b w' d m' [U0 0,U1 0,U2 0,U3 0,U4 0]) from
  ⟨((ai.dO hf).cell gL dR).trans (by simpa using k0 0 Y),((ai.dO hf).cell gL dR).trans (by simpa using k1 0 Y),((ai.dO hf).cell gL dR).trans (by simpa using k2 0 Y),((ai.dO hf).cell gL dR).trans (by simpa using k3 0 Y),((ai.dO hf).cell gL dR).trans (by simpa using k4 0 Y),(kG 0 Y).later (ai.dO hf)⟩)
 have PE:=Z jk;have lC:=Z hW1;have HB:=Z aT;have z8:=Z m2;have HZ:=Z Cy;have BT:=Z (gA b mn mx W1 h1 Y Y Y nA);have hkn:0<b1:=Y;have HX:=Z (H h0 (H h1 (H xV hm)));clear k0 k1 k2 k3 k4 kG jk hW1 aT m2 ht nA hk Cy h0 h1 xV hm;have akL:=Z (H m3 m4);clear m3 m4
 go_enter Tryz.func24,Tryz.ntmps24
 go_upto_region 14 with fail
 rw[lC.out];obtain ⟨m3,m4⟩:=akL.out;clear lC;go_wp2_with fail;refine BT.out.mono ?_;rintro e w1 ⟨r,rfl,GG,nR,nA,gX⟩;have jF:=HX.out;have HRB:=Z (H GG nR);have PD:=Z nA;have HF1:=Z gX;obtain ⟨rn,Rn⟩:∃rn:Nat,r=(rn:Int):=⟨r.toNat,Y⟩;subst Rn;have HRN:=Z (show rn<=mx.toNat by omega)
 have akN:rn<=1000:=Y;clear m3 m4 GG nR nA gX jF BT;go_wp2_with fail;go_loopw [5,8] (λv i wr=>∃(k:Nat) (o:List UInt8),k<=rn/\i=.int .i64 (k:Int)/\OB 5 W1.heap.size v o wr/\o.length<=(rn-k)*m'/\aD b wr/\Fr b W1 wr) (λ_ i _=>(intOf i).toNat)
 case atStart=>exact ⟨rn,[],Y,rfl,OB.km _ _ _,ξ,PD.out,HF1.out⟩
 case round=>
  obtain ⟨k,o,hk,rfl,hown,ho,sk,dY⟩:=hrel;have Xy:Fr b w wr:=(Fr.aa HB.out).trans dY;have c2:wr.cell? ⟨w.heap.size,2,none⟩=some (.slice (some ⟨g,f,none⟩) b1 b2):=(χ w.heap.size 2 (dY.block w.heap.size (by have:=HZ.out;omega) (by intro e;injection e;omega))).trans z8.out
  have ad2:rn*m'<=mx.toNat*m':=Nat.mul_le_mul_right _ HRN.out;by_cases hlt:0<k
  .have hd:decide ((0:Int)<(k:Int))=true:=τ;have cX:decide (0<k)=true:=decide_eq_true hlt;obtain ⟨q0,q1,q2,q3,q4,hP⟩:=HK.out wr Xy;have IH:=Z (PE.out _ wr hP sk);have gT:(rn-k)*m'+m'=(rn - (k - 1))*m':=by rw[<-Nat.succ_mul];congr 1;omega
   have Ra:(rn - (k - 1))*m'<=rn*m':=Nat.mul_le_mul_right _ Y;have HKM:=Z (H gT (H Ra ad2));have hw1:IntKind.i64.wrap ((k:Int) - 1)=(k:Int) - 1:=IntWalk.i64_in _ Y;clear hP gT Ra ad2;go_wp2_with fail;refine IH.out.mono ?_;rintro e w2 ⟨v2,l2,rfl,vO,hv2,jP,eI⟩;have NC:b<W1.heap.size:=by have:=HZ.out;omega
   have bh:=hown.fr eI NC;have hlen:o.length+l2.length<1000000000:=by have h1:=HKM.out;have h2:=HX.out.2.2.2;omega
   have hBs:W1.heap.size<=w2.heap.size:=Nat.le_trans dY.size eI.size;have HO:=Z (show (o++l2).length<=(rn - (k - 1))*m' by rw[List.length_append,<-HKM.out.1];omega)
   clear ho vO q0 q1 q2 q3 q4;go_wp2_with (at_builtin;refine tN Tryz.underlying28 hi hz0 hz1 hz2 _ _ _ _ _ _ _ _ rfl rfl rfl rfl bh hv2 hlen hBs ?_;intro v3 w3 cI bW);go_roundw
   case rel=>exact ⟨k - 1,o++l2,Y,by go_num,cI,HO.out,jP.fU bW NC,(dY.trans eI).then bW⟩
   case measure=>exact μ
  .obtain rfl:k=0:=Y;have hlen:o.length<=mx.toNat*m':=by simp at ho;omega
   go_wp2_with fail;go_ret;exact ⟨_,o,rfl,hlen,hown.mono (by have:=HZ.out;omega),sk,Xy⟩
theorem wV(b d m n:Nat)(A B:Option Addr)(a1 a2 b1 b2:Nat)(mn mx:Int)(w:World)(hk:zk b w (jZ b w d m) n (.slice B b1 b2))(uq:1<=n)(ht:aD b w)
  (jk:∀(vs:List Value) (w':World),jZ b w' d m vs->aD b w'->Calls Tryz.prog 24 #[.pointer (some ⟨b,0,none⟩),.agg vs.toArray] w' (fV b m w')) :
  Calls Tryz.prog 24 #[.pointer (some ⟨b,0,none⟩),.agg #[.int .i64 3,.slice A a1 a2,.slice B b1 b2,.int .i64 mn,.int .i64 mx]] w (fV b m w):=by
 obtain ⟨g,f,c,U0,U1,U2,U3,U4,hv,gL,dR,hn,k0,k1,k2,k3,k4,kG⟩:=hk.fns;injection hv with e1 e2 e3;subst e1 e2 e3;obtain ⟨W1,hW1⟩:∃W,w.alloc (Obj.cells #[Value.int IntKind.i64 3,Value.slice A a1 a2,Value.slice (some ⟨g,f,none⟩) b1 b2,Value.int IntKind.i64 mn,Value.int IntKind.i64 mx] 41)=W:=⟨_,rfl⟩;have aT:Below w.heap.size w W1:=by rw[<-hW1];exact υ.alloc I _
 have Cy:W1.heap.size=w.heap.size+1:=by rw[<-hW1];simp
 have m2:W1.cell? ⟨w.heap.size,2,none⟩=some (.slice (some ⟨g,f,none⟩) b1 b2):=by rw[<-hW1,World.cell?_alloc_mark];rfl
 have dL:=ht.lt;have nA:=ht.below aT;have Ci:=Z (λ(w':World) (hf:Fr b W1 w') (htt:aD b w')=>show (w'.cell? ⟨w.heap.size,2,none⟩=some (.slice (some ⟨g,f,none⟩) b1 b2)/\aD b w'/\(∀j,j<b1->w'.cell? ⟨g,f+j*5,none⟩=some (U0 j))/\(∀j,j<b1->w'.cell? ⟨g,f+j*5+1,none⟩=some (U1 j))/\(∀j,j<b1->w'.cell? ⟨g,f+j*5+2,none⟩=some (U2 j))/\(∀j,j<b1->w'.cell? ⟨g,f+j*5+3,none⟩=some (U3 j))/\(∀j,j<b1->w'.cell? ⟨g,f+j*5+4,none⟩=some (U4 j))) from by
  have Xy:Fr b w w':=(Fr.aa aT).trans hf;have hs:=ai.dO Xy;exact ⟨(χ w.heap.size 2 (hf.block w.heap.size Y (by intro e;injection e;omega))).trans m2,htt,λj hj=>(hs.cell gL dR).trans (k0 j hj),λj hj=>(hs.cell gL dR).trans (k1 j hj),λj hj=>(hs.cell gL dR).trans (k2 j hj),λj hj=>(hs.cell gL dR).trans (k3 j hj),λj hj=>(hs.cell gL dR).trans (k4 j hj)⟩)
 have HG:=Z (λ(w':World) (hf:Fr b W1 w') (j:Nat) (hj:j<b1)=>(kG j hj).later (ai.dO ((Fr.aa aT).trans hf)));have NX:=Z (λw' (ht:aD b w')=>bQ b (b1:Int) w' Y Y ht);have PE:=Z jk;have lC:=Z hW1;have HB:=Z aT;have PD:=Z nA;have HZ:=Z Cy;clear k0 k1 k2 k3 k4 kG jk hW1 aT m2 ht nA hk Cy
 go_enter Tryz.func24,Tryz.ntmps24
 go_upto_region 12 with fail
 rw[lC.out];clear lC;go_region_held3 (λw'=>w'.cell? ⟨w.heap.size,2,none⟩=some (.slice (some ⟨g,f,none⟩) b1 b2)/\aD b w'/\(∀j,j<b1->w'.cell? ⟨g,f+j*5,none⟩=some (U0 j))/\(∀j,j<b1->w'.cell? ⟨g,f+j*5+1,none⟩=some (U1 j))/\(∀j,j<b1->w'.cell? ⟨g,f+j*5+2,none⟩=some (U2 j))/\(∀j,j<b1->w'.cell? ⟨g,f+j*5+3,none⟩=some (U3 j))/\(∀j,j<b1->w'.cell? ⟨g,f+j*5+4,none⟩=some (U4 j)))
  (first|exact Ci.out _ (Fr.refl _ _).drew (PD.out.below υ.drew)|exact Ci.out _ (dv eI) jP|exact Ci.out _ ((dv eI).trans qH) Aq)
  ((first | (go_at_call 20;refine (NX.out _ (PD.out.below υ.drew)).mono ?_;rintro e w2 ⟨r,rfl,GG,nR,jP,eI⟩;have Rn:r.toNat<b1:=Y) | (go_at_call 24;refine (PE.out _ w2 (HG.out w2 (dv eI) r.toNat Rn) jP).mono ?_;rintro e w3 ⟨v3,l3,rfl,Rk,Xz,Aq,qH⟩)))
 all_goals
  go_wp2_with fail;go_ret;have hff:=(dv eI).trans qH;exact ⟨v3,l3,rfl,Rk,Xz.mono (by have h1:=HZ.out;have h2:W1.heap.size<=w2.heap.size:=eI.size;omega),Aq,(Fr.aa HB.out).trans hff⟩
theorem iP(b:Nat):∀(d m:Nat) (vs:List Value) (w:World),jZ b w d m vs->m<=1000000->aD b w->Calls Tryz.prog 24 #[.pointer (some ⟨b,0,none⟩),.agg vs.toArray] w (fV b m w)
 |0,_,_,_,h,_,_=>h.elim
 |d+1,m,vs,w,⟨v1,v2,mn,mx,⟨⟨A,a1,a2,e1⟩,⟨B,b1,b2,e2⟩⟩,h⟩,hm,ht=>by
  subst e1 e2;rcases h with ⟨rfl,h2,h3⟩|⟨rfl,n,m',h2,h3⟩|⟨rfl,n,h2,h3⟩|⟨rfl,n,m',h2,h3,h4,h5,h6,h7⟩
  .exact Fb b m A B _ _ _ _ mn mx w h2 h3 ht
  .have hm':m'<=1000000\/n=0:=by
    rcases Nat.eq_zero_or_pos n with h0|h0
    .exact .inr h0
    .left
     have:1*m'<=n*m':=Nat.mul_le_mul_right _ h0;omega
   rcases hm' with hm'|Z6
   .exact (vk b d m' n A B _ _ _ _ mn mx w h2 Y ht (λvs w' hP XA=>iP b d m' vs w' hP hm' XA)).mono λe w' h=>h.mono h3
   .subst Z6;exact (vk b d 0 0 A B _ _ _ _ mn mx w (by
     obtain ⟨g,f,c,q1,q2,q3,q4,-⟩:=h2;exact ⟨g,f,c,q1,q2,q3,q4,λj hj=>absurd hj (Nat.not_lt_zero _)⟩) Y ht (λvs w' hP XA=>iP b d 0 vs w' hP Y XA)).mono λe w' h=>h.mono Y
  .exact wV b d m n A B _ _ _ _ mn mx w h2 h3 ht (λvs w' hP XA=>iP b d m vs w' hP hm XA)
  .have hm':m'<=1000000:=by
    have:1*m'<=mx.toNat*m':=Nat.mul_le_mul_right _ Y;omega
   exact (Fe b d m' n A B _ _ _ _ mn mx w h2 h3 h4 h5 h6.2 Y ht (λvs w' hP XA=>iP b d m' vs w' hP hm' XA)).mono λe w' h=>h.mono h7
def MbN(b m:Nat)(nd:Nd)(w:World)(e:Ending)(w':World):Prop:=∃(v:Value) (l:List UInt8),e=.returned v/\l.length<=m/\bg nd (l.map UInt8.toNat)/\OB 5 w.heap.size v l w'/\aD b w'/\Fr b w w'
def atB(b:Nat)(w:World)(kids:List Nd)(v:Value):Prop:=∃g f n c,v=.slice (some ⟨g,f,none⟩) n c/\n=kids.length/\∀W,ai b w W->fF W kids g f
theorem ajR{b:Nat}{w:World}{kids:List Nd}{g f j:Nat}{u0 u1 u2 u3 u4:Value}(hS:∀W,ai b w W->fF W kids g f)(gL:b<g)(dR:g<w.heap.size)(k0:w.cell? ⟨g,f+j*5,none⟩=some u0)(k1:w.cell? ⟨g,f+j*5+1,none⟩=some u1)(k2:w.cell? ⟨g,f+j*5+2,none⟩=some u2)(k3:w.cell? ⟨g,f+j*5+3,none⟩=some u3)(k4:w.cell? ⟨g,f+j*5+4,none⟩=some u4)
  (pJ:j<kids.length) (W:World) (hW:ai b w W):bT W kids[j] [u0,u1,u2,u3,u4]:=by
 obtain ⟨vs,h1,h2⟩:=(hS W hW).at j pJ;have h5:vs.length=5:=by obtain ⟨A1,c1,A2,c2,rfl,-⟩:=h2.form;rfl
 obtain ⟨x0,x1,x2,x3,x4,rfl⟩:∃x0 x1 x2 x3 x4,vs=[x0,x1,x2,x3,x4]:=by
  match vs,h5 with
  | [x0,x1,x2,x3,x4],_=>exact ⟨x0,x1,x2,x3,x4,rfl⟩
 have q0:=(h1 0 O).symm.trans ((hW.cell gL dR).trans (by simpa using k0))
 have q1:=(h1 1 O).symm.trans ((hW.cell gL dR).trans k1);have q2:=(h1 2 O).symm.trans ((hW.cell gL dR).trans k2);have q3:=(h1 3 O).symm.trans ((hW.cell gL dR).trans k3);have q4:=(h1 4 O).symm.trans ((hW.cell gL dR).trans k4);injection q0 with q0;injection q1 with q1;injection q2 with q2;injection q3 with q3;injection q4 with q4;subst q0 q1 q2 q3 q4;exact h2
end Go.Proofs.YtdmoogjddmdmbaaGreatDoor
