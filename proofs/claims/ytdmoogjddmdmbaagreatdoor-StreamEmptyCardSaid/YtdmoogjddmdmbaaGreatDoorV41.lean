/- Walks. -/
import Derived.Deep.RegionHeld3
import Derived.Deep.CutRange
import Derived.Test.YtdmoogjddmdmbaaGreatDoorV04
import Derived.Test.YtdmoogjddmdmbaaGreatDoorV03
import Derived.Test.YtdmoogjddmdmbaaGreatDoorV06
set_option maxRecDepth 100000
set_option maxHeartbeats 16000000
set_option linter.unusedVariables false
set_option linter.unusedSimpArgs false
namespace Go.Proofs.YtdmoogjddmdmbaaGreatDoor
open Go.RowKit
section
set_option linter.unusedVariables false
set_option linter.unusedSimpArgs false
open Go.RowKit
def fX (b m:Nat) (w:World) (e:Ending) (w':World):Prop:=∃(v:Value) (l:List UInt8),e = .returned v/\l.length<=m/\OB 5 w.heap.size v l w'/\az b w'/\Fr b w w'
theorem dm {b:Nat} {w w':World} (h:Fr b w.drew w'):Fr b w w':=⟨h.os,h.tape,h.output,h.size,h.block⟩
theorem Fr.drew {b:Nat} {w w':World} (h:Fr b w w'):Fr b w w'.drew:=⟨h.os,h.tape,h.output,h.size,h.block⟩
theorem cD {w:World} {G e:Nat} {cs:Array Value} {m:Nat×Nat} (h:w.heap[G]?=some (.cells cs e m)) (j:Nat) (v:Value):(w.setCell ⟨G,j,none⟩ v).heap[G]?=some (.cells (cs.setIfInBounds j v) e m):=by
 simp[World.setCell,Array.getElem?_modify,h]
theorem kW {b K j:Nat} {v:Value} {w w':World} (h:Fr b w w') (hK:w.heap.size<=K):Fr b w (w'.setCell ⟨K,j,none⟩ v):=
 ⟨h.os,h.tape,h.output,by simpa [World.setCell] using h.size,λk hk hne=>(Below.heap_setCell _ _ _ _ (by dsimp only;omega)).trans (h.block k hk hne)⟩
theorem fG {b K j:Nat} {v:Value} {w:World} (h:az b w) (hK:b<K):az b (w.setCell ⟨K,j,none⟩ v):=h.keep λk hk=>Below.heap_setCell _ _ _ _ (by dsimp only;omega)
theorem JX (b:Nat) (n:Int) (w:World) (hn:0<n) (mV:n<=65536) (ht:az b w) :
  Calls Tryz.prog 20 #[.pointer (some ⟨b,0,none⟩), .int .i64 n] w λe w'=>∃r:Int,e = .returned (.int .i64 r)/\0<=r/\r<n/\az b w'/\Fr b w w'/\w'.heap.size=w.heap.size:=by
 have wQ:=Lib.hid ht;obtain ⟨a,m,c,k,hb,hk,hm,hcell⟩:=ht;unfold maxLen at hm;have c0:w.cell? ⟨b,0,none⟩=some (.slice a m c):=by rw[cell_of_row w b 0 _ _ _ hb];rfl
 have c1:w.cell? ⟨b,1,none⟩=some (.int .i64 (k:Int)):=by rw[cell_of_row w b 1 _ _ _ hb];rfl
 have f1:w.frozen? ⟨b,1,none⟩=false:=by simp[World.frozen?,hb]
 by_cases hlt:k<m
 .obtain ⟨ad,x,rfl,akb,mZ⟩:=hcell k hlt;have HB:=Lib.hid hb;have HC:=Lib.hid hcell;clear hb hcell;obtain ⟨y,hy⟩:∃y,bits .and .i64 x 65535=y:=⟨_,rfl⟩;have KX:=Dd x;rw[hy]at KX
  go_enter Tryz.func20,Tryz.ntmps20
  go_wp2_with fail
  go_quiet (fail)
  go_wp2_with fail
  go_quiet (fail)
  go_wp2
  go_ret;obtain ⟨q1,q2⟩:=yn (some ad) m c k HB.out hlt (by unfold maxLen;omega) HC.out rfl rfl rfl rfl
  exact ⟨y % n,rfl,Int.emod_nonneg _ (by omega),Int.emod_lt_of_pos _ hn,q1,⟨q2.os,q2.tape,q2.output,q2.size,q2.block⟩,by simp[World.setCell,World.drew,World.drewN]⟩
 .obtain rfl:k=m:=by omega
  go_enter Tryz.func20,Tryz.ntmps20
  go_wp2_with fail
  go_quiet (fail)
  go_wp2
  go_ret;exact ⟨0,rfl,by omega,by omega,wQ.out,⟨rfl,rfl,rfl,Nat.le_refl _,λ_ _ _=>rfl⟩,rfl⟩
theorem jx (b:Nat) (x y:Int) (w:World) (h:x<=y) (h2:y-x<=65000) (hx:-1000000000<=x) (hy:y<=1000000000) (ht:az b w) :
  Calls Tryz.prog 8 #[.pointer (some ⟨b,0,none⟩), .int .i64 x, .int .i64 y] w λe w'=>∃r:Int,e = .returned (.int .i64 r)/\x<=r/\r<=y/\az b w'/\Fr b w w':=by
 have N:=bB b (y-x+1) w (by omega) (by omega) ht
 have hw1:IntKind.i64.wrap (y-x)=y-x:=IntWalk.i64_in _ (by omega)
 have pq:IntKind.i64.wrap (y-x+1)=y-x+1:=IntWalk.i64_in _ (by omega)
 have HN:=Lib.hid N;clear N
 go_enter Tryz.func8,Tryz.ntmps8
 go_wp2_with fail;refine HN.out.mono ?_;rintro e w1 ⟨r,rfl,h0,h1,kr,gI⟩;have Ma:IntKind.i64.wrap (x+r)=x+r:=IntWalk.i64_in _ (by omega)
 go_wp2_with fail;go_ret;exact ⟨x+r,rfl,by omega,by omega,kr,gI⟩
set_option maxHeartbeats 4000000 in
theorem FB (b m:Nat) (A B:Option Addr) (n c n' c':Nat) (mn mx:Int) (w:World) (hr:PW b w (.slice A n c)) (hm:1<=m) (ht:az b w) :
  Calls Tryz.prog 24 #[.pointer (some ⟨b,0,none⟩), .agg #[.int .i64 1, .slice A n c, .slice B n' c', .int .i64 mn, .int .i64 mx]] w (fX b m w):=by
 obtain ⟨g,f,n0,c0,hv,h1,h2,gQ,dV,hcs⟩:=hr;injection hv with e1 e2 e3;subst e1 e2 e3;obtain ⟨W1,hW1⟩:∃W,w.alloc (Obj.cells #[Value.int IntKind.i64 1,Value.slice (some ⟨g,f,none⟩) n c,Value.slice B n' c',Value.int IntKind.i64 mn,Value.int IntKind.i64 mx] 41)=W:=⟨_,rfl⟩;have aI:Below w.heap.size w W1:=by rw[<-hW1];exact (Below.refl _ _).alloc (Nat.le_refl _) _
 have hz1:W1.heap.size=w.heap.size+1:=by rw[<-hW1];simp
 have m1:W1.cell? ⟨w.heap.size,1,none⟩=some (.slice (some ⟨g,f,none⟩) n c):=by rw[<-hW1,World.cell?_alloc_mark];rfl
 have kr:=ht.below aI;have dK:=ht.lt;obtain ⟨LO,HI,Vb⟩:∃LO HI:Nat->Int,∀j,j<n->(w.cell? ⟨g,f+j*2,none⟩=some (.int .u8 (LO j))/\w.cell? ⟨g,f+j*2+1,none⟩=some (.int .u8 (HI j))/\0<=LO j/\LO j<=HI j/\HI j<256):=by
  refine ⟨λj=>if h:j<n then (hcs j h).choose else 0,λj=>if h:j<n then (hcs j h).choose_spec.choose else 0,λj hj=>?_⟩;simp only[dif_pos hj];exact (hcs j hj).choose_spec.choose_spec
 have PB:=Lib.hid (λ(w':World) (hs:af b w w')=>show (∀j,j<n->w'.cell? ⟨g,f+j*2,none⟩=some (.int .u8 (LO j)))/\(∀j,j<n->w'.cell? ⟨g,f+j*2+1,none⟩=some (.int .u8 (HI j))) from
  ⟨λj hj=>(hs.cell gQ dV).trans (Vb j hj).1,λj hj=>(hs.cell gQ dV).trans (Vb j hj).2.1⟩)
 have HBD:=Lib.hid (λj hj=>(Vb j hj).2.2);clear Vb;have lq:=Lib.hid hW1;have HB:=Lib.hid aI;clear hcs hW1 aI ht;have NX:=Lib.hid (λw' (ht:az b w')=>JX b (n:Int) w' (by omega) (by omega) ht)
 have PX:=Lib.hid kr;have tu:=Lib.hid (And.intro m1 hz1);clear kr m1 hz1
 go_enter Tryz.func24,Tryz.ntmps24
 go_upto_region 4 with fail
 rw[lq.out];obtain ⟨m1,hz1⟩:=tu.out;clear tu lq;have CO:=Lib.hid (λw' (hf:Fr b W1 w') (ht:az b w')=>show w'.cell? ⟨w.heap.size,1,none⟩=some (.slice (some ⟨g,f,none⟩) n c)/\az b w'/\(∀j,j<n->w'.cell? ⟨g,f+j*2,none⟩=some (.int .u8 (LO j)))/\(∀j,j<n->w'.cell? ⟨g,f+j*2+1,none⟩=some (.int .u8 (HI j))) from
  ⟨(World.cell?_of_block (a:=⟨w.heap.size,1,none⟩) (hf.block w.heap.size (by omega) (by intro e;injection e;omega))).trans m1,ht,PB.out w' ((af.aa HB.out:af b w W1).trans (af.dH hf))⟩)
 have z1:¬w.heap.size=W1.heap.size:=by omega
 have z2:¬W1.heap.size=w.heap.size:=by omega
 have z3:¬b=W1.heap.size:=by omega
 have z7:w.heap.size<W1.heap.size:=by omega
 have z4:g<W1.heap.size:=by omega
 have z5:¬g=W1.heap.size:=by omega
 have z6:¬W1.heap.size=g:=by omega
 have QL:=Lib.hid hz1;clear hz1
 go_cut [6] from 13 to 88 (λp wx=>∃(R:Nat) (lo hi:Int),p = .pointer (some ⟨R,0,none⟩)/\wx.cell? ⟨R,0,none⟩=some (.int .u8 lo)/\wx.cell? ⟨R,1,none⟩=some (.int .u8 hi)/\0<=lo/\lo<=hi/\hi<256/\az b wx/\Fr b W1 wx/\R<wx.heap.size/\b<R)
 case first=>
  go_region_with ((go_at_call 20;(first | refine (NX.out _ (PX.out.below (Below.refl _ _).drew)).mono ?_ | refine (NX.out _ (PX.out.below ((Below.refl _ _).alloc (Nat.le_refl _) _).drew)).mono ?_);rintro e w2 ⟨r,rfl,Ha,kI,lH,eg,xu⟩;have RC:r.toNat<n:=(by omega);have gI:Fr b W1 w2:=(by first | exact dm eg | exact ((Fr.refl _ _).then ((Below.refl _ _).alloc (Nat.le_refl _) _)).drew.trans eg);obtain ⟨mm,tt,ll,hh⟩:=CO.out w2 gI lH;have l0:=ll r.toNat RC;have l1:=hh r.toNat RC;have y1:g<w2.heap.size:=(by have:=gI.size;have:=QL.out;omega);have y2:¬g=w2.heap.size:=(by omega);have y4:w.heap.size<w2.heap.size:=(by have:=gI.size;omega);have y5:¬w.heap.size=w2.heap.size:=(by omega);have y3:¬w2.heap.size=g:=(by omega);(first | (have kb:w2.heap[W1.heap.size]?=some (.cells #[.int .u8 0, .int .u8 0] 84 (0,0)):=(eg.block W1.heap.size (by simp[World.drew,World.drewN]) (by intro e;injection e with e;exact z3 e.symm)).trans (heap_alloc_new W1 _);have kc0:w2.cell? ⟨W1.heap.size,0,none⟩=some (.int .u8 0):=(by rw[cell_of_row _ _ _ _ _ _ kb];rfl);have kc1:w2.cell? ⟨W1.heap.size,1,none⟩=some (.int .u8 0):=(by rw[cell_of_row _ _ _ _ _ _ kb];rfl);have kf:∀j,w2.frozen? ⟨W1.heap.size,j,none⟩=false:=(λj=>by simp[World.frozen?,kb]);have KB:=Lib.hid kb;clear kb) | skip);have hff:=Lib.hid (And.intro gI lH);clear xu eg gI ll hh))
  all_goals
   go_wp2_with fail
   go_meet
   obtain ⟨gI,lH⟩:=hff.out;obtain ⟨bd0,bd1,bd2⟩:=HBD.out r.toNat RC
   first
    | exact ⟨w2.heap.size,LO r.toNat,HI r.toNat,rfl,by rw[World.cell?_alloc_mark];rfl,by rw[World.cell?_alloc_mark];rfl,bd0,bd1,bd2,lH.below ((Below.refl _ _).alloc (Nat.le_refl _) _),gI.then ((Below.refl _ _).alloc gI.size _),by simp,by omega⟩
    | exact ⟨W1.heap.size,LO r.toNat,HI r.toNat,rfl,by rw[cell_of_row _ _ _ _ _ _ (cD (cD KB.out 0 _) 1 _)];rfl,by rw[cell_of_row _ _ _ _ _ _ (cD (cD KB.out 0 _) 1 _)];rfl,bd0,bd1,bd2,fG (fG lH (by omega)) (by omega),kW (kW gI (Nat.le_refl _)) (Nat.le_refl _),by simpa [World.setCell] using World.block_lt_of_cell? _ _ kc0,by omega⟩
 case rest=>
  obtain ⟨R,lo,hi,rfl,q0,q1,b0,b1,b2,lH,hf,hR,hbR⟩:=hcut;obtain ⟨W2,iU⟩:∃W2:World,W2=wc:=⟨_,rfl⟩;rw[<-iU]at q0 q1 lH hf hR|-;clear iU m1 z1 z2 z3 z4 z5 z6 z7 CO NX PX PB HBD;have hT0:w.heap.size<=W2.heap.size:=by have h1:=hf.size;have h2:=HB.out.size;omega
  have hFW:Fr b w W2:=(Fr.aa HB.out).trans hf;have NX:=Lib.hid (λw' (ht:az b w')=>bB b (hi-lo+1) w' (by omega) (by omega) ht)
  have Gr:IntKind.i64.wrap hi=hi:=IntWalk.i64_in _ (by omega)
  have hw1:IntKind.i64.wrap lo=lo:=IntWalk.i64_in _ (by omega)
  have pq:IntKind.i64.wrap (hi-lo)=hi-lo:=IntWalk.i64_in _ (by omega)
  have Ma:IntKind.i64.wrap (hi-lo+1)=hi-lo+1:=IntWalk.i64_in _ (by omega)
  have PA:=Lib.hid (λw' (hf:Fr b W2 w') (ht:az b w')=>show w'.cell? ⟨R,0,none⟩=some (.int .u8 lo)/\w'.cell? ⟨R,1,none⟩=some (.int .u8 hi)/\az b w' from
   ⟨(World.cell?_of_block (a:=⟨R,0,none⟩) (hf.block R hR (by intro e;injection e;omega))).trans q0,(World.cell?_of_block (a:=⟨R,1,none⟩) (hf.block R hR (by intro e;injection e;omega))).trans q1,ht⟩)
  have YX:=Lib.hid lH;clear lH
  go_upto_region 5 with fail
  go_region_held3 (λw'=>w'.cell? ⟨R,0,none⟩=some (.int .u8 lo)/\w'.cell? ⟨R,1,none⟩=some (.int .u8 hi)/\az b w')
   (first | exact PA.out _ (Fr.refl _ _).drew (YX.out.below (Below.refl _ _).drew) | exact PA.out _ (dm oT) FC | exact PA.out _ ((dm oT).then ((Below.refl _ _).alloc (dm oT).size _)) (FC.below ((Below.refl _ _).alloc (Nat.le_refl _) _)))
   ((go_at_call 20;refine (NX.out _ (YX.out.below (Below.refl _ _).drew)).mono ?_;rintro e w3 ⟨r,rfl,Ha,kI,FC,oT⟩;have PJ:IntKind.u8.wrap r=r:=(IntWalk.u8_in _ (by omega));have hw5:IntKind.u8.wrap (lo+r)=lo+r:=(IntWalk.u8_in _ (by omega))))
  all_goals
   go_wp2_with fail;go_ret;have zL:=dm oT;have hu:lo+r=((UInt8.ofNat (lo+r).toNat).toNat:Int):=by rw[UInt8.toNat_ofNat'];omega
   refine ⟨_,[UInt8.ofNat (lo+r).toNat],rfl,hm,?_,FC.below ((Below.refl _ _).alloc (Nat.le_refl _) _),hFW.trans (zL.then ((Below.refl _ _).alloc zL.size _))⟩;have h5:=agS (w:=w3.alloc (.cells #[.int .u8 (lo+r)] 5)) (B:=w.heap.size) (cs:=[.int .u8 (lo+r)]) (heap_alloc_new _ _) (by have:=zL.size;omega) (by simp)
   show World.ownsRow _ _ _ _ _ _ _;simp only[List.map_cons,List.map_nil,List.length_cons,List.length_nil];rw[<-hu];exact h5
end
section
set_option linter.unusedVariables false
set_option linter.unusedSimpArgs false
open Go.RowKit
theorem zJ.fns {b:Nat} {w:World} {G:List Value->Prop} {n:Nat} {v:Value} (h:zJ b w G n v):∃g f c,∃U0 U1 U2 U3 U4:Nat->Value,v = .slice (some ⟨g,f,none⟩) n c/\b<g/\g<w.heap.size/\n<=1000/\
  (∀j,j<n->w.cell? ⟨g,f+j*5,none⟩=some (U0 j))/\(∀j,j<n->w.cell? ⟨g,f+j*5+1,none⟩=some (U1 j))/\(∀j,j<n->w.cell? ⟨g,f+j*5+2,none⟩=some (U2 j))/\(∀j,j<n->w.cell? ⟨g,f+j*5+3,none⟩=some (U3 j))/\(∀j,j<n->w.cell? ⟨g,f+j*5+4,none⟩=some (U4 j))/\
  (∀j,j<n->G [U0 j,U1 j,U2 j,U3 j,U4 j]):=by
 obtain ⟨g,f,c,rfl,h1,h2,h3,h5⟩:=h;have h6:∀j,∃u:Value×Value×Value×Value×Value,j<n->(w.cell? ⟨g,f+j*5,none⟩=some u.1/\w.cell? ⟨g,f+j*5+1,none⟩=some u.2.1/\w.cell? ⟨g,f+j*5+2,none⟩=some u.2.2.1/\w.cell? ⟨g,f+j*5+3,none⟩=some u.2.2.2.1/\w.cell? ⟨g,f+j*5+4,none⟩=some u.2.2.2.2/\G [u.1,u.2.1,u.2.2.1,u.2.2.2.1,u.2.2.2.2]):=by
  intro j;by_cases hj:j<n
  .obtain ⟨u0,u1,u2,u3,u4,r⟩:=h5 j hj;exact ⟨(u0,u1,u2,u3,u4),λ_=>r⟩
  .exact ⟨(undef,undef,undef,undef,undef),λh=>absurd h hj⟩
 obtain ⟨U,hU⟩:=Classical.axiomOfChoice h6;exact ⟨g,f,c,λj=>(U j).1,λj=>(U j).2.1,λj=>(U j).2.2.1,λj=>(U j).2.2.2.1,λj=>(U j).2.2.2.2,rfl,h1,h2,h3,λj hj=>(hU j hj).1,λj hj=>(hU j hj).2.1,λj hj=>(hU j hj).2.2.1,λj hj=>(hU j hj).2.2.2.1,λj hj=>(hU j hj).2.2.2.2.1,λj hj=>(hU j hj).2.2.2.2.2⟩
theorem fX.mono {b m m':Nat} {w:World} {e:Ending} {w':World} (h:fX b m w e w') (hm:m<=m'):fX b m' w e w':=by
 obtain ⟨v,l,h1,h2,r⟩:=h;exact ⟨v,l,h1,Nat.le_trans h2 hm,r⟩
set_option maxHeartbeats 4000000 in
theorem vh (b d m' n:Nat) (A B:Option Addr) (a1 a2 b1 b2:Nat) (mn mx:Int) (w:World) (hk:zJ b w (j6 b w d m') n (.slice B b1 b2)) (hm:n*m'<=1000000) (ht:az b w)
  (jy:∀(vs:List Value) (w':World),j6 b w' d m' vs->az b w'->Calls Tryz.prog 24 #[.pointer (some ⟨b,0,none⟩), .agg vs.toArray] w' (fX b m' w')) :
  Calls Tryz.prog 24 #[.pointer (some ⟨b,0,none⟩), .agg #[.int .i64 2, .slice A a1 a2, .slice B b1 b2, .int .i64 mn, .int .i64 mx]] w (fX b (n*m') w):=by
 obtain ⟨i0,hi,hz0,hz1,hz2⟩:=info_parts ij;obtain ⟨g,f,c,U0,U1,U2,U3,U4,hv,gQ,dV,hn,k0,k1,k2,k3,k4,kG⟩:=hk.fns;injection hv with e1 e2 e3;subst e1 e2 e3;obtain ⟨W1,hW1⟩:∃W,w.alloc (Obj.cells #[Value.int IntKind.i64 2,Value.slice A a1 a2,Value.slice (some ⟨g,f,none⟩) b1 b2,Value.int IntKind.i64 mn,Value.int IntKind.i64 mx] 41)=W:=⟨_,rfl⟩;have aI:Below w.heap.size w W1:=by rw[<-hW1];exact (Below.refl _ _).alloc (Nat.le_refl _) _
 have De:W1.heap.size=w.heap.size+1:=by rw[<-hW1];simp
 have m2:W1.cell? ⟨w.heap.size,2,none⟩=some (.slice (some ⟨g,f,none⟩) b1 b2):=by rw[<-hW1,World.cell?_alloc_mark];rfl
 have dK:=ht.lt;have kr:=ht.below aI;have HK:=Lib.hid (λ(w':World) (hf:Fr b w w') (j:Nat) (hj:j<b1)=>show (w'.cell? ⟨g,f+j*5,none⟩=some (U0 j)/\w'.cell? ⟨g,f+j*5+1,none⟩=some (U1 j)/\w'.cell? ⟨g,f+j*5+2,none⟩=some (U2 j)/\w'.cell? ⟨g,f+j*5+3,none⟩=some (U3 j)/\w'.cell? ⟨g,f+j*5+4,none⟩=some (U4 j)/\j6 b w' d m' [U0 j,U1 j,U2 j,U3 j,U4 j]) from
  ⟨((af.dH hf).cell gQ dV).trans (k0 j hj),((af.dH hf).cell gQ dV).trans (k1 j hj),((af.dH hf).cell gQ dV).trans (k2 j hj),((af.dH hf).cell gQ dV).trans (k3 j hj),((af.dH hf).cell gQ dV).trans (k4 j hj),(kG j hj).later (af.dH hf)⟩)
 have HIH:=Lib.hid jy;have lq:=Lib.hid hW1;have HB:=Lib.hid aI;have Bk:=Lib.hid m2;have PX:=Lib.hid kr;have HZ:=Lib.hid De;clear k0 k1 k2 k3 k4 kG jy hW1 aI m2 ht kr hk De
 go_enter Tryz.func24,Tryz.ntmps24
 go_wp2_with fail;rw[lq.out];clear lq
 go_loopw [5,7] (λv i wr=>∃(k:Nat) (o:List UInt8),k<=b1/\i = .int .i64 (k:Int)/\OB 5 W1.heap.size v o wr/\o.length<=k*m'/\az b wr/\Fr b W1 wr) (λ_ i _=>b1 - (intOf i).toNat)
 case atStart=>exact ⟨0,[],by omega,rfl,OB.ic _ _ _,by simp,PX.out,Fr.refl _ _⟩
 case round=>
  obtain ⟨k,o,hk,rfl,hown,ho,uU,eJ⟩:=hrel;have XD:Fr b w wr:=(Fr.aa HB.out).trans eJ;have c2:wr.cell? ⟨w.heap.size,2,none⟩=some (.slice (some ⟨g,f,none⟩) b1 b2):=(World.cell?_of_block (a:=⟨w.heap.size,2,none⟩) (eJ.block w.heap.size (by have:=HZ.out;omega) (by intro e;injection e;omega))).trans Bk.out
  by_cases hlt:k<b1
  .have hd:decide ((k:Int)<(b1:Int))=true:=decide_eq_true (by omega)
   have iI:decide (k<b1)=true:=decide_eq_true hlt;obtain ⟨q0,q1,q2,q3,q4,hP⟩:=HK.out wr XD k hlt;have IH:=Lib.hid (HIH.out _ wr hP uU);have tN:k*m'+m'<=1000000:=by
    have:(k+1)*m'<=b1*m':=Nat.mul_le_mul_right _ hlt;rw[Nat.succ_mul]at this;omega
   have HKM:=Lib.hid tN;clear hP tN;go_wp2_with fail;refine IH.out.mono ?_;rintro e w2 ⟨v2,l2,rfl,kA,hv2,lH,eg⟩;have N0:b<W1.heap.size:=by have:=HZ.out;omega
   have aQ:=hown.fr eg N0;have hlen:o.length+l2.length<1000000000:=by have:=HKM.out;omega
   have hBs:W1.heap.size<=w2.heap.size:=Nat.le_trans eJ.size eg.size;have HO:=Lib.hid (show (o++l2).length<=(k+1)*m' by rw[List.length_append,Nat.succ_mul];omega)
   clear ho kA q0 q1 q2 q3 q4;go_wp2_with (at_builtin;refine tJ Tryz.underlying28 hi hz0 hz1 hz2 _ _ _ _ _ _ _ _ rfl rfl rfl rfl aQ hv2 hlen hBs ?_;intro v3 w3 bZ dc);go_roundw
   case rel=>exact ⟨k+1,o++l2,by omega,by go_num,bZ,HO.out,lH.fW dc N0,(eJ.trans eg).then dc⟩
   case measure=>simp[intOf];omega
  .obtain rfl:k=b1:=by omega
   have hd:decide ((k:Int)<(k:Int))=false:=decide_eq_false (by omega)
   have iI:decide (k<k)=false:=decide_eq_false (by omega)
   go_wp2_with fail;go_ret;exact ⟨_,o,rfl,ho,hown.mono (by have:=HZ.out;omega),uU,XD⟩
set_option maxHeartbeats 4000000 in
theorem FD (b d m' n:Nat) (A B:Option Addr) (a1 a2 b1 b2:Nat) (mn mx:Int) (w:World) (hk:zJ b w (j6 b w d m') n (.slice B b1 b2)) (pE:1<=n) (h0:0<=mn) (h1:mn<=mx) (T9:mx<=1000) (hm:mx.toNat*m'<=1000000) (ht:az b w)
  (jy:∀(vs:List Value) (w':World),j6 b w' d m' vs->az b w'->Calls Tryz.prog 24 #[.pointer (some ⟨b,0,none⟩), .agg vs.toArray] w' (fX b m' w')) :
  Calls Tryz.prog 24 #[.pointer (some ⟨b,0,none⟩), .agg #[.int .i64 4, .slice A a1 a2, .slice B b1 b2, .int .i64 mn, .int .i64 mx]] w (fX b (mx.toNat*m') w):=by
 obtain ⟨i0,hi,hz0,hz1,hz2⟩:=info_parts ij;obtain ⟨g,f,c,U0,U1,U2,U3,U4,hv,gQ,dV,hn,k0,k1,k2,k3,k4,kG⟩:=hk.fns;injection hv with e1 e2 e3;subst e1 e2 e3;obtain ⟨W1,hW1⟩:∃W,w.alloc (Obj.cells #[Value.int IntKind.i64 4,Value.slice A a1 a2,Value.slice (some ⟨g,f,none⟩) b1 b2,Value.int IntKind.i64 mn,Value.int IntKind.i64 mx] 41)=W:=⟨_,rfl⟩;have aI:Below w.heap.size w W1:=by rw[<-hW1];exact (Below.refl _ _).alloc (Nat.le_refl _) _
 have De:W1.heap.size=w.heap.size+1:=by rw[<-hW1];simp
 have m2:W1.cell? ⟨w.heap.size,2,none⟩=some (.slice (some ⟨g,f,none⟩) b1 b2):=by rw[<-hW1,World.cell?_alloc_mark];rfl
 have m3:W1.cell? ⟨w.heap.size,3,none⟩=some (.int .i64 mn):=by rw[<-hW1,World.cell?_alloc_mark];rfl
 have m4:W1.cell? ⟨w.heap.size,4,none⟩=some (.int .i64 mx):=by rw[<-hW1,World.cell?_alloc_mark];rfl
 have dK:=ht.lt;have kr:=ht.below aI;have HK:=Lib.hid (λ(w':World) (hf:Fr b w w')=>show (w'.cell? ⟨g,f,none⟩=some (U0 0)/\w'.cell? ⟨g,f+1,none⟩=some (U1 0)/\w'.cell? ⟨g,f+2,none⟩=some (U2 0)/\w'.cell? ⟨g,f+3,none⟩=some (U3 0)/\w'.cell? ⟨g,f+4,none⟩=some (U4 0)/\j6 b w' d m' [U0 0,U1 0,U2 0,U3 0,U4 0]) from
  ⟨((af.dH hf).cell gQ dV).trans (by simpa using k0 0 (by omega)),((af.dH hf).cell gQ dV).trans (by simpa using k1 0 (by omega)),((af.dH hf).cell gQ dV).trans (by simpa using k2 0 (by omega)),((af.dH hf).cell gQ dV).trans (by simpa using k3 0 (by omega)),((af.dH hf).cell gQ dV).trans (by simpa using k4 0 (by omega)),(kG 0 (by omega)).later (af.dH hf)⟩)
 have HIH:=Lib.hid jy;have lq:=Lib.hid hW1;have HB:=Lib.hid aI;have Bk:=Lib.hid m2;have HZ:=Lib.hid De;have BT:=Lib.hid (jx b mn mx W1 h1 (by omega) (by omega) (by omega) kr)
 have hkn:0<b1:=by omega
 have HX:=Lib.hid (And.intro h0 (And.intro h1 (And.intro T9 hm)));clear k0 k1 k2 k3 k4 kG jy hW1 aI m2 ht kr hk De h0 h1 T9 hm;have akd:=Lib.hid (And.intro m3 m4);clear m3 m4
 go_enter Tryz.func24,Tryz.ntmps24
 go_upto_region 14 with fail
 rw[lq.out];obtain ⟨m3,m4⟩:=akd.out;clear lq;go_wp2_with fail;refine BT.out.mono ?_;rintro e w1 ⟨r,rfl,Ha,kI,kr,gI⟩;have jN:=HX.out;have HRB:=Lib.hid (And.intro Ha kI);have PX:=Lib.hid kr;have lI:=Lib.hid gI;obtain ⟨rn,RC⟩:∃rn:Nat,r=(rn:Int):=⟨r.toNat,by omega⟩
 subst RC;have HRN:=Lib.hid (show rn<=mx.toNat by omega)
 have akf:rn<=1000:=by omega
 clear m3 m4 Ha kI kr gI jN BT;go_wp2_with fail
 go_loopw [5,8] (λv i wr=>∃(k:Nat) (o:List UInt8),k<=rn/\i = .int .i64 (k:Int)/\OB 5 W1.heap.size v o wr/\o.length<=(rn-k)*m'/\az b wr/\Fr b W1 wr) (λ_ i _=>(intOf i).toNat)
 case atStart=>exact ⟨rn,[],by omega,rfl,OB.ic _ _ _,by simp,PX.out,lI.out⟩
 case round=>
  obtain ⟨k,o,hk,rfl,hown,ho,uU,eJ⟩:=hrel;have XD:Fr b w wr:=(Fr.aa HB.out).trans eJ;have c2:wr.cell? ⟨w.heap.size,2,none⟩=some (.slice (some ⟨g,f,none⟩) b1 b2):=(World.cell?_of_block (a:=⟨w.heap.size,2,none⟩) (eJ.block w.heap.size (by have:=HZ.out;omega) (by intro e;injection e;omega))).trans Bk.out
  have adB:rn*m'<=mx.toNat*m':=Nat.mul_le_mul_right _ HRN.out;by_cases hlt:0<k
  .have hd:decide ((0:Int)<(k:Int))=true:=decide_eq_true (by omega)
   have iI:decide (0<k)=true:=decide_eq_true hlt;obtain ⟨q0,q1,q2,q3,q4,hP⟩:=HK.out wr XD;have IH:=Lib.hid (HIH.out _ wr hP uU);have eb:(rn-k)*m'+m'=(rn - (k - 1))*m':=by rw[<-Nat.succ_mul];congr 1;omega
   have Rp:(rn - (k - 1))*m'<=rn*m':=Nat.mul_le_mul_right _ (by omega)
   have HKM:=Lib.hid (And.intro eb (And.intro Rp adB));have hw1:IntKind.i64.wrap ((k:Int) - 1)=(k:Int) - 1:=IntWalk.i64_in _ (by omega)
   clear hP eb Rp adB;go_wp2_with fail;refine IH.out.mono ?_;rintro e w2 ⟨v2,l2,rfl,kA,hv2,lH,eg⟩;have N0:b<W1.heap.size:=by have:=HZ.out;omega
   have aQ:=hown.fr eg N0;have hlen:o.length+l2.length<1000000000:=by have h1:=HKM.out;have h2:=HX.out.2.2.2;omega
   have hBs:W1.heap.size<=w2.heap.size:=Nat.le_trans eJ.size eg.size;have HO:=Lib.hid (show (o++l2).length<=(rn - (k - 1))*m' by rw[List.length_append,<-HKM.out.1];omega)
   clear ho kA q0 q1 q2 q3 q4;go_wp2_with (at_builtin;refine tJ Tryz.underlying28 hi hz0 hz1 hz2 _ _ _ _ _ _ _ _ rfl rfl rfl rfl aQ hv2 hlen hBs ?_;intro v3 w3 bZ dc);go_roundw
   case rel=>exact ⟨k - 1,o++l2,by omega,by go_num,bZ,HO.out,lH.fW dc N0,(eJ.trans eg).then dc⟩
   case measure=>simp[intOf];omega
  .obtain rfl:k=0:=by omega
   have hlen:o.length<=mx.toNat*m':=by simp at ho;omega
   go_wp2_with fail;go_ret;exact ⟨_,o,rfl,hlen,hown.mono (by have:=HZ.out;omega),uU,XD⟩
set_option maxHeartbeats 4000000 in
theorem wW (b d m n:Nat) (A B:Option Addr) (a1 a2 b1 b2:Nat) (mn mx:Int) (w:World) (hk:zJ b w (j6 b w d m) n (.slice B b1 b2)) (pE:1<=n) (ht:az b w)
  (jy:∀(vs:List Value) (w':World),j6 b w' d m vs->az b w'->Calls Tryz.prog 24 #[.pointer (some ⟨b,0,none⟩), .agg vs.toArray] w' (fX b m w')) :
  Calls Tryz.prog 24 #[.pointer (some ⟨b,0,none⟩), .agg #[.int .i64 3, .slice A a1 a2, .slice B b1 b2, .int .i64 mn, .int .i64 mx]] w (fX b m w):=by
 obtain ⟨g,f,c,U0,U1,U2,U3,U4,hv,gQ,dV,hn,k0,k1,k2,k3,k4,kG⟩:=hk.fns;injection hv with e1 e2 e3;subst e1 e2 e3;obtain ⟨W1,hW1⟩:∃W,w.alloc (Obj.cells #[Value.int IntKind.i64 3,Value.slice A a1 a2,Value.slice (some ⟨g,f,none⟩) b1 b2,Value.int IntKind.i64 mn,Value.int IntKind.i64 mx] 41)=W:=⟨_,rfl⟩;have aI:Below w.heap.size w W1:=by rw[<-hW1];exact (Below.refl _ _).alloc (Nat.le_refl _) _
 have De:W1.heap.size=w.heap.size+1:=by rw[<-hW1];simp
 have m2:W1.cell? ⟨w.heap.size,2,none⟩=some (.slice (some ⟨g,f,none⟩) b1 b2):=by rw[<-hW1,World.cell?_alloc_mark];rfl
 have dK:=ht.lt;have kr:=ht.below aI;have CO:=Lib.hid (λ(w':World) (hf:Fr b W1 w') (htt:az b w')=>show (w'.cell? ⟨w.heap.size,2,none⟩=some (.slice (some ⟨g,f,none⟩) b1 b2)/\az b w'/\(∀j,j<b1->w'.cell? ⟨g,f+j*5,none⟩=some (U0 j))/\(∀j,j<b1->w'.cell? ⟨g,f+j*5+1,none⟩=some (U1 j))/\(∀j,j<b1->w'.cell? ⟨g,f+j*5+2,none⟩=some (U2 j))/\(∀j,j<b1->w'.cell? ⟨g,f+j*5+3,none⟩=some (U3 j))/\(∀j,j<b1->w'.cell? ⟨g,f+j*5+4,none⟩=some (U4 j))) from by
  have XD:Fr b w w':=(Fr.aa aI).trans hf;have hs:=af.dH XD;exact ⟨(World.cell?_of_block (a:=⟨w.heap.size,2,none⟩) (hf.block w.heap.size (by omega) (by intro e;injection e;omega))).trans m2,htt,λj hj=>(hs.cell gQ dV).trans (k0 j hj),λj hj=>(hs.cell gQ dV).trans (k1 j hj),λj hj=>(hs.cell gQ dV).trans (k2 j hj),λj hj=>(hs.cell gQ dV).trans (k3 j hj),λj hj=>(hs.cell gQ dV).trans (k4 j hj)⟩)
 have HG:=Lib.hid (λ(w':World) (hf:Fr b W1 w') (j:Nat) (hj:j<b1)=>(kG j hj).later (af.dH ((Fr.aa aI).trans hf)));have NX:=Lib.hid (λw' (ht:az b w')=>bB b (b1:Int) w' (by omega) (by omega) ht)
 have HIH:=Lib.hid jy;have lq:=Lib.hid hW1;have HB:=Lib.hid aI;have PX:=Lib.hid kr;have HZ:=Lib.hid De;clear k0 k1 k2 k3 k4 kG jy hW1 aI m2 ht kr hk De
 go_enter Tryz.func24,Tryz.ntmps24
 go_upto_region 12 with fail
 rw[lq.out];clear lq
 go_region_held3 (λw'=>w'.cell? ⟨w.heap.size,2,none⟩=some (.slice (some ⟨g,f,none⟩) b1 b2)/\az b w'/\(∀j,j<b1->w'.cell? ⟨g,f+j*5,none⟩=some (U0 j))/\(∀j,j<b1->w'.cell? ⟨g,f+j*5+1,none⟩=some (U1 j))/\(∀j,j<b1->w'.cell? ⟨g,f+j*5+2,none⟩=some (U2 j))/\(∀j,j<b1->w'.cell? ⟨g,f+j*5+3,none⟩=some (U3 j))/\(∀j,j<b1->w'.cell? ⟨g,f+j*5+4,none⟩=some (U4 j)))
  (first | exact CO.out _ (Fr.refl _ _).drew (PX.out.below (Below.refl _ _).drew) | exact CO.out _ (dm eg) lH | exact CO.out _ ((dm eg).trans oT) FC)
  ((first | (go_at_call 20;refine (NX.out _ (PX.out.below (Below.refl _ _).drew)).mono ?_;rintro e w2 ⟨r,rfl,Ha,kI,lH,eg⟩;have RC:r.toNat<b1:=(by omega)) | (go_at_call 24;refine (HIH.out _ w2 (HG.out w2 (dm eg) r.toNat RC) lH).mono ?_;rintro e w3 ⟨v3,l3,rfl,Ry,XE,FC,oT⟩)))
 all_goals
  go_wp2_with fail;go_ret;have hff:=(dm eg).trans oT;exact ⟨v3,l3,rfl,Ry,XE.mono (by have h1:=HZ.out;have h2:W1.heap.size<=w2.heap.size:=eg.size;omega),FC,(Fr.aa HB.out).trans hff⟩
theorem iX (b:Nat):∀(d m:Nat) (vs:List Value) (w:World),j6 b w d m vs->m<=1000000->az b w->Calls Tryz.prog 24 #[.pointer (some ⟨b,0,none⟩), .agg vs.toArray] w (fX b m w)
 | 0,_,_,_,h,_,_=>h.elim
 | d+1,m,vs,w,⟨v1,v2,mn,mx,⟨⟨A,a1,a2,e1⟩,⟨B,b1,b2,e2⟩⟩,h⟩,hm,ht=>by
  subst e1 e2;rcases h with ⟨rfl,h2,h3⟩ | ⟨rfl,n,m',h2,h3⟩ | ⟨rfl,n,h2,h3⟩ | ⟨rfl,n,m',h2,h3,h4,h5,h6,h7⟩
  .exact FB b m A B _ _ _ _ mn mx w h2 h3 ht
  .have hm':m'<=1000000\/n=0:=by
    rcases Nat.eq_zero_or_pos n with h0 | h0
    .exact .inr h0
    .left
     have:1*m'<=n*m':=Nat.mul_le_mul_right _ h0;omega
   rcases hm' with hm' | XF
   .exact (vh b d m' n A B _ _ _ _ mn mx w h2 (by omega) ht (λvs w' hP XG=>iX b d m' vs w' hP hm' XG)).mono λe w' h=>h.mono h3
   .subst XF;exact (vh b d 0 0 A B _ _ _ _ mn mx w (by
     obtain ⟨g,f,c,q1,q2,q3,q4,-⟩:=h2;exact ⟨g,f,c,q1,q2,q3,q4,λj hj=>absurd hj (Nat.not_lt_zero _)⟩) (by omega) ht (λvs w' hP XG=>iX b d 0 vs w' hP (by omega) XG)).mono λe w' h=>h.mono (by omega)
  .exact wW b d m n A B _ _ _ _ mn mx w h2 h3 ht (λvs w' hP XG=>iX b d m vs w' hP hm XG)
  .have hm':m'<=1000000:=by
    have:1*m'<=mx.toNat*m':=Nat.mul_le_mul_right _ (by omega)
    omega
   exact (FD b d m' n A B _ _ _ _ mn mx w h2 h3 h4 h5 h6.2 (by omega) ht (λvs w' hP XG=>iX b d m' vs w' hP hm' XG)).mono λe w' h=>h.mono h7
end
section
set_option linter.unusedVariables false
set_option linter.unusedSimpArgs false
open Go.RowKit
def MbN (b m:Nat) (nd:Nd) (w:World) (e:Ending) (w':World):Prop:=∃(v:Value) (l:List UInt8),e = .returned v/\l.length<=m/\cI nd (l.map UInt8.toNat)/\OB 5 w.heap.size v l w'/\az b w'/\Fr b w w'
def atH (b:Nat) (w:World) (kids:List Nd) (v:Value):Prop:=∃g f n c,v = .slice (some ⟨g,f,none⟩) n c/\n=kids.length/\∀W,af b w W->fH W kids g f
theorem ajz {b:Nat} {w:World} {kids:List Nd} {g f j:Nat} {u0 u1 u2 u3 u4:Value} (hS:∀W,af b w W->fH W kids g f) (gQ:b<g) (dV:g<w.heap.size) (k0:w.cell? ⟨g,f+j*5,none⟩=some u0) (k1:w.cell? ⟨g,f+j*5+1,none⟩=some u1) (k2:w.cell? ⟨g,f+j*5+2,none⟩=some u2) (k3:w.cell? ⟨g,f+j*5+3,none⟩=some u3) (k4:w.cell? ⟨g,f+j*5+4,none⟩=some u4)
  (pS:j<kids.length) (W:World) (hW:af b w W):bX W kids[j] [u0,u1,u2,u3,u4]:=by
 obtain ⟨vs,h1,h2⟩:=(hS W hW).at j pS;have h5:vs.length=5:=by obtain ⟨A1,c1,A2,c2,rfl,-⟩:=h2.form;rfl
 obtain ⟨x0,x1,x2,x3,x4,rfl⟩:∃x0 x1 x2 x3 x4,vs=[x0,x1,x2,x3,x4]:=by
  match vs,h5 with
  | [x0,x1,x2,x3,x4],_=>exact ⟨x0,x1,x2,x3,x4,rfl⟩
 have q0:=(h1 0 (by decide)).symm.trans ((hW.cell gQ dV).trans (by simpa using k0))
 have q1:=(h1 1 (by decide)).symm.trans ((hW.cell gQ dV).trans k1)
 have q2:=(h1 2 (by decide)).symm.trans ((hW.cell gQ dV).trans k2)
 have q3:=(h1 3 (by decide)).symm.trans ((hW.cell gQ dV).trans k3)
 have q4:=(h1 4 (by decide)).symm.trans ((hW.cell gQ dV).trans k4)
 injection q0 with q0;injection q1 with q1;injection q2 with q2;injection q3 with q3;injection q4 with q4;subst q0 q1 q2 q3 q4;exact h2
end
end Go.Proofs.YtdmoogjddmdmbaaGreatDoor
