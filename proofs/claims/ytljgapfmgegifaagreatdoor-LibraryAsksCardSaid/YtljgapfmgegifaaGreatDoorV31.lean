/- Walks: members of patterns. · Walks: members of sequences, choices, repetitions. · Members that a maker makes belong to the pattern. -/
import Derived.Deep.RegionHeld3
import Derived.Deep.CutRange
import Derived.Test.YtljgapfmgegifaaGreatDoorV04
import Derived.Test.YtljgapfmgegifaaGreatDoorV30
import Derived.Test.YtljgapfmgegifaaGreatDoorV06
namespace Go.Proofs.YtljgapfmgegifaaGreatDoor
set_option linter.unusedVariables false
set_option linter.unusedSimpArgs false
set_option maxRecDepth 100000
open Go.RowKit
def MbPost (b m:Nat) (w:World) (e:Ending) (w':World):Prop:=∃(v:Value) (l:List UInt8),e = .returned v/\l.length<=m/\OB 5 w.heap.size v l w'/\TapeOK b w'/\Fr b w w'
theorem fr_of_drew {b:Nat} {w w':World} (h:Fr b w.drew w'):Fr b w w':=⟨h.os,h.tape,h.output,h.size,h.block⟩
theorem Fr.drew {b:Nat} {w w':World} (h:Fr b w w'):Fr b w w'.drew:=⟨h.os,h.tape,h.output,h.size,h.block⟩
theorem set_row_at {w:World} {G e:Nat} {cs:Array Value} {m:Nat×Nat} (h:w.heap[G]?=some (.cells cs e m)) (j:Nat) (v:Value):(w.setCell ⟨G,j,none⟩ v).heap[G]?=some (.cells (cs.setIfInBounds j v) e m):=by
 simp[World.setCell,Array.getElem?_modify,h]
theorem fr_set {b K j:Nat} {v:Value} {w w':World} (h:Fr b w w') (hK:w.heap.size<=K):Fr b w (w'.setCell ⟨K,j,none⟩ v):=
 ⟨h.os,h.tape,h.output,by simpa [World.setCell] using h.size,λk hk hne=>(Below.heap_setCell _ _ _ _ (by dsimp only;omega)).trans (h.block k hk hne)⟩
theorem tape_set {b K j:Nat} {v:Value} {w:World} (h:TapeOK b w) (hK:b<K):TapeOK b (w.setCell ⟨K,j,none⟩ v):=h.keep λk hk=>Below.heap_setCell _ _ _ _ (by dsimp only;omega)
theorem next_any2 (b:Nat) (n:Int) (w:World) (hn:0<n) (hn2:n<=65536) (ht:TapeOK b w) :
  Calls Tryz.prog 7 #[.pointer (some ⟨b,0,none⟩), .int .i64 n] w λe w'=>∃r:Int,e = .returned (.int .i64 r)/\0<=r/\r<n/\TapeOK b w'/\Fr b w w'/\w'.heap.size=w.heap.size:=by
 have ht0:=Lib.hid ht;obtain ⟨a,m,c,k,hb,hk,hm,hcell⟩:=ht;unfold maxLen at hm;have c0:w.cell? ⟨b,0,none⟩=some (.slice a m c):=by rw[cell_of_row w b 0 _ _ _ hb];rfl
 have c1:w.cell? ⟨b,1,none⟩=some (.int .i64 (k:Int)):=by rw[cell_of_row w b 1 _ _ _ hb];rfl
 have f1:w.frozen? ⟨b,1,none⟩=false:=by simp[World.frozen?,hb]
 by_cases hlt:k<m
 .obtain ⟨ad,x,rfl,hadb,hcx⟩:=hcell k hlt;have HB:=Lib.hid hb;have HC:=Lib.hid hcell;clear hb hcell;obtain ⟨y,hy⟩:∃y,bits .and .i64 x 65535=y:=⟨_,rfl⟩;have hyb:=and_mask x;rw[hy]at hyb
  go_enter Tryz.func7,Tryz.ntmps7
  go_wp2_with fail
  go_quiet (fail)
  go_wp2_with fail
  go_quiet (fail)
  go_wp2
  go_ret;obtain ⟨q1,q2⟩:=tape_step (some ad) m c k HB.out hlt (by unfold maxLen;omega) HC.out rfl rfl rfl rfl
  exact ⟨y % n,rfl,Int.emod_nonneg _ (by omega),Int.emod_lt_of_pos _ hn,q1,⟨q2.os,q2.tape,q2.output,q2.size,q2.block⟩,by simp[World.setCell,World.drew,World.drewN]⟩
 .obtain rfl:k=m:=by omega
  go_enter Tryz.func7,Tryz.ntmps7
  go_wp2_with fail
  go_quiet (fail)
  go_wp2
  go_ret;exact ⟨0,rfl,by omega,by omega,ht0.out,⟨rfl,rfl,rfl,Nat.le_refl _,λ_ _ _=>rfl⟩,rfl⟩
theorem between_any (b:Nat) (x y:Int) (w:World) (h:x<=y) (h2:y-x<=65000) (hx:-1000000000<=x) (hy:y<=1000000000) (ht:TapeOK b w) :
  Calls Tryz.prog 12 #[.pointer (some ⟨b,0,none⟩), .int .i64 x, .int .i64 y] w λe w'=>∃r:Int,e = .returned (.int .i64 r)/\x<=r/\r<=y/\TapeOK b w'/\Fr b w w':=by
 have N:=next_any b (y-x+1) w (by omega) (by omega) ht
 have hw1:IntKind.i64.wrap (y-x)=y-x:=IntWalk.i64_in _ (by omega)
 have hw2:IntKind.i64.wrap (y-x+1)=y-x+1:=IntWalk.i64_in _ (by omega)
 have HN:=Lib.hid N;clear N
 go_enter Tryz.func12,Tryz.ntmps12
 go_wp2_with fail;refine HN.out.mono ?_;rintro e w1 ⟨r,rfl,h0,h1,ht1,hf1⟩;have hw3:IntKind.i64.wrap (x+r)=x+r:=IntWalk.i64_in _ (by omega)
 go_wp2_with fail;go_ret;exact ⟨x+r,rfl,by omega,by omega,ht1,hf1⟩
set_option maxHeartbeats 4000000 in
theorem member_set (b m:Nat) (A B:Option Addr) (n c n' c':Nat) (mn mx:Int) (w:World) (hr:RgV b w (.slice A n c)) (hm:1<=m) (ht:TapeOK b w) :
  Calls Tryz.prog 25 #[.pointer (some ⟨b,0,none⟩), .agg #[.int .i64 1, .slice A n c, .slice B n' c', .int .i64 mn, .int .i64 mx]] w (MbPost b m w):=by
 obtain ⟨g,f,n0,c0,hv,h1,h2,hbg,hgl,hcs⟩:=hr;injection hv with e1 e2 e3;subst e1 e2 e3;obtain ⟨W1,hW1⟩:∃W,w.alloc (Obj.cells #[Value.int IntKind.i64 1,Value.slice (some ⟨g,f,none⟩) n c,Value.slice B n' c',Value.int IntKind.i64 mn,Value.int IntKind.i64 mx] 31)=W:=⟨_,rfl⟩;have hbel:Below w.heap.size w W1:=by rw[<-hW1];exact (Below.refl _ _).alloc (Nat.le_refl _) _
 have hz1:W1.heap.size=w.heap.size+1:=by rw[<-hW1];simp
 have m1:W1.cell? ⟨w.heap.size,1,none⟩=some (.slice (some ⟨g,f,none⟩) n c):=by rw[<-hW1,World.cell?_alloc_mark];rfl
 have ht1:=ht.below hbel;have hbs:=ht.lt;obtain ⟨LO,HI,hch⟩:∃LO HI:Nat->Int,∀j,j<n->(w.cell? ⟨g,f+j*2,none⟩=some (.int .u8 (LO j))/\w.cell? ⟨g,f+j*2+1,none⟩=some (.int .u8 (HI j))/\0<=LO j/\LO j<=HI j/\HI j<256):=by
  refine ⟨λj=>if h:j<n then (hcs j h).choose else 0,λj=>if h:j<n then (hcs j h).choose_spec.choose else 0,λj hj=>?_⟩;simp only[dif_pos hj];exact (hcs j hj).choose_spec.choose_spec
 have HCS:=Lib.hid (λ(w':World) (hs:Stay b w w')=>show (∀j,j<n->w'.cell? ⟨g,f+j*2,none⟩=some (.int .u8 (LO j)))/\(∀j,j<n->w'.cell? ⟨g,f+j*2+1,none⟩=some (.int .u8 (HI j))) from
  ⟨λj hj=>(hs.cell hbg hgl).trans (hch j hj).1,λj hj=>(hs.cell hbg hgl).trans (hch j hj).2.1⟩)
 have HBD:=Lib.hid (λj hj=>(hch j hj).2.2);clear hch;have HW1:=Lib.hid hW1;have HB:=Lib.hid hbel;clear hcs hW1 hbel ht;have NX:=Lib.hid (λw' (ht:TapeOK b w')=>next_any2 b (n:Int) w' (by omega) (by omega) ht)
 have HT1:=Lib.hid ht1;have HM1:=Lib.hid (And.intro m1 hz1);clear ht1 m1 hz1
 go_enter Tryz.func25,Tryz.ntmps25
 go_upto_region 4 with fail
 rw[HW1.out];obtain ⟨m1,hz1⟩:=HM1.out;clear HM1 HW1;have HKP:=Lib.hid (λw' (hf:Fr b W1 w') (ht:TapeOK b w')=>show w'.cell? ⟨w.heap.size,1,none⟩=some (.slice (some ⟨g,f,none⟩) n c)/\TapeOK b w'/\(∀j,j<n->w'.cell? ⟨g,f+j*2,none⟩=some (.int .u8 (LO j)))/\(∀j,j<n->w'.cell? ⟨g,f+j*2+1,none⟩=some (.int .u8 (HI j))) from
  ⟨(World.cell?_of_block (a:=⟨w.heap.size,1,none⟩) (hf.block w.heap.size (by omega) (by intro e;injection e;omega))).trans m1,ht,HCS.out w' ((Stay.of_below HB.out:Stay b w W1).trans (Stay.of_fr hf))⟩)
 have z1:¬w.heap.size=W1.heap.size:=by omega
 have z2:¬W1.heap.size=w.heap.size:=by omega
 have z3:¬b=W1.heap.size:=by omega
 have z7:w.heap.size<W1.heap.size:=by omega
 have z4:g<W1.heap.size:=by omega
 have z5:¬g=W1.heap.size:=by omega
 have z6:¬W1.heap.size=g:=by omega
 have HZ1:=Lib.hid hz1;clear hz1
 go_cut [6] from 13 to 88 (λp wx=>∃(R:Nat) (lo hi:Int),p = .pointer (some ⟨R,0,none⟩)/\wx.cell? ⟨R,0,none⟩=some (.int .u8 lo)/\wx.cell? ⟨R,1,none⟩=some (.int .u8 hi)/\0<=lo/\lo<=hi/\hi<256/\TapeOK b wx/\Fr b W1 wx/\R<wx.heap.size/\b<R)
 case first=>
  go_region_with ((go_at_call 7;(first | refine (NX.out _ (HT1.out.below (Below.refl _ _).drew)).mono ?_ | refine (NX.out _ (HT1.out.below ((Below.refl _ _).alloc (Nat.le_refl _) _).drew)).mono ?_);rintro e w2 ⟨r,rfl,hr0,hr1,ht2,hf2,hs2⟩;have hrn:r.toNat<n:=(by omega);have hf1:Fr b W1 w2:=(by first | exact fr_of_drew hf2 | exact ((Fr.refl _ _).then ((Below.refl _ _).alloc (Nat.le_refl _) _)).drew.trans hf2);obtain ⟨mm,tt,ll,hh⟩:=HKP.out w2 hf1 ht2;have l0:=ll r.toNat hrn;have l1:=hh r.toNat hrn;have y1:g<w2.heap.size:=(by have:=hf1.size;have:=HZ1.out;omega);have y2:¬g=w2.heap.size:=(by omega);have y4:w.heap.size<w2.heap.size:=(by have:=hf1.size;omega);have y5:¬w.heap.size=w2.heap.size:=(by omega);have y3:¬w2.heap.size=g:=(by omega);(first | (have kb:w2.heap[W1.heap.size]?=some (.cells #[.int .u8 0, .int .u8 0] 78 (0,0)):=(hf2.block W1.heap.size (by simp[World.drew,World.drewN]) (by intro e;injection e with e;exact z3 e.symm)).trans (heap_alloc_new W1 _);have kc0:w2.cell? ⟨W1.heap.size,0,none⟩=some (.int .u8 0):=(by rw[cell_of_row _ _ _ _ _ _ kb];rfl);have kc1:w2.cell? ⟨W1.heap.size,1,none⟩=some (.int .u8 0):=(by rw[cell_of_row _ _ _ _ _ _ kb];rfl);have kf:∀j,w2.frozen? ⟨W1.heap.size,j,none⟩=false:=(λj=>by simp[World.frozen?,kb]);have KB:=Lib.hid kb;clear kb) | skip);have hff:=Lib.hid (And.intro hf1 ht2);clear hs2 hf2 hf1 ll hh))
  all_goals
   go_wp2_with fail
   go_meet
   obtain ⟨hf1,ht2⟩:=hff.out;obtain ⟨bd0,bd1,bd2⟩:=HBD.out r.toNat hrn
   first
    | exact ⟨w2.heap.size,LO r.toNat,HI r.toNat,rfl,by rw[World.cell?_alloc_mark];rfl,by rw[World.cell?_alloc_mark];rfl,bd0,bd1,bd2,ht2.below ((Below.refl _ _).alloc (Nat.le_refl _) _),hf1.then ((Below.refl _ _).alloc hf1.size _),by simp,by omega⟩
    | exact ⟨W1.heap.size,LO r.toNat,HI r.toNat,rfl,by rw[cell_of_row _ _ _ _ _ _ (set_row_at (set_row_at KB.out 0 _) 1 _)];rfl,by rw[cell_of_row _ _ _ _ _ _ (set_row_at (set_row_at KB.out 0 _) 1 _)];rfl,bd0,bd1,bd2,tape_set (tape_set ht2 (by omega)) (by omega),fr_set (fr_set hf1 (Nat.le_refl _)) (Nat.le_refl _),by simpa [World.setCell] using World.block_lt_of_cell? _ _ kc0,by omega⟩
 case rest=>
  obtain ⟨R,lo,hi,rfl,q0,q1,b0,b1,b2,ht2,hf,hR,hbR⟩:=hcut;obtain ⟨W2,hW2⟩:∃W2:World,W2=wc:=⟨_,rfl⟩;rw[<-hW2]at q0 q1 ht2 hf hR|-;clear hW2 m1 z1 z2 z3 z4 z5 z6 z7 HKP NX HT1 HCS HBD;have hT0:w.heap.size<=W2.heap.size:=by have h1:=hf.size;have h2:=HB.out.size;omega
  have hFW:Fr b w W2:=(Fr.of_below HB.out).trans hf;have NX:=Lib.hid (λw' (ht:TapeOK b w')=>next_any b (hi-lo+1) w' (by omega) (by omega) ht)
  have hw0:IntKind.i64.wrap hi=hi:=IntWalk.i64_in _ (by omega)
  have hw1:IntKind.i64.wrap lo=lo:=IntWalk.i64_in _ (by omega)
  have hw2:IntKind.i64.wrap (hi-lo)=hi-lo:=IntWalk.i64_in _ (by omega)
  have hw3:IntKind.i64.wrap (hi-lo+1)=hi-lo+1:=IntWalk.i64_in _ (by omega)
  have HK2:=Lib.hid (λw' (hf:Fr b W2 w') (ht:TapeOK b w')=>show w'.cell? ⟨R,0,none⟩=some (.int .u8 lo)/\w'.cell? ⟨R,1,none⟩=some (.int .u8 hi)/\TapeOK b w' from
   ⟨(World.cell?_of_block (a:=⟨R,0,none⟩) (hf.block R hR (by intro e;injection e;omega))).trans q0,(World.cell?_of_block (a:=⟨R,1,none⟩) (hf.block R hR (by intro e;injection e;omega))).trans q1,ht⟩)
  have HT2:=Lib.hid ht2;clear ht2
  go_upto_region 5 with fail
  go_region_held3 (λw'=>w'.cell? ⟨R,0,none⟩=some (.int .u8 lo)/\w'.cell? ⟨R,1,none⟩=some (.int .u8 hi)/\TapeOK b w')
   (first | exact HK2.out _ (Fr.refl _ _).drew (HT2.out.below (Below.refl _ _).drew) | exact HK2.out _ (fr_of_drew hf3) ht3 | exact HK2.out _ ((fr_of_drew hf3).then ((Below.refl _ _).alloc (fr_of_drew hf3).size _)) (ht3.below ((Below.refl _ _).alloc (Nat.le_refl _) _)))
   ((go_at_call 7;refine (NX.out _ (HT2.out.below (Below.refl _ _).drew)).mono ?_;rintro e w3 ⟨r,rfl,hr0,hr1,ht3,hf3⟩;have hw4:IntKind.u8.wrap r=r:=(IntWalk.u8_in _ (by omega));have hw5:IntKind.u8.wrap (lo+r)=lo+r:=(IntWalk.u8_in _ (by omega))))
  all_goals
   go_wp2_with fail;go_ret;have hf4:=fr_of_drew hf3;have hu:lo+r=((UInt8.ofNat (lo+r).toNat).toNat:Int):=by rw[UInt8.toNat_ofNat'];omega
   refine ⟨_,[UInt8.ofNat (lo+r).toNat],rfl,hm,?_,ht3.below ((Below.refl _ _).alloc (Nat.le_refl _) _),hFW.trans (hf4.then ((Below.refl _ _).alloc hf4.size _))⟩;have h5:=ownW (w:=w3.alloc (.cells #[.int .u8 (lo+r)] 5)) (B:=w.heap.size) (cs:=[.int .u8 (lo+r)]) (heap_alloc_new _ _) (by have:=hf4.size;omega) (by simp)
   show World.ownsRow _ _ _ _ _ _ _;simp only[List.map_cons,List.map_nil,List.length_cons,List.length_nil];rw[<-hu];exact h5
theorem KdV.fns {b:Nat} {w:World} {G:List Value->Prop} {n:Nat} {v:Value} (h:KdV b w G n v):∃g f c,∃U0 U1 U2 U3 U4:Nat->Value,v = .slice (some ⟨g,f,none⟩) n c/\b<g/\g<w.heap.size/\n<=1000/\
  (∀j,j<n->w.cell? ⟨g,f+j*5,none⟩=some (U0 j))/\(∀j,j<n->w.cell? ⟨g,f+j*5+1,none⟩=some (U1 j))/\(∀j,j<n->w.cell? ⟨g,f+j*5+2,none⟩=some (U2 j))/\(∀j,j<n->w.cell? ⟨g,f+j*5+3,none⟩=some (U3 j))/\(∀j,j<n->w.cell? ⟨g,f+j*5+4,none⟩=some (U4 j))/\
  (∀j,j<n->G [U0 j,U1 j,U2 j,U3 j,U4 j]):=by
 obtain ⟨g,f,c,rfl,h1,h2,h3,h5⟩:=h;have h6:∀j,∃u:Value×Value×Value×Value×Value,j<n->(w.cell? ⟨g,f+j*5,none⟩=some u.1/\w.cell? ⟨g,f+j*5+1,none⟩=some u.2.1/\w.cell? ⟨g,f+j*5+2,none⟩=some u.2.2.1/\w.cell? ⟨g,f+j*5+3,none⟩=some u.2.2.2.1/\w.cell? ⟨g,f+j*5+4,none⟩=some u.2.2.2.2/\G [u.1,u.2.1,u.2.2.1,u.2.2.2.1,u.2.2.2.2]):=by
  intro j;by_cases hj:j<n
  .obtain ⟨u0,u1,u2,u3,u4,r⟩:=h5 j hj;exact ⟨(u0,u1,u2,u3,u4),λ_=>r⟩
  .exact ⟨(undef,undef,undef,undef,undef),λh=>absurd h hj⟩
 obtain ⟨U,hU⟩:=Classical.axiomOfChoice h6;exact ⟨g,f,c,λj=>(U j).1,λj=>(U j).2.1,λj=>(U j).2.2.1,λj=>(U j).2.2.2.1,λj=>(U j).2.2.2.2,rfl,h1,h2,h3,λj hj=>(hU j hj).1,λj hj=>(hU j hj).2.1,λj hj=>(hU j hj).2.2.1,λj hj=>(hU j hj).2.2.2.1,λj hj=>(hU j hj).2.2.2.2.1,λj hj=>(hU j hj).2.2.2.2.2⟩
theorem MbPost.mono {b m m':Nat} {w:World} {e:Ending} {w':World} (h:MbPost b m w e w') (hm:m<=m'):MbPost b m' w e w':=by
 obtain ⟨v,l,h1,h2,r⟩:=h;exact ⟨v,l,h1,Nat.le_trans h2 hm,r⟩
set_option maxHeartbeats 4000000 in
theorem member_seq (b d m' n:Nat) (A B:Option Addr) (a1 a2 b1 b2:Nat) (mn mx:Int) (w:World) (hk:KdV b w (Pat b w d m') n (.slice B b1 b2)) (hm:n*m'<=1000000) (ht:TapeOK b w)
  (hIH:∀(vs:List Value) (w':World),Pat b w' d m' vs->TapeOK b w'->Calls Tryz.prog 25 #[.pointer (some ⟨b,0,none⟩), .agg vs.toArray] w' (MbPost b m' w')) :
  Calls Tryz.prog 25 #[.pointer (some ⟨b,0,none⟩), .agg #[.int .i64 2, .slice A a1 a2, .slice B b1 b2, .int .i64 mn, .int .i64 mx]] w (MbPost b (n*m') w):=by
 obtain ⟨i0,hi,hz0,hz1,hz2⟩:=info_parts info_u8;obtain ⟨g,f,c,U0,U1,U2,U3,U4,hv,hbg,hgl,hn,k0,k1,k2,k3,k4,kG⟩:=hk.fns;injection hv with e1 e2 e3;subst e1 e2 e3;obtain ⟨W1,hW1⟩:∃W,w.alloc (Obj.cells #[Value.int IntKind.i64 2,Value.slice A a1 a2,Value.slice (some ⟨g,f,none⟩) b1 b2,Value.int IntKind.i64 mn,Value.int IntKind.i64 mx] 31)=W:=⟨_,rfl⟩;have hbel:Below w.heap.size w W1:=by rw[<-hW1];exact (Below.refl _ _).alloc (Nat.le_refl _) _
 have hz1w:W1.heap.size=w.heap.size+1:=by rw[<-hW1];simp
 have m2:W1.cell? ⟨w.heap.size,2,none⟩=some (.slice (some ⟨g,f,none⟩) b1 b2):=by rw[<-hW1,World.cell?_alloc_mark];rfl
 have hbs:=ht.lt;have ht1:=ht.below hbel;have HK:=Lib.hid (λ(w':World) (hf:Fr b w w') (j:Nat) (hj:j<b1)=>show (w'.cell? ⟨g,f+j*5,none⟩=some (U0 j)/\w'.cell? ⟨g,f+j*5+1,none⟩=some (U1 j)/\w'.cell? ⟨g,f+j*5+2,none⟩=some (U2 j)/\w'.cell? ⟨g,f+j*5+3,none⟩=some (U3 j)/\w'.cell? ⟨g,f+j*5+4,none⟩=some (U4 j)/\Pat b w' d m' [U0 j,U1 j,U2 j,U3 j,U4 j]) from
  ⟨((Stay.of_fr hf).cell hbg hgl).trans (k0 j hj),((Stay.of_fr hf).cell hbg hgl).trans (k1 j hj),((Stay.of_fr hf).cell hbg hgl).trans (k2 j hj),((Stay.of_fr hf).cell hbg hgl).trans (k3 j hj),((Stay.of_fr hf).cell hbg hgl).trans (k4 j hj),(kG j hj).later (Stay.of_fr hf)⟩)
 have HIH:=Lib.hid hIH;have HW1:=Lib.hid hW1;have HB:=Lib.hid hbel;have HM2:=Lib.hid m2;have HT1:=Lib.hid ht1;have HZ:=Lib.hid hz1w;clear k0 k1 k2 k3 k4 kG hIH hW1 hbel m2 ht ht1 hk hz1w
 go_enter Tryz.func25,Tryz.ntmps25
 go_wp2_with fail;rw[HW1.out];clear HW1
 go_loopw [5,7] (λv i wr=>∃(k:Nat) (o:List UInt8),k<=b1/\i = .int .i64 (k:Int)/\OB 5 W1.heap.size v o wr/\o.length<=k*m'/\TapeOK b wr/\Fr b W1 wr) (λ_ i _=>b1 - (intOf i).toNat)
 case atStart=>exact ⟨0,[],by omega,rfl,OB.nil_ _ _ _,by simp,HT1.out,Fr.refl _ _⟩
 case round=>
  obtain ⟨k,o,hk,rfl,hown,ho,htr,hfr⟩:=hrel;have hfw:Fr b w wr:=(Fr.of_below HB.out).trans hfr;have c2:wr.cell? ⟨w.heap.size,2,none⟩=some (.slice (some ⟨g,f,none⟩) b1 b2):=(World.cell?_of_block (a:=⟨w.heap.size,2,none⟩) (hfr.block w.heap.size (by have:=HZ.out;omega) (by intro e;injection e;omega))).trans HM2.out
  by_cases hlt:k<b1
  .have hd:decide ((k:Int)<(b1:Int))=true:=decide_eq_true (by omega)
   have hdn:decide (k<b1)=true:=decide_eq_true hlt;obtain ⟨q0,q1,q2,q3,q4,hP⟩:=HK.out wr hfw k hlt;have IH:=Lib.hid (HIH.out _ wr hP htr);have hkm:k*m'+m'<=1000000:=by
    have:(k+1)*m'<=b1*m':=Nat.mul_le_mul_right _ hlt;rw[Nat.succ_mul]at this;omega
   have HKM:=Lib.hid hkm;clear hP hkm;go_wp2_with fail;refine IH.out.mono ?_;rintro e w2 ⟨v2,l2,rfl,hl2,hv2,ht2,hf2⟩;have hbs1:b<W1.heap.size:=by have:=HZ.out;omega
   have hown2:=hown.fr hf2 hbs1;have hlen:o.length+l2.length<1000000000:=by have:=HKM.out;omega
   have hBs:W1.heap.size<=w2.heap.size:=Nat.le_trans hfr.size hf2.size;have HO:=Lib.hid (show (o++l2).length<=(k+1)*m' by rw[List.length_append,Nat.succ_mul];omega)
   clear ho hl2 q0 q1 q2 q3 q4;go_wp2_with (at_builtin;refine app_OB Tryz.underlying41 hi hz0 hz1 hz2 _ _ _ _ _ _ _ _ rfl rfl rfl rfl hown2 hv2 hlen hBs ?_;intro v3 w3 hown3 hb3);go_roundw
   case rel=>exact ⟨k+1,o++l2,by omega,by go_num,hown3,HO.out,ht2.below' hb3 hbs1,(hfr.trans hf2).then hb3⟩
   case measure=>simp[intOf];omega
  .obtain rfl:k=b1:=by omega
   have hd:decide ((k:Int)<(k:Int))=false:=decide_eq_false (by omega)
   have hdn:decide (k<k)=false:=decide_eq_false (by omega)
   go_wp2_with fail;go_ret;exact ⟨_,o,rfl,ho,hown.mono (by have:=HZ.out;omega),htr,hfw⟩
set_option maxHeartbeats 4000000 in
theorem member_rep (b d m' n:Nat) (A B:Option Addr) (a1 a2 b1 b2:Nat) (mn mx:Int) (w:World) (hk:KdV b w (Pat b w d m') n (.slice B b1 b2)) (hn1:1<=n) (h0:0<=mn) (h1:mn<=mx) (h1000:mx<=1000) (hm:mx.toNat*m'<=1000000) (ht:TapeOK b w)
  (hIH:∀(vs:List Value) (w':World),Pat b w' d m' vs->TapeOK b w'->Calls Tryz.prog 25 #[.pointer (some ⟨b,0,none⟩), .agg vs.toArray] w' (MbPost b m' w')) :
  Calls Tryz.prog 25 #[.pointer (some ⟨b,0,none⟩), .agg #[.int .i64 4, .slice A a1 a2, .slice B b1 b2, .int .i64 mn, .int .i64 mx]] w (MbPost b (mx.toNat*m') w):=by
 obtain ⟨i0,hi,hz0,hz1,hz2⟩:=info_parts info_u8;obtain ⟨g,f,c,U0,U1,U2,U3,U4,hv,hbg,hgl,hn,k0,k1,k2,k3,k4,kG⟩:=hk.fns;injection hv with e1 e2 e3;subst e1 e2 e3;obtain ⟨W1,hW1⟩:∃W,w.alloc (Obj.cells #[Value.int IntKind.i64 4,Value.slice A a1 a2,Value.slice (some ⟨g,f,none⟩) b1 b2,Value.int IntKind.i64 mn,Value.int IntKind.i64 mx] 31)=W:=⟨_,rfl⟩;have hbel:Below w.heap.size w W1:=by rw[<-hW1];exact (Below.refl _ _).alloc (Nat.le_refl _) _
 have hz1w:W1.heap.size=w.heap.size+1:=by rw[<-hW1];simp
 have m2:W1.cell? ⟨w.heap.size,2,none⟩=some (.slice (some ⟨g,f,none⟩) b1 b2):=by rw[<-hW1,World.cell?_alloc_mark];rfl
 have m3:W1.cell? ⟨w.heap.size,3,none⟩=some (.int .i64 mn):=by rw[<-hW1,World.cell?_alloc_mark];rfl
 have m4:W1.cell? ⟨w.heap.size,4,none⟩=some (.int .i64 mx):=by rw[<-hW1,World.cell?_alloc_mark];rfl
 have hbs:=ht.lt;have ht1:=ht.below hbel;have HK:=Lib.hid (λ(w':World) (hf:Fr b w w')=>show (w'.cell? ⟨g,f,none⟩=some (U0 0)/\w'.cell? ⟨g,f+1,none⟩=some (U1 0)/\w'.cell? ⟨g,f+2,none⟩=some (U2 0)/\w'.cell? ⟨g,f+3,none⟩=some (U3 0)/\w'.cell? ⟨g,f+4,none⟩=some (U4 0)/\Pat b w' d m' [U0 0,U1 0,U2 0,U3 0,U4 0]) from
  ⟨((Stay.of_fr hf).cell hbg hgl).trans (by simpa using k0 0 (by omega)),((Stay.of_fr hf).cell hbg hgl).trans (by simpa using k1 0 (by omega)),((Stay.of_fr hf).cell hbg hgl).trans (by simpa using k2 0 (by omega)),((Stay.of_fr hf).cell hbg hgl).trans (by simpa using k3 0 (by omega)),((Stay.of_fr hf).cell hbg hgl).trans (by simpa using k4 0 (by omega)),(kG 0 (by omega)).later (Stay.of_fr hf)⟩)
 have HIH:=Lib.hid hIH;have HW1:=Lib.hid hW1;have HB:=Lib.hid hbel;have HM2:=Lib.hid m2;have HZ:=Lib.hid hz1w;have BT:=Lib.hid (between_any b mn mx W1 h1 (by omega) (by omega) (by omega) ht1)
 have hkn:0<b1:=by omega
 have HX:=Lib.hid (And.intro h0 (And.intro h1 (And.intro h1000 hm)));clear k0 k1 k2 k3 k4 kG hIH hW1 hbel m2 ht ht1 hk hz1w h0 h1 h1000 hm;have HM34:=Lib.hid (And.intro m3 m4);clear m3 m4
 go_enter Tryz.func25,Tryz.ntmps25
 go_upto_region 14 with fail
 rw[HW1.out];obtain ⟨m3,m4⟩:=HM34.out;clear HW1;go_wp2_with fail;refine BT.out.mono ?_;rintro e w1 ⟨r,rfl,hr0,hr1,ht1,hf1⟩;have hrm:=HX.out;have HRB:=Lib.hid (And.intro hr0 hr1);have HT1:=Lib.hid ht1;have HF1:=Lib.hid hf1;obtain ⟨rn,hrn⟩:∃rn:Nat,r=(rn:Int):=⟨r.toNat,by omega⟩
 subst hrn;have HRN:=Lib.hid (show rn<=mx.toNat by omega)
 have hr1000:rn<=1000:=by omega
 clear m3 m4 hr0 hr1 ht1 hf1 hrm BT;go_wp2_with fail
 go_loopw [5,8] (λv i wr=>∃(k:Nat) (o:List UInt8),k<=rn/\i = .int .i64 (k:Int)/\OB 5 W1.heap.size v o wr/\o.length<=(rn-k)*m'/\TapeOK b wr/\Fr b W1 wr) (λ_ i _=>(intOf i).toNat)
 case atStart=>exact ⟨rn,[],by omega,rfl,OB.nil_ _ _ _,by simp,HT1.out,HF1.out⟩
 case round=>
  obtain ⟨k,o,hk,rfl,hown,ho,htr,hfr⟩:=hrel;have hfw:Fr b w wr:=(Fr.of_below HB.out).trans hfr;have c2:wr.cell? ⟨w.heap.size,2,none⟩=some (.slice (some ⟨g,f,none⟩) b1 b2):=(World.cell?_of_block (a:=⟨w.heap.size,2,none⟩) (hfr.block w.heap.size (by have:=HZ.out;omega) (by intro e;injection e;omega))).trans HM2.out
  have hbnd:rn*m'<=mx.toNat*m':=Nat.mul_le_mul_right _ HRN.out;by_cases hlt:0<k
  .have hd:decide ((0:Int)<(k:Int))=true:=decide_eq_true (by omega)
   have hdn:decide (0<k)=true:=decide_eq_true hlt;obtain ⟨q0,q1,q2,q3,q4,hP⟩:=HK.out wr hfw;have IH:=Lib.hid (HIH.out _ wr hP htr);have hstep:(rn-k)*m'+m'=(rn - (k - 1))*m':=by rw[<-Nat.succ_mul];congr 1;omega
   have hle2:(rn - (k - 1))*m'<=rn*m':=Nat.mul_le_mul_right _ (by omega)
   have HKM:=Lib.hid (And.intro hstep (And.intro hle2 hbnd));have hw1:IntKind.i64.wrap ((k:Int) - 1)=(k:Int) - 1:=IntWalk.i64_in _ (by omega)
   clear hP hstep hle2 hbnd;go_wp2_with fail;refine IH.out.mono ?_;rintro e w2 ⟨v2,l2,rfl,hl2,hv2,ht2,hf2⟩;have hbs1:b<W1.heap.size:=by have:=HZ.out;omega
   have hown2:=hown.fr hf2 hbs1;have hlen:o.length+l2.length<1000000000:=by have h1:=HKM.out;have h2:=HX.out.2.2.2;omega
   have hBs:W1.heap.size<=w2.heap.size:=Nat.le_trans hfr.size hf2.size;have HO:=Lib.hid (show (o++l2).length<=(rn - (k - 1))*m' by rw[List.length_append,<-HKM.out.1];omega)
   clear ho hl2 q0 q1 q2 q3 q4;go_wp2_with (at_builtin;refine app_OB Tryz.underlying41 hi hz0 hz1 hz2 _ _ _ _ _ _ _ _ rfl rfl rfl rfl hown2 hv2 hlen hBs ?_;intro v3 w3 hown3 hb3);go_roundw
   case rel=>exact ⟨k - 1,o++l2,by omega,by go_num,hown3,HO.out,ht2.below' hb3 hbs1,(hfr.trans hf2).then hb3⟩
   case measure=>simp[intOf];omega
  .obtain rfl:k=0:=by omega
   have hlen:o.length<=mx.toNat*m':=by simp at ho;omega
   go_wp2_with fail;go_ret;exact ⟨_,o,rfl,hlen,hown.mono (by have:=HZ.out;omega),htr,hfw⟩
set_option maxHeartbeats 4000000 in
theorem member_choice (b d m n:Nat) (A B:Option Addr) (a1 a2 b1 b2:Nat) (mn mx:Int) (w:World) (hk:KdV b w (Pat b w d m) n (.slice B b1 b2)) (hn1:1<=n) (ht:TapeOK b w)
  (hIH:∀(vs:List Value) (w':World),Pat b w' d m vs->TapeOK b w'->Calls Tryz.prog 25 #[.pointer (some ⟨b,0,none⟩), .agg vs.toArray] w' (MbPost b m w')) :
  Calls Tryz.prog 25 #[.pointer (some ⟨b,0,none⟩), .agg #[.int .i64 3, .slice A a1 a2, .slice B b1 b2, .int .i64 mn, .int .i64 mx]] w (MbPost b m w):=by
 obtain ⟨g,f,c,U0,U1,U2,U3,U4,hv,hbg,hgl,hn,k0,k1,k2,k3,k4,kG⟩:=hk.fns;injection hv with e1 e2 e3;subst e1 e2 e3;obtain ⟨W1,hW1⟩:∃W,w.alloc (Obj.cells #[Value.int IntKind.i64 3,Value.slice A a1 a2,Value.slice (some ⟨g,f,none⟩) b1 b2,Value.int IntKind.i64 mn,Value.int IntKind.i64 mx] 31)=W:=⟨_,rfl⟩;have hbel:Below w.heap.size w W1:=by rw[<-hW1];exact (Below.refl _ _).alloc (Nat.le_refl _) _
 have hz1w:W1.heap.size=w.heap.size+1:=by rw[<-hW1];simp
 have m2:W1.cell? ⟨w.heap.size,2,none⟩=some (.slice (some ⟨g,f,none⟩) b1 b2):=by rw[<-hW1,World.cell?_alloc_mark];rfl
 have hbs:=ht.lt;have ht1:=ht.below hbel;have HKP:=Lib.hid (λ(w':World) (hf:Fr b W1 w') (htt:TapeOK b w')=>show (w'.cell? ⟨w.heap.size,2,none⟩=some (.slice (some ⟨g,f,none⟩) b1 b2)/\TapeOK b w'/\(∀j,j<b1->w'.cell? ⟨g,f+j*5,none⟩=some (U0 j))/\(∀j,j<b1->w'.cell? ⟨g,f+j*5+1,none⟩=some (U1 j))/\(∀j,j<b1->w'.cell? ⟨g,f+j*5+2,none⟩=some (U2 j))/\(∀j,j<b1->w'.cell? ⟨g,f+j*5+3,none⟩=some (U3 j))/\(∀j,j<b1->w'.cell? ⟨g,f+j*5+4,none⟩=some (U4 j))) from by
  have hfw:Fr b w w':=(Fr.of_below hbel).trans hf;have hs:=Stay.of_fr hfw;exact ⟨(World.cell?_of_block (a:=⟨w.heap.size,2,none⟩) (hf.block w.heap.size (by omega) (by intro e;injection e;omega))).trans m2,htt,λj hj=>(hs.cell hbg hgl).trans (k0 j hj),λj hj=>(hs.cell hbg hgl).trans (k1 j hj),λj hj=>(hs.cell hbg hgl).trans (k2 j hj),λj hj=>(hs.cell hbg hgl).trans (k3 j hj),λj hj=>(hs.cell hbg hgl).trans (k4 j hj)⟩)
 have HG:=Lib.hid (λ(w':World) (hf:Fr b W1 w') (j:Nat) (hj:j<b1)=>(kG j hj).later (Stay.of_fr ((Fr.of_below hbel).trans hf)));have NX:=Lib.hid (λw' (ht:TapeOK b w')=>next_any b (b1:Int) w' (by omega) (by omega) ht)
 have HIH:=Lib.hid hIH;have HW1:=Lib.hid hW1;have HB:=Lib.hid hbel;have HT1:=Lib.hid ht1;have HZ:=Lib.hid hz1w;clear k0 k1 k2 k3 k4 kG hIH hW1 hbel m2 ht ht1 hk hz1w
 go_enter Tryz.func25,Tryz.ntmps25
 go_upto_region 12 with fail
 rw[HW1.out];clear HW1
 go_region_held3 (λw'=>w'.cell? ⟨w.heap.size,2,none⟩=some (.slice (some ⟨g,f,none⟩) b1 b2)/\TapeOK b w'/\(∀j,j<b1->w'.cell? ⟨g,f+j*5,none⟩=some (U0 j))/\(∀j,j<b1->w'.cell? ⟨g,f+j*5+1,none⟩=some (U1 j))/\(∀j,j<b1->w'.cell? ⟨g,f+j*5+2,none⟩=some (U2 j))/\(∀j,j<b1->w'.cell? ⟨g,f+j*5+3,none⟩=some (U3 j))/\(∀j,j<b1->w'.cell? ⟨g,f+j*5+4,none⟩=some (U4 j)))
  (first | exact HKP.out _ (Fr.refl _ _).drew (HT1.out.below (Below.refl _ _).drew) | exact HKP.out _ (fr_of_drew hf2) ht2 | exact HKP.out _ ((fr_of_drew hf2).trans hf3) ht3)
  ((first | (go_at_call 7;refine (NX.out _ (HT1.out.below (Below.refl _ _).drew)).mono ?_;rintro e w2 ⟨r,rfl,hr0,hr1,ht2,hf2⟩;have hrn:r.toNat<b1:=(by omega)) | (go_at_call 25;refine (HIH.out _ w2 (HG.out w2 (fr_of_drew hf2) r.toNat hrn) ht2).mono ?_;rintro e w3 ⟨v3,l3,rfl,hl3,hv3,ht3,hf3⟩)))
 all_goals
  go_wp2_with fail;go_ret;have hff:=(fr_of_drew hf2).trans hf3;exact ⟨v3,l3,rfl,hl3,hv3.mono (by have h1:=HZ.out;have h2:W1.heap.size<=w2.heap.size:=hf2.size;omega),ht3,(Fr.of_below HB.out).trans hff⟩
theorem member_any (b:Nat):∀(d m:Nat) (vs:List Value) (w:World),Pat b w d m vs->m<=1000000->TapeOK b w->Calls Tryz.prog 25 #[.pointer (some ⟨b,0,none⟩), .agg vs.toArray] w (MbPost b m w)
 | 0,_,_,_,h,_,_=>h.elim
 | d+1,m,vs,w,⟨v1,v2,mn,mx,⟨⟨A,a1,a2,e1⟩,⟨B,b1,b2,e2⟩⟩,h⟩,hm,ht=>by
  subst e1 e2;rcases h with ⟨rfl,h2,h3⟩ | ⟨rfl,n,m',h2,h3⟩ | ⟨rfl,n,h2,h3⟩ | ⟨rfl,n,m',h2,h3,h4,h5,h6,h7⟩
  .exact member_set b m A B _ _ _ _ mn mx w h2 h3 ht
  .have hm':m'<=1000000\/n=0:=by
    rcases Nat.eq_zero_or_pos n with h0 | h0
    .exact .inr h0
    .left
     have:1*m'<=n*m':=Nat.mul_le_mul_right _ h0;omega
   rcases hm' with hm' | hn0
   .exact (member_seq b d m' n A B _ _ _ _ mn mx w h2 (by omega) ht (λvs w' hP ht'=>member_any b d m' vs w' hP hm' ht')).mono λe w' h=>h.mono h3
   .subst hn0;exact (member_seq b d 0 0 A B _ _ _ _ mn mx w (by
     obtain ⟨g,f,c,q1,q2,q3,q4,-⟩:=h2;exact ⟨g,f,c,q1,q2,q3,q4,λj hj=>absurd hj (Nat.not_lt_zero _)⟩) (by omega) ht (λvs w' hP ht'=>member_any b d 0 vs w' hP (by omega) ht')).mono λe w' h=>h.mono (by omega)
  .exact member_choice b d m n A B _ _ _ _ mn mx w h2 h3 ht (λvs w' hP ht'=>member_any b d m vs w' hP hm ht')
  .have hm':m'<=1000000:=by
    have:1*m'<=mx.toNat*m':=Nat.mul_le_mul_right _ (by omega)
    omega
   exact (member_rep b d m' n A B _ _ _ _ mn mx w h2 h3 h4 h5 h6.2 (by omega) ht (λvs w' hP ht'=>member_any b d m' vs w' hP hm' ht')).mono λe w' h=>h.mono h7
def MbN (b m:Nat) (nd:Nd) (w:World) (e:Ending) (w':World):Prop:=∃(v:Value) (l:List UInt8),e = .returned v/\l.length<=m/\langN nd (l.map UInt8.toNat)/\OB 5 w.heap.size v l w'/\TapeOK b w'/\Fr b w w'
def KdsS (b:Nat) (w:World) (kids:List Nd) (v:Value):Prop:=∃g f n c,v = .slice (some ⟨g,f,none⟩) n c/\n=kids.length/\∀W,Stay b w W->KdsIn W kids g f
theorem kidN {b:Nat} {w:World} {kids:List Nd} {g f j:Nat} {u0 u1 u2 u3 u4:Value} (hS:∀W,Stay b w W->KdsIn W kids g f) (hbg:b<g) (hgl:g<w.heap.size) (k0:w.cell? ⟨g,f+j*5,none⟩=some u0) (k1:w.cell? ⟨g,f+j*5+1,none⟩=some u1) (k2:w.cell? ⟨g,f+j*5+2,none⟩=some u2) (k3:w.cell? ⟨g,f+j*5+3,none⟩=some u3) (k4:w.cell? ⟨g,f+j*5+4,none⟩=some u4)
  (hj2:j<kids.length) (W:World) (hW:Stay b w W):NdIn W kids[j] [u0,u1,u2,u3,u4]:=by
 obtain ⟨vs,h1,h2⟩:=(hS W hW).at j hj2;have h5:vs.length=5:=by obtain ⟨A1,c1,A2,c2,rfl,-⟩:=h2.form;rfl
 obtain ⟨x0,x1,x2,x3,x4,rfl⟩:∃x0 x1 x2 x3 x4,vs=[x0,x1,x2,x3,x4]:=by
  match vs,h5 with
  | [x0,x1,x2,x3,x4],_=>exact ⟨x0,x1,x2,x3,x4,rfl⟩
 have q0:=(h1 0 (by decide)).symm.trans ((hW.cell hbg hgl).trans (by simpa using k0))
 have q1:=(h1 1 (by decide)).symm.trans ((hW.cell hbg hgl).trans k1)
 have q2:=(h1 2 (by decide)).symm.trans ((hW.cell hbg hgl).trans k2)
 have q3:=(h1 3 (by decide)).symm.trans ((hW.cell hbg hgl).trans k3)
 have q4:=(h1 4 (by decide)).symm.trans ((hW.cell hbg hgl).trans k4)
 injection q0 with q0;injection q1 with q1;injection q2 with q2;injection q3 with q3;injection q4 with q4;subst q0 q1 q2 q3 q4;exact h2
end Go.Proofs.YtljgapfmgegifaaGreatDoor
