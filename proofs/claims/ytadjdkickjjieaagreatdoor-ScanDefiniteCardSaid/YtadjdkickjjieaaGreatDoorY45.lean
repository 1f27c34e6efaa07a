/- Walk: the maker's Pattern: some pattern of a made form. -/
import Derived.Test.YtadjdkickjjieaaGreatDoorY23
import Derived.Test.YtadjdkickjjieaaGreatDoorY13
import Derived.Test.YtadjdkickjjieaaGreatDoorY44
import Derived.Deep.CutBlock
namespace Go.Proofs.YtadjdkickjjieaaGreatDoor
set_option linter.unusedVariables false
set_option linter.unusedSimpArgs false
set_option maxRecDepth 100000
open Go.RowKit
structure N5 where
 op:Int
 a1:Option Addr
 n1:Nat
 c1:Nat
 a2:Option Addr
 n2:Nat
 c2:Nat
 mn:Int
 mx:Int
def N5.cs (u:N5):List Value:=[.int .i64 u.op, .slice u.a1 u.n1 u.c1, .slice u.a2 u.n2 u.c2, .int .i64 u.mn, .int .i64 u.mx]
theorem zNd:EncS N5.cs 5:=⟨by decide,λ_=>rfl,λx u hu=>by
 simp only[N5.cs,List.mem_cons,List.not_mem_nil,or_false]at hu;rcases hu with rfl | rfl | rfl | rfl | rfl <;> rfl⟩
theorem zLc:(Tryz.prog.info? 29).map (λi=>(i.zero,i.size,i.bytes))=some (some (.agg #[.int .i64 0, .slice none 0 0, .slice none 0 0, .int .i64 0, .int .i64 0]),5,72):=by kernel_rfl
def PtK:Nat->Nd->Prop
 | 0,nd=>∃rs,rs∈zBv/\nd = .mk 1 rs [] 0 0
 | d+1,nd=>(∃rs,rs∈zBv/\nd = .mk 1 rs [] 0 0)\/
  (∃op kids,(op=2\/op=3)/\nd = .mk op [] kids 0 0/\2<=kids.length/\kids.length<=3/\∀k∈kids,PtK d k/\k.op≠op)\/
  (∃k mn mx,nd = .mk 4 [] [k] mn mx/\0<=mn/\mn<=mx/\1<=mx/\mx<=4/\¬(mn=1/\mx=1)/\PtK d k)
theorem PtK.set {rs:List (Nat×Nat)} (h:rs∈zBv):∀d,PtK d (.mk 1 rs [] 0 0)
 | 0=>⟨rs,h,rfl⟩
 | _+1=>.inl ⟨rs,h,rfl⟩
def NdUp (B:Nat) (w:World) (vs:List Value) (nd:Nd):Prop:=∀W,KeepF (List.range B) [] w W->NdIn W nd vs
theorem zER (L:List Nat) (w:World):KeepF L [] w w:=⟨rfl,rfl,rfl,Nat.le_refl _,λ_ _ _=>rfl,λk hk=>by cases hk⟩
theorem NdUp.in_ {B:Nat} {w:World} {vs:List Value} {nd:Nd} (h:NdUp B w vs nd):NdIn w nd vs:=h w (zER _ _)
theorem NdUp.mono {B B':Nat} {w:World} {vs:List Value} {nd:Nd} (h:NdUp B w vs nd) (hB:B'<=B):NdUp B' w vs nd:=λw' hk=>
 h w' ⟨hk.os,hk.tape,hk.output,hk.size,λk h1 hn=>hk.blk k h1 λhm=>hn (List.mem_range.2 (by have:=List.mem_range.1 hm;omega)),λk hk=>by cases hk⟩
theorem NdUp.keep {B:Nat} {w w':World} {vs:List Value} {nd:Nd} {L L':List Nat} (h:NdUp B w vs nd) (hk:KeepF L L' w w') (hL:∀k∈L,k<B):NdUp B w' vs nd:=λw2 hk2=>
 h w2 ⟨hk2.os.trans hk.os,hk2.tape.trans hk.tape,hk2.output.trans hk.output,Nat.le_trans hk.size hk2.size,λk h1 hn=>(hk2.blk k (Nat.lt_of_lt_of_le h1 hk.size) hn).trans (hk.blk k h1 λhm=>hn (List.mem_range.2 (hL k hm))),λk hk=>by cases hk⟩
theorem NdUp.set {B:Nat} {w:World} {v:Value} {rs:List (Nat×Nat)} (h:RgUp B w v rs):NdUp B w [.int .i64 1,v, .slice none 0 0, .int .i64 0, .int .i64 0] (.mk 1 rs [] 0 0):=λW hk=>
 ⟨v, .slice none 0 0,rfl,h W hk,none,0,rfl,⟨Nat.le_refl _,by decide⟩, .inl rfl⟩
theorem NdUp.kids {B:Nat} {w:World} {us:List N5} {kids:List Nd} {A:Option Addr} {n c:Nat} (hown:OR 29 5 N5.cs B (.slice A n c) us w) (hl:us.length=kids.length) (h:∀i (h1:i<us.length) (h2:i<kids.length),NdUp B w us[i].cs kids[i]) (op mn mx:Int) :
  NdUp B w [.int .i64 op, .slice none 0 0, .slice A n c, .int .i64 mn, .int .i64 mx] (.mk op [] kids mn mx):=by
 obtain ⟨A',c',e,-,hor⟩:=hown.cells zNd;obtain ⟨A2,c2,e4,hc1,hc2⟩:=zAC (show w.ownsRow _ _ _ _ _ _ from hown);injection e with e1 e2 e3;injection e4 with e5 e6 e7;subst e1 e2 e3 e7;have hc:=And.intro hc1 hc2;intro W hk;refine ⟨_,_,rfl,⟨none,0,rfl,⟨Nat.le_refl _,by decide⟩, .inl rfl⟩,A,c,by rw[hl],by rw[<-hl];exact hc,?_⟩
 by_cases h0:kids=[]
 .exact .inl h0
 .have hlen:0<us.length:=by rw[hl];exact List.length_pos_iff.2 h0
  obtain ⟨g,rfl,hgB,hg,hcl⟩:=hor.resolve_left (λe=>by rw[e]at hlen;simp at hlen)
  refine .inr ⟨g,0,rfl,Nat.lt_of_lt_of_le hg hk.size,KdsIn.mk λi hi=>?_⟩;have hi2:i<us.length:=by omega
  refine ⟨us[i].cs,λj hj=>?_,h i hi2 hi W hk⟩;rw[Nat.zero_add,World.cell?_of_block (a:=⟨g,i*5+j,none⟩) (hk.blk g hg (λhm=>by have:=List.mem_range.1 hm;omega))]
  exact (hcl i hi2 j hj).1
set_option maxHeartbeats 4000000 in
theorem zHg {w Wf:World} {b:Nat} {a0 a1 a2 a3 a4:Value} (h:Wf=((((w.setCell ⟨b,0,none⟩ a0).setCell ⟨b,1,none⟩ a1).setCell ⟨b,2,none⟩ a2).setCell ⟨b,3,none⟩ a3).setCell ⟨b,4,none⟩ a4):(∀k,k≠b->Wf.heap[k]?=w.heap[k]?)/\Wf.heap.size=w.heap.size/\(Wf.os=w.os/\Wf.tape=w.tape/\Wf.output=w.output)/\
  ∀{o0 o1 o2 o3 o4:Value} {T:TypeId},w.heap[b]?=some (.cells #[o0,o1,o2,o3,o4] T (0,0))->Wf.heap[b]?=some (.cells #[a0,a1,a2,a3,a4] T (0,0)):=by
 subst h;refine ⟨λk hk=>?_,by simp[World.setCell],⟨rfl,rfl,rfl⟩,λ{o0 o1 o2 o3 o4 T} hb=>?_⟩
 .exact (Below.heap_setCell _ ⟨b,4,none⟩ _ k hk).trans ((Below.heap_setCell _ ⟨b,3,none⟩ _ k hk).trans ((Below.heap_setCell _ ⟨b,2,none⟩ _ k hk).trans ((Below.heap_setCell _ ⟨b,1,none⟩ _ k hk).trans (Below.heap_setCell _ ⟨b,0,none⟩ _ k hk))))
 .have:=zAR (zAR (zAR (zAR (zAR hb 0 a0) 1 a1) 2 a2) 3 a3) 4 a4;simpa using this
def NdUL (L:List Nat) (w:World) (vs:List Value) (nd:Nd):Prop:=∀W,KeepF L [] w W->NdIn W nd vs
theorem NdUL.next {L L':List Nat} {w w':World} {vs:List Value} {nd:Nd} (h:NdUL L w vs nd) (hk:KeepF L [] w w') (hs:∀k∈L',k∈L\/w.heap.size<=k):NdUL L' w' vs nd:=λW hW=>
 h W ⟨hW.os.trans hk.os,hW.tape.trans hk.tape,hW.output.trans hk.output,Nat.le_trans hk.size hW.size,λk h1 hn=>(hW.blk k (Nat.lt_of_lt_of_le h1 hk.size) λhm=>(hs k hm).elim hn (λh2=>by omega)).trans (hk.blk k h1 hn),λk hk=>by cases hk⟩
theorem zI1 {L L':List Nat} {w w':World} (h:KeepF L [] w w') (hs:∀k∈L,k∈L'):KeepF L' [] w w':=⟨h.os,h.tape,h.output,h.size,λk h1 hn=>h.blk k h1 λhm=>hn (hs k hm),λk hk=>by cases hk⟩
def zMj (b d:Nat) (w:World) (e:Ending) (w':World):Prop:=∃(nd:Nd) (u:N5),e = .returned (.agg #[.int .i64 u.op, .slice u.a1 u.n1 u.c1, .slice u.a2 u.n2 u.c2, .int .i64 u.mn, .int .i64 u.mx])/\PtK d nd/\NdUp w.heap.size w' u.cs nd/\TapeOK b w'/\Fr b w w'
structure PmB (b:Nat) (w:World) (nv:Array Value) (wr:World):Prop where
 tp:TapeOK b wr
 fr:Fr b w wr
 y:wr.heap[w.heap.size]?=some (.cells #[.int .i64 0, .slice none 0 0, .slice none 0 0, .int .i64 0, .int .i64 0] 29 (0,0))
 x:wr.heap[w.heap.size+1]?=some (.cells nv 29 (0,0))
 bl:b<w.heap.size
section
variable {b:Nat} {w wr w':World} {nv:Array Value}
theorem PmB.lt (h:PmB b w nv wr):w.heap.size+1<wr.heap.size:=(Array.getElem?_eq_some_iff.1 h.x).1
theorem PmB.frs (h:PmB b w nv wr) (hf:Fr b wr w') (ht:TapeOK b w'):PmB b w nv w':=
 have hl:=h.lt;have hb:=h.bl
 ⟨ht,h.fr.trans hf,(hf.block _ (by omega) (λe=>by injection e with e;omega)).trans h.y,(hf.block _ hl (λe=>by injection e with e;omega)).trans h.x,h.bl⟩
theorem PmB.later (h:PmB b w nv wr) (hb:Below wr.heap.size wr w'):PmB b w nv w':=h.frs (Fr.of_below hb) (h.tp.below hb)
theorem PmB.set (h:PmB b w nv wr) (j:Nat) (v:Value):PmB b w (nv.setIfInBounds j v) (wr.setCell ⟨w.heap.size+1,j,none⟩ v):=
 have hl:=h.lt;have hb:=h.bl;have hs:∀k,k≠w.heap.size+1->(wr.setCell ⟨w.heap.size+1,j,none⟩ v).heap[k]?=wr.heap[k]?:=λk hk=>Below.heap_setCell _ _ _ _ hk;have hbl:Below w.heap.size wr (wr.setCell ⟨w.heap.size+1,j,none⟩ v):=⟨rfl,rfl,rfl,by simp[World.setCell],λk hk=>hs k (by omega)⟩
 ⟨h.tp.below' hbl hb,h.fr.then hbl,(hs _ (by omega)).trans h.y,zAR h.x j v,hb⟩
end
theorem PmB.grown {b:Nat} {w wr w':World} {nv:Array Value} {r:Option Nat} (h:PmB b w nv wr) (hg:wr.grownBy w' r) (hr:∀g,r=some g->w.heap.size+2<=g):PmB b w nv w':=
 have hl:=h.lt;have hb:=h.bl;have hbl:Below w.heap.size wr w':=⟨hg.os,hg.tape,hg.output,hg.size,λk hk=>hg.block k (by omega) λe=>by have:=hr k e.symm;omega⟩
 ⟨h.tp.below' hbl hb,h.fr.then hbl,(hg.block _ (by omega) λe=>by have:=hr _ e.symm;omega).trans h.y,(hg.block _ hl λe=>by have:=hr _ e.symm;omega).trans h.x,hb⟩
theorem zAo {w:World} {g:Nat} {cs:Array Value} {T:TypeId} (h:w.heap[g]?=some (.cells cs T (0,0))) (j:Nat):w.frozen? ⟨g,j,none⟩=false:=by simp[World.frozen?,h]
set_option maxHeartbeats 16000000 in
theorem zFP (b:Nat):∀(d:Nat) (q:Int) (w:World),d<=10->q=(d:Int)+1->TapeOK b w->Calls Tryz.prog 7 #[.pointer (some ⟨b,0,none⟩), .int .i64 q] w (zMj b d w):=by
 intro d
 induction d with
 | zero=>
  intro q w hd hq ht;have hbl:=ht.lt;have HT:=Lib.hid ht;have hd1:decide (q<=1)=true:=decide_eq_true (by omega)
  clear ht hq
  go_enter Tryz.func7,Tryz.ntmps7
  go_wp2_with fail;refine zBG λW0 hW0=>?_;have hb0:Below w.heap.size w W0:=by rw[hW0];exact (Below.refl _ _).alloc (Nat.le_refl _) _
  have hY:W0.heap[w.heap.size]?=some (.cells #[.int .i64 0, .slice none 0 0, .slice none 0 0, .int .i64 0, .int .i64 0] 29 (0,0)):=by rw[hW0];exact heap_alloc_new w _
  have hz0:W0.heap.size=w.heap.size+1:=by rw[hW0];simp
  have hS:=zDY b W0 (HT.out.below hb0);have HS:=Lib.hid hS;have H0:=Lib.hid (And.intro hb0 hY);have hz1:w.heap.size<W0.heap.size:=by omega
  clear hW0 hb0 hY hS hz0;refine HS.out.mono ?_;rintro e w1 ⟨rs,v,hrs,rfl,hup,ht1,hf1⟩;obtain ⟨Av,cv,rfl,-⟩:=hup w1 (zER _ _);obtain ⟨nv,hnv⟩:∃k,rs.length=k:=⟨_,rfl⟩;rw[hnv]at hup|-;have hB1:=(hf1.block w.heap.size hz1 (λe=>by injection e with e;omega)).trans H0.out.2
  obtain ⟨z0,z1,z2,z3,z4⟩:=zAB hB1;have fy:∀j,w1.frozen? ⟨w.heap.size,j,none⟩=false:=λj=>by simp[World.frozen?,hB1]
  have fy0:=fy 0;have fy1:=fy 1;have fy2:=fy 2;have fy3:=fy 3;have fy4:=fy 4;have lB:w.heap.size<w1.heap.size:=by have:=hf1.size;omega
  have HP:=Lib.hid (And.intro hrs (And.intro hup (And.intro ht1 (And.intro hf1 hnv))));clear hrs hup ht1 hf1 hnv fy hB1;go_wp2_with fail;refine zAD λWf hWf=>?_;obtain ⟨u1,u2,u3,-⟩:=zHg hWf;refine bodyPost_ret (v:=.agg #[.int .i64 1, .slice Av nv cv, .slice none 0 0, .int .i64 0, .int .i64 0]) (by rw[hWf];simp[results,Tryz.results7,go_sem,z0,z1,z2,z3,z4,lB];try rfl) rfl ?_
  have hkl:KeepF [w.heap.size] [] w1 Wf:=⟨u3.1,u3.2.1,u3.2.2,by omega,λk _ hn=>u1 k (λe=>hn (by simp[e])),λk hk=>by cases hk⟩
  have hbf:Below w.heap.size w1 Wf:=hkl.below (λk hk=>by rw[List.mem_singleton]at hk;omega) (by omega)
  have hf:=HP.out.2.2.2.1;have h0:=H0.out.1;have hup2:RgUp (w.heap.size+1) w1 (.slice Av nv cv) rs:=λW hk=>HP.out.2.1 W ⟨hk.os,hk.tape,hk.output,hk.size,λk h1 hn=>hk.blk k h1 (λhm=>hn (by simp at hm|-;omega)),λk hk=>by cases hk⟩
  exact ⟨_,⟨1,Av,nv,cv,none,0,0,0,0⟩,rfl,PtK.set HP.out.1 0,((NdUp.set hup2).keep hkl (λk hk=>by rw[List.mem_singleton]at hk;omega)).mono (by omega),HP.out.2.2.1.below' hbf hbl,⟨hbf.os.trans (hf.os.trans h0.os),hbf.tape.trans (hf.tape.trans h0.tape),hbf.output.trans (hf.output.trans h0.output),by have:=h0.size;have:=hf.size;have:=hbf.size;omega,λk hk hne=>(hbf.block k hk).trans ((hf.block k (Nat.lt_of_lt_of_le hk h0.size) hne).trans (h0.block k hk))⟩⟩
 | succ d ih=>
  intro q w hd hq ht;have hbl:=ht.lt;have HT:=Lib.hid ht;have HIH:=Lib.hid ih;have HQ:=Lib.hid hq;have hd1:decide (q<=1)=false:=decide_eq_false (by omega)
  have hq1:0<=q:=by omega
  have hq2:q<=100:=by omega
  clear ht hq ih
  go_enter Tryz.func7,Tryz.ntmps7
  go_wp2_with fail;refine zBG λW0 hW0=>?_;have hb0:Below w.heap.size w W0:=by rw[hW0];exact ((Below.refl _ _).alloc (Nat.le_refl _) _).alloc (by simp) _
  have hY:W0.heap[w.heap.size]?=some (.cells #[.int .i64 0, .slice none 0 0, .slice none 0 0, .int .i64 0, .int .i64 0] 29 (0,0)):=by rw[hW0,zAI _ _ _ (by simp)];exact heap_alloc_new w _
  have hX:W0.heap[w.heap.size+1]?=some (.cells #[.int .i64 0, .slice none 0 0, .slice none 0 0, .int .i64 0, .int .i64 0] 29 (0,0)):=by rw[hW0];simpa using heap_alloc_new (w.alloc _) (.cells #[.int .i64 0, .slice none 0 0, .slice none 0 0, .int .i64 0, .int .i64 0] 29)
  have hz0:W0.heap.size=w.heap.size+2:=by rw[hW0];simp
  have hN:=zAh b 5 W0 (by decide) (by decide) (HT.out.below hb0)
  have HN:=Lib.hid hN;have H0:=Lib.hid (And.intro hb0 (And.intro hY hX));have hz1:w.heap.size+2<=W0.heap.size:=by omega
  clear hW0 hb0 hY hX hN hz0;refine HN.out.mono ?_;rintro e w1 ⟨r,rfl,hr1,hr2,ht1,hf1⟩;obtain ⟨c,rfl⟩:∃c:Nat,r=(c:Int):=⟨r.toNat,by omega⟩
  have hB1:=(hf1.block w.heap.size (by omega) (λe=>by injection e with e;omega)).trans H0.out.2.1
  have hX1:=(hf1.block (w.heap.size+1) (by omega) (λe=>by injection e with e;omega)).trans H0.out.2.2
  have hfw:Fr b w w1:=(Fr.of_below H0.out.1).trans hf1;have HW1:=Lib.hid (And.intro ht1 (And.intro hfw (And.intro hB1 hX1)));have hzw1:w.heap.size+2<=w1.heap.size:=by have:=hf1.size;omega
  have hpb:PmB b w #[.int .i64 0, .slice none 0 0, .slice none 0 0, .int .i64 0, .int .i64 0] w1:=⟨ht1,hfw,hB1,hX1,hbl⟩;have HPB:=Lib.hid hpb;clear ht1 hf1 hB1 hX1 hfw hpb HW1;obtain ⟨z0,hz0⟩:∃z,((c:Int) == 0)=z:=⟨_,rfl⟩;obtain ⟨z1,hz1⟩:∃z,((c:Int) == 1)=z:=⟨_,rfl⟩;obtain ⟨z2,hz2⟩:∃z,((c:Int) == 2)=z:=⟨_,rfl⟩;obtain ⟨z3,hz3⟩:∃z,((c:Int) == 3)=z:=⟨_,rfl⟩
  go_upto_block 0 with (fail)
  go_cut [] from 15 to 51 (λwx=>∃op:Int,(op=2\/op=3)/\Hid (PmB b w #[.int .i64 op, .slice none 0 0, .slice none 0 0, .int .i64 0, .int .i64 0] wx))
  case first=>
   obtain ⟨x0,x1,x2,x3,x4⟩:=zAB HPB.out.x;obtain ⟨y0,y1,y2,y3,y4⟩:=zAB HPB.out.y;have fx0:=zAo HPB.out.x 0;have lX:=HPB.out.lt
   cases z0 with
   | true=>
    go_wp2_with fail
    go_meet
    case rel=>exact ⟨2, .inl rfl,HPB.out.set 0 (.int .i64 2)⟩
   | false=>
   cases z1 with
   | true=>
    go_wp2_with fail
    go_meet
    case rel=>exact ⟨2, .inl rfl,HPB.out.set 0 (.int .i64 2)⟩
   | false=>
   cases z2 with
   | true=>
    go_wp2_with fail
    go_meet
    case rel=>exact ⟨3, .inr rfl,HPB.out.set 0 (.int .i64 3)⟩
   | false=>
   cases z3 with
   | true=>
    clear y0 y1 y2 y3 y4;go_wp2_with fail;refine zBG λW2 hW2=>?_;have hp2:=HPB.out.set 0 (.int .i64 4);rw[<-hW2]at hp2;have HP2:=Lib.hid hp2;have HBT:=Lib.hid (zC0 b 1 4 W2 (by decide) (by decide) (by decide) hp2.tp)
    clear hW2 hp2 fx0 lX x0 x1 x2 x3 x4;refine HBT.out.mono ?_;rintro e w3 ⟨r1,rfl,hr3,hr4,ht3,hf3⟩;have hp3:=HP2.out.frs hf3 ht3;have HP3:=Lib.hid hp3;obtain ⟨x0,x1,x2,x3,x4⟩:=zAB hp3.x;have fx4:=zAo hp3.x 4;have lX:=hp3.lt;clear hp3 ht3 hf3;go_wp2_with fail;refine zBG λW4 hW4=>?_;have hp4:=HP3.out.set 4 (.int .i64 r1);rw[<-hW4]at hp4;have HP4:=Lib.hid hp4;have HNX:=Lib.hid (zAh b (r1+1) W4 (by omega) (by omega) hp4.tp)
    clear hW4 hp4 fx4 lX x0 x1 x2 x3 x4;refine HNX.out.mono ?_;rintro e w5 ⟨r2,rfl,hr5,hr6,ht5,hf5⟩;have hp5:=HP4.out.frs hf5 ht5;have HP5:=Lib.hid hp5;obtain ⟨x0,x1,x2,x3,x4⟩:=zAB hp5.x;have fx3:=zAo hp5.x 3;have lX:=hp5.lt;clear hp5 ht5 hf5;have HR12:=Lib.hid (And.intro hr3 (And.intro hr4 (And.intro hr5 hr6)));obtain ⟨e1,he1⟩:∃z,(r2 == 1)=z:=⟨_,rfl⟩;obtain ⟨e2,he2⟩:∃z,(r1 == 1)=z:=⟨_,rfl⟩;have HEE:=Lib.hid (And.intro he1 he2)
    go_upto_region 15 with (fail)
    go_cut [43] from 36 to 43 (λv wx=>v = .bool (e1 && e2)/\Hid (PmB b w #[.int .i64 4, .slice none 0 0, .slice none 0 0, .int .i64 r2, .int .i64 r1] wx))
    case first=>
     have hp6:=HP5.out.set 3 (.int .i64 r2);obtain ⟨W6,hW6⟩:∃W,W=w5.setCell ⟨w.heap.size+1,3,none⟩ (.int .i64 r2):=⟨_,rfl⟩;rw[<-hW6]at hp6|-;have HP6:=Lib.hid hp6;obtain ⟨v0,v1,v2,v3,v4⟩:=zAB hp6.x;have lX6:=hp6.lt;clear hp6 hW6 x0 x1 x2 x3 x4 fx3 lX
     cases e1 with
     | true=>
      go_wp2_with fail
      go_meet
      case rel=>exact ⟨rfl,HP6.out⟩
     | false=>
      go_wp2_with fail
      go_meet
      case rel=>exact ⟨rfl,HP6.out⟩
    case rest=>
    obtain ⟨rfl,HP6⟩:=hcut;clear x0 x1 x2 x3 x4 fx3 lX he1 he2;obtain ⟨v0,v1,v2,v3,v4⟩:=zAB HP6.out.x;have gx4:=zAo HP6.out.x 4;have lX6:=HP6.out.lt;obtain ⟨ee,hee⟩:∃z,(e1 && e2)=z:=⟨_,rfl⟩;rw[hee];have HEZ:=Lib.hid hee;clear hee
    apply_assumption
    go_cut [] from 44 to 44 (λwx=>∃mx:Int,1<=mx/\mx<=4/\r2<=mx/\¬(r2=1/\mx=1)/\Hid (PmB b w #[.int .i64 4, .slice none 0 0, .slice none 0 0, .int .i64 r2, .int .i64 mx] wx))
    case first=>
     cases ee with
     | true=>
      go_wp2_with fail
      go_meet
      case rel=>
       have h1:=HEZ.out;rw[Bool.and_eq_true]at h1;have h2:=HEE.out.1;rw[h1.1]at h2;have h3:=of_decide_eq_true h2;exact ⟨2,by decide,by decide,by omega,by omega,HP6.out.set 4 (.int .i64 2)⟩
     | false=>
      go_wp2_with fail
      go_meet
      case rel=>
       refine ⟨r1,HR12.out.1,HR12.out.2.1,by have:=HR12.out.2.2.2;omega,λh=>?_,HP6.out⟩
       have h1:=HEZ.out;rw[<-HEE.out.1,<-HEE.out.2,h.1,h.2]at h1
       cases h1
    case rest=>
     obtain ⟨mx,hmx1,hmx2,hmx3,hmx4,HP7⟩:=hcut;have HMX:=Lib.hid (And.intro hmx1 (And.intro hmx2 (And.intro hmx3 (And.intro hmx4 hr5))));have hqm:IntKind.i64.wrap (q - 1)=q - 1:=IntWalk.i64_in _ (by omega)
     have HPT:=Lib.hid (HIH.out (q - 1) wc (by omega) (by have:=HQ.out;omega) HP7.out.tp)
     clear hmx1 hmx2 hmx3 hmx4 v0 v1 v2 v3 v4 gx4 lX6 hr3 hr4 hr5 hr6 hqm
     apply_assumption
     go_wp2_with fail;refine HPT.out.mono ?_;rintro e w8 ⟨nd,u,rfl,hpk,hup,ht8,hf8⟩;have hp8:=HP7.out.frs hf8 ht8;have HP8:=Lib.hid hp8;have HU8:=Lib.hid (And.intro hpk hup);obtain ⟨u0,u1,u2,u3,u4,u5,u6,u7,u8⟩:=u;simp only;obtain ⟨x0,x1,x2,x3,x4⟩:=zAB hp8.x;obtain ⟨y0,y1,y2,y3,y4⟩:=zAB hp8.y;have fx2:=zAo hp8.x 2;have fy0:=zAo hp8.y 0;have fy1:=zAo hp8.y 1;have fy2:=zAo hp8.y 2;have fy3:=zAo hp8.y 3;have fy4:=zAo hp8.y 4;have lX:=hp8.lt;have lX2:w.heap.size+1<w8.heap.size+1:=by omega
     have lY:w.heap.size<w8.heap.size:=by omega
     have lY2:w.heap.size<w8.heap.size+1:=by omega
     clear hp8 hpk hup ht8 hf8;go_wp2_with fail;refine zAD λWf hWf=>?_;obtain ⟨Wx,hWx⟩:∃W,W=w8.setCell ⟨w.heap.size+1,2,none⟩ (.slice (some ⟨w8.heap.size,0,none⟩) 1 1):=⟨_,rfl⟩;rw[<-hWx]at hWf;obtain ⟨W5,hW5⟩:∃W,W=((((Wx.setCell ⟨w.heap.size,0,none⟩ (.int .i64 4)).setCell ⟨w.heap.size,1,none⟩ (.slice none 0 0)).setCell ⟨w.heap.size,2,none⟩ (.slice (some ⟨w8.heap.size,0,none⟩) 1 1)).setCell ⟨w.heap.size,3,none⟩ (.int .i64 r2)).setCell ⟨w.heap.size,4,none⟩ (.int .i64 mx):=⟨_,rfl⟩;rw[<-hW5]at hWf;obtain ⟨s1,s2,s3,s4⟩:=zHg hW5;have hsx:∀k,k≠w.heap.size+1->Wx.heap[k]?=w8.heap[k]?:=λk hk=>by rw[hWx];exact Below.heap_setCell _ _ _ _ hk
     have hzx:Wx.heap.size=w8.heap.size:=by rw[hWx];simp[World.setCell]
     have hox:Wx.os=w8.os/\Wx.tape=w8.tape/\Wx.output=w8.output:=by rw[hWx];exact ⟨rfl,rfl,rfl⟩
     have hbf5:Below W5.heap.size W5 Wf:=by rw[hWf];exact (Below.refl _ _).alloc (Nat.le_refl _) _
     have hYf:=(hbf5.block w.heap.size (by omega)).trans (s4 ((hsx w.heap.size (by omega)).trans HP8.out.y))
     have hgf:Wf.heap[w8.heap.size]?=some (.cells #[.int .i64 u0, .slice u1 u2 u3, .slice u4 u5 u6, .int .i64 u7, .int .i64 u8] 29 (0,0)):=by
      rw[hWf];have:=heap_alloc_new W5 (.cells #[.int .i64 u0, .slice u1 u2 u3, .slice u4 u5 u6, .int .i64 u7, .int .i64 u8] 29);rwa [s2,hzx]at this
     obtain ⟨q0,q1,q2,q3,q4⟩:=zAB hYf;have l9:w.heap.size<Wf.heap.size:=(Array.getElem?_eq_some_iff.1 hYf).1;refine bodyPost_ret (v:=.agg #[.int .i64 4, .slice none 0 0, .slice (some ⟨w8.heap.size,0,none⟩) 1 1, .int .i64 r2, .int .i64 mx]) (by simp[results,Tryz.results7,go_sem,q0,q1,q2,q3,q4,l9];try rfl) rfl ?_
     have hkl:KeepF [w.heap.size+1,w.heap.size] [] w8 Wf:=⟨hbf5.os.trans (s3.1.trans hox.1),hbf5.tape.trans (s3.2.1.trans hox.2.1),hbf5.output.trans (s3.2.2.trans hox.2.2),by have:=hbf5.size;omega,λk hk hn=>(hbf5.block k (by omega)).trans ((s1 k (λe=>hn (by simp[e]))).trans (hsx k (λe=>hn (by simp[e])))),λk hk=>by cases hk⟩
     have hbl8:Below w.heap.size w8 Wf:=hkl.below (λk hk=>by simp at hk;omega) (by omega)
     have hlc:=HP7.out.lt;have hupf:NdUp w.heap.size Wf (N5.cs ⟨u0,u1,u2,u3,u4,u5,u6,u7,u8⟩) nd:=(HU8.out.2.keep hkl (λk hk=>by simp at hk;omega)).mono (by omega)
     have hown:OR 29 5 N5.cs w.heap.size (.slice (some ⟨w8.heap.size,0,none⟩) 1 1) [⟨u0,u1,u2,u3,u4,u5,u6,u7,u8⟩] Wf:=⟨rfl, .inr ⟨w8.heap.size,1,_,rfl,by omega,hgf,Nat.le_refl _,by decide,rfl,rfl⟩⟩
     refine ⟨.mk 4 [] [nd] r2 mx,⟨4,none,0,0,some ⟨w8.heap.size,0,none⟩,1,1,r2,mx⟩,rfl, .inr (.inr ⟨nd,r2,mx,rfl,HMX.out.2.2.2.2,HMX.out.2.2.1,HMX.out.1,HMX.out.2.1,HMX.out.2.2.2.1,HU8.out.1⟩),NdUp.kids hown rfl (λi h1 h2=>?_) 4 r2 mx,HP8.out.tp.below' hbl8 hbl,HP8.out.fr.then hbl8⟩
     match i,h1 with
     | 0,_=>exact hupf
   | false=>
    clear fx0;go_wp2_with fail;have HS:=Lib.hid (zDY b w1 HPB.out.tp);refine HS.out.mono ?_;rintro e w3 ⟨rs,v,hrs,rfl,hup,ht3,hf3⟩;have hp3:=HPB.out.frs hf3 ht3;have HP3:=Lib.hid hp3;obtain ⟨Av,cv,rfl,-⟩:=hup w3 (zER _ _);obtain ⟨nv,hnv⟩:∃k,rs.length=k:=⟨_,rfl⟩;rw[hnv]at hup|-;have HU:=Lib.hid (And.intro hrs (And.intro hup hnv));clear x0 x1 x2 x3 x4 y0 y1 y2 y3 y4 lX hrs hup hnv ht3 hf3;obtain ⟨z0',z1',z2',z3',z4'⟩:=zAB hp3.y;have fy0:=zAo hp3.y 0;have fy1:=zAo hp3.y 1;have fy2:=zAo hp3.y 2;have fy3:=zAo hp3.y 3;have fy4:=zAo hp3.y 4;have lY:w.heap.size<w3.heap.size:=by have:=hp3.lt;omega
    clear hp3;go_wp2_with fail;refine zAD λWf hWf=>?_;obtain ⟨s1,s2,s3,-⟩:=zHg hWf;refine bodyPost_ret (v:=.agg #[.int .i64 1, .slice Av nv cv, .slice none 0 0, .int .i64 0, .int .i64 0]) (by rw[hWf];simp[results,Tryz.results7,go_sem,z0',z1',z2',z3',z4',lY];try rfl) rfl ?_
    have hkl:KeepF [w.heap.size] [] w3 Wf:=⟨s3.1,s3.2.1,s3.2.2,by omega,λk _ hn=>s1 k (λe=>hn (by simp[e])),λk hk=>by cases hk⟩
    have hbf:Below w.heap.size w3 Wf:=hkl.below (λk hk=>by rw[List.mem_singleton]at hk;omega) (by omega)
    have hz1':=HPB.out.lt;exact ⟨_,⟨1,Av,nv,cv,none,0,0,0,0⟩,rfl,PtK.set HU.out.1 (d+1),((NdUp.set HU.out.2.1).keep hkl (λk hk=>by rw[List.mem_singleton]at hk;omega)).mono (by omega),HP3.out.tp.below' hbf hbl,HP3.out.fr.then hbf⟩
  case rest=>
   obtain ⟨op,hop,HP⟩:=hcut;have HOP:=Lib.hid hop;have HB2:=Lib.hid (zC0 b 2 3 wc (by decide) (by decide) (by decide) HP.out.tp)
   have hopz:(2:Int)<=op/\op<=3:=by omega
   clear hop hz0 hz1 hz2 hz3 hr1 hr2
   apply_assumption
   go_wp2_with fail;refine HB2.out.mono ?_;rintro e w3 ⟨n0,rfl,hn2,hn3,ht3,hf3⟩;obtain ⟨n,rfl⟩:∃n:Nat,n0=(n:Int):=⟨n0.toNat,by omega⟩
   have hp3:=HP.out.frs hf3 ht3;have HP3:=Lib.hid hp3;have hz3':=hp3.lt;have HZ3:=Lib.hid hz3';clear hp3 ht3 hf3 hz3';go_wp2_with fail
   go_loopw [6] (λkv wr=>∃(k:Nat) (A:Option Addr) (m c:Nat) (us:List N5) (kids:List Nd),k<=n/\kv = .int .i64 (k:Int)/\Hid (m=n-k)/\Hid (PmB b w #[.int .i64 op, .slice none 0 0, .slice A m c, .int .i64 0, .int .i64 0] wr)/\Hid (OR 29 5 N5.cs (w.heap.size+2) (.slice A m c) us wr)/\Hid (us.length=m/\kids.length=m/\(∀i (h1:i<us.length) (h2:i<kids.length),NdUL (List.range (w.heap.size+2)++blk (.slice A m c)) wr us[i].cs kids[i])/\∀k∈kids,PtK d k/\k.op≠op)) (λkv _=>(intOf kv).toNat)
   case atStart=>exact ⟨n,none,0,0,[],[],Nat.le_refl _,rfl,by show 0=n-n;omega,HP3.out,OR.nil_ _ _ _,rfl,rfl,λi h1=>absurd h1 (Nat.not_lt_zero _),λk hk=>by cases hk⟩
   case round=>
    obtain ⟨k,A,m,cA,us,kids,hk,rfl,HM,HPr,HO,HK⟩:=hrel;by_cases hk0:0<k
    .have hd2:decide (0<(k:Int))=true:=decide_eq_true (by omega)
     have hd3:decide (0<k)=true:=decide_eq_true hk0;have hqm:IntKind.i64.wrap (q - 1)=q - 1:=IntWalk.i64_in _ (by omega)
     have HPT:=Lib.hid (HIH.out (q - 1) wr (by omega) (by have:=HQ.out;omega) HPr.out.tp)
     clear hqm;go_wp2_with fail;refine HPT.out.mono ?_;rintro e w8 ⟨nd,u,rfl,hpk,hup,ht8,hf8⟩;have hp8:=HPr.out.frs hf8 ht8;have hlr:=HPr.out.lt;obtain ⟨u0,u1,u2,u3,u4,u5,u6,u7,u8⟩:=u;simp only;have huop:u0=nd.op:=by
      obtain ⟨A1,c1,A2,c2,e1,-⟩:=hup.in_.form;injection e1 with e1 _;injection e1
     have hW9:Below w8.heap.size w8 (w8.alloc (.cells #[.int .i64 u0, .slice u1 u2 u3, .slice u4 u5 u6, .int .i64 u7, .int .i64 u8] 29)):=(Below.refl _ _).alloc (Nat.le_refl _) _;have hp9:=hp8.later hW9;have hx9:=heap_alloc_new w8 (.cells #[.int .i64 u0, .slice u1 u2 u3, .slice u4 u5 u6, .int .i64 u7, .int .i64 u8] 29);have hkf8:KeepF [b] [] wr (w8.alloc (.cells #[.int .i64 u0, .slice u1 u2 u3, .slice u4 u5 u6, .int .i64 u7, .int .i64 u8] 29)):=(zMt (L:=[]) hf8).tr (zIB hW9);have hrow:∀k∈blk (.slice A m cA),w.heap.size+2<=k/\k<wr.heap.size:=λk hk=>World.ownsRow.lt HO.out k (zAL.1 hk);have hup9:NdUL (List.range (w.heap.size+2)++blk (.slice A m cA)) (w8.alloc (.cells #[.int .i64 u0, .slice u1 u2 u3, .slice u4 u5 u6, .int .i64 u7, .int .i64 u8] 29)) (N5.cs ⟨u0,u1,u2,u3,u4,u5,u6,u7,u8⟩) nd:=NdUL.next (L:=List.range wr.heap.size) hup (zIB hW9) (λk hk=>by
      rcases List.mem_append.1 hk with hk | hk
      .have:=List.mem_range.1 hk;exact .inl (List.mem_range.2 (by omega))
      .exact .inl (List.mem_range.2 (hrow k hk).2))
     have HROW:=Lib.hid hrow;have HU9:=Lib.hid (And.intro hp9 (And.intro hx9 (And.intro hkf8 (And.intro hup9 (And.intro hpk huop)))));have hz8:=hp8.lt;have hzr8:=hf8.size;obtain ⟨x0,x1,x2,x3,x4⟩:=zAB hp8.x;have lX9:w.heap.size+1<w8.heap.size+1:=by omega
     clear hpk hup ht8 hf8 hp8 huop hW9 hp9 hx9 hkf8 hup9 hrow;obtain ⟨zq,hzq⟩:∃z,(u0 == op)=z:=⟨_,rfl⟩;have HZQ:=Lib.hid hzq
     go_upto_if 66 with (fail)
     go_cut [] from 67 to 68 (λwx=>∃(v:N5) (nd2:Nd),Hid (PmB b w #[.int .i64 op, .slice none 0 0, .slice A m cA, .int .i64 0, .int .i64 0] wx)/\Hid (wx.heap[w8.heap.size]?=some (.cells #[.int .i64 v.op, .slice v.a1 v.n1 v.c1, .slice v.a2 v.n2 v.c2, .int .i64 v.mn, .int .i64 v.mx] 29 (0,0)))/\Hid (KeepF [b] [] wr wx)/\Hid (NdUL (List.range (w.heap.size+2)++blk (.slice A m cA)) wx v.cs nd2/\PtK d nd2/\nd2.op≠op))
     case first=>
      cases zq with
      | true=>
       have HS:=Lib.hid (zDY b _ HU9.out.1.tp);clear hzq;go_wp2_with fail;refine HS.out.mono ?_;rintro e wA ⟨rs,v,hrs,rfl,hup,htA,hfA⟩;obtain ⟨Av,cv,rfl,-⟩:=hup wA (zER _ _);obtain ⟨nv,hnv⟩:∃k,rs.length=k:=⟨_,rfl⟩;rw[hnv]at hup|-;have hpA:=HU9.out.1.frs hfA htA;have hbl9:b<w8.heap.size:=by omega
       have hxA:=(hfA.block w8.heap.size (by simp) (λe=>by injection e with e;omega)).trans HU9.out.2.1
       obtain ⟨z0',z1',z2',z3',z4'⟩:=zAB hxA;have fy0:=zAo hxA 0;have fy1:=zAo hxA 1;have fy2:=zAo hxA 2;have fy3:=zAo hxA 3;have fy4:=zAo hxA 4;have lY:w8.heap.size<wA.heap.size:=(Array.getElem?_eq_some_iff.1 hxA).1;have HA:=Lib.hid (And.intro hpA (And.intro hxA (And.intro hfA (And.intro hup hrs))));clear hpA hxA hfA hup hrs htA hnv x0 x1 x2 x3 x4;go_wp2_with fail
       go_meet
       case rel=>
        obtain ⟨Wf,hWf⟩:∃W,W=((((wA.setCell ⟨w8.heap.size,0,none⟩ (.int .i64 1)).setCell ⟨w8.heap.size,1,none⟩ (.slice Av nv cv)).setCell ⟨w8.heap.size,2,none⟩ (.slice none 0 0)).setCell ⟨w8.heap.size,3,none⟩ (.int .i64 0)).setCell ⟨w8.heap.size,4,none⟩ (.int .i64 0):=⟨_,rfl⟩;obtain ⟨s1,s2,s3,s4⟩:=zHg hWf;rw[<-hWf];have hkX:KeepF [w8.heap.size] [] wA Wf:=⟨s3.1,s3.2.1,s3.2.2,by omega,λk _ hn=>s1 k (λe=>hn (by simp[e])),λk hk=>by cases hk⟩
        have hg:wA.grownBy Wf (some w8.heap.size):=⟨s3.1,s3.2.1,s3.2.2,by omega,λk _ hn=>s1 k (λe=>hn (by rw[e]))⟩
        have hkA:=(HU9.out.2.2.1.tr (zMt (L:=[]) HA.out.2.2.1));have hup2:=NdUp.set HA.out.2.2.2.1;have hsz:w8.heap.size<(w8.alloc (.cells #[.int .i64 u0, .slice u1 u2 u3, .slice u4 u5 u6, .int .i64 u7, .int .i64 u8] 29)).heap.size:=by simp
        refine ⟨⟨1,Av,nv,cv,none,0,0,0,0⟩, .mk 1 rs [] 0 0,HA.out.1.grown hg (λg e=>by injection e with e;omega),s4 HA.out.2.1,⟨hkX.os.trans hkA.os,hkX.tape.trans hkA.tape,hkX.output.trans hkA.output,Nat.le_trans hkA.size hkX.size,λk h1 hn=>(hkX.blk k (Nat.lt_of_lt_of_le h1 hkA.size) (λhm=>by rw[List.mem_singleton]at hm;omega)).trans (hkA.blk k h1 hn),λk hk=>by cases hk⟩,?_,PtK.set HA.out.2.2.2.2 d,?_⟩
        .refine NdUL.next (L:=List.range (w8.alloc (.cells #[.int .i64 u0, .slice u1 u2 u3, .slice u4 u5 u6, .int .i64 u7, .int .i64 u8] 29)).heap.size) hup2 (zI1 hkX λk hk=>List.mem_range.2 (by rw[List.mem_singleton]at hk;omega)) (λk hk=>.inl (List.mem_range.2 ?_))
         rcases List.mem_append.1 hk with hk | hk
         .have:=List.mem_range.1 hk;omega
         .have:=(HROW.out k hk).2;omega
        .show (1:Int)≠op;omega
      | false=>
       have HO9:=Lib.hid (show ¬u0=op from λe=>by have:=HZQ.out;rw[e]at this;simp at this)
       clear hzq;go_wp2_with fail
       go_meet
       case rel=>exact ⟨⟨u0,u1,u2,u3,u4,u5,u6,u7,u8⟩,nd,HU9.out.1,HU9.out.2.1,HU9.out.2.2.1,HU9.out.2.2.2.1,HU9.out.2.2.2.2.1,λe=>HO9.out (HU9.out.2.2.2.2.2.trans e)⟩
     case rest=>
      obtain ⟨v,nd2,HPc,HXc,HKc,HVc⟩:=hcut;obtain ⟨u0',u1',u2',u3',u4',u5',u6',u7',u8'⟩:=v;simp only at HXc;clear x0 x1 x2 x3 x4 hzq;obtain ⟨x0,x1,x2,x3,x4⟩:=zAB HPc.out.x;obtain ⟨y0,y1,y2,y3,y4⟩:=zAB HXc.out;have lXc:=HPc.out.lt;have lXc2:w.heap.size+1<wc.heap.size+1:=by omega
      have lYc:w8.heap.size<wc.heap.size:=(Array.getElem?_eq_some_iff.1 HXc.out).1;have hoc:OR 29 5 N5.cs (w.heap.size+2) (.slice A m cA) us wc:=HO.out.keep λg hg=>HKc.out.blk g (World.ownsRow.lt HO.out g hg).2 (λhm=>by rw[List.mem_singleton]at hm;have:=(World.ownsRow.lt HO.out g hg).1;omega)
      have hul:us.length=m:=HK.out.1;have hownA:(wc.alloc (.cells #[.int .i64 u0', .slice u1' u2' u3', .slice u4' u5' u6', .int .i64 u7', .int .i64 u8'] 29)).ownsRow (w.heap.size+2) 29 5 (.slice A m cA) us.length (rowF N5.cs us):=World.ownsRow.alloc hoc _;rw[hul]at hownA;have hcx:∀j u,([.int .i64 u0', .slice u1' u2' u3', .slice u4' u5' u6', .int .i64 u7', .int .i64 u8']:List Value)[j]?=some u->(wc.alloc (.cells #[.int .i64 u0', .slice u1' u2' u3', .slice u4' u5' u6', .int .i64 u7', .int .i64 u8'] 29)).cell? ((⟨wc.heap.size,0,none⟩:Addr).add j)=some u:=by
       intro j u hj;rw[Addr.add_lit,Nat.zero_add,World.cell?_alloc_mark];simpa using hj
      obtain ⟨i5,hi5,hk0',hk1',hk2'⟩:=info_parts zLc;have hbz:w.heap.size+2<=(wc.alloc (.cells #[.int .i64 u0', .slice u1' u2' u3', .slice u4' u5' u6', .int .i64 u7', .int .i64 u8'] 29)).heap.size:=by simp;omega
      have HUL:=Lib.hid hul;have hm3:m<=3:=by have:=HM.out;omega
      clear hoc hul
      apply_assumption
      go_wp2_with (at_builtin; refine zAt rfl _ _ 27 rfl (w.heap.size+2) 29 i5 _ 5 72 Tryz.underlying27 hi5 hk0' hk1' hk2' rfl (by decide) _ m (rowF N5.cs us) rfl hownA ⟨wc.heap.size,0,none⟩ 1 1 [.int .i64 u0', .slice u1' u2' u3', .slice u4' u5' u6', .int .i64 u7', .int .i64 u8'] rfl rfl hcx (by intro u hu; simp at hu; rcases hu with rfl | rfl | rfl | rfl | rfl <;> rfl) (by unfold maxLen; omega) (by omega) hbz ?_)
      intro v' wD hownD hgD hfD;obtain ⟨A',c',rfl,-,-⟩:=zAC hownD;have hbA:Below wc.heap.size wc (wc.alloc (.cells #[.int .i64 u0', .slice u1' u2' u3', .slice u4' u5' u6', .int .i64 u7', .int .i64 u8'] 29)):=(Below.refl _ _).alloc (Nat.le_refl _) _;have hpD:=(HPc.out.later hbA).grown hgD (λg e=>(hownA.lt g e).1);have HPD:=Lib.hid hpD;have HDD:=Lib.hid (And.intro hownD (And.intro hgD (And.intro hfD (And.intro hownA hbA))));clear x0 x1 x2 x3 x4 y0 y1 y2 y3 y4 hownA hcx hbA hownD hgD hfD;obtain ⟨x0,x1,x2,x3,x4⟩:=zAB hpD.x;have fx2:=zAo hpD.x 2;have lXD:=hpD.lt;clear hpD;go_wp2_with fail;go_roundw
      case rel=>
       have hset:∀g,g≠w.heap.size+1->(wD.setCell ⟨w.heap.size+1,2,none⟩ (.slice A' (m+1) c')).heap[g]?=wD.heap[g]?:=λg hg=>Below.heap_setCell _ _ _ _ hg;have hD:=HDD.out;have hkD:KeepF (List.range (w.heap.size+2)++blk (.slice A m cA)) [] wc (wD.setCell ⟨w.heap.size+1,2,none⟩ (.slice A' (m+1) c')):=⟨hD.2.1.os.trans hD.2.2.2.2.os,hD.2.1.tape.trans hD.2.2.2.2.tape,hD.2.1.output.trans hD.2.2.2.2.output,by have:=hD.2.1.size;have:=hD.2.2.2.2.size;simp[World.setCell];omega,λk h1 hn=>(hset k (λe=>hn (List.mem_append_left _ (List.mem_range.2 (by omega))))).trans ((hD.2.1.block k (Nat.lt_of_lt_of_le h1 hD.2.2.2.2.size) (λe=>hn (List.mem_append_right _ (zAL.2 e.symm)))).trans (hD.2.2.2.2.block k h1)),λk hk=>by cases hk⟩
       have hnew:∀k∈List.range (w.heap.size+2)++blk (.slice A' (m+1) c'),k∈List.range (w.heap.size+2)++blk (.slice A m cA)\/wc.heap.size<=k:=λk hk=>by
        rcases List.mem_append.1 hk with hk | hk
        .exact .inl (List.mem_append_left _ hk)
        .rcases hD.2.2.1 with e | ⟨g,e,hg⟩
         .exact .inl (List.mem_append_right _ (zAL.2 (by rw[<-e];exact zAL.1 hk)))
         .have h1:=zAL.1 hk;rw[e]at h1;injection h1 with h1;subst h1;exact .inr (by first | omega | (simp at hg;omega))
       have hcr:=HKc.out.size;refine ⟨k - 1,A',m+1,c',us++[⟨u0',u1',u2',u3',u4',u5',u6',u7',u8'⟩],kids++[nd2],by omega,?_,by have:=HM.out;show m+1=n - (k - 1);omega,HPD.out.set 2 (.slice A' (m+1) c'),?_,by rw[List.length_append,HUL.out];rfl,by rw[List.length_append,HK.out.2.1];rfl,λi h1 h2=>?_,λk' hk'=>?_⟩
       .show Value.int .i64 ((k:Int) - 1)=_
        congr 1;omega
       .show World.ownsRow _ _ _ _ _ (us++[_]).length (rowF N5.cs (us++[_]));rw[List.length_append,HUL.out,zAl,zAe];exact zAN hD.1 λg hg=>hset g (by have:=(hD.1.lt g hg).1;omega)
       .by_cases hi:i<us.length
        .rw[List.getElem_append_left hi,List.getElem_append_left (by have:=HK.out.2.1;have:=HUL.out;omega)]
         have h0:=HK.out.2.2.1 i hi (by have:=HK.out.2.1;have:=HUL.out;omega)
         have h3:=h0.next (zI1 HKc.out (λk hk=>List.mem_append_left _ (List.mem_range.2 (by rw[List.mem_singleton]at hk;omega)))) (L':=List.range (w.heap.size+2)++blk (.slice A m cA)) (λk hk=>.inl hk)
         exact h3.next hkD hnew
        .have hie:i=us.length:=by rw[List.length_append]at h1;simp at h1;omega
         subst hie;rw[List.getElem_append_right (Nat.le_refl _),List.getElem_append_right (by have:=HK.out.2.1;have:=HUL.out;omega)]
         have e2:us.length-kids.length=0:=by have:=HK.out.2.1;have:=HUL.out;omega
         simp only[Nat.sub_self,e2,List.getElem_cons_zero];exact HVc.out.1.next hkD hnew
       .rcases List.mem_append.1 hk' with hk' | hk'
        .exact HK.out.2.2.2 k' hk'
        .rw[List.mem_singleton]at hk';subst hk';exact ⟨HVc.out.2.1,HVc.out.2.2⟩
      case measure=>simp[intOf];omega
    .obtain rfl:k=0:=by omega
     obtain ⟨x0,x1,x2,x3,x4⟩:=zAB HPr.out.x;obtain ⟨y0,y1,y2,y3,y4⟩:=zAB HPr.out.y;have fy0:=zAo HPr.out.y 0;have fy1:=zAo HPr.out.y 1;have fy2:=zAo HPr.out.y 2;have fy3:=zAo HPr.out.y 3;have fy4:=zAo HPr.out.y 4;have lX:=HPr.out.lt;have lY:w.heap.size<wr.heap.size:=by omega
     go_wp2_with fail;refine zAD λWf hWf=>?_;obtain ⟨s1,s2,s3,s4⟩:=zHg hWf;refine bodyPost_ret (v:=.agg #[.int .i64 op, .slice none 0 0, .slice A m cA, .int .i64 0, .int .i64 0]) (by rw[hWf];simp[results,Tryz.results7,go_sem,y0,y1,y2,y3,y4,lY];try rfl) rfl ?_
     have hkl:KeepF [w.heap.size] [] wr Wf:=⟨s3.1,s3.2.1,s3.2.2,by omega,λk _ hn=>s1 k (λe=>hn (by simp[e])),λk hk=>by cases hk⟩
     have hbl:Below w.heap.size wr Wf:=hkl.below (λk hk=>by rw[List.mem_singleton]at hk;omega) (by omega)
     have hown:OR 29 5 N5.cs (w.heap.size+2) (.slice A m cA) us Wf:=HO.out.keep λg hg=>s1 g (by have:=(World.ownsRow.lt HO.out g hg).1;omega)
     refine ⟨.mk op [] kids 0 0,⟨op,none,0,0,A,m,cA,0,0⟩,rfl, .inr (.inl ⟨op,kids,HOP.out,rfl,by have:=HK.out.2.1;have:=HM.out;omega,by have:=HK.out.2.1;have:=HM.out;omega,HK.out.2.2.2⟩),(NdUp.kids hown (by rw[HK.out.1,HK.out.2.1]) (λi h1 h2=>?_) op 0 0).mono (by omega),HPr.out.tp.below' hbl (by assumption),HPr.out.fr.then hbl⟩
     exact (HK.out.2.2.1 i h1 h2).next (zI1 hkl (λk hk=>List.mem_append_left _ (List.mem_range.2 (by rw[List.mem_singleton]at hk;omega)))) (L':=List.range (w.heap.size+2)) (λk hk=>.inl (List.mem_append_left _ hk))
end Go.Proofs.YtadjdkickjjieaaGreatDoor
