/- Walks. -/
import Derived.Test.YthamegenljmgmaaGreatDoorProg
import Derived.Test.YthamegenljmgmaaGreatDoorY03
import Derived.Test.YthamegenljmgmaaGreatDoorY02
import Derived.Test.YthamegenljmgmaaGreatDoorY01
set_option maxRecDepth 100000
set_option maxHeartbeats 16000000
set_option linter.unusedVariables false
set_option linter.unusedSimpArgs false
namespace Go.Proofs.YthamegenljmgmaaGreatDoor
open Go.RowKit
theorem tZ:(Tryz.prog.info? 5).map (λi=>(i.zero,i.size,i.bytes))=some (some (.int .u8 0),1,1):=R
theorem dF:(Tryz.prog.info? 3).map (λi=>(i.zero,i.size,i.bytes))=some (some (.int .i64 0),1,8):=R
def gD(w:World)(v:Value)(rs:List (Nat×Nat)):Prop:=∃A c,v=.slice A rs.length c/\(rs.length<=c/\c<=9223372036854775807)/\(rs=[]\/∃g f,A=some ⟨g,f,none⟩/\g<w.heap.size/\
 ∀i (h:i<rs.length),(w.cell? (Z g (f+i*2))=some (.int .u8 (rs[i].1:Int))/\w.cell? (Z g (f+i*2+1))=some (.int .u8 (rs[i].2:Int)))/\rs[i].1<256/\rs[i].2<256)
mutual
def bY(w:World):Nd->List Value->Prop
 | .mk op rs kids mn mx=>λvs=>∃v1 v2,vs=[.int .i64 op,v1,v2,.int .i64 mn,.int .i64 mx]/\gD w v1 rs/\∃A c,v2=.slice A kids.length c/\(kids.length<=c/\c<=9223372036854775807)/\(kids=[]\/∃g f,A=some ⟨g,f,none⟩/\g<w.heap.size/\eS w kids g f)
def eS(w:World):List Nd->Nat->Nat->Prop
 | []=>λ_ _=>True
 |k::r=>λg f=>(∃vs:List Value,(∀j,j<5->w.cell? (Z g (f+j))=vs[j]?)/\bY w k vs)/\eS w r g (f+5)
end
theorem gD.later{w w':World}{v:Value}{rs:List (Nat×Nat)}(h:gD w v rs)(hb:Below w w w'):gD w' v rs:=by
 obtain ⟨A,c,e,hc,h⟩:=h;refine ⟨A,c,e,hc,h.imp id ?_⟩;rintro ⟨g,f,h1,h2,h3⟩;refine ⟨g,f,h1,Nat.lt_of_lt_of_le h2 hb.size,λi hi=>?_⟩;obtain ⟨⟨q1,q2⟩,q3⟩:=h3 i hi;exact ⟨⟨(hb.cl g (f+i*2) h2).t q1,(hb.cl g (f+i*2+1) h2).t q2⟩,q3⟩
theorem aQ:∀{l:List Nd} {k:Nd},k∈l->aA k<=a7 l
 |a::r,k,h=>by
  rw[a7];rcases List.mem_cons.1 h with rfl|h
  .omega
  .have:=aQ h;omega
theorem eS.at{w:World}:∀{l:List Nd} {g f:Nat},eS w l g f->∀i (h:i<l.length),∃vs:List Value,(∀j,j<5->w.cell? (Z g (f+i*5+j))=vs[j]?)/\bY w l[i] vs
 | [],_,_,_,i,h=>by cases h
 |k::r,g,f,hk,i,h=>by
  cases i with
  |zero=>
   obtain ⟨vs,h1,h2⟩:=hk.1;exact ⟨vs,λj hj=>by rw[Nat.zero_mul,Nat.add_zero];exact h1 j hj,h2⟩
  |succ i=>
   obtain ⟨vs,h1,h2⟩:=eS.at hk.2 i (by simpa using h)
   refine ⟨vs,λj hj=>?_,h2⟩;have:=h1 j hj;rw[show f+5+i*5+j=f+(i+1)*5+j by omega]at this
   exact this
theorem EC{w w':World}(hb:Below w w w'):∀(m:Nat),(∀(n:Nd) (vs:List Value),aA n<=m->bY w n vs->bY w' n vs)/\(∀(l:List Nd) (g f:Nat),a7 l<=m->g<w->eS w l g f->eS w' l g f):=by
 intro m
 induction m with
 |zero=>
  refine ⟨λn vs h=>?_,λl g f h hg hk=>?_⟩
  .cases n;rw[aA]at h;omega
  .cases l with
   |nil=>trivial
   |cons k r=>cases k;rw[a7,aA]at h;omega
 |succ m ih=>
  have h1:∀(n:Nd) (vs:List Value),aA n<=m+1->bY w n vs->bY w' n vs:=by
   rintro ⟨op,rs,kids,mn,mx⟩ vs h ⟨v1,v2,e,hr,A,c,e2,hc,hk⟩;rw[aA]at h;refine ⟨v1,v2,e,hr.later hb,A,c,e2,hc,hk.imp id ?_⟩;rintro ⟨g,f,h1,h2,h3⟩;exact ⟨g,f,h1,Nat.lt_of_lt_of_le h2 hb.size,ih.2 kids g f U h2 h3⟩
  refine ⟨h1,λl=>?_⟩
  induction l with
  |nil=>intro _ _ _ _ _;trivial
  |cons k r ihl=>
   rintro g f h hg ⟨⟨vs,h2,h3⟩,h4⟩;rw[a7]at h;exact ⟨⟨vs,λj hj=>(hb.cl g (f+j) hg).t (h2 j hj),h1 k vs U h3⟩,ihl g (f+5) U hg h4⟩
theorem bY.later{w w':World}{n:Nd}{vs:List Value}(h:bY w n vs)(hb:Below w w w'):bY w' n vs:=(EC hb _).1 n vs V h
theorem bY.form{w:World}{n:Nd}{vs:List Value}(h:bY w n vs):∃A1 c1 A2 c2,vs=[.int .i64 n.op,.slice A1 n.rs.length c1,.slice A2 n.kids.length c2,.int .i64 n.mn,.int .i64 n.mx]/\gD w (.slice A1 n.rs.length c1) n.rs/\(n.kids.length<=c2/\c2<=9223372036854775807)/\(n.kids=[]\/∃g f,A2=some ⟨g,f,none⟩/\g<w.heap.size/\eS w n.kids g f):=by
 obtain ⟨op,rs,kids,mn,mx⟩:=n;obtain ⟨v1,v2,e,hr,A,c,rfl,hc,hk⟩:=h;obtain ⟨A1,c1,rfl,h1,h2⟩:=hr;exact ⟨A1,c1,A,c,e,⟨A1,c1,rfl,h1,h2⟩,hc,hk⟩
theorem uh:(Tryz.prog.info? 74).map (λi=>(i.zero,i.size,i.bytes))=some (some (.agg #[.int .u8 0,.int .u8 0,(0:Int)]),3,16):=R
def cP(b:Nat)(w:World):Prop:=∃(a:Option Addr) (n c k:Nat),w.heap[b]?=some (.cells #[.slice a n c,(k:Int)] 29)/\k<=n/\n<=maxLen/\
 ∀j,j<n->∃ad x,a=some ad/\ad.block<b/\w.cell? (ad.add j)=some (.int .i64 x)
def Fr(b:Nat)(w w':World):Prop:=w.grownBy w' (some b)
theorem Fr.t{b:Nat}{w w1 w2:World}(h:Fr b w w1)(h':Fr b w1 w2):Fr b w w2:=
 ⟨h'.os.t h.os,h'.tape.t h.tape,h'.output.t h.output,Nat.le_trans h.size h'.size,λk hk bf=>(h'.block k (Nat.lt_of_lt_of_le hk h.size) bf).t (h.block k hk bf)⟩
theorem Fr.aj{b:Nat}{w w1:World}(h:Below w w w1):Fr b w w1:=⟨h.os,h.tape,h.output,h.size,λk hk _=>h.block k hk⟩
theorem Fr.below{b B:Nat}{w w1:World}(h:Fr b w w1)(hB:B<=b)(hb:B<=w):Below B w w1:=
 ⟨h.os,h.tape,h.output,h.size,λk hk=>h.block k U (by intro e;injection e;omega)⟩
theorem Fr.then{b:Nat}{w w1 w2:World}(h:Fr b w w1)(h':Below w w1 w2):Fr b w w2:=
 ⟨h'.os.t h.os,h'.tape.t h.tape,h'.output.t h.output,Nat.le_trans h.size h'.size,λk hk bf=>(h'.block k hk).t (h.block k hk bf)⟩
theorem cP.lt{b:Nat}{w:World}(h:cP b w):b<w:=by
 obtain ⟨a,n,c,k,hb,-⟩:=h;exact (γ hb).1
theorem cP.keep{b:Nat}{w w1:World}(h:cP b w)(hk:∀k,k<=b->w1.heap[k]?=w.heap[k]?):cP b w1:=by
 obtain ⟨a,n,c,k,hb,h1,h2,h3⟩:=h;refine ⟨a,n,c,k,(hk b V).t hb,h1,h2,λj hj=>?_⟩;obtain ⟨ad,x,ha,aB,hc⟩:=h3 j hj;exact ⟨ad,x,ha,aB,(World.cell?_of_block (by rw[fX];exact hk _ (Nat.le_of_lt aB))).t hc⟩
theorem cP.below{b:Nat}{w w1:World}(h:cP b w)(hb:Below w w w1):cP b w1:=
 h.keep λk hk=>hb.block k (Nat.lt_of_le_of_lt hk h.lt)
theorem cP.qk{b B:Nat}{w w1:World}(h:cP b w)(hb:Below B w w1)(hB:b<B):cP b w1:=
 h.keep λk hk=>hb.block k (Nat.lt_of_le_of_lt hk hB)
theorem Ot(x:Int):0<=bits .and .i64 x 65535/\bits .and .i64 x 65535<=65535:=by
 have hle:(BitVec.ofInt 64 x &&& BitVec.ofInt 64 65535).toNat<=65535:=by
  rw[BitVec.toNat_and];exact Nat.le_trans Nat.and_le_right O
 have e:bits .and .i64 x 65535=((BitVec.ofInt 64 x &&& BitVec.ofInt 64 65535).toNat:Int):=by
  unfold bits;show IntKind.i64.wrap (((BitVec.ofInt 64 x &&& BitVec.ofInt 64 65535).toNat:Nat):Int)=_;rw[IntWalk.i64_in _ U]
 rw[e];omega
theorem JH{b:Nat}{w W:World}(a:Option Addr)(n c k:Nat)(hb:w.heap[b]?=some (.cells #[.slice a n c,(k:Int)] 29))(hk:k<n)(hn:n<=maxLen)
  (hc:∀j,j<n->∃ad x,a=some ad/\ad.block<b/\w.cell? (ad.add j)=some (.int .i64 x))
  (h:W.heap=(w.setCell (Z b 1) (.int .i64 ((k:Int)+1))).heap) (h1:W.os=w.os) (h2:W.tape=w.tape) (h3:W.output=w.output):cP b W/\Fr b w W:=by
 have bf:∀i,i≠b->W.heap[i]?=w.heap[i]?:=λi hi=>by rw[h];exact Below.heap_setCell _ _ _ _ hi
 have Bl:W.heap[b]?=some (.cells #[.slice a n c,.int .i64 ((k+1:Nat):Int)] 29):=by
  rw[h];simp[World.setCell,Array.getElem?_modify,hb]
 refine ⟨⟨a,n,c,k+1,Bl,U,hn,λj hj=>?_⟩,h1,h2,h3,by rw[h];simp[World.setCell],λi _ hi=>bf i (λe=>hi (by rw[e]))⟩
 obtain ⟨ad,x,ha,aB,iY⟩:=hc j hj;exact ⟨ad,x,ha,aB,(World.cell?_of_block (bf _ (by rw[fX];omega))).t iY⟩
def Ou(b:Nat)(n:Int)(w:World)(e:Ending)(w':World):Prop:=∃r:Int,e=.returned (.int .i64 r)/\0<=r/\r<n/\cP b w'/\Fr b w w'
theorem rj(b:Nat)(n:Int)(w:World)(hn:0<n)(gG:n<=65536)(ht:cP b w):
  Calls Tryz.prog 14 #[.pointer (Z b 0),.int .i64 n] w (Ou b n w):=by
 have Ml:=Y ht;obtain ⟨a,m,c,k,hb,hk,hm,ak⟩:=ht;unfold maxLen at hm;have c0:w.cell? (Z b 0)=some (.slice a m c):=by rw[cell_of_row w b 0 _ _ _ hb];rfl
 have c1:w.cell? (Z b 1)=some (.int .i64 (k:Int)):=by rw[cell_of_row w b 1 _ _ _ hb];rfl
 have f1:w.frozen? (Z b 1)=false:=Ψ hb
 by_cases aB:k<m
 .obtain ⟨ad,x,rfl,aud,iY⟩:=ak k aB;have HB:=Y hb;have HC:=Y ak;clear hb ak;obtain ⟨y,hy⟩:=ν (bits .and .i64 x 65535);have hyb:=Ot x;rw[hy]at hyb
  go_enter Tryz.func14,Tryz.ntmps14
  go_wp2_with fail
  go_quiet (fail)
  go_wp2_with fail
  go_quiet (fail)
  go_wp2
  go_ret;refine ⟨y % n,rfl,Int.emod_nonneg _ U,Int.emod_lt_of_pos _ hn,?_⟩;exact JH (some ad) m c k HB.o aB (by unfold maxLen;omega) HC.o rfl rfl rfl rfl
 .obtain rfl:k=m:=U
  go_enter Tryz.func14,Tryz.ntmps14
  go_wp2_with fail
  go_quiet (fail)
  go_wp2
  go_ret;exact ⟨0,rfl,U,U,Ml.out,⟨rfl,rfl,rfl,V,λ_ _ _=>rfl⟩⟩
def Zl(b:Nat)(n:Nat)(w:World)(e:Ending)(w':World):Prop:=∃(v:Value) (l:List UInt8),e=.returned v/\l.length=n/\OB 5 w v l w'/\cP b w'/\Fr b w w'
def oX(A:Option Addr)(n:Nat)(w:World):Prop:=n<=maxLen/\∀j,j<n->∃ad x,A=some ad/\ad.block<w.heap.size/\w.cell? (ad.add j)=some (.int .i64 x)
theorem Mu{A:Option Addr}{n c:Nat}{w:World}(h:oX A n w):cP w (w.alloc (.cells #[.slice A n c,(0:Int)] 29)):=by
 refine ⟨A,n,c,0,heap_alloc_new w _,Nat.zero_le _,h.1,λj hj=>?_⟩;obtain ⟨ad,x,ha,aB,hc⟩:=h.2 j hj;exact ⟨ad,x,ha,aB,(World.cell?_alloc_lt w _ _ (by rw[fX];exact aB)).t hc⟩
theorem EI{w:World}{a:Option Addr}{len cap:Nat}{zs:List Int}
  (h:(a=none/\len=0/\cap=0/\zs=[])\/∃x,a=some x/\len<=cap/\cap<=maxLen/\zs.length=cap/\(∀i,i<zs.length->w.cell? (x.add i)=some (.int .i64 (zs.getD i 0)))/\∀n∈zs,(Lit.int .i64 n).wf=true):oX a len w:=by
 rcases h with ⟨rfl,rfl,rfl,rfl⟩|⟨x,rfl,hl,hm,hz,hc,-⟩
 .exact ⟨Nat.zero_le _,λj hj=>absurd hj (Nat.not_lt_zero _)⟩
 .refine ⟨Nat.le_trans hl hm,λj hj=>⟨x,_,rfl,?_,hc j U⟩⟩;have:=World.block_lt_of_cell? w _ (hc j U);rwa [fX]at this
end Go.Proofs.YthamegenljmgmaaGreatDoor
