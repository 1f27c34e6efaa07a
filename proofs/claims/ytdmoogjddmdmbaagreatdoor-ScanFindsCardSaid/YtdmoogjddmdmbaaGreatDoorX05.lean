/- Walks. -/
import Derived.Test.YtdmoogjddmdmbaaGreatDoorProg
import Derived.Test.YtdmoogjddmdmbaaGreatDoorX04
import Derived.Test.YtdmoogjddmdmbaaGreatDoorX03
import Derived.Test.YtdmoogjddmdmbaaGreatDoorX01
set_option maxRecDepth 100000
set_option maxHeartbeats 16000000
set_option linter.unusedVariables false
set_option linter.unusedSimpArgs false
namespace Go.Proofs.YtdmoogjddmdmbaaGreatDoor
open Go.RowKit
theorem kt:(Tryz.prog.info? 5).map (λi=>(i.zero,i.size,i.bytes))=some (some (.int .u8 0),1,1):=κ
theorem gp:(Tryz.prog.info? 3).map (λi=>(i.zero,i.size,i.bytes))=some (some (.int .i64 0),1,8):=κ
theorem acO{n:Nat}(h:n<16):n=0\/n=1\/n=2\/n=3\/n=4\/n=5\/n=6\/n=7\/n=8\/n=9\/n=10\/n=11\/n=12\/n=13\/n=14\/n=15:=Y
theorem Wv{n:Nat}(h:n<16):(⟨#[48,49,50,51,52,53,54,55,56,57,97,98,99,100,101,102]⟩:ByteArray)[n]'(by exact h)=D4 n:=by
 rcases acO h with h|h|h|h|h|h|h|h|h|h|h|h|h|h|h|h <;> (subst h; rfl)
theorem FV(k:IntKind)(y:Int)(h0:0<=y)(h1:y<16)(w:World):(Instr.index 9 (.string ⟨#[48,49,50,51,52,53,54,55,56,57,97,98,99,100,101,102]⟩) (.int k y)).run Tryz.prog w=.ok (.int .u8 (D4 y).toNat) w:=by
 obtain ⟨n,rfl⟩:=Int.eq_ofNat_of_zero_le h0;have hn:n<16:=Y;have h:=rP (P:=Tryz.prog) Tryz.underlying9 (⟨#[48,49,50,51,52,53,54,55,56,57,97,98,99,100,101,102]⟩:ByteArray) n hn k (n:Int) rfl w;rw[Wv hn]at h;exact h
def jK(w:World)(v:Value)(rs:List (Nat×Nat)):Prop:=∃A c,v=.slice A rs.length c/\(rs.length<=c/\c<=9223372036854775807)/\(rs=[]\/∃g f,A=some ⟨g,f,none⟩/\g<w.heap.size/\
 ∀i (h:i<rs.length),(w.cell? ⟨g,f+i*2,none⟩=some (.int .u8 (rs[i].1:Int))/\w.cell? ⟨g,f+i*2+1,none⟩=some (.int .u8 (rs[i].2:Int)))/\rs[i].1<256/\rs[i].2<256)
mutual
def bT(w:World):Nd->List Value->Prop
 | .mk op rs kids mn mx=>λvs=>∃v1 v2,vs=[.int .i64 op,v1,v2,.int .i64 mn,.int .i64 mx]/\jK w v1 rs/\∃A c,v2=.slice A kids.length c/\(kids.length<=c/\c<=9223372036854775807)/\(kids=[]\/∃g f,A=some ⟨g,f,none⟩/\g<w.heap.size/\fF w kids g f)
def fF(w:World):List Nd->Nat->Nat->Prop
 | []=>λ_ _=>True
 |k::r=>λg f=>(∃vs:List Value,(∀j,j<5->w.cell? ⟨g,f+j,none⟩=vs[j]?)/\bT w k vs)/\fF w r g (f+5)
end
theorem jK.later{w w':World}{v:Value}{rs:List (Nat×Nat)}(h:jK w v rs)(hb:Below w.heap.size w w'):jK w' v rs:=by
 obtain ⟨A,c,e,hc,h⟩:=h;refine ⟨A,c,e,hc,h.imp id ?_⟩;rintro ⟨g,f,h1,h2,h3⟩;refine ⟨g,f,h1,Nat.lt_of_lt_of_le h2 hb.size,λi hi=>?_⟩;obtain ⟨⟨q1,q2⟩,q3⟩:=h3 i hi;exact ⟨⟨(hb.cl g (f+i*2) h2).trans q1,(hb.cl g (f+i*2+1) h2).trans q2⟩,q3⟩
theorem aF:∀{l:List Nd} {k:Nd},k∈l->au k<=aV l
 |a::r,k,h=>by
  rw[aV];rcases List.mem_cons.1 h with rfl|h
  .omega
  .have:=aF h;omega
theorem fF.at{w:World}:∀{l:List Nd} {g f:Nat},fF w l g f->∀i (h:i<l.length),∃vs:List Value,(∀j,j<5->w.cell? ⟨g,f+i*5+j,none⟩=vs[j]?)/\bT w l[i] vs
 | [],_,_,_,i,h=>by cases h
 |k::r,g,f,hk,i,h=>by
  cases i with
  |zero=>
   obtain ⟨vs,h1,h2⟩:=hk.1;exact ⟨vs,λj hj=>by rw[Nat.zero_mul,Nat.add_zero];exact h1 j hj,h2⟩
  |succ i=>
   obtain ⟨vs,h1,h2⟩:=fF.at hk.2 i (by simpa using h)
   refine ⟨vs,λj hj=>?_,h2⟩;have:=h1 j hj;rw[show f+5+i*5+j=f+(i+1)*5+j by omega]at this
   exact this
theorem Fg{w w':World}(hb:Below w.heap.size w w'):∀(m:Nat),(∀(n:Nd) (vs:List Value),au n<=m->bT w n vs->bT w' n vs)/\(∀(l:List Nd) (g f:Nat),aV l<=m->g<w.heap.size->fF w l g f->fF w' l g f):=by
 intro m
 induction m with
 |zero=>
  refine ⟨λn vs h=>?_,λl g f h hg hk=>?_⟩
  .cases n;rw[au]at h;omega
  .cases l with
   |nil=>trivial
   |cons k r=>cases k;rw[aV,au]at h;omega
 |succ m ih=>
  have h1:∀(n:Nd) (vs:List Value),au n<=m+1->bT w n vs->bT w' n vs:=by
   rintro ⟨op,rs,kids,mn,mx⟩ vs h ⟨v1,v2,e,hr,A,c,e2,hc,hk⟩;rw[au]at h;refine ⟨v1,v2,e,hr.later hb,A,c,e2,hc,hk.imp id ?_⟩;rintro ⟨g,f,h1,h2,h3⟩;exact ⟨g,f,h1,Nat.lt_of_lt_of_le h2 hb.size,ih.2 kids g f Y h2 h3⟩
  refine ⟨h1,λl=>?_⟩
  induction l with
  |nil=>intro _ _ _ _ _;trivial
  |cons k r ihl=>
   rintro g f h hg ⟨⟨vs,h2,h3⟩,h4⟩;rw[aV]at h;exact ⟨⟨vs,λj hj=>(hb.cl g (f+j) hg).trans (h2 j hj),h1 k vs Y h3⟩,ihl g (f+5) Y hg h4⟩
theorem bT.later{w w':World}{n:Nd}{vs:List Value}(h:bT w n vs)(hb:Below w.heap.size w w'):bT w' n vs:=(Fg hb _).1 n vs I h
theorem bT.form{w:World}{n:Nd}{vs:List Value}(h:bT w n vs):∃A1 c1 A2 c2,vs=[.int .i64 n.op,.slice A1 n.rs.length c1,.slice A2 n.kids.length c2,.int .i64 n.mn,.int .i64 n.mx]/\jK w (.slice A1 n.rs.length c1) n.rs/\(n.kids.length<=c2/\c2<=9223372036854775807)/\(n.kids=[]\/∃g f,A2=some ⟨g,f,none⟩/\g<w.heap.size/\fF w n.kids g f):=by
 obtain ⟨op,rs,kids,mn,mx⟩:=n;obtain ⟨v1,v2,e,hr,A,c,rfl,hc,hk⟩:=h;obtain ⟨A1,c1,rfl,h1,h2⟩:=hr;exact ⟨A1,c1,A,c,e,⟨A1,c1,rfl,h1,h2⟩,hc,hk⟩
theorem Gq:(Tryz.prog.info? 195).map (λi=>(i.zero,i.size,i.bytes))=some (some (.agg #[.int .u8 0,.int .u8 0,.int .i64 0]),3,16):=κ
def aD(b:Nat)(w:World):Prop:=∃(a:Option Addr) (n c k:Nat),w.heap[b]?=some (.cells #[.slice a n c,.int .i64 (k:Int)] 25 (0,0))/\k<=n/\n<=maxLen/\
 ∀j,j<n->∃ad x,a=some ad/\ad.block<b/\w.cell? (ad.add j)=some (.int .i64 x)
def Fr(b:Nat)(w w':World):Prop:=w.grownBy w' (some b)
theorem Fr.refl(b:Nat)(w:World):Fr b w w:=⟨rfl,rfl,rfl,I,λ_ _ _=>rfl⟩
theorem Fr.trans{b:Nat}{w w1 w2:World}(h:Fr b w w1)(h':Fr b w1 w2):Fr b w w2:=
 ⟨h'.os.trans h.os,h'.tape.trans h.tape,h'.output.trans h.output,Nat.le_trans h.size h'.size,λk hk hne=>(h'.block k (Nat.lt_of_lt_of_le hk h.size) hne).trans (h.block k hk hne)⟩
theorem Fr.aa{b:Nat}{w w1:World}(h:Below w.heap.size w w1):Fr b w w1:=⟨h.os,h.tape,h.output,h.size,λk hk _=>h.block k hk⟩
theorem Fr.below{b B:Nat}{w w1:World}(h:Fr b w w1)(hB:B<=b)(hb:B<=w.heap.size):Below B w w1:=
 ⟨h.os,h.tape,h.output,h.size,λk hk=>h.block k Y (by intro e;injection e;omega)⟩
theorem Fr.then{b:Nat}{w w1 w2:World}(h:Fr b w w1)(h':Below w.heap.size w1 w2):Fr b w w2:=
 ⟨h'.os.trans h.os,h'.tape.trans h.tape,h'.output.trans h.output,Nat.le_trans h.size h'.size,λk hk hne=>(h'.block k hk).trans (h.block k hk hne)⟩
theorem aD.lt{b:Nat}{w:World}(h:aD b w):b<w.heap.size:=by
 obtain ⟨a,n,c,k,hb,-⟩:=h;exact (γ hb).1
theorem aD.keep{b:Nat}{w w1:World}(h:aD b w)(hk:∀k,k<=b->w1.heap[k]?=w.heap[k]?):aD b w1:=by
 obtain ⟨a,n,c,k,hb,h1,h2,h3⟩:=h;refine ⟨a,n,c,k,(hk b I).trans hb,h1,h2,λj hj=>?_⟩;obtain ⟨ad,x,ha,hlt,hc⟩:=h3 j hj;exact ⟨ad,x,ha,hlt,(World.cell?_of_block (by rw[gm];exact hk _ (Nat.le_of_lt hlt))).trans hc⟩
theorem aD.below{b:Nat}{w w1:World}(h:aD b w)(hb:Below w.heap.size w w1):aD b w1:=
 h.keep λk hk=>hb.block k (Nat.lt_of_le_of_lt hk h.lt)
theorem aD.fU{b B:Nat}{w w1:World}(h:aD b w)(hb:Below B w w1)(hB:b<B):aD b w1:=
 h.keep λk hk=>hb.block k (Nat.lt_of_le_of_lt hk hB)
theorem Cx(x:Int):0<=bits .and .i64 x 65535/\bits .and .i64 x 65535<=65535:=by
 have hle:(BitVec.ofInt 64 x &&& BitVec.ofInt 64 65535).toNat<=65535:=by
  rw[BitVec.toNat_and];exact Nat.le_trans Nat.and_le_right O
 have e:bits .and .i64 x 65535=((BitVec.ofInt 64 x &&& BitVec.ofInt 64 65535).toNat:Int):=by
  unfold bits;show IntKind.i64.wrap (((BitVec.ofInt 64 x &&& BitVec.ofInt 64 65535).toNat:Nat):Int)=_;rw[IntWalk.i64_in _ Y]
 rw[e];omega
theorem xU{b:Nat}{w W:World}(a:Option Addr)(n c k:Nat)(hb:w.heap[b]?=some (.cells #[.slice a n c,.int .i64 (k:Int)] 25 (0,0)))(hk:k<n)(hn:n<=maxLen)
  (hc:∀j,j<n->∃ad x,a=some ad/\ad.block<b/\w.cell? (ad.add j)=some (.int .i64 x))
  (h:W.heap=(w.setCell ⟨b,1,none⟩ (.int .i64 ((k:Int)+1))).heap) (h1:W.os=w.os) (h2:W.tape=w.tape) (h3:W.output=w.output):aD b W/\Fr b w W:=by
 have hne:∀i,i≠b->W.heap[i]?=w.heap[i]?:=λi hi=>by rw[h];exact Below.heap_setCell _ _ _ _ hi
 have wu:W.heap[b]?=some (.cells #[.slice a n c,.int .i64 ((k+1:Nat):Int)] 25 (0,0)):=by
  rw[h];simp[World.setCell,Array.getElem?_modify,hb]
 refine ⟨⟨a,n,c,k+1,wu,Y,hn,λj hj=>?_⟩,h1,h2,h3,by rw[h];simp[World.setCell],λi _ hi=>hne i (λe=>hi (by rw[e]))⟩
 obtain ⟨ad,x,ha,hlt,iY⟩:=hc j hj;exact ⟨ad,x,ha,hlt,(World.cell?_of_block (hne _ (by rw[gm];omega))).trans iY⟩
def OW(b:Nat)(n:Int)(w:World)(e:Ending)(w':World):Prop:=∃r:Int,e=.returned (.int .i64 r)/\0<=r/\r<n/\aD b w'/\Fr b w w'
theorem bQ(b:Nat)(n:Int)(w:World)(hn:0<n)(mX:n<=65536)(ht:aD b w):
  Calls Tryz.prog 20 #[.pointer (some ⟨b,0,none⟩),.int .i64 n] w (OW b n w):=by
 have Cb:=Z ht;obtain ⟨a,m,c,k,hb,hk,hm,hcell⟩:=ht;unfold maxLen at hm;have c0:w.cell? ⟨b,0,none⟩=some (.slice a m c):=by rw[cell_of_row w b 0 _ _ _ hb];rfl
 have c1:w.cell? ⟨b,1,none⟩=some (.int .i64 (k:Int)):=by rw[cell_of_row w b 1 _ _ _ hb];rfl
 have f1:w.frozen? ⟨b,1,none⟩=false:=by simp[World.frozen?,hb]
 by_cases hlt:k<m
 .obtain ⟨ad,x,rfl,akJ,iY⟩:=hcell k hlt;have HB:=Z hb;have HC:=Z hcell;clear hb hcell;obtain ⟨y,hy⟩:=ν (bits .and .i64 x 65535);have Di:=Cx x;rw[hy]at Di
  go_enter Tryz.func20,Tryz.ntmps20
  go_wp2_with fail
  go_quiet (fail)
  go_wp2_with fail
  go_quiet (fail)
  go_wp2
  go_ret;refine ⟨y % n,rfl,Int.emod_nonneg _ Y,Int.emod_lt_of_pos _ hn,?_⟩;exact xU (some ad) m c k HB.out hlt (by unfold maxLen;omega) HC.out rfl rfl rfl rfl
 .obtain rfl:k=m:=Y
  go_enter Tryz.func20,Tryz.ntmps20
  go_wp2_with fail
  go_quiet (fail)
  go_wp2
  go_ret;exact ⟨0,rfl,Y,Y,Cb.out,⟨rfl,rfl,rfl,I,λ_ _ _=>rfl⟩⟩
def J0(b:Nat)(n:Nat)(w:World)(e:Ending)(w':World):Prop:=∃(v:Value) (l:List UInt8),e=.returned v/\l.length=n/\OB 5 w.heap.size v l w'/\aD b w'/\Fr b w w'
theorem OB.keep{e:TypeId}{B:Nat}{v:Value}{l:List UInt8}{w w1:World}(h:OB e B v l w)(hk:∀k,v.ownBlock=some k->w1.heap[k]?=w.heap[k]?):OB e B v l w1:=by
 refine ⟨h.1,?_⟩;rcases h.2 with h1|⟨g,cap,cur,rfl,hb,hg,rest⟩
 .exact .inl h1
 .exact .inr ⟨g,cap,cur,rfl,hb,(hk g rfl).trans hg,rest⟩
theorem OB.fr{e:TypeId}{B b:Nat}{v:Value}{l:List UInt8}{w w1:World}(h:OB e B v l w)(hf:Fr b w w1)(hB:b<B):OB e B v l w1:=
 h.keep λk hk=>by
  have h1:=World.ownsRow.lt h k hk;exact hf.block k h1.2 (by intro e;injection e;omega)
theorem J3(b n:Nat)(w:World)(hn:n<=1000000)(ht:aD b w):
  Calls Tryz.prog 23 #[.pointer (some ⟨b,0,none⟩),.int .i64 (n:Int)] w (J0 b n w):=by
 obtain ⟨i0,hi,hz0,hz1,hz2⟩:=info_parts kt;have dL:=ht.lt
 go_enter Tryz.func23,Tryz.ntmps23
 go_wp2
 go_loopw [5,6] (λv i wr=>∃(k:Nat) (l:List UInt8),k<=n/\i=.int .i64 (k:Int)/\l.length=k/\OB 5 w.heap.size v l wr/\aD b wr/\Fr b w wr) (λ_ i _=>n - (intOf i).toNat)
 case atStart=>exact ⟨0,[],Y,rfl,rfl,OB.km _ _ _,ht,Fr.refl _ _⟩
 case round=>
  obtain ⟨k,l,hk,rfl,hl,hown,sk,dY⟩:=hrel;by_cases hlt:k<n
  .go_wp2_with fail;refine (bQ b _ _ Y Y sk).mono ?_;rintro e w1 ⟨r,rfl,GG,nR,nA,gX⟩;have hown1:=hown.fr gX dL;by_cases e0:r=0
   .subst e0;go_wp2_with fail;refine (bQ b _ _ Y Y nA).mono ?_;rintro e w2 ⟨q,rfl,rN,hq1,jP,eI⟩;have bh:=hown1.fr eI dL;obtain ⟨u,c,-,lD,lW,lY,Dj⟩:=mM Tryz.underlying9 ⟨#[32,10,61,37,43,47,45,46]⟩ q.toNat (show q.toNat<8 by omega) .i64 q Y
    go_wp2_with (at_builtin;refine qN Tryz.underlying28 hi hz0 hz1 hz2 _ _ _ _ _ u _ rfl rfl rfl rfl bh lD.out Y (Nat.le_trans dY.size (Nat.le_trans gX.size eI.size)) ?_;intro v1 w3 cI bW _ _);go_roundw
    case rel=>exact ⟨k+1,_,Y,by go_num,ψ,cI,jP.fU bW dL,((dY.trans gX).trans eI).then bW⟩
    case measure=>exact μ
   by_cases e1:r=1
   .subst e1;go_wp2_with fail;refine (bQ b _ _ Y Y nA).mono ?_;rintro e w2 ⟨q,rfl,rN,hq1,jP,eI⟩;have bh:=hown1.fr eI dL;have hu:=iU q.toNat Y;rw[Int.toNat_of_nonneg rN]at hu;have HU:=Z hu;clear hu;go_wp2_with (at_builtin;refine qN Tryz.underlying28 hi hz0 hz1 hz2 _ _ _ _ _ (UInt8.ofNat q.toNat) _ rfl rfl rfl rfl bh HU.out Y (Nat.le_trans dY.size (Nat.le_trans gX.size eI.size)) ?_;intro v1 w3 cI bW _ _);go_roundw
    case rel=>exact ⟨k+1,_,Y,by go_num,ψ,cI,jP.fU bW dL,((dY.trans gX).trans eI).then bW⟩
    case measure=>exact μ
   by_cases e2:r=2\/r=3
   .rcases e2 with rfl|rfl
    all_goals
     skip
     go_wp2_with fail;refine (bQ b _ _ Y Y nA).mono ?_;rintro e w2 ⟨q,rfl,rN,hq1,jP,eI⟩;have bh:=hown1.fr eI dL;have hu:=iU (48+q).toNat Y;rw[Int.toNat_of_nonneg Y]at hu;have HU:=Z hu;clear hu;go_wp2_with (at_builtin;refine qN Tryz.underlying28 hi hz0 hz1 hz2 _ _ _ _ _ (UInt8.ofNat (48+q).toNat) _ rfl rfl rfl rfl bh HU.out Y (Nat.le_trans dY.size (Nat.le_trans gX.size eI.size)) ?_;intro v1 w3 cI bW _ _);go_roundw
     case rel=>exact ⟨k+1,_,Y,by go_num,ψ,cI,jP.fU bW dL,((dY.trans gX).trans eI).then bW⟩
     case measure=>exact μ
   have e2':¬r=2:=λh=>e2 (.inl h);have e3':¬r=3:=λh=>e2 (.inr h);clear e2
   .skip
    go_wp2_with fail;refine (bQ b _ _ Y Y nA).mono ?_;rintro e w2 ⟨q,rfl,rN,hq1,jP,eI⟩;have bh:=hown1.fr eI dL;obtain ⟨u,c,-,lD,lW,lY,Dj⟩:=mM Tryz.underlying9 ⟨#[97,98,99,100,101,102,116,107]⟩ q.toNat (show q.toNat<8 by omega) .i64 q Y
    go_wp2_with (at_builtin;refine qN Tryz.underlying28 hi hz0 hz1 hz2 _ _ _ _ _ u _ rfl rfl rfl rfl bh lD.out Y (Nat.le_trans dY.size (Nat.le_trans gX.size eI.size)) ?_;intro v1 w3 cI bW _ _);go_roundw
    case rel=>exact ⟨k+1,_,Y,by go_num,ψ,cI,jP.fU bW dL,((dY.trans gX).trans eI).then bW⟩
    case measure=>exact μ
  .obtain rfl:k=n:=Y
   go_wp2
   go_ret;exact ⟨_,l,rfl,hl,hown,sk,dY⟩
theorem dF(c:Int)(w:World):
  Calls Tryz.prog 47 #[.int .i64 c] w λe w'=>e=.returned (.bool (Am c))/\w=w':=by
 by_cases h:0<=c
 all_goals
  go_enter Tryz.func47,Tryz.ntmps47
  go_wp2
  go_ret;exact ⟨ae (by unfold Am;first | (simp[h];done) | (rw[θ];rfl)),rfl⟩
theorem iT(s:ByteArray)(w:World)(hs:s.size<=1000000):
  Calls Tryz.prog 48 #[.string s] w λe w'=>e=.returned (.bool (du mT (bl s)))/\w=w':=by
 go_enter Tryz.func48,Tryz.ntmps48
 go_wp2
 go_loop [3] (λi=>∃k:Nat,k<=s.size/\i=.int .i64 k/\du mT ((bl s).drop k)=du mT (bl s)) (λi=>s.size - (intOf i).toNat)
 case atStart=>exact ⟨0,Nat.zero_le _,rfl,rfl⟩
 case round=>
  obtain ⟨k,hk,rfl,hrel⟩:=hrel;have HR:=Z hrel;clear hrel;by_cases hlt:k<s.size
  .have hdr:=Z (drop_byte s k hlt);by_cases h1:(s[k].toNat:Int)<48
   .go_wp2
    go_ret;exact ⟨ae (by rw[<-HR.out,hdr.out,mU (G3 Y)]),rfl⟩
   .by_cases h2:57<(s[k].toNat:Int)
    .go_wp2
     go_ret;exact ⟨ae (by rw[<-HR.out,hdr.out,mU (G3 Y)]),rfl⟩
    .go_wp2
     go_round
     case rel=>exact ⟨k+1,Y,by go_num,by rw[<-HR.out,hdr.out,pM (XL Y Y)]⟩
     case measure=>exact μ
  .obtain rfl:k=s.size:=Y
   go_wp2
   go_ret;exact ⟨ae (by rw[<-HR.out,ez];rfl),rfl⟩
theorem ir(s:ByteArray)(w:World)(hs:s.size<=1000000):
  Calls Tryz.prog 49 #[.string s] w λe w'=>e=.returned (.bool (du vT (bl s)))/\w=w':=by
 go_enter Tryz.func49,Tryz.ntmps49
 go_wp2
 go_loop [3] (λi=>∃k:Nat,k<=s.size/\i=.int .i64 k/\du vT ((bl s).drop k)=du vT (bl s)) (λi=>s.size - (intOf i).toNat)
 case atStart=>exact ⟨0,Nat.zero_le _,rfl,rfl⟩
 case round=>
  obtain ⟨k,hk,rfl,hrel⟩:=hrel;have HR:=Z hrel;clear hrel;by_cases hlt:k<s.size
  .have hdr:=Z (drop_byte s k hlt);by_cases h1:(s[k].toNat:Int)<48
   .by_cases h3:(s[k].toNat:Int)<65
    .go_wp2
     go_ret;exact ⟨ae (by rw[<-HR.out,hdr.out,mU (zy Y)]),rfl⟩
    .exfalso;omega
   .by_cases h2:57<(s[k].toNat:Int)
    .by_cases h3:(s[k].toNat:Int)<65
     .go_wp2
      go_ret;exact ⟨ae (by rw[<-HR.out,hdr.out,mU (zy Y)]),rfl⟩
     .by_cases h4:90<(s[k].toNat:Int)
      .go_wp2
       go_ret;exact ⟨ae (by rw[<-HR.out,hdr.out,mU (zy Y)]),rfl⟩
      .go_wp2
       go_round
       case rel=>exact ⟨k+1,Y,by go_num,by rw[<-HR.out,hdr.out,pM (NW Y)]⟩
       case measure=>exact μ
    .go_wp2
     go_round
     case rel=>exact ⟨k+1,Y,by go_num,by rw[<-HR.out,hdr.out,pM (NW Y)]⟩
     case measure=>exact μ
  .obtain rfl:k=s.size:=Y
   go_wp2
   go_ret;exact ⟨ae (by rw[<-HR.out,ez];rfl),rfl⟩
theorem CJ(s:ByteArray)(w:World)(hs:s.size<=1000000):
  Calls Tryz.prog 51 #[.string s] w λe w'=>e=.returned (.int .i64 (dx (bl s) 0))/\w=w':=by
 go_enter Tryz.func51,Tryz.ntmps51
 go_wp2
 go_loop [3,4] (λn i=>∃(k:Nat) (N:Int),k<=s.size/\i=.int .i64 k/\n=.int .i64 N/\0<=N/\N<97/\dx ((bl s).drop k) N=dx (bl s) 0) (λ_ i=>s.size - (intOf i).toNat)
 case atStart=>exact ⟨0,0,Nat.zero_le _,rfl,rfl,Y,Y,rfl⟩
 case round=>
  obtain ⟨k,N,hk,rfl,rfl,Lx,vY,hrel⟩:=hrel;have HR:=Z hrel;clear hrel;by_cases hlt:k<s.size
  .have hdr:=Z (drop_byte s k hlt);have tZ:=pE s[k];by_cases hd:(s[k].toNat:Int)<=57
   all_goals
    go_wp2
    go_round
    case rel=>exact ⟨k+1,_,Y,by go_num,rfl,Y,Y,by rw[<-HR.out,hdr.out];first|exact JJ hd (by unfold val;omega)|exact JK hd (by unfold val;omega)⟩
    case measure=>exact μ
  .obtain rfl:k=s.size:=Y;have hN:N=dx (bl s) 0:=by rw[<-HR.out,ez];rfl
   have HN:=Z hN;clear hN
   go_wp2
   go_ret;exact ⟨aC (by rw[HN.out]),rfl⟩
theorem G4(s:ByteArray)(w:World)(hs:s.size<=1000000):
  Calls Tryz.prog 53 #[.string s] w λe w'=>e=.returned (.int .u32 (Ki (bl s)))/\w=w':=by
 go_enter Tryz.func53,Tryz.ntmps53
 go_wp2
 go_loop [3,4] (λn i=>∃(k:Nat) (N:Int),k<=s.size/\i=.int .i64 k/\n=.int .u32 N/\0<=N/\N<4294967296/\wv ((bl s).drop k) N=wv (bl s) 4294967295) (λ_ i=>s.size - (intOf i).toNat)
 case atStart=>exact ⟨0,_,Nat.zero_le _,rfl,rfl,Y,Y,rfl⟩
 case round=>
  obtain ⟨k,N,hk,rfl,rfl,Lx,vY,hrel⟩:=hrel;have HR:=Z hrel;clear hrel;by_cases hlt:k<s.size
  .have hdr:=Z (drop_byte s k hlt);have tZ:=pE s[k]
   go_wp2
   obtain ⟨X,hX⟩:∃X,X=bits .xor .u32 N s[k].toNat:=⟨_,rfl⟩;have hXb:=ml .xor N s[k].toNat;rw[<-hX]at hXb|-;have HX:=Z hX;clear hX tZ
   go_loop [3,5] (λn i=>∃(j:Nat) (M:Int),j<=8/\i=.int .i64 j/\n=.int .u32 M/\0<=M/\M<4294967296/\jh (8-j) M=jh 8 X) (λ_ i=>8 - (intOf i).toNat)
   case atStart=>exact ⟨0,X,Y,rfl,rfl,Y,Y,rfl⟩
   case round=>
    obtain ⟨j,M,hj,rfl,rfl,LB,ud,hrel⟩:=hrel;have HI:=Z hrel;clear hrel;by_cases hlj:j<8
    .have YU:=Z (show 8-j=(8 - (j+1))+1 by omega)
     rcases hb:(bits .and .u32 M 1 == 1)
     .go_wp2
      go_round
      case rel=>exact ⟨j+1,M / 2,Y,by go_num,rfl,Y,Y,by rw[<-HI.out,YU.out,gZ,LC hb]⟩
      case measure=>exact μ
     .go_wp2
      go_round
      case rel=>exact ⟨j+1,_,Y,by go_num,rfl,(ml _ _ _).1,(ml _ _ _).2,by rw[<-HI.out,YU.out,gZ,FU hb]⟩
      case measure=>exact μ
    .obtain rfl:j=8:=Y
     go_wp2
     go_round
     case rel=>exact ⟨k+1,M,Y,by go_num,rfl,Y,Y,by rw[<-HR.out,hdr.out,wv,<-HX.out,<-HI.out];rfl⟩
     case measure=>exact μ
  .obtain rfl:k=s.size:=Y;have hN:N=wv (bl s) 4294967295:=by rw[<-HR.out,ez];rfl
   have HN:=Z hN;clear hN
   go_wp2
   go_ret;exact ⟨aC (by unfold Ki;rw[<-HN.out]),rfl⟩
theorem vr(s:ByteArray)(w:World)(hs:s.size<=1000000):
  Calls Tryz.prog 54 #[.string s] w λe w'=>e=.returned (.int .u8 (65+mj (bl s) 0 0))/\w=w':=by
 go_enter Tryz.func54,Tryz.ntmps54
 go_wp2
 have yF:=yG (bl s) 0 0 Y Y
 go_loop [3,4] (λn i=>∃(k:Nat) (N:Int),k<=s.size/\i=.int .i64 k/\n=.int .i64 N/\0<=N/\N<26/\mj ((bl s).drop k) k N=mj (bl s) 0 0) (λ_ i=>s.size - (intOf i).toNat)
 case atStart=>exact ⟨0,0,Nat.zero_le _,rfl,rfl,Y,Y,rfl⟩
 case round=>
  obtain ⟨k,N,hk,rfl,rfl,Lx,vY,hrel⟩:=hrel;have HR:=Z hrel;clear hrel;by_cases hlt:k<s.size
  .have hdr:=Z (drop_byte s k hlt);have tZ:=pE s[k];have hp:=rT s[k].toNat k Y tZ Y
   go_wp2
   go_round
   case rel=>exact ⟨k+1,(N+s[k].toNat*((k+1) % 26)) % 26,Y,by go_num,rfl,Y,Y,by rw[<-HR.out,hdr.out];rfl⟩
   case measure=>exact μ
  .obtain rfl:k=s.size:=Y;have hN:N=mj (bl s) 0 0:=by rw[<-HR.out,ez];rfl
   have HN:=Z hN;clear hN yF
   go_wp2
   go_ret;exact ⟨aC (by rw[HN.out]),rfl⟩
theorem CK(x:Int)(w:World)(h0:0<=x)(h1:x<4294967296):
  Calls Tryz.prog 52 #[.int .u32 x] w λe w'=>e=.returned (.string (bs (ky 8 x)))/\Below w.heap.size w w':=by
 obtain ⟨i0,hi,hz0,hz1,hz2⟩:=info_parts kt
 go_enter Tryz.func52,Tryz.ntmps52
 go_wp2
 go_loopw [3,4] (λv i wr=>∃(m:Nat) (l:List UInt8),m<=8/\i=.int .i64 (4*(m:Int) - 4)/\OB 5 w.heap.size v l wr/\l.length+m=8/\Below w.heap.size w wr/\l++ky m x=ky 8 x) (λ_ i _=>(intOf i+4).toNat)
 case atStart=>exact ⟨8,[],Y,rfl,OB.km _ _ _,rfl,υ,rfl⟩
 case round=>
  obtain ⟨m,l,hm,rfl,hown,hl,aT,hrel⟩:=hrel;have HR:=Z hrel;clear hrel;rcases m with _|m
  .obtain ⟨A,n,c,rfl⟩:∃A n c,u3=.slice A n c:=hown.aaA;have hcv:=hown.conv Tryz.underlying28 Tryz.underlying5 Tryz.underlying9
   go_wp2
   go_ret;exact ⟨tk (by rw[<-HR.out];simp[ky]),aT⟩
  .obtain ⟨y,hy⟩:=ν (bits .and .u32 (x / 2 ^ (4*(m+1) - 4)) 15);have Di:y=x / 2 ^ (4*m) % 16:=by rw[<-hy,Tu (yH _ h0 h1).1 (yH _ h0 h1).2];rfl
   have YV:0<=y:=Y;have K9:y<16:=Y;have HY:=Z Di;clear Di;have Dj:=FV .u32 y YV K9;go_wp2_with (at_builtin;refine qN Tryz.underlying28 hi hz0 hz1 hz2 _ _ _ _ _ (D4 y) _ rfl rfl rfl rfl hown rfl Y aT.size ?_;intro v1 w1 hown1 hb1 _ _);go_roundw
   case rel=>exact ⟨m,l++[D4 y],Y,by go_num,hown1,ψ,aT.trans (hb1.mono I),by rw[<-HR.out,ky,<-HY.out];simp⟩
   case measure=>exact μ
theorem vt(s:ByteArray)(w:World)(hs:s.size<=1000000):
  Calls Tryz.prog 50 #[.string s] w λe w'=>e=.returned (.bool (mH (bl s)))/\w=w':=by
 by_cases h2:s.size<2
 .go_enter Tryz.func50,Tryz.ntmps50
  go_wp2
  go_ret;exact ⟨ae (by unfold mH;rw[decide_eq_false (by rw[aE];omega)];rfl),rfl⟩
 .rcases hd:du mT (bl s)
  .go_enter Tryz.func50,Tryz.ntmps50
   go_wp2_with (go_at_call 48;refine (iT _ _ hs).mono ?_;rintro e w' ⟨rfl,rfl⟩);go_ret;exact ⟨ae (by unfold mH;rw[hd];simp),rfl⟩
  .go_enter Tryz.func50,Tryz.ntmps50
   go_wp2_with (go_at_call 48;refine (iT _ _ hs).mono ?_;rintro e w' ⟨rfl,rfl⟩);have Hd:=Z hd;clear hd
   go_loop [3,4] (λn i=>∃(k:Nat) (N:Int),k<=s.size/\i=.int .i64 k/\n=.int .i64 N/\0<=N/\N<=512*k/\jl ((bl s).reverse.drop k) k N=jl (bl s).reverse 0 0) (λ_ i=>s.size - (intOf i).toNat)
   case atStart=>exact ⟨0,0,Nat.zero_le _,rfl,rfl,Y,Y,rfl⟩
   case round=>
    obtain ⟨k,N,hk,rfl,rfl,Lx,vY,hrel⟩:=hrel;have HR:=Z hrel;clear hrel;by_cases hlt:k<s.size
    .have hdr:=Z (NY s k hlt);obtain ⟨u,c,Pj,lD,lW,lY,Dj⟩:=mM Tryz.underlying9 s (s.size - 1-k) Y .i64 ((s.size:Int) - 1-k) Y;by_cases hev:(k:Int) % 2=1
     .by_cases hd:9<(c - 48) % 256*2
      all_goals
       go_wp2
       go_round
       case rel=>exact ⟨k+1,_,Y,by go_num,rfl,Y,Y,by rw[<-HR.out,hdr.out,<-Pj.out]; exact vv lD.out (by rw[if_pos Y]; unfold Ph val; split <;> omega)⟩
       case measure=>exact μ
     .go_wp2
      go_round
      case rel=>exact ⟨k+1,_,Y,by go_num,rfl,Y,Y,by rw[<-HR.out,hdr.out,<-Pj.out];exact vv lD.out (by rw[if_neg Y];unfold val;omega)⟩
      case measure=>exact μ
    .obtain rfl:k=s.size:=Y;have hN:N=jl (bl s).reverse 0 0:=by rw[<-HR.out,List.drop_eq_nil_of_le (by rw[List.length_reverse,aE];exact I)];rfl
     have HN:=Z hN;clear hN
     go_wp2
     go_ret;exact ⟨ae (by unfold mH;rw[Hd.out,<-HN.out,decide_eq_true (by rw[aE];omega)];rfl),rfl⟩
theorem j5{c:Int}{s:ByteArray}{r:ByteArray}(hv:Am c=true)(hs:s.size<=65536)(hp:G5 c (bl s)=true)(h:r=bs (bl s++qu c (bl s))):
  Ending.returned (.tuple #[.string r,.int .i64 0])=.returned (.tuple #[.string (bs (jD c (bl s)).1),.int .i64 (jD c (bl s)).2]):=by
 unfold jD;rw[hv,hp,if_neg O,if_neg (by rw[aE];omega),if_neg O,h]
theorem zA{c:Int}{s:ByteArray}(hv:Am c=true)(hs:s.size<=65536)(hp:G5 c (bl s)=false):
  Ending.returned (.tuple #[.string ⟨#[]⟩,.int .i64 4])=.returned (.tuple #[.string (bs (jD c (bl s)).1),.int .i64 (jD c (bl s)).2]):=by
 unfold jD;rw[hv,hp,if_neg O,if_neg (by rw[aE];omega),if_pos rfl];rfl
theorem XM(s:ByteArray)(w:World)(hs:s.size<=65536)(hz:¬s.size=0)(hp:du mT (bl s)=true):
  Calls Tryz.prog 25 #[.int .i64 1,.string s] w λe w'=>e=.returned (.tuple #[.string (bs (jD 1 (bl s)).1),.int .i64 (jD 1 (bl s)).2])/\Below w.heap.size w w':=by
 have hv:Am 1=true:=rfl;have Qz:=Z ((G6 hz).trans hp);have hz0:((s.size:Int) == 0)=false:=beq_eq_false_iff_ne.2 Y
 go_enter Tryz.func25,Tryz.ntmps25
 go_wp2_with (first | (go_at_call 47;refine (dF _ _).mono ?_;rintro e w' ⟨rfl,rfl⟩) | (go_at_call 48;refine (iT _ _ Y).mono ?_;rintro e w' ⟨rfl,rfl⟩));have HP:=Z hp;clear hp;go_loopw [6] (λd wr=>∃j:Nat,j<=9/\d=.int .u8 (48+(j:Int))/\Below w.heap.size w wr/\kY (9-j) (bl s)=kY 9 (bl s)) (λd _=>(57-intOf d).toNat)
 case atStart=>exact ⟨0,Y,rfl,υ,rfl⟩
 case round=>
  obtain ⟨j,hj,rfl,aT,hrel⟩:=hrel;have HR:=Z hrel;clear hrel;by_cases hlt:j<9
  .obtain ⟨u,hu⟩:=ν (UInt8.ofNat (48+j));have hcv:=λw=>fh (P:=Tryz.prog) Tryz.underlying28 Tryz.underlying5 Tryz.underlying9 [u] [.int .u8 (48+(j:Int))] (by rw[<-hu];simp only[List.map];rw[<-iU (48+j) Y];simp) 1 1 rfl w
   have ajl:∀(W:World) (o:Obj),_:=λW o=>Ia (P:=Tryz.prog) Tryz.underlying28 Tryz.underlying5 Tryz.underlying9 [u] [.int .u8 (48+(j:Int))] (by rw[<-hu];simp only[List.map];rw[<-iU (48+j) Y];simp) 1 1 rfl W o
   have h56:UInt8.ofNat (56 - (8-j))=u:=by rw[<-hu];congr 1;omega
   have Hu:=Z h56;clear hu h56;have qM:=CL u;have hsz:(s++bs [u]).size<=1000000:=by rw[ByteArray.size_append,qM];omega
   have Up:=Z (show 9-j=(8-j)+1 by omega)
   rcases hq:mH (bl (s++bs [u]))
   .have TV:=Z (NZ s [u]▸hq);go_wp2_with (go_at_call 50;refine (vt _ _ hsz).mono ?_;rintro e w' ⟨rfl,rfl⟩);go_roundw
    case rel=>exact ⟨j+1,Y,by go_num,aT.alloc aT.size _,by rw[<-HR.out,Up.out,JL (by rw[Hu.out];exact TV.out)];congr 1;omega⟩
    case measure=>exact μ
   .have TV:=Z (NZ s [u]▸hq);have bM:=Z (show s++bs [u]=bs (bl s++qu 1 (bl s)) by rw[mE];unfold qu;rw[if_pos rfl,<-HR.out,Up.out,Fm (by rw[Hu.out];exact TV.out),Hu.out])
    go_wp2_with (go_at_call 50;refine (vt _ _ hsz).mono ?_;rintro e w' ⟨rfl,rfl⟩)
    go_ret2
    exact ⟨j5 hv hs Qz.out bM.out,(aT.alloc aT.size _).alloc ((aT.alloc aT.size _).size) _⟩
  .obtain rfl:j=9:=Y;have bM:=Z (show s++⟨#[57]⟩=bs (bl s++qu 1 (bl s)) by rw[show (⟨#[57]⟩:ByteArray)=bs [57] from rfl,mE];unfold qu;rw[if_pos rfl,<-HR.out];rfl)
   go_wp2
   go_ret2
   exact ⟨j5 hv hs Qz.out bM.out,aT⟩
theorem XN(s:ByteArray)(w:World)(hs:s.size<=65536)(hz:¬s.size=0)(hp:du vT (bl s)=true):
  Calls Tryz.prog 25 #[.int .i64 2,.string s] w λe w'=>e=.returned (.tuple #[.string (bs (jD 2 (bl s)).1),.int .i64 (jD 2 (bl s)).2])/\Below w.heap.size w w':=by
 have hv:Am 2=true:=rfl;have Qz:=Z ((G7 hz).trans hp);have hz0:((s.size:Int) == 0)=false:=beq_eq_false_iff_ne.2 Y;have hsz:(s++⟨#[48,48]⟩:ByteArray).size<=1000000:=by rw[ByteArray.size_append];exact Nat.le_trans (Nat.add_le_add_right hs 2) O
 obtain ⟨Lx,vY⟩:=yg (bl (s++⟨#[48,48]⟩)) 0 Y Y;obtain ⟨N,hN⟩:=ν (dx (bl (s++⟨#[48,48]⟩)) 0);rw[hN]at Lx vY;have hcv:=λw=>fh (P:=Tryz.prog) Tryz.underlying28 Tryz.underlying5 Tryz.underlying9 [UInt8.ofNat (48+(98-N) / 10).toNat,UInt8.ofNat (48+(98-N) % 10).toNat] [.int .u8 (48+(98-N) / 10),.int .u8 (48+(98-N) % 10)] (by simp only[List.map];rw[<-iU _ Y,<-iU _ Y,Int.toNat_of_nonneg Y,Int.toNat_of_nonneg Y]) 2 2 rfl w
 have bM:=Z (show s++bs [UInt8.ofNat (48+(98-N) / 10).toNat,UInt8.ofNat (48+(98-N) % 10).toNat]=bs (bl s++qu 2 (bl s)) by rw[mE];unfold qu R5;rw[if_neg O,if_pos rfl,show dx (bl s++[48,48]) 0=N from XO s [48,48]▸hN])
 have vN:(bs [UInt8.ofNat (48+(98-N) / 10).toNat,UInt8.ofNat (48+(98-N) % 10).toNat]).size=2:=rfl;generalize bs [UInt8.ofNat (48+(98-N) / 10).toNat,UInt8.ofNat (48+(98-N) % 10).toNat]=t at hcv bM vN
 go_enter Tryz.func25,Tryz.ntmps25
 go_wp2_with (first | (go_at_call 47;refine (dF _ _).mono ?_;rintro e w' ⟨rfl,rfl⟩) | (go_at_call 49;refine (ir _ _ Y).mono ?_;rintro e w' ⟨rfl,rfl⟩) | (go_at_call 51;refine (CJ _ _ hsz).mono ?_;rintro e w' ⟨rfl,rfl⟩))
 go_ret2
 exact ⟨j5 hv hs Qz.out bM.out,(Below.refl _ w).alloc I _⟩
theorem XP(s:ByteArray)(w:World)(hs:s.size<=65536)(hz:¬s.size=0):
  Calls Tryz.prog 25 #[.int .i64 3,.string s] w λe w'=>e=.returned (.tuple #[.string (bs (jD 3 (bl s)).1),.int .i64 (jD 3 (bl s)).2])/\Below w.heap.size w w':=by
 have hv:Am 3=true:=rfl;have hz0:((s.size:Int) == 0)=false:=beq_eq_false_iff_ne.2 Y;have tZ:=Z (D5 (bl s));have YU:(bs (ky 8 (Ki (bl s)))).size=8:=by rw[df,vw]
 have bM:=Z (show s++bs (ky 8 (Ki (bl s)))=bs (bl s++qu 3 (bl s)) by rw[mE];rfl)
 go_enter Tryz.func25,Tryz.ntmps25
 go_wp2_with (first | (go_at_call 47;refine (dF _ _).mono ?_;rintro e w' ⟨rfl,rfl⟩) | (go_at_call 53;refine (G4 _ _ Y).mono ?_;rintro e w' ⟨rfl,rfl⟩) | (go_at_call 52;refine (CK _ _ tZ.out.1 tZ.out.2).mono ?_;rintro e w3 ⟨rfl,bW⟩))
 go_ret2
 exact ⟨j5 hv hs (R6 hz) bM.out,bW⟩
theorem XQ(s:ByteArray)(w:World)(hs:s.size<=65536)(hz:¬s.size=0):
  Calls Tryz.prog 25 #[.int .i64 4,.string s] w λe w'=>e=.returned (.tuple #[.string (bs (jD 4 (bl s)).1),.int .i64 (jD 4 (bl s)).2])/\Below w.heap.size w w':=by
 have hv:Am 4=true:=rfl;have hz0:((s.size:Int) == 0)=false:=beq_eq_false_iff_ne.2 Y;obtain ⟨Lx,vY⟩:=yG (bl s) 0 0 Y Y;have bM:∀N,mj (bl s) 0 0=N->s++bs [UInt8.ofNat (65+N).toNat]=bs (bl s++qu 4 (bl s)):=by rintro N rfl;rw[mE];rfl
 obtain ⟨N,hN⟩:=ν (mj (bl s) 0 0);rw[hN]at Lx vY;have bM:=Z (bM N hN);have hcv:=λw=>fh (P:=Tryz.prog) Tryz.underlying28 Tryz.underlying5 Tryz.underlying9 [UInt8.ofNat (65+N).toNat] [.int .u8 (65+N)] (by simp only[List.map];rw[<-iU _ Y,Int.toNat_of_nonneg Y]) 1 1 rfl w
 generalize UInt8.ofNat (65+N).toNat=u at hcv bM;have qM:=CL u
 go_enter Tryz.func25,Tryz.ntmps25
 go_wp2_with (first | (go_at_call 47;refine (dF _ _).mono ?_;rintro e w' ⟨rfl,rfl⟩) | (go_at_call 54;refine (vr _ _ Y).mono ?_;rintro e w' ⟨rfl,rfl⟩))
 go_ret2
 exact ⟨j5 hv hs (R7 hz) bM.out,(Below.refl _ w).alloc I _⟩
theorem zB(c:Int)(s:ByteArray)(w:World)(hs:s.size<=1000000):
  Calls Tryz.prog 25 #[.int .i64 c,.string s] w λe w'=>e=.returned (.tuple #[.string (bs (jD c (bl s)).1),.int .i64 (jD c (bl s)).2])/\Below w.heap.size w w':=by
 rcases hv:Am c
 .go_enter Tryz.func25,Tryz.ntmps25
  go_wp2_with (go_at_call 47;refine (dF _ _).mono ?_;rintro e w' ⟨rfl,rfl⟩)
  go_ret2
  exact ⟨by unfold jD;rw[hv];rfl,υ⟩
 by_cases hl:65536<s.size
 .go_enter Tryz.func25,Tryz.ntmps25
  go_wp2_with (go_at_call 47;refine (dF _ _).mono ?_;rintro e w' ⟨rfl,rfl⟩)
  go_ret2
  exact ⟨by unfold jD;rw[hv,if_neg O,if_pos (by rw[aE];exact hl)];rfl,υ⟩
 have hc:=JM hv;by_cases h0:c=0
 .subst h0;have bM:=Z (show s=bs (bl s++qu 0 (bl s)) by unfold qu;simp;rfl)
  go_enter Tryz.func25,Tryz.ntmps25
  go_wp2_with (go_at_call 47;refine (dF _ _).mono ?_;rintro e w' ⟨rfl,rfl⟩)
  go_ret2
  exact ⟨j5 hv Y rfl bM.out,υ⟩
 by_cases hz:s.size=0
 .have hz0:((s.size:Int) == 0)=true:=beq_iff_eq.2 Y;have hp:=Sa hz h0;have HZ:=Z hz;clear hz
  go_enter Tryz.func25,Tryz.ntmps25
  go_wp2_with (go_at_call 47;refine (dF _ _).mono ?_;rintro e w' ⟨rfl,rfl⟩)
  go_ret2
  exact ⟨zA hv Y hp,υ⟩
 have hz0:((s.size:Int) == 0)=false:=beq_eq_false_iff_ne.2 Y;rcases hc with rfl|rfl|rfl|rfl|rfl
 .exact absurd rfl h0
 .rcases hp:du mT (bl s)
  .have Qz:=(G6 hz).trans hp
   go_enter Tryz.func25,Tryz.ntmps25
   go_wp2_with (first | (go_at_call 47;refine (dF _ _).mono ?_;rintro e w' ⟨rfl,rfl⟩) | (go_at_call 48;refine (iT _ _ Y).mono ?_;rintro e w' ⟨rfl,rfl⟩))
   go_ret2
   exact ⟨zA hv Y Qz,υ⟩
  .exact XM s w Y hz hp
 .rcases hp:du vT (bl s)
  .have Qz:=(G7 hz).trans hp
   go_enter Tryz.func25,Tryz.ntmps25
   go_wp2_with (first | (go_at_call 47;refine (dF _ _).mono ?_;rintro e w' ⟨rfl,rfl⟩) | (go_at_call 49;refine (ir _ _ Y).mono ?_;rintro e w' ⟨rfl,rfl⟩))
   go_ret2
   exact ⟨zA hv Y Qz,υ⟩
  .exact XN s w Y hz hp
 .exact XP s w Y hz
 .exact XQ s w Y hz
theorem vz(c:UInt8):∀(a:List UInt8) (i:Nat) (n:Int),jl (a++[c]) i n=jl a i n+if (i+a.length) % 2=1 then Ph (val c.toNat 48) else val c.toNat 48
 | [],i,n=>by simp[jl]
 |d::r,i,n=>by
  rw[List.cons_append,jl,vz c r (i+1),jl,List.length_cons,show i+1+r.length=i+(r.length+1) by omega]
theorem rD:∀(l:List UInt8) (n:Int),gu l n=n+gu l 0
 | [],n=>by simp[gu]
 |c::r,n=>by
  rw[gu,gu,rD r,rD r (0+_)];omega
theorem G8:∀l:List UInt8,gu l 0=jl l.reverse 0 0
 | []=>rfl
 |c::r=>by
  rw[gu,rD,List.reverse_cons,vz,G8 r,List.length_reverse];by_cases h:(r.length+1) % 2=0
  .rw[if_pos h,if_pos Y];omega
  .rw[if_neg h,if_neg Y];omega
theorem XR(l:List UInt8):ue l=mH l:=by unfold ue mH;rw[G8]
theorem CM:∀(l:List UInt8) (n:Int),du vT l=true->fQ l n=dx l n
 | [],_,_=>rfl
 |c::r,n,h=>by
  simp only[du,Bool.and_eq_true]at h;rw[fQ,dx,CM r _ h.2]
  congr 1
  unfold m97;rcases hd:mT c.toNat
  .have h1:=h.1;have:=XS hd;simp only[vT,hd,Bool.false_or,cap,Bool.and_eq_true,decide_eq_true_eq]at h1;rw[if_neg O,if_neg Y]
  .have:=Sb hd;rw[if_pos rfl,if_pos Y]
theorem aeq(l:List UInt8):Bn l=Fo l:=by
 unfold Bn Fo;rcases h:du vT l
 .simp
 .rw[CM _ _ h]
theorem aer(c:Int)(l:List UInt8):DC c l=Sc c l:=by unfold DC Sc;rw[XR,aeq]
theorem Fp(s:ByteArray)(w:World)(hs:s.size<=1000000):
  Calls Tryz.prog 63 #[.string s] w λe w'=>e=.returned (.bool (Fo (bl s)))/\w=w':=by
 by_cases h2:s.size<3
 .go_enter Tryz.func63,Tryz.ntmps63
  go_wp2
  go_ret;exact ⟨ae (by unfold Fo;rw[decide_eq_false (by rw[aE];omega)];rfl),rfl⟩
 .rcases hd:du vT (bl s)
  .go_enter Tryz.func63,Tryz.ntmps63
   go_wp2_with (go_at_call 49;refine (ir _ _ hs).mono ?_;rintro e w1 ⟨rfl,rfl⟩);go_ret;exact ⟨ae (by unfold Fo;rw[hd];simp),rfl⟩
  .have hsz:(s.extract (s.size - 2) s.size).size<=1000000:=by rw[ByteArray.size_extract];omega
   have H2:=Z (oq s);rcases kc:du mT (bl (s.extract (s.size - 2) s.size))
   all_goals
    go_enter Tryz.func63,Tryz.ntmps63
    go_wp2_with (first | (go_at_call 49;refine (ir _ _ hs).mono ?_;rintro e w1 ⟨rfl,rfl⟩) | (go_at_call 48;refine (iT _ _ hsz).mono ?_;rw[kc];rintro e w2 ⟨rfl,rfl⟩) | (go_at_call 51;refine (CJ _ _ hs).mono ?_;rintro e w3 ⟨rfl,rfl⟩));go_ret;exact ⟨ae (by unfold Fo;rw[hd,<-H2.out,kc];first | (simp;done) | (rw[decide_eq_true (by rw[aE];omega)];rfl)),rfl⟩
theorem Fq(s:ByteArray)(w:World)(hs:s.size<=1000000):
  Calls Tryz.prog 31 #[.int .i64 3,.string s] w λe w'=>e=.returned (.bool (Bo (bl s)))/\Below w.heap.size w w':=by
 by_cases h9:s.size<9
 .have hd:decide ((9:Int)<=s.size)=false:=θ
  go_enter Tryz.func31,Tryz.ntmps31
  go_wp2_with fail;refine aq (Below.refl w w) κ κ ?_
  repeat (go_big_quiet_step (fail))
  refine wpQuiet_nil ?_;intro _ hw';obtain ⟨⟨w2,ew⟩,rfl⟩:=hw'
  go_wp2
  go_ret;exact ⟨ae (FW h9).symm,ew⟩
 .have hd:decide ((9:Int)<=s.size)=true:=τ;have hsz:(s.extract 0 (s.size - 8)).size<=1000000:=by rw[ByteArray.size_extract];omega
  have tZ:=Z (D5 (bl (s.extract 0 (s.size - 8))))
  go_enter Tryz.func31,Tryz.ntmps31
  go_wp2_with fail;refine aq (Below.refl w w) κ κ ?_
  repeat (go_big_quiet_step (first | (go_at_call 53;exact Calls.kq (G4 _ _ hsz)) | (go_at_call 52;exact Calls.bZ I (CK _ _ tZ.out.1 tZ.out.2))))
  refine wpQuiet_nil ?_;intro _ hw';obtain ⟨⟨w2,ew⟩,rfl⟩:=hw'
  go_wp2
  go_ret;exact ⟨ae (FX h9),ew⟩
theorem Fs(s:ByteArray)(w:World)(hs:s.size<=1000000):
  Calls Tryz.prog 31 #[.int .i64 4,.string s] w λe w'=>e=.returned (.bool (Bp (bl s)))/\Below w.heap.size w w':=by
 by_cases h9:s.size<2
 .have hd:decide ((2:Int)<=s.size)=false:=θ
  go_enter Tryz.func31,Tryz.ntmps31
  go_wp2_with fail;refine aq (Below.refl w w) κ κ ?_
  repeat (go_big_quiet_step (fail))
  refine wpQuiet_nil ?_;intro _ hw';obtain ⟨⟨w2,ew⟩,rfl⟩:=hw'
  go_wp2
  go_ret;exact ⟨ae (FY h9).symm,ew⟩
 .have hd:decide ((2:Int)<=s.size)=true:=τ;have hsz:(s.extract 0 (s.size - 1)).size<=1000000:=by rw[ByteArray.size_extract];omega
  obtain ⟨u,c,Pj,lD,lW,lY,Dj⟩:=mM Tryz.underlying9 s (s.size - 1) Y .i64 ((s.size:Int) - 1) Y
  go_enter Tryz.func31,Tryz.ntmps31
  go_wp2_with fail;refine aq (Below.refl w w) κ κ ?_
  repeat (go_big_quiet_step (first | (go_at_call 54;exact Calls.kq (vr _ _ hsz))))
  refine wpQuiet_nil ?_;intro _ hw';obtain ⟨⟨w2,ew⟩,rfl⟩:=hw'
  go_wp2
  go_ret;exact ⟨ae (FZ h9 u c Pj.out lD.out),ew⟩
theorem JN(c:Int)(s:ByteArray)(w:World)(hs:s.size<=1000000):
  Calls Tryz.prog 31 #[.int .i64 c,.string s] w λe w'=>e=.returned (.bool (Sc c (bl s)))/\Below w.heap.size w w':=by
 by_cases h0:c=0
 .subst h0
  go_enter Tryz.func31,Tryz.ntmps31
  go_wp2
  go_ret;exact ⟨rfl,υ⟩
 by_cases h1:c=1
 .subst h1
  go_enter Tryz.func31,Tryz.ntmps31
  go_wp2_with (go_at_call 50;refine (vt _ _ hs).mono ?_;rintro e w1 ⟨rfl,rfl⟩);go_ret;exact ⟨rfl,υ⟩
 by_cases h2:c=2
 .subst h2
  go_enter Tryz.func31,Tryz.ntmps31
  go_wp2_with (go_at_call 63;refine (Fp _ _ hs).mono ?_;rintro e w1 ⟨rfl,rfl⟩);go_ret;exact ⟨rfl,υ⟩
 by_cases h3:c=3
 .subst h3;exact Fq s w hs
 by_cases h4:c=4
 .subst h4;exact Fs s w hs
 .go_enter Tryz.func31,Tryz.ntmps31
  go_wp2
  go_ret;exact ⟨ae (by unfold Sc;simp only[h0,h1,h2,h3,h4,if_false]),υ⟩
def uy(a b:Int):Int:=if a<b then -1 else if b<a then 1 else 0
theorem yS(a:Int)(w:World):Calls Tryz.prog 107 #[.int .i64 a] w λe w'=>e=.returned (.bool false)/\w=w':=by
 go_enter Tryz.func107,Tryz.ntmps107
 go_wp2
 go_ret;exact ⟨rfl,rfl⟩
theorem yT(a b:Int)(w:World):Calls Tryz.prog 80 #[.int .i64 a,.int .i64 b] w λe w'=>e=.returned (.int .i64 (uy a b))/\w=w':=by
 unfold uy;by_cases h1:a<b
 .rw[if_pos h1]
  go_enter Tryz.func80,Tryz.ntmps80
  go_wp2_with (go_at_call 107;refine (yS _ _).mono ?_;rintro e w1 ⟨rfl,rfl⟩);go_ret;exact ⟨rfl,rfl⟩
 .rw[if_neg h1];by_cases h2:b<a
  .rw[if_pos h2]
   go_enter Tryz.func80,Tryz.ntmps80
   go_wp2_with (go_at_call 107;refine (yS _ _).mono ?_;rintro e w1 ⟨rfl,rfl⟩);go_ret;exact ⟨rfl,rfl⟩
  .rw[if_neg h2]
   go_enter Tryz.func80,Tryz.ntmps80
   go_wp2_with (go_at_call 107;refine (yS _ _).mono ?_;rintro e w1 ⟨rfl,rfl⟩);go_ret;exact ⟨rfl,rfl⟩
def PC(b:Nat)(w:World)(v:Value):Prop:=∃g f n c,v=.slice (some ⟨g,f,none⟩) n c/\1<=n/\n<=1000/\b<g/\g<w.heap.size/\
 ∀j<n,∃lo hi:Int,w.cell? ⟨g,f+j*2,none⟩=some (.int .u8 lo)/\w.cell? ⟨g,f+j*2+1,none⟩=some (.int .u8 hi)/\0<=lo/\lo<=hi/\hi<256
def zk(b:Nat)(w:World)(G:List Value->Prop)(n:Nat)(v:Value):Prop:=∃g f c,v=.slice (some ⟨g,f,none⟩) n c/\b<g/\g<w.heap.size/\n<=1000/\
 ∀j<n,∃u0 u1 u2 u3 u4,w.cell? ⟨g,f+j*5,none⟩=some u0/\w.cell? ⟨g,f+j*5+1,none⟩=some u1/\w.cell? ⟨g,f+j*5+2,none⟩=some u2/\w.cell? ⟨g,f+j*5+3,none⟩=some u3/\w.cell? ⟨g,f+j*5+4,none⟩=some u4/\G [u0,u1,u2,u3,u4]
def Sl(v:Value):Prop:=∃A n c,v=.slice A n c
theorem Sl.of(A:Option Addr)(n c:Nat):Sl (.slice A n c):=⟨A,n,c,rfl⟩
def jZ(b:Nat)(w:World):Nat->Nat->List Value->Prop
 |0,_,_=>False
 |d+1,m,vs=>∃v1 v2 mn mx,(Sl v1/\Sl v2)/\((vs=[.int .i64 1,v1,v2,.int .i64 mn,.int .i64 mx]/\PC b w v1/\1<=m)\/
   (vs=[.int .i64 2,v1,v2,.int .i64 mn,.int .i64 mx]/\∃n m',zk b w (jZ b w d m') n v2/\n*m'<=m)\/
   (vs=[.int .i64 3,v1,v2,.int .i64 mn,.int .i64 mx]/\∃n,zk b w (jZ b w d m) n v2/\1<=n)\/
   (vs=[.int .i64 4,v1,v2,.int .i64 mn,.int .i64 mx]/\∃n m',zk b w (jZ b w d m') n v2/\1<=n/\0<=mn/\mn<=mx/\(1<=mx/\mx<=1000)/\mx.toNat*m'<=m))
def ai(b:Nat)(w w':World):Prop:=w.heap.size<=w'.heap.size/\∀k,b<k->k<w.heap.size->w'.heap[k]?=w.heap[k]?
theorem ai.refl(b:Nat)(w:World):ai b w w:=⟨I,λ_ _ _=>rfl⟩
theorem ai.trans{b:Nat}{w w1 w2:World}(h:ai b w w1)(h':ai b w1 w2):ai b w w2:=⟨Nat.le_trans h.1 h'.1,λk hk hlt=>(h'.2 k hk (Nat.lt_of_lt_of_le hlt h.1)).trans (h.2 k hk hlt)⟩
theorem ai.dO{b:Nat}{w w':World}(h:Fr b w w'):ai b w w':=⟨h.size,λk hk hlt=>h.block k hlt (by intro e;injection e;omega)⟩
theorem ai.aa{b:Nat}{w w':World}(h:Below w.heap.size w w'):ai b w w':=⟨h.size,λk _ hlt=>h.block k hlt⟩
theorem ai.cell{b:Nat}{w w':World}(h:ai b w w'){g j:Nat}(hg:b<g)(hlt:g<w.heap.size):w'.cell? ⟨g,j,none⟩=w.cell? ⟨g,j,none⟩:=χ g j (h.2 g hg hlt)
theorem PC.later{b:Nat}{w w':World}{v:Value}(h:PC b w v)(hs:ai b w w'):PC b w' v:=by
 obtain ⟨g,f,n,c,rfl,h1,h2,h3,h4,h5⟩:=h;refine ⟨g,f,n,c,rfl,h1,h2,h3,Nat.lt_of_lt_of_le h4 hs.1,λj hj=>?_⟩;obtain ⟨lo,hi,q1,q2,r⟩:=h5 j hj;exact ⟨lo,hi,(hs.cell h3 h4).trans q1,(hs.cell h3 h4).trans q2,r⟩
theorem zk.later{b:Nat}{w w':World}{G G':List Value->Prop}{n:Nat}{v:Value}(h:zk b w G n v)(hs:ai b w w')(hG:∀us,G us->G' us):zk b w' G' n v:=by
 obtain ⟨g,f,c,rfl,h3,h4,h2,h5⟩:=h;refine ⟨g,f,c,rfl,h3,Nat.lt_of_lt_of_le h4 hs.1,h2,λj hj=>?_⟩;obtain ⟨u0,u1,u2,u3,u4,q0,q1,q2,q3,q4,hg⟩:=h5 j hj;exact ⟨u0,u1,u2,u3,u4,(hs.cell h3 h4).trans q0,(hs.cell h3 h4).trans q1,(hs.cell h3 h4).trans q2,(hs.cell h3 h4).trans q3,(hs.cell h3 h4).trans q4,hG _ hg⟩
theorem jZ.later{b:Nat}{w w':World}(hs:ai b w w'):∀{d m:Nat} {vs:List Value},jZ b w d m vs->jZ b w' d m vs
 |0,_,_,h=>h
 |d+1,m,vs,⟨v1,v2,mn,mx,hsl,h⟩=>by
  refine ⟨v1,v2,mn,mx,hsl,?_⟩;rcases h with ⟨h1,h2,h3⟩|⟨h1,n,m',h2,h3⟩|⟨h1,n,h2,h3⟩|⟨h1,n,m',h2,h3⟩
  .exact .inl ⟨h1,h2.later hs,h3⟩
  .exact .inr (.inl ⟨h1,n,m',h2.later hs (λus=>jZ.later hs),h3⟩)
  .exact .inr (.inr (.inl ⟨h1,n,h2.later hs (λus=>jZ.later hs),h3⟩))
  .exact .inr (.inr (.inr ⟨h1,n,m',h2.later hs (λus=>jZ.later hs),h3⟩))
def aeh(b d m:Nat)(w:World)(e:Ending)(w':World):Prop:=∃A B n n' c c' o mn mx,e=.returned (.agg #[.int .i64 o,.slice A n c,.slice B n' c',.int .i64 mn,.int .i64 mx])/\jZ b w' d m [.int .i64 o,.slice A n c,.slice B n' c',.int .i64 mn,.int .i64 mx]/\Below w.heap.size w w'
theorem jZ.mono{b:Nat}{w:World}:∀{d d' m m':Nat} {vs:List Value},d<=d'->m<=m'->jZ b w d m vs->jZ b w d' m' vs
 |0,_,_,_,_,_,_,h=>h.elim
 |d+1,0,_,_,_,hd,_,_=>Y
 |d+1,d'+1,m,m',vs,hd,hm,⟨v1,v2,mn,mx,hsl,h⟩=>by
  refine ⟨v1,v2,mn,mx,hsl,?_⟩;rcases h with ⟨h1,h2,h3⟩|⟨h1,n,k,h2,h3⟩|⟨h1,n,h2,h3⟩|⟨h1,n,k,h2,h3,h4,h5,h6,h7⟩
  .exact .inl ⟨h1,h2,Y⟩
  .exact .inr (.inl ⟨h1,n,k,h2.later (ai.refl _ _) (λus=>jZ.mono Y I),Y⟩)
  .exact .inr (.inr (.inl ⟨h1,n,h2.later (ai.refl _ _) (λus=>jZ.mono Y hm),h3⟩))
  .exact .inr (.inr (.inr ⟨h1,n,k,h2.later (ai.refl _ _) (λus=>jZ.mono Y I),h3,h4,h5,h6,Y⟩))
theorem zk.new{b:Nat}{w:World}{G:List Value->Prop}{us:List (List Value)}{cs:Array Value}{e:TypeId}{n c:Nat}(hb:b<w.heap.size)(hcs:cs=us.flatten.toArray)(h5:∀u∈us,u.length=5)(hG:∀u∈us,G u)(hn:n=us.length)(mX:n<=1000):
  zk b (w.alloc (.cells cs e)) G n (.slice (some ⟨w.heap.size,0,none⟩) n c):=by
 subst hn hcs;refine ⟨w.heap.size,0,c,rfl,hb,ξ,mX,λj hj=>?_⟩;have xh:∀(us:List (List Value)),(∀u∈us,u.length=5)->∀j (hj:j<us.length) i,i<5->us.flatten[j*5+i]?=(us[j])[i]?:=by
  intro us
  induction us with
  |nil=>intro _ j hj;simp at hj
  |cons a r ih=>
   intro h j hj i hi;have ha:=h a ξ
   match j,hj with
   |0,_=>rw[List.flatten_cons,List.getElem?_append_left Y];simp
   |j+1,hj=>
    rw[List.flatten_cons,List.getElem?_append_right Y,show (j+1)*5+i-a.length=j*5+i by omega,ih (λu hu=>h u (by simp[hu])) j (by simpa using hj) i hi]
    rfl
 have h:=xh us h5 j hj;have hu5:=h5 us[j] (List.getElem_mem hj);have hg:=hG us[j] (List.getElem_mem hj);generalize us[j]=u at *
 match u,hu5 with
 | [u0,u1,u2,u3,u4],_=>
  refine ⟨u0,u1,u2,u3,u4,?_,?_,?_,?_,?_,hg⟩
  .have:=h 0 Y;rw[World.cell?_alloc_mark];simpa using this
  .have:=h 1 Y;rw[World.cell?_alloc_mark,Nat.zero_add];simpa using this
  .have:=h 2 Y;rw[World.cell?_alloc_mark,Nat.zero_add];simpa using this
  .have:=h 3 Y;rw[World.cell?_alloc_mark,Nat.zero_add];simpa using this
  .have:=h 4 Y;rw[World.cell?_alloc_mark,Nat.zero_add];simpa using this
theorem PC.new{b:Nat}{w w':World}{g n c:Nat}{rs:List (Int×Int)}{e:TypeId}(hg:w'.heap[g]?=some (.cells (rs.flatMap λp=>[Value.int .u8 p.1,Value.int .u8 p.2]).toArray e (0,0)))(hb:b<g)(hn:n=rs.length)(h1:1<=n)(h2:n<=1000)(hr:∀p∈rs,0<=p.1/\p.1<=p.2/\p.2<256):PC b w' (.slice (some ⟨g,0,none⟩) n c):=by
 subst hn;refine ⟨g,0,_,c,rfl,h1,h2,hb,(γ hg).1,λj hj=>?_⟩;have xh:∀(rs:List (Int×Int)) j (hj:j<rs.length),(rs.flatMap λp=>[Value.int .u8 p.1,Value.int .u8 p.2])[j*2]?=some (.int .u8 (rs[j]).1)/\(rs.flatMap λp=>[Value.int .u8 p.1,Value.int .u8 p.2])[j*2+1]?=some (.int .u8 (rs[j]).2):=by
  intro rs
  induction rs with
  |nil=>intro j hj;simp at hj
  |cons a r ih=>
   intro j hj
   match j,hj with
   |0,_=>exact ⟨rfl,rfl⟩
   |j+1,hj=>
    obtain ⟨q1,q2⟩:=ih j (by simpa using hj)
    refine ⟨?_,?_⟩
    .rw[List.flatMap_cons,List.getElem?_append_right ψ,show (j+1)*2-[Value.int IntKind.u8 a.1,Value.int IntKind.u8 a.2].length=j*2 by simp;omega];exact q1
    .rw[List.flatMap_cons,List.getElem?_append_right ψ,show (j+1)*2+1-[Value.int IntKind.u8 a.1,Value.int IntKind.u8 a.2].length=j*2+1 by simp;omega];exact q2
 obtain ⟨q1,q2⟩:=xh rs j hj;refine ⟨(rs[j]).1,(rs[j]).2,?_,?_,hr _ (List.getElem_mem hj)⟩
 .rw[cell_of_row _ _ _ _ _ _ hg,Nat.zero_add];simpa using q1
 .rw[cell_of_row _ _ _ _ _ _ hg,Nat.zero_add];simpa using q2
def amj(b:Nat)(w:World)(e:Ending)(w':World):Prop:=∃g,e=.returned (.slice (some ⟨g,0,none⟩) 6 6)/\zk b w' (jZ b w' 4 18) 6 (.slice (some ⟨g,0,none⟩) 6 6)/\Below w.heap.size w w'
def wY(c:Nat):Nd:=.mk 1 [(c,c)] [] 0 0
def JU(rs:List (Nat×Nat))(mn mx:Int):Nd:=.mk 4 [] [.mk 1 rs [] 0 0] mn mx
def sqN(l:List Nd):Nd:=.mk 2 [] l 0 0
def lX:Nat->Nd
 |0=>sqN [wY 116,wY 107,JU [(48,57)] 2 4]
 |1=>sqN [wY 107,wY 45,JU [(48,57),(97,102)] 3 6]
 |2=>JU [(48,57)] 4 4
 |3=>JU [(65,90),(97,122)] 2 5
 |4=>.mk 3 [] [wY 107,sqN [wY 107,wY 101],JU [(48,57)] 2 2] 0 0
 |_=>sqN [wY 97,JU [(48,57),(97,102)] 0 3,wY 98]
def NdS(b:Nat)(w:World)(nd:Nd)(vs:List Value):Prop:=∀W,ai b w W->bT W nd vs
theorem NdS.later{b:Nat}{w w':World}{nd:Nd}{vs:List Value}(h:NdS b w nd vs)(hs:ai b w w'):NdS b w' nd vs:=λW hW=>h W (hs.trans hW)
def RgS(b:Nat)(w:World)(v:Value)(rs:List (Nat×Nat)):Prop:=∀W,ai b w W->jK W v rs
def PN(b:Nat)(w:World)(d m:Nat)(nd:Nd)(vs:List Value):Prop:=jZ b w d m vs/\NdS b w nd vs
theorem PN.later{b:Nat}{w w':World}{d m:Nat}{nd:Nd}{vs:List Value}(h:PN b w d m nd vs)(hs:ai b w w'):PN b w' d m nd vs:=⟨h.1.later hs,h.2.later hs⟩
theorem PN.mono{b:Nat}{w:World}{d d' m m':Nat}{nd:Nd}{vs:List Value}(hd:d<=d')(hm:m<=m')(h:PN b w d m nd vs):PN b w d' m' nd vs:=⟨jZ.mono hd hm h.1,h.2⟩
def RN(b:Nat)(w:World)(v:Value)(rs:List (Nat×Nat)):Prop:=PC b w v/\RgS b w v rs
theorem RN.later{b:Nat}{w w':World}{v:Value}{rs:List (Nat×Nat)}(h:RN b w v rs)(hs:ai b w w'):RN b w' v rs:=⟨h.1.later hs,λW hW=>h.2 W (hs.trans hW)⟩
theorem kR{b:Nat}{w W:World}{g j:Nat}{cs:Array Value}{e:TypeId}{m:Nat×Nat}{u:Value}(h:w.heap[g]?=some (.cells cs e m))(hs:ai b w W)(hb:b<g)(hc:cs[j]?=some u):W.cell? ⟨g,j,none⟩=some u:=by
 have hg:=(γ h).1;rw[hs.cell hb hg,cell_of_row _ _ _ _ _ _ h];exact hc
theorem RN.aeT{b:Nat}{w':World}{g n c lo hi:Nat}{e:TypeId}(hg:w'.heap[g]?=some (.cells #[.int .u8 (lo:Int),.int .u8 (hi:Int)] e (0,0)))(hb:b<g)(hr:n=1/\c=1/\lo<=hi/\hi<256):RN b w' (.slice (some ⟨g,0,none⟩) n c) [(lo,hi)]:=by
 obtain ⟨rfl,rfl,h1,h2⟩:=hr;refine ⟨PC.new (w:=w') (rs:=[((lo:Int),(hi:Int))]) hg hb rfl O O (λp hp=>by
  simp only[List.mem_cons,List.not_mem_nil,or_false]at hp;subst hp;exact ⟨ξ,by simp only;omega,by simp only;omega⟩),λW hW=>⟨_,1,rfl,⟨ξ,O⟩,.inr ⟨g,0,rfl,Nat.lt_of_lt_of_le (γ hg).1 hW.1,λi hi'=>?_⟩⟩⟩
 have:i=0:=by simp at hi';omega
 subst this;exact ⟨⟨kR hg hW hb rfl,kR hg hW hb rfl⟩,by show lo<256;omega,h2⟩
theorem RN.aeU{b:Nat}{w':World}{g n c lo hi lo2 eS:Nat}{e:TypeId}(hg:w'.heap[g]?=some (.cells #[.int .u8 (lo:Int),.int .u8 (hi:Int),.int .u8 (lo2:Int),.int .u8 (eS:Int)] e (0,0)))(hb:b<g)(hr:n=2/\c=2/\(lo<=hi/\hi<256)/\lo2<=eS/\eS<256):RN b w' (.slice (some ⟨g,0,none⟩) n c) [(lo,hi),(lo2,eS)]:=by
 obtain ⟨rfl,rfl,⟨h1,h2⟩,h3,h4⟩:=hr;refine ⟨PC.new (w:=w') (rs:=[((lo:Int),(hi:Int)),((lo2:Int),(eS:Int))]) hg hb rfl O O (λp hp=>by
  simp only[List.mem_cons,List.not_mem_nil,or_false]at hp;rcases hp with rfl|rfl
  .exact ⟨ξ,by simp only;omega,by simp only;omega⟩
  .exact ⟨ξ,by simp only;omega,by simp only;omega⟩),λW hW=>⟨_,2,rfl,⟨ξ,O⟩,.inr ⟨g,0,rfl,Nat.lt_of_lt_of_le (γ hg).1 hW.1,λi hi'=>?_⟩⟩⟩
 have:i=0\/i=1:=by simp at hi';omega
 rcases this with rfl|rfl
 .exact ⟨⟨kR hg hW hb rfl,kR hg hW hb rfl⟩,by show lo<256;omega,h2⟩
 .exact ⟨⟨kR hg hW hb rfl,kR hg hW hb rfl⟩,by show lo2<256;omega,h4⟩
def lJ(b:Nat)(w:World)(d m:Nat):List Nd->List (List Value)->Prop
 | [],[]=>True
 |nd::r,u::q=>PN b w d m nd u/\lJ b w d m r q
 |_,_=>False
def KN(b:Nat)(w:World)(d m:Nat)(nds:List Nd)(n:Nat)(v:Value):Prop:=n=nds.length/\zk b w (jZ b w d m) n v/\∃g c,v=.slice (some ⟨g,0,none⟩) n c/\(n<=c/\c<=1000)/\b<g/\g<w.heap.size/\∀W,ai b w W->fF W nds g 0
theorem KN.later{b:Nat}{w w':World}{d m n:Nat}{nds:List Nd}{v:Value}(h:KN b w d m nds n v)(hs:ai b w w'):KN b w' d m nds n v:=by
 obtain ⟨h0,h1,g,c,rfl,h2,h3,h4,h5⟩:=h;exact ⟨h0,h1.later hs (λus=>jZ.later hs),g,c,rfl,h2,h3,Nat.lt_of_lt_of_le h4 hs.1,λW hW=>h5 W (hs.trans hW)⟩
theorem lJ.kds{b:Nat}{w W:World}{d m g:Nat}:∀{nds:List Nd} {us:List (List Value)} {f:Nat},lJ b w d m nds us->ai b w W->(∀u∈us,u.length=5)->(∀j (h:j<us.length) i,i<5->W.cell? ⟨g,f+j*5+i,none⟩=us[j][i]?)->fF W nds g f
 | [],[],_,_,_,_,_=>trivial
 |nd::r,u::q,f,h,hs,h5,hc=>by
  refine ⟨⟨u,λj hj=>?_,h.1.2 W hs⟩,lJ.kds h.2 hs (λx hx=>h5 x (List.mem_cons_of_mem _ hx)) λj hj i hi=>?_⟩
  .have:=hc 0 ξ j hj;rw[Nat.zero_mul,Nat.add_zero]at this;exact this
  .have:=hc (j+1) (by simpa using hj) i hi
   rw[show f+(j+1)*5+i=f+5+j*5+i by omega]at this
   exact this
 | [],_::_,_,h,_,_,_=>h.elim
 |_::_,[],_,h,_,_,_=>h.elim
theorem lJ.aeW{b:Nat}{w:World}{d m:Nat}:∀{nds:List Nd} {us:List (List Value)},lJ b w d m nds us->nds.length=us.length/\∀u∈us,jZ b w d m u
 | [],[],_=>⟨rfl,λu hu=>by cases hu⟩
 |nd::r,u::q,h=>by
  obtain ⟨h1,h2⟩:=lJ.aeW h.2;exact ⟨by simp[h1],λx hx=>(List.mem_cons.1 hx).elim (λe=>e▸h.1.1) (h2 x)⟩
 | [],_::_,h=>h.elim
 |_::_,[],h=>h.elim
theorem Ut:∀(us:List (List Value)),(∀u∈us,u.length=5)->∀j (hj:j<us.length) i,i<5->us.flatten[j*5+i]?=(us[j])[i]?
 | [],_,j,hj,_,_=>by cases hj
 |a::r,h,j,hj,i,hi=>by
  have ha:=h a ξ
  match j,hj with
  |0,_=>rw[List.flatten_cons,List.getElem?_append_left Y];simp
  |j+1,hj=>
   rw[List.flatten_cons,List.getElem?_append_right Y,show (j+1)*5+i-a.length=j*5+i by omega,Ut r (λu hu=>h u (by simp[hu])) j (by simpa using hj) i hi]
   rfl
theorem PN.SB{b:Nat}{w:World}{d m:Nat}{nd:Nd}{vs:List Value}(h:PN b w d m nd vs):vs.length=5:=by
 obtain ⟨A1,c1,A2,c2,rfl,-⟩:=(h.2 w (ai.refl b w)).form;rfl
theorem lJ.SB{b:Nat}{w:World}{d m:Nat}:∀{nds:List Nd} {us:List (List Value)},lJ b w d m nds us->∀u∈us,u.length=5
 | [],[],_,u,hu=>by cases hu
 |nd::r,x::q,h,u,hu=>by
  rcases List.mem_cons.1 hu with rfl|hu
  .exact h.1.SB
  .exact lJ.SB h.2 u hu
 | [],_::_,h,_,_=>h.elim
 |_::_,[],h,_,_=>h.elim
theorem KN.new{b:Nat}{w:World}{d m:Nat}{nds:List Nd}{us:List (List Value)}{cs:Array Value}{e:TypeId}{n c:Nat}(hb:b<w.heap.size)(hcs:cs=us.flatten.toArray)(hp:lJ b w d m nds us)(hn:n=us.length)(mX:n<=c/\c<=1000):
  KN b (w.alloc (.cells cs e)) d m nds n (.slice (some ⟨w.heap.size,0,none⟩) n c):=by
 have h5:=hp.SB;obtain ⟨hl,Rs⟩:=hp.aeW;have hs:ai b w (w.alloc (.cells cs e)):=ai.aa (υ.alloc I _);refine ⟨Y,zk.later (zk.new (G:=jZ b w d m) hb hcs h5 Rs hn Y) (ai.refl b _) (λus=>jZ.later hs),_,c,rfl,mX,hb,ξ,λW hW=>?_⟩;refine lJ.kds (us:=us) hp (hs.trans hW) h5 λj hj i hi=>?_;rw[Nat.zero_add,hW.cell hb ξ,World.cell?_alloc_mark,<-Ut us h5 j hj i hi,hcs];simp
theorem PN.SC{b:Nat}{w:World}{d m n:Nat}{nds:List Nd}{A:Option Addr}{c:Nat}(h:KN b w d m nds n (.slice A n c))(h1:1<=n):PN b w (d+1) m (.mk 3 [] nds 0 0) [.int .i64 3,.slice none 0 0,.slice A n c,.int .i64 0,.int .i64 0]:=by
 obtain ⟨h0,hk,g,c',e,h2,h3,h4,h5⟩:=h;injection e with e1 e2 e3;subst e1 e3;refine ⟨⟨_,_,_,_,⟨Sl.of _ _ _,Sl.of _ _ _⟩,.inr (.inr (.inl ⟨rfl,n,hk,h1⟩))⟩,λW hW=>⟨_,_,rfl,⟨none,0,rfl,⟨ξ,ξ⟩,.inl rfl⟩,_,c,by rw[h0],⟨Y,Y⟩,.inr ⟨g,0,rfl,Nat.lt_of_lt_of_le h4 hW.1,h5 W hW⟩⟩⟩
def zF(b d m:Nat)(nd:Nd)(w:World)(e:Ending)(w':World):Prop:=∃A B n n' c c' o mn mx,e=.returned (.agg #[.int .i64 o,.slice A n c,.slice B n' c',.int .i64 mn,.int .i64 mx])/\PN b w' d m nd [.int .i64 o,.slice A n c,.slice B n' c',.int .i64 mn,.int .i64 mx]/\Below w.heap.size w w'
theorem eh(b c:Nat)(h0:c<256)(h1:0<=c)(w:World)(hb:b<w.heap.size):Calls Tryz.prog 37 #[.int .u8 (c:Int)] w (zF b 2 6 (wY c) w):=by
 have e1:w.heap.size+1=(w.alloc (Obj.cells #[Value.int IntKind.i64 1,Value.slice (some ⟨w.heap.size+1,0,none⟩) 1 1,Value.slice none 0 0,Value.int IntKind.i64 0,Value.int IntKind.i64 0] 41)).heap.size:=ξ;have fH:((w.alloc (Obj.cells #[Value.int IntKind.i64 1,Value.slice (some ⟨w.heap.size+1,0,none⟩) 1 1,Value.slice none 0 0,Value.int IntKind.i64 0,Value.int IntKind.i64 0] 41)).alloc (Obj.cells #[Value.int IntKind.u8 (c:Int),Value.int IntKind.u8 (c:Int)] 84)).heap[w.heap.size+1]?=some (.cells #[Value.int IntKind.u8 (c:Int),Value.int IntKind.u8 (c:Int)] 84 (0,0)):=by
  have h:=heap_alloc_new (w.alloc (Obj.cells #[Value.int IntKind.i64 1,Value.slice (some ⟨w.heap.size+1,0,none⟩) 1 1,Value.slice none 0 0,Value.int IntKind.i64 0,Value.int IntKind.i64 0] 41)) (.cells #[Value.int IntKind.u8 (c:Int),Value.int IntKind.u8 (c:Int)] 84);rw[<-e1]at h;exact h
 have hR:RN b ((w.alloc (Obj.cells #[Value.int IntKind.i64 1,Value.slice (some ⟨w.heap.size+1,0,none⟩) 1 1,Value.slice none 0 0,Value.int IntKind.i64 0,Value.int IntKind.i64 0] 41)).alloc (Obj.cells #[Value.int IntKind.u8 (c:Int),Value.int IntKind.u8 (c:Int)] 84)) (.slice (some ⟨w.heap.size+1,0,none⟩) 1 1) [(c,c)]:=
  RN.aeT (e:=84) fH Y ⟨rfl,rfl,I,h0⟩
 have HR:=Z hR;clear hR fH e1
 go_enter Tryz.func37,Tryz.ntmps37
 go_wp2_with fail;refine bodyPost_ret (v:=.agg #[.int .i64 1,.slice (some ⟨w.heap.size+1,0,none⟩) 1 1,.slice none 0 0,.int .i64 0,.int .i64 0]) (by simp[results,Tryz.results37,go_sem];try rfl) rfl ?_
 refine ⟨_,_,_,_,_,_,_,_,_,rfl,⟨?_,λW hW=>?_⟩,((Below.refl _ w).alloc I _).alloc ξ _⟩
 .exact ⟨_,_,_,_,⟨Sl.of _ _ _,Sl.of _ _ _⟩,.inl ⟨rfl,HR.out.1,Y⟩⟩
 .exact ⟨_,_,rfl,HR.out.2 W hW,none,0,rfl,⟨ξ,ξ⟩,.inl rfl⟩
theorem fW(b:Nat)(A:Option Addr)(n c:Nat)(rs:List (Nat×Nat))(mn mx:Int)(w:World)(hr:RN b w (.slice A n c) rs)(hb:b<w.heap.size)(h0:0<=mn)(h1:mn<=mx)(h1m:1<=mx)(h6:mx<=6):Calls Tryz.prog 38 #[.slice A n c,.int .i64 mn,.int .i64 mx] w (zF b 2 6 (JU rs mn mx) w):=by
 have HR:=Z hr;clear hr;have hp:PN b w 1 1 (.mk 1 rs [] 0 0) [.int .i64 1,.slice A n c,.slice none 0 0,.int .i64 0,.int .i64 0]:=⟨⟨_,_,_,_,⟨Sl.of _ _ _,Sl.of _ _ _⟩,.inl ⟨rfl,HR.out.1,Y⟩⟩,λW hW=>⟨_,_,rfl,HR.out.2 W hW,none,0,rfl,⟨ξ,ξ⟩,.inl rfl⟩⟩;have aT:Below w.heap.size w (w.alloc (Obj.cells #[Value.int IntKind.i64 4,Value.slice none 0 0,Value.slice (some ⟨w.heap.size+1,0,none⟩) 1 1,Value.int IntKind.i64 mn,Value.int IntKind.i64 mx] 41)):=(Below.refl _ w).alloc I _;have hz:(w.alloc (Obj.cells #[Value.int IntKind.i64 4,Value.slice none 0 0,Value.slice (some ⟨w.heap.size+1,0,none⟩) 1 1,Value.int IntKind.i64 mn,Value.int IntKind.i64 mx] 41)).heap.size=w.heap.size+1:=ξ;have hK:=KN.new (w:=w.alloc (Obj.cells #[Value.int IntKind.i64 4,Value.slice none 0 0,Value.slice (some ⟨w.heap.size+1,0,none⟩) 1 1,Value.int IntKind.i64 mn,Value.int IntKind.i64 mx] 41)) (d:=1) (m:=1) (nds:=[.mk 1 rs [] 0 0]) (us:=[[.int .i64 1,.slice A n c,.slice none 0 0,.int .i64 0,.int .i64 0]]) (cs:=#[.int .i64 1,.slice A n c,.slice none 0 0,.int .i64 0,.int .i64 0]) (e:=41) (n:=1) (c:=1) (by rw[hz];omega) rfl ⟨hp.later (ai.aa aT),trivial⟩ rfl O
 rw[hz]at hK;have HK:=Z hK;clear hK hz hp aT
 go_enter Tryz.func38,Tryz.ntmps38
 go_wp2_with fail;refine bodyPost_ret (v:=.agg #[.int .i64 4,.slice none 0 0,.slice (some ⟨w.heap.size+1,0,none⟩) 1 1,.int .i64 mn,.int .i64 mx]) (by simp[results,Tryz.results38,go_sem];try rfl) rfl ?_
 have aT:Below w.heap.size w ((w.alloc (Obj.cells #[Value.int IntKind.i64 4,Value.slice none 0 0,Value.slice (some ⟨w.heap.size+1,0,none⟩) 1 1,Value.int IntKind.i64 mn,Value.int IntKind.i64 mx] 41)).alloc (Obj.cells #[Value.int IntKind.i64 1,Value.slice A n c,Value.slice none 0 0,Value.int IntKind.i64 0,Value.int IntKind.i64 0] 41)):=((Below.refl _ w).alloc I _).alloc ξ _;obtain ⟨h00,hk,g,c',e,h2,h3,h4,h5⟩:=HK.out;injection e with e1 e2 e3;injection e1 with e1;injection e1 with e1 _ _;subst e1;refine ⟨_,_,_,_,_,_,_,_,_,rfl,⟨?_,λW hW=>?_⟩,aT⟩
 .exact ⟨_,_,_,_,⟨Sl.of _ _ _,Sl.of _ _ _⟩,.inr (.inr (.inr ⟨rfl,1,1,hk,Y,h0,h1,⟨h1m,Y⟩,Y⟩))⟩
 .exact ⟨_,_,rfl,⟨none,0,rfl,⟨ξ,ξ⟩,.inl rfl⟩,_,1,rfl,⟨ξ,O⟩,.inr ⟨_,0,rfl,Nat.lt_of_lt_of_le h4 hW.1,h5 W hW⟩⟩
theorem qy(b:Nat)(A:Option Addr)(n c:Nat)(nds:List Nd)(w:World)(hk:KN b w 2 6 nds n (.slice A n c))(h3:n<=3):Calls Tryz.prog 36 #[.slice A n c] w (zF b 3 18 (sqN nds) w):=by
 have HK:=Z hk;clear hk
 go_enter Tryz.func36,Tryz.ntmps36
 go_wp2_with fail;refine bodyPost_ret (v:=.agg #[.int .i64 2,.slice none 0 0,.slice A n c,.int .i64 0,.int .i64 0]) (by simp[results,Tryz.results36,go_sem];try rfl) rfl ?_
 have aT:Below w.heap.size w (w.alloc (Obj.cells #[Value.int IntKind.i64 2,Value.slice none 0 0,Value.slice A n c,Value.int IntKind.i64 0,Value.int IntKind.i64 0] 41)):=(Below.refl _ w).alloc I _;obtain ⟨h00,hk,g,c',e,h2,h3',h4,h5⟩:=HK.out.later (ai.aa aT);injection e with e1 e2 e3;subst e1 e3;refine ⟨_,_,_,_,_,_,_,_,_,rfl,⟨?_,λW hW=>?_⟩,aT⟩
 .exact ⟨_,_,_,_,⟨Sl.of _ _ _,Sl.of _ _ _⟩,.inr (.inl ⟨rfl,n,6,hk,Y⟩)⟩
 .exact ⟨_,_,rfl,⟨none,0,rfl,⟨ξ,ξ⟩,.inl rfl⟩,_,c,by rw[h00],⟨Y,Y⟩,.inr ⟨_,0,rfl,Nat.lt_of_lt_of_le h4 hW.1,h5 W hW⟩⟩
def SD(b:Nat)(w:World)(e:Ending)(w':World):Prop:=∃g,e=.returned (.slice (some ⟨g,0,none⟩) 6 6)/\KN b w' 4 18 [lX 0,lX 1,lX 2,lX 3,lX 4,lX 5] 6 (.slice (some ⟨g,0,none⟩) 6 6)/\Below w.heap.size w w'
theorem Ch(b:Nat)(w:World)(hb:b<w.heap.size):Calls Tryz.prog 15 #[] w (SD b w):=by
 obtain ⟨v0,hv0⟩:∃V,((w.alloc (Obj.cells #[Value.int IntKind.u8 48,Value.int IntKind.u8 57] 84)).alloc (Obj.cells #[Value.int IntKind.u8 48,Value.int IntKind.u8 57,Value.int IntKind.u8 97,Value.int IntKind.u8 102] 84)).alloc (Obj.cells #[Value.int IntKind.u8 65,Value.int IntKind.u8 90,Value.int IntKind.u8 97,Value.int IntKind.u8 122] 84)=V:=⟨_,rfl⟩;have fS:Below w.heap.size w v0:=by rw[<-hv0];exact (((Below.refl _ w).alloc I _).alloc ξ _).alloc ψ _
 have g1:v0.heap[w.heap.size]?=some (.cells #[Value.int IntKind.u8 48,Value.int IntKind.u8 57] 84 (0,0)):=by
  rw[<-hv0,Below.heap_alloc _ _ _ ψ,Below.heap_alloc _ _ _ ξ];exact heap_alloc_new _ _
 have g2:v0.heap[w.heap.size+1]?=some (.cells #[Value.int IntKind.u8 48,Value.int IntKind.u8 57,Value.int IntKind.u8 97,Value.int IntKind.u8 102] 84 (0,0)):=by
  rw[<-hv0,Below.heap_alloc _ _ _ ξ];rw[show w.heap.size+1=(w.alloc (Obj.cells #[Value.int IntKind.u8 48,Value.int IntKind.u8 57] 84)).heap.size by simp];exact heap_alloc_new _ _
 have g3:v0.heap[w.heap.size+1+1]?=some (.cells #[Value.int IntKind.u8 65,Value.int IntKind.u8 90,Value.int IntKind.u8 97,Value.int IntKind.u8 122] 84 (0,0)):=by
  rw[<-hv0];rw[show w.heap.size+1+1=((w.alloc (Obj.cells #[Value.int IntKind.u8 48,Value.int IntKind.u8 57] 84)).alloc (Obj.cells #[Value.int IntKind.u8 48,Value.int IntKind.u8 57,Value.int IntKind.u8 97,Value.int IntKind.u8 102] 84)).heap.size by simp];exact heap_alloc_new _ _
 have R1:=Z (RN.aeT (b:=b) (n:=1) (c:=1) g1 Y O);have R2:=Z (RN.aeU (b:=b) (n:=2) (c:=2) g2 Y O);have R3:=Z (RN.aeU (b:=b) (n:=2) (c:=2) g3 Y O);have gD:b<v0.heap.size:=by have:=fS.size;omega
 have HV0:=Z hv0;have bq:=Z fS;clear g1 g2 g3 hv0 fS
 go_enter Tryz.func15,Tryz.ntmps15
 go_wp2_with fail;rw[HV0.out];clear HV0;refine (eh b 116 O O _ gD).mono ?_;rintro e w1 ⟨A1,B1,n1,k1,c1,d1,o1,l1,h1,rfl,p1,hb1⟩;have P1:=Z p1;have R1:=Z (R1.out.later (ai.aa hb1));have R2:=Z (R2.out.later (ai.aa hb1));have R3:=Z (R3.out.later (ai.aa hb1));have bq:=Z (bq.out.trans (hb1.mono bq.out.size));have gD:b<w1.heap.size:=by have:=hb1.size;omega
 clear p1 hb1;go_wp2_with fail;refine (eh b 107 O O _ gD).mono ?_;rintro e w2 ⟨A2,B2,n2,k2,c2,d2,o2,l2,h2,rfl,p2,aJ⟩;have P2:=Z p2;have R1:=Z (R1.out.later (ai.aa aJ));have R2:=Z (R2.out.later (ai.aa aJ));have R3:=Z (R3.out.later (ai.aa aJ));have P1:=Z (P1.out.later (ai.aa aJ));have bq:=Z (bq.out.trans (aJ.mono bq.out.size));have gD:b<w2.heap.size:=by have:=aJ.size;omega
 clear p2 aJ;go_wp2_with fail;refine (fW b _ _ _ _ 2 4 _ R1.out gD O O O O).mono ?_;rintro e w3 ⟨A3,B3,n3,k3,c3,d3,o3,l3,h3,rfl,p3,bW⟩;have P3:=Z p3;have R1:=Z (R1.out.later (ai.aa bW));have R2:=Z (R2.out.later (ai.aa bW));have R3:=Z (R3.out.later (ai.aa bW));have P1:=Z (P1.out.later (ai.aa bW));have P2:=Z (P2.out.later (ai.aa bW));have bq:=Z (bq.out.trans (bW.mono bq.out.size));have gD:b<w3.heap.size:=by have:=bW.size;omega
 clear p3 bW;obtain ⟨w4,Pv⟩:∃V,w3.alloc (Obj.cells #[Value.int IntKind.i64 o1,Value.slice A1 n1 c1,Value.slice B1 k1 d1,Value.int IntKind.i64 l1,Value.int IntKind.i64 h1,Value.int IntKind.i64 o2,Value.slice A2 n2 c2,Value.slice B2 k2 d2,Value.int IntKind.i64 l2,Value.int IntKind.i64 h2,Value.int IntKind.i64 o3,Value.slice A3 n3 c3,Value.slice B3 k3 d3,Value.int IntKind.i64 l3,Value.int IntKind.i64 h3] 41)=V:=⟨_,rfl⟩;have K1:=KN.new (w:=w3) (d:=2) (m:=6) (nds:=[wY 116,wY 107,JU [(48,57)] 2 4]) (us:=[[Value.int IntKind.i64 o1,Value.slice A1 n1 c1,Value.slice B1 k1 d1,Value.int IntKind.i64 l1,Value.int IntKind.i64 h1],[Value.int IntKind.i64 o2,Value.slice A2 n2 c2,Value.slice B2 k2 d2,Value.int IntKind.i64 l2,Value.int IntKind.i64 h2],[Value.int IntKind.i64 o3,Value.slice A3 n3 c3,Value.slice B3 k3 d3,Value.int IntKind.i64 l3,Value.int IntKind.i64 h3]]) (cs:=#[Value.int IntKind.i64 o1,Value.slice A1 n1 c1,Value.slice B1 k1 d1,Value.int IntKind.i64 l1,Value.int IntKind.i64 h1,Value.int IntKind.i64 o2,Value.slice A2 n2 c2,Value.slice B2 k2 d2,Value.int IntKind.i64 l2,Value.int IntKind.i64 h2,Value.int IntKind.i64 o3,Value.slice A3 n3 c3,Value.slice B3 k3 d3,Value.int IntKind.i64 l3,Value.int IntKind.i64 h3]) (e:=41) (n:=3) (c:=3) gD rfl ⟨(P1.out.mono O O),(P2.out.mono O O),(P3.out.mono O O),trivial⟩ rfl O;have dM:Below w3.heap.size w3 w4:=by rw[<-Pv];exact υ.alloc I _
 rw[Pv]at K1;have K1:=Z K1;have HW4:=Z Pv;have R1:=Z (R1.out.later (ai.aa dM));have R2:=Z (R2.out.later (ai.aa dM));have R3:=Z (R3.out.later (ai.aa dM));have P1:=Z (P1.out.later (ai.aa dM));have P2:=Z (P2.out.later (ai.aa dM));have P3:=Z (P3.out.later (ai.aa dM));have bq:=Z (bq.out.trans (dM.mono bq.out.size));have gD:b<w4.heap.size:=by have:=dM.size;omega
 clear Pv dM;go_wp2_with fail;rw[HW4.out];clear HW4;clear P1;clear P2;clear P3;refine (qy b _ _ _ _ _ K1.out O).mono ?_;rintro e w5 ⟨AS1,BS1,nS1,kS1,cS1,dS1,oS1,lS1,hS1,rfl,pS1,jq⟩;have j6:=Z pS1;have R1:=Z (R1.out.later (ai.aa jq));have R2:=Z (R2.out.later (ai.aa jq));have R3:=Z (R3.out.later (ai.aa jq));have bq:=Z (bq.out.trans (jq.mono bq.out.size));have gD:b<w5.heap.size:=by have:=jq.size;omega
 clear pS1 jq;clear K1;go_wp2_with fail;refine (eh b 107 O O _ gD).mono ?_;rintro e w6 ⟨A4,B4,n4,k4,c4,d4,o4,l4,h4,rfl,p4,oQ⟩;have P4:=Z p4;have R1:=Z (R1.out.later (ai.aa oQ));have R2:=Z (R2.out.later (ai.aa oQ));have R3:=Z (R3.out.later (ai.aa oQ));have j6:=Z (j6.out.later (ai.aa oQ));have bq:=Z (bq.out.trans (oQ.mono bq.out.size));have gD:b<w6.heap.size:=by have:=oQ.size;omega
 clear p4 oQ;go_wp2_with fail;refine (eh b 45 O O _ gD).mono ?_;rintro e w7 ⟨A5,B5,n5,k5,c5,d5,o5,l5,h5,rfl,p5,dT⟩;have P5:=Z p5;have R1:=Z (R1.out.later (ai.aa dT));have R2:=Z (R2.out.later (ai.aa dT));have R3:=Z (R3.out.later (ai.aa dT));have j6:=Z (j6.out.later (ai.aa dT));have P4:=Z (P4.out.later (ai.aa dT));have bq:=Z (bq.out.trans (dT.mono bq.out.size));have gD:b<w7.heap.size:=by have:=dT.size;omega
 clear p5 dT;go_wp2_with fail;refine (fW b _ _ _ _ 3 6 _ R2.out gD O O O O).mono ?_;rintro e w8 ⟨A6,B6,n6,k6,c6,d6,o6,l6,h6,rfl,p6,SE⟩;have P6:=Z p6;have R1:=Z (R1.out.later (ai.aa SE));have R2:=Z (R2.out.later (ai.aa SE));have R3:=Z (R3.out.later (ai.aa SE));have j6:=Z (j6.out.later (ai.aa SE));have P4:=Z (P4.out.later (ai.aa SE));have P5:=Z (P5.out.later (ai.aa SE));have bq:=Z (bq.out.trans (SE.mono bq.out.size));have gD:b<w8.heap.size:=by have:=SE.size;omega
 clear p6 SE;obtain ⟨w9,oF⟩:∃V,w8.alloc (Obj.cells #[Value.int IntKind.i64 o4,Value.slice A4 n4 c4,Value.slice B4 k4 d4,Value.int IntKind.i64 l4,Value.int IntKind.i64 h4,Value.int IntKind.i64 o5,Value.slice A5 n5 c5,Value.slice B5 k5 d5,Value.int IntKind.i64 l5,Value.int IntKind.i64 h5,Value.int IntKind.i64 o6,Value.slice A6 n6 c6,Value.slice B6 k6 d6,Value.int IntKind.i64 l6,Value.int IntKind.i64 h6] 41)=V:=⟨_,rfl⟩;have K2:=KN.new (w:=w8) (d:=2) (m:=6) (nds:=[wY 107,wY 45,JU [(48,57),(97,102)] 3 6]) (us:=[[Value.int IntKind.i64 o4,Value.slice A4 n4 c4,Value.slice B4 k4 d4,Value.int IntKind.i64 l4,Value.int IntKind.i64 h4],[Value.int IntKind.i64 o5,Value.slice A5 n5 c5,Value.slice B5 k5 d5,Value.int IntKind.i64 l5,Value.int IntKind.i64 h5],[Value.int IntKind.i64 o6,Value.slice A6 n6 c6,Value.slice B6 k6 d6,Value.int IntKind.i64 l6,Value.int IntKind.i64 h6]]) (cs:=#[Value.int IntKind.i64 o4,Value.slice A4 n4 c4,Value.slice B4 k4 d4,Value.int IntKind.i64 l4,Value.int IntKind.i64 h4,Value.int IntKind.i64 o5,Value.slice A5 n5 c5,Value.slice B5 k5 d5,Value.int IntKind.i64 l5,Value.int IntKind.i64 h5,Value.int IntKind.i64 o6,Value.slice A6 n6 c6,Value.slice B6 k6 d6,Value.int IntKind.i64 l6,Value.int IntKind.i64 h6]) (e:=41) (n:=3) (c:=3) gD rfl ⟨(P4.out.mono O O),(P5.out.mono O O),(P6.out.mono O O),trivial⟩ rfl O;have ja:Below w8.heap.size w8 w9:=by rw[<-oF];exact υ.alloc I _
 rw[oF]at K2;have K2:=Z K2;have HW9:=Z oF;have R1:=Z (R1.out.later (ai.aa ja));have R2:=Z (R2.out.later (ai.aa ja));have R3:=Z (R3.out.later (ai.aa ja));have j6:=Z (j6.out.later (ai.aa ja));have P4:=Z (P4.out.later (ai.aa ja));have P5:=Z (P5.out.later (ai.aa ja));have P6:=Z (P6.out.later (ai.aa ja));have bq:=Z (bq.out.trans (ja.mono bq.out.size));have gD:b<w9.heap.size:=by have:=ja.size;omega
 clear oF ja;go_wp2_with fail;rw[HW9.out];clear HW9;clear P4;clear P5;clear P6;refine (qy b _ _ _ _ _ K2.out O).mono ?_;rintro e GK ⟨AS2,BS2,nS2,kS2,cS2,dS2,oS2,lS2,YW,rfl,pS2,wP⟩;have pa:=Z pS2;have R1:=Z (R1.out.later (ai.aa wP));have R2:=Z (R2.out.later (ai.aa wP));have R3:=Z (R3.out.later (ai.aa wP));have j6:=Z (j6.out.later (ai.aa wP));have bq:=Z (bq.out.trans (wP.mono bq.out.size));have gD:b<GK.heap.size:=by have:=wP.size;omega
 clear pS2 wP;clear K2;go_wp2_with fail;refine (fW b _ _ _ _ 4 4 _ R1.out gD O O O O).mono ?_;rintro e w11 ⟨A7,B7,n7,k7,c7,d7,o7,l7,h7,rfl,p7,oZ⟩;have P7:=Z p7;have R1:=Z (R1.out.later (ai.aa oZ));have R2:=Z (R2.out.later (ai.aa oZ));have R3:=Z (R3.out.later (ai.aa oZ));have j6:=Z (j6.out.later (ai.aa oZ));have pa:=Z (pa.out.later (ai.aa oZ));have bq:=Z (bq.out.trans (oZ.mono bq.out.size));have gD:b<w11.heap.size:=by have:=oZ.size;omega
 clear p7 oZ;go_wp2_with fail;refine (fW b _ _ _ _ 2 5 _ R3.out gD O O O O).mono ?_;rintro e w12 ⟨A8,B8,n8,k8,c8,d8,o8,l8,h8,rfl,p8,sU⟩;have P8:=Z p8;have R1:=Z (R1.out.later (ai.aa sU));have R2:=Z (R2.out.later (ai.aa sU));have R3:=Z (R3.out.later (ai.aa sU));have j6:=Z (j6.out.later (ai.aa sU));have pa:=Z (pa.out.later (ai.aa sU));have P7:=Z (P7.out.later (ai.aa sU));have bq:=Z (bq.out.trans (sU.mono bq.out.size));have gD:b<w12.heap.size:=by have:=sU.size;omega
 clear p8 sU;go_wp2_with fail;refine (eh b 107 O O _ gD).mono ?_;rintro e w13 ⟨A9,B9,n9,k9,c9,d9,o9,l9,h9,rfl,p9,nY⟩;have P9:=Z p9;have R1:=Z (R1.out.later (ai.aa nY));have R2:=Z (R2.out.later (ai.aa nY));have R3:=Z (R3.out.later (ai.aa nY));have j6:=Z (j6.out.later (ai.aa nY));have pa:=Z (pa.out.later (ai.aa nY));have P7:=Z (P7.out.later (ai.aa nY));have P8:=Z (P8.out.later (ai.aa nY));have bq:=Z (bq.out.trans (nY.mono bq.out.size));have gD:b<w13.heap.size:=by have:=nY.size;omega
 clear p9 nY;go_wp2_with fail;refine (eh b 107 O O _ gD).mono ?_;rintro e w14 ⟨A10,B10,n10,ZP,mR,d10,o10,l10,h10,rfl,p10,vH⟩;have P10:=Z p10;have R1:=Z (R1.out.later (ai.aa vH));have R2:=Z (R2.out.later (ai.aa vH));have R3:=Z (R3.out.later (ai.aa vH));have j6:=Z (j6.out.later (ai.aa vH));have pa:=Z (pa.out.later (ai.aa vH));have P7:=Z (P7.out.later (ai.aa vH));have P8:=Z (P8.out.later (ai.aa vH));have P9:=Z (P9.out.later (ai.aa vH));have bq:=Z (bq.out.trans (vH.mono bq.out.size));have gD:b<w14.heap.size:=by have:=vH.size;omega
 clear p10 vH;go_wp2_with fail;refine (eh b 101 O O _ gD).mono ?_;rintro e w15 ⟨A11,B11,n11,k11,Ts,d11,Wj,l11,Wi,rfl,p11,sY⟩;have P11:=Z p11;have R1:=Z (R1.out.later (ai.aa sY));have R2:=Z (R2.out.later (ai.aa sY));have R3:=Z (R3.out.later (ai.aa sY));have j6:=Z (j6.out.later (ai.aa sY));have pa:=Z (pa.out.later (ai.aa sY));have P7:=Z (P7.out.later (ai.aa sY));have P8:=Z (P8.out.later (ai.aa sY));have P9:=Z (P9.out.later (ai.aa sY));have P10:=Z (P10.out.later (ai.aa sY));have bq:=Z (bq.out.trans (sY.mono bq.out.size));have gD:b<w15.heap.size:=by have:=sY.size;omega
 clear p11 sY;obtain ⟨w16,SF⟩:∃V,w15.alloc (Obj.cells #[Value.int IntKind.i64 o10,Value.slice A10 n10 mR,Value.slice B10 ZP d10,Value.int IntKind.i64 l10,Value.int IntKind.i64 h10,Value.int IntKind.i64 Wj,Value.slice A11 n11 Ts,Value.slice B11 k11 d11,Value.int IntKind.i64 l11,Value.int IntKind.i64 Wi] 41)=V:=⟨_,rfl⟩;have K3:=KN.new (w:=w15) (d:=2) (m:=6) (nds:=[wY 107,wY 101]) (us:=[[Value.int IntKind.i64 o10,Value.slice A10 n10 mR,Value.slice B10 ZP d10,Value.int IntKind.i64 l10,Value.int IntKind.i64 h10],[Value.int IntKind.i64 Wj,Value.slice A11 n11 Ts,Value.slice B11 k11 d11,Value.int IntKind.i64 l11,Value.int IntKind.i64 Wi]]) (cs:=#[Value.int IntKind.i64 o10,Value.slice A10 n10 mR,Value.slice B10 ZP d10,Value.int IntKind.i64 l10,Value.int IntKind.i64 h10,Value.int IntKind.i64 Wj,Value.slice A11 n11 Ts,Value.slice B11 k11 d11,Value.int IntKind.i64 l11,Value.int IntKind.i64 Wi]) (e:=41) (n:=2) (c:=2) gD rfl ⟨(P10.out.mono O O),(P11.out.mono O O),trivial⟩ rfl O;have rG:Below w15.heap.size w15 w16:=by rw[<-SF];exact υ.alloc I _
 rw[SF]at K3;have K3:=Z K3;have aeY:=Z SF;have R1:=Z (R1.out.later (ai.aa rG));have R2:=Z (R2.out.later (ai.aa rG));have R3:=Z (R3.out.later (ai.aa rG));have j6:=Z (j6.out.later (ai.aa rG));have pa:=Z (pa.out.later (ai.aa rG));have P7:=Z (P7.out.later (ai.aa rG));have P8:=Z (P8.out.later (ai.aa rG));have P9:=Z (P9.out.later (ai.aa rG));have P10:=Z (P10.out.later (ai.aa rG));have P11:=Z (P11.out.later (ai.aa rG));have bq:=Z (bq.out.trans (rG.mono bq.out.size));have gD:b<w16.heap.size:=by have:=rG.size;omega
 clear SF rG;go_wp2_with fail;rw[aeY.out];clear aeY;clear P10;clear P11;refine (qy b _ _ _ _ _ K3.out O).mono ?_;rintro e w17 ⟨AS3,BS3,nS3,kS3,cS3,dS3,oS3,lS3,V4,rfl,pS3,vI⟩;have PS3:=Z pS3;have R1:=Z (R1.out.later (ai.aa vI));have R2:=Z (R2.out.later (ai.aa vI));have R3:=Z (R3.out.later (ai.aa vI));have j6:=Z (j6.out.later (ai.aa vI));have pa:=Z (pa.out.later (ai.aa vI));have P7:=Z (P7.out.later (ai.aa vI));have P8:=Z (P8.out.later (ai.aa vI));have P9:=Z (P9.out.later (ai.aa vI));have bq:=Z (bq.out.trans (vI.mono bq.out.size));have gD:b<w17.heap.size:=by have:=vI.size;omega
 clear pS3 vI;clear K3;go_wp2_with fail;refine (fW b _ _ _ _ 2 2 _ R1.out gD O O O O).mono ?_;rintro e SG ⟨A12,B12,n12,k12,Tt,d12,o12,l12,U5,rfl,p12,sZ⟩;have P12:=Z p12;have R1:=Z (R1.out.later (ai.aa sZ));have R2:=Z (R2.out.later (ai.aa sZ));have R3:=Z (R3.out.later (ai.aa sZ));have j6:=Z (j6.out.later (ai.aa sZ));have pa:=Z (pa.out.later (ai.aa sZ));have P7:=Z (P7.out.later (ai.aa sZ));have P8:=Z (P8.out.later (ai.aa sZ));have P9:=Z (P9.out.later (ai.aa sZ));have PS3:=Z (PS3.out.later (ai.aa sZ));have bq:=Z (bq.out.trans (sZ.mono bq.out.size));have gD:b<SG.heap.size:=by have:=sZ.size;omega
 clear p12 sZ;obtain ⟨w19,SH⟩:∃V,SG.alloc (Obj.cells #[Value.int IntKind.i64 o9,Value.slice A9 n9 c9,Value.slice B9 k9 d9,Value.int IntKind.i64 l9,Value.int IntKind.i64 h9,Value.int IntKind.i64 oS3,Value.slice AS3 nS3 cS3,Value.slice BS3 kS3 dS3,Value.int IntKind.i64 lS3,Value.int IntKind.i64 V4,Value.int IntKind.i64 o12,Value.slice A12 n12 Tt,Value.slice B12 k12 d12,Value.int IntKind.i64 l12,Value.int IntKind.i64 U5] 41)=V:=⟨_,rfl⟩;have K4:=KN.new (w:=SG) (d:=3) (m:=18) (nds:=[wY 107,sqN [wY 107,wY 101],JU [(48,57)] 2 2]) (us:=[[Value.int IntKind.i64 o9,Value.slice A9 n9 c9,Value.slice B9 k9 d9,Value.int IntKind.i64 l9,Value.int IntKind.i64 h9],[Value.int IntKind.i64 oS3,Value.slice AS3 nS3 cS3,Value.slice BS3 kS3 dS3,Value.int IntKind.i64 lS3,Value.int IntKind.i64 V4],[Value.int IntKind.i64 o12,Value.slice A12 n12 Tt,Value.slice B12 k12 d12,Value.int IntKind.i64 l12,Value.int IntKind.i64 U5]]) (cs:=#[Value.int IntKind.i64 o9,Value.slice A9 n9 c9,Value.slice B9 k9 d9,Value.int IntKind.i64 l9,Value.int IntKind.i64 h9,Value.int IntKind.i64 oS3,Value.slice AS3 nS3 cS3,Value.slice BS3 kS3 dS3,Value.int IntKind.i64 lS3,Value.int IntKind.i64 V4,Value.int IntKind.i64 o12,Value.slice A12 n12 Tt,Value.slice B12 k12 d12,Value.int IntKind.i64 l12,Value.int IntKind.i64 U5]) (e:=41) (n:=3) (c:=3) gD rfl ⟨(P9.out.mono O O),(PS3.out.mono O O),(P12.out.mono O O),trivial⟩ rfl O;have rH:Below SG.heap.size SG w19:=by rw[<-SH];exact υ.alloc I _
 rw[SH]at K4;have K4:=Z K4;have aeZ:=Z SH;have R1:=Z (R1.out.later (ai.aa rH));have R2:=Z (R2.out.later (ai.aa rH));have R3:=Z (R3.out.later (ai.aa rH));have j6:=Z (j6.out.later (ai.aa rH));have pa:=Z (pa.out.later (ai.aa rH));have P7:=Z (P7.out.later (ai.aa rH));have P8:=Z (P8.out.later (ai.aa rH));have P9:=Z (P9.out.later (ai.aa rH));have PS3:=Z (PS3.out.later (ai.aa rH));have P12:=Z (P12.out.later (ai.aa rH));have bq:=Z (bq.out.trans (rH.mono bq.out.size));have gD:b<w19.heap.size:=by have:=rH.size;omega
 clear SH rH;go_wp2_with fail;rw[aeZ.out];clear aeZ;clear P9;clear PS3;clear P12;have JV:=Z (show PN b w19 4 18 (lX 4) [Value.int IntKind.i64 3,Value.slice none 0 0,Value.slice (some ⟨SG.heap.size,0,none⟩) 3 3,Value.int IntKind.i64 0,Value.int IntKind.i64 0] from PN.SC K4.out O);clear K4;refine (eh b 97 O O _ gD).mono ?_;rintro e w20 ⟨A13,B13,n13,k13,c13,d13,o13,l13,h13,rfl,p13,vJ⟩;have Uu:=Z p13;have R1:=Z (R1.out.later (ai.aa vJ));have R2:=Z (R2.out.later (ai.aa vJ));have R3:=Z (R3.out.later (ai.aa vJ));have j6:=Z (j6.out.later (ai.aa vJ));have pa:=Z (pa.out.later (ai.aa vJ));have P7:=Z (P7.out.later (ai.aa vJ));have P8:=Z (P8.out.later (ai.aa vJ));have JV:=Z (JV.out.later (ai.aa vJ));have bq:=Z (bq.out.trans (vJ.mono bq.out.size));have gD:b<w20.heap.size:=by have:=vJ.size;omega
 clear p13 vJ;go_wp2_with fail;refine (fW b _ _ _ _ 0 3 _ R2.out gD O O O O).mono ?_;rintro e w21 ⟨A14,B14,n14,k14,c14,d14,o14,l14,h14,rfl,p14,td⟩;have P14:=Z p14;have R1:=Z (R1.out.later (ai.aa td));have R2:=Z (R2.out.later (ai.aa td));have R3:=Z (R3.out.later (ai.aa td));have j6:=Z (j6.out.later (ai.aa td));have pa:=Z (pa.out.later (ai.aa td));have P7:=Z (P7.out.later (ai.aa td));have P8:=Z (P8.out.later (ai.aa td));have JV:=Z (JV.out.later (ai.aa td));have Uu:=Z (Uu.out.later (ai.aa td));have bq:=Z (bq.out.trans (td.mono bq.out.size));have gD:b<w21.heap.size:=by have:=td.size;omega
 clear p14 td;go_wp2_with fail;refine (eh b 98 O O _ gD).mono ?_;rintro e w22 ⟨KF,B15,n15,k15,KG,d15,o15,l15,h15,rfl,p15,rI⟩;have P15:=Z p15;have R1:=Z (R1.out.later (ai.aa rI));have R2:=Z (R2.out.later (ai.aa rI));have R3:=Z (R3.out.later (ai.aa rI));have j6:=Z (j6.out.later (ai.aa rI));have pa:=Z (pa.out.later (ai.aa rI));have P7:=Z (P7.out.later (ai.aa rI));have P8:=Z (P8.out.later (ai.aa rI));have JV:=Z (JV.out.later (ai.aa rI));have Uu:=Z (Uu.out.later (ai.aa rI));have P14:=Z (P14.out.later (ai.aa rI));have bq:=Z (bq.out.trans (rI.mono bq.out.size));have gD:b<w22.heap.size:=by have:=rI.size;omega
 clear p15 rI;obtain ⟨w23,Fa⟩:∃V,w22.alloc (Obj.cells #[Value.int IntKind.i64 o13,Value.slice A13 n13 c13,Value.slice B13 k13 d13,Value.int IntKind.i64 l13,Value.int IntKind.i64 h13,Value.int IntKind.i64 o14,Value.slice A14 n14 c14,Value.slice B14 k14 d14,Value.int IntKind.i64 l14,Value.int IntKind.i64 h14,Value.int IntKind.i64 o15,Value.slice KF n15 KG,Value.slice B15 k15 d15,Value.int IntKind.i64 l15,Value.int IntKind.i64 h15] 41)=V:=⟨_,rfl⟩;have K5:=KN.new (w:=w22) (d:=2) (m:=6) (nds:=[wY 97,JU [(48,57),(97,102)] 0 3,wY 98]) (us:=[[Value.int IntKind.i64 o13,Value.slice A13 n13 c13,Value.slice B13 k13 d13,Value.int IntKind.i64 l13,Value.int IntKind.i64 h13],[Value.int IntKind.i64 o14,Value.slice A14 n14 c14,Value.slice B14 k14 d14,Value.int IntKind.i64 l14,Value.int IntKind.i64 h14],[Value.int IntKind.i64 o15,Value.slice KF n15 KG,Value.slice B15 k15 d15,Value.int IntKind.i64 l15,Value.int IntKind.i64 h15]]) (cs:=#[Value.int IntKind.i64 o13,Value.slice A13 n13 c13,Value.slice B13 k13 d13,Value.int IntKind.i64 l13,Value.int IntKind.i64 h13,Value.int IntKind.i64 o14,Value.slice A14 n14 c14,Value.slice B14 k14 d14,Value.int IntKind.i64 l14,Value.int IntKind.i64 h14,Value.int IntKind.i64 o15,Value.slice KF n15 KG,Value.slice B15 k15 d15,Value.int IntKind.i64 l15,Value.int IntKind.i64 h15]) (e:=41) (n:=3) (c:=3) gD rfl ⟨(Uu.out.mono O O),(P14.out.mono O O),(P15.out.mono O O),trivial⟩ rfl O;have jc:Below w22.heap.size w22 w23:=by rw[<-Fa];exact υ.alloc I _
 rw[Fa]at K5;have K5:=Z K5;have ae2:=Z Fa;have R1:=Z (R1.out.later (ai.aa jc));have R2:=Z (R2.out.later (ai.aa jc));have R3:=Z (R3.out.later (ai.aa jc));have j6:=Z (j6.out.later (ai.aa jc));have pa:=Z (pa.out.later (ai.aa jc));have P7:=Z (P7.out.later (ai.aa jc));have P8:=Z (P8.out.later (ai.aa jc));have JV:=Z (JV.out.later (ai.aa jc));have Uu:=Z (Uu.out.later (ai.aa jc));have P14:=Z (P14.out.later (ai.aa jc));have P15:=Z (P15.out.later (ai.aa jc));have bq:=Z (bq.out.trans (jc.mono bq.out.size));have gD:b<w23.heap.size:=by have:=jc.size;omega
 clear Fa jc;go_wp2_with fail;rw[ae2.out];clear ae2;clear Uu;clear P14;clear P15;refine (qy b _ _ _ _ _ K5.out O).mono ?_;rintro e w24 ⟨AS4,BS4,nS4,kS4,cS4,dS4,oS4,lS4,hS4,rfl,pS4,qa⟩;have PS4:=Z pS4;have R1:=Z (R1.out.later (ai.aa qa));have R2:=Z (R2.out.later (ai.aa qa));have R3:=Z (R3.out.later (ai.aa qa));have j6:=Z (j6.out.later (ai.aa qa));have pa:=Z (pa.out.later (ai.aa qa));have P7:=Z (P7.out.later (ai.aa qa));have P8:=Z (P8.out.later (ai.aa qa));have JV:=Z (JV.out.later (ai.aa qa));have bq:=Z (bq.out.trans (qa.mono bq.out.size));have gD:b<w24.heap.size:=by have:=qa.size;omega
 clear pS4 qa;clear K5;obtain ⟨w25,SI⟩:∃V,w24.alloc (Obj.cells #[Value.int IntKind.i64 oS1,Value.slice AS1 nS1 cS1,Value.slice BS1 kS1 dS1,Value.int IntKind.i64 lS1,Value.int IntKind.i64 hS1,Value.int IntKind.i64 oS2,Value.slice AS2 nS2 cS2,Value.slice BS2 kS2 dS2,Value.int IntKind.i64 lS2,Value.int IntKind.i64 YW,Value.int IntKind.i64 o7,Value.slice A7 n7 c7,Value.slice B7 k7 d7,Value.int IntKind.i64 l7,Value.int IntKind.i64 h7,Value.int IntKind.i64 o8,Value.slice A8 n8 c8,Value.slice B8 k8 d8,Value.int IntKind.i64 l8,Value.int IntKind.i64 h8,Value.int IntKind.i64 3,Value.slice none 0 0,Value.slice (some ⟨SG.heap.size,0,none⟩) 3 3,Value.int IntKind.i64 0,Value.int IntKind.i64 0,Value.int IntKind.i64 oS4,Value.slice AS4 nS4 cS4,Value.slice BS4 kS4 dS4,Value.int IntKind.i64 lS4,Value.int IntKind.i64 hS4] 41)=V:=⟨_,rfl⟩;have K6:=KN.new (w:=w24) (d:=4) (m:=18) (nds:=[lX 0,lX 1,JU [(48,57)] 4 4,JU [(65,90),(97,122)] 2 5,lX 4,lX 5]) (us:=[[Value.int IntKind.i64 oS1,Value.slice AS1 nS1 cS1,Value.slice BS1 kS1 dS1,Value.int IntKind.i64 lS1,Value.int IntKind.i64 hS1],[Value.int IntKind.i64 oS2,Value.slice AS2 nS2 cS2,Value.slice BS2 kS2 dS2,Value.int IntKind.i64 lS2,Value.int IntKind.i64 YW],[Value.int IntKind.i64 o7,Value.slice A7 n7 c7,Value.slice B7 k7 d7,Value.int IntKind.i64 l7,Value.int IntKind.i64 h7],[Value.int IntKind.i64 o8,Value.slice A8 n8 c8,Value.slice B8 k8 d8,Value.int IntKind.i64 l8,Value.int IntKind.i64 h8],[Value.int IntKind.i64 3,Value.slice none 0 0,Value.slice (some ⟨SG.heap.size,0,none⟩) 3 3,Value.int IntKind.i64 0,Value.int IntKind.i64 0],[Value.int IntKind.i64 oS4,Value.slice AS4 nS4 cS4,Value.slice BS4 kS4 dS4,Value.int IntKind.i64 lS4,Value.int IntKind.i64 hS4]]) (cs:=#[Value.int IntKind.i64 oS1,Value.slice AS1 nS1 cS1,Value.slice BS1 kS1 dS1,Value.int IntKind.i64 lS1,Value.int IntKind.i64 hS1,Value.int IntKind.i64 oS2,Value.slice AS2 nS2 cS2,Value.slice BS2 kS2 dS2,Value.int IntKind.i64 lS2,Value.int IntKind.i64 YW,Value.int IntKind.i64 o7,Value.slice A7 n7 c7,Value.slice B7 k7 d7,Value.int IntKind.i64 l7,Value.int IntKind.i64 h7,Value.int IntKind.i64 o8,Value.slice A8 n8 c8,Value.slice B8 k8 d8,Value.int IntKind.i64 l8,Value.int IntKind.i64 h8,Value.int IntKind.i64 3,Value.slice none 0 0,Value.slice (some ⟨SG.heap.size,0,none⟩) 3 3,Value.int IntKind.i64 0,Value.int IntKind.i64 0,Value.int IntKind.i64 oS4,Value.slice AS4 nS4 cS4,Value.slice BS4 kS4 dS4,Value.int IntKind.i64 lS4,Value.int IntKind.i64 hS4]) (e:=41) (n:=6) (c:=6) gD rfl ⟨(j6.out.mono O O),(pa.out.mono O O),(P7.out.mono O O),(P8.out.mono O O),(JV.out.mono O O),(PS4.out.mono O O),trivial⟩ rfl O;have th:Below w24.heap.size w24 w25:=by rw[<-SI];exact υ.alloc I _
 rw[SI]at K6;have K6:=Z K6;have ae4:=Z SI;have R1:=Z (R1.out.later (ai.aa th));have R2:=Z (R2.out.later (ai.aa th));have R3:=Z (R3.out.later (ai.aa th));have j6:=Z (j6.out.later (ai.aa th));have pa:=Z (pa.out.later (ai.aa th));have P7:=Z (P7.out.later (ai.aa th));have P8:=Z (P8.out.later (ai.aa th));have JV:=Z (JV.out.later (ai.aa th));have PS4:=Z (PS4.out.later (ai.aa th));have bq:=Z (bq.out.trans (th.mono bq.out.size));have gD:b<w25.heap.size:=by have:=th.size;omega
 clear SI th;go_wp2_with fail;rw[ae4.out];clear ae4;go_ret;exact ⟨_,rfl,K6.out,bq.out⟩
def zq(A:Option Addr)(n:Nat)(w:World):Prop:=n<=maxLen/\∀j,j<n->∃ad x,A=some ad/\ad.block<w.heap.size/\w.cell? (ad.add j)=some (.int .i64 x)
theorem Nu{A:Option Addr}{n c:Nat}{w:World}(h:zq A n w):aD w.heap.size (w.alloc (.cells #[.slice A n c,.int .i64 0] 25)):=by
 refine ⟨A,n,c,0,heap_alloc_new w _,Nat.zero_le _,h.1,λj hj=>?_⟩;obtain ⟨ad,x,ha,hlt,hc⟩:=h.2 j hj;exact ⟨ad,x,ha,hlt,(World.cell?_alloc_lt w _ _ (by rw[gm];exact hlt)).trans hc⟩
theorem Fl{w:World}{a:Option Addr}{len cap:Nat}{zs:List Int}
  (h:(a=none/\len=0/\cap=0/\zs=[])\/∃x,a=some x/\len<=cap/\cap<=maxLen/\zs.length=cap/\(∀i,i<zs.length->w.cell? (x.add i)=some (.int .i64 (zs.getD i 0)))/\∀n∈zs,(Lit.int .i64 n).wf=true):zq a len w:=by
 rcases h with ⟨rfl,rfl,rfl,rfl⟩|⟨x,rfl,hl,hm,hz,hc,-⟩
 .exact ⟨Nat.zero_le _,λj hj=>absurd hj (Nat.not_lt_zero _)⟩
 .refine ⟨Nat.le_trans hl hm,λj hj=>⟨x,_,rfl,?_,hc j Y⟩⟩;have:=World.block_lt_of_cell? w _ (hc j Y);rwa [gm]at this
end Go.Proofs.YtdmoogjddmdmbaaGreatDoor
