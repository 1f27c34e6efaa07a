/- Walks. -/
import Derived.Deep.AppendLies
import Derived.Test.YtdmoogjddmdmbaaGreatDoorX44
import Derived.Test.YtdmoogjddmdmbaaGreatDoorX13
import Derived.Test.YtdmoogjddmdmbaaGreatDoorX07
import Derived.Test.YtdmoogjddmdmbaaGreatDoorX41
import Derived.Test.YtdmoogjddmdmbaaGreatDoorX17
set_option maxRecDepth 100000
set_option maxHeartbeats 16000000
set_option linter.unusedVariables false
set_option linter.unusedSimpArgs false
namespace Go.Proofs.YtdmoogjddmdmbaaGreatDoor
open Go.RowKit
def plN(i:Nat):ByteArray:=⟨#[112,108,97,105,110]⟩++bs (Lib.decDigits i)
def plU(i:Nat)(x:KC):KC:=⟨plN i,x.op,x.a1,x.n1,x.c1,x.a2,x.n2,x.c2,x.mn,x.mx,true,0,0,none,0,0,0⟩
def plK:Nat->List Nat->List Kn
 |_,[]=>[]
 |i,j::r=>⟨plN i,lX j,true,0,0,[],0⟩::plK (i+1) r
def akY(b:Nat)(w:World)(e:Ending)(w':World):Prop:=∃v us js,e=.returned v/\(1<=us.length/\us.length<=2)/\us.length=js.length/\(∀j∈js,j<2)/\Rl b w' v/\(∀W,ai b w' W->BX W v us (plK 0 js))/\(∀u∈us,u.ck=0/\u.en=0/\u.n3=0/\u.wh=true)/\aD b w'/\Fr b w w'
def kQ(i:Nat):ByteArray:=⟨#[107,105,110,100]⟩++bs (Lib.decDigits i)
def T5(ck en:Int)(ws:List ByteArray)(nr:Int):Prop:=(0<=ck/\ck<=4)/\(0<=en/\en<=196608)/\((ws=[]/\nr=0)\/(ws=[⟨#[107,101,121]⟩]/\3<=nr/\nr<=8)\/(ws=[⟨#[97]⟩,⟨#[112,97,115,115]⟩]/\0<=nr/\nr<=5))
def ZJ(V:Nat->KC)(i:Nat)(u:KC):Prop:=u.nm=kQ i/\(∃j,j<6/\u.pat=(V j).pat)/\u.ck=0/\u.en=0/\u.a3=none/\u.n3=0/\u.c3=0/\u.nr=0
def WdR(b:Nat)(w:World)(u:KC)(ws:List ByteArray):Prop:=(ws=[]/\u.a3=none/\u.n3=0/\u.c3=0)\/∃g,u.a3=some ⟨g,0,none⟩/\u.n3=ws.length/\u.c3=ws.length/\b<g/\w.heap[g]?=some (.cells (ws.map Value.string).toArray 9 (0,0))
def M5(b:Nat)(V:Nat->KC)(w:World)(i:Nat)(u:KC)(k:Kn):Prop:=(u.nm=kQ i/\k.nm=kQ i)/\(∃j,j<6/\u.pat=(V j).pat/\k.pat=lX j)/\u.wh=k.wh/\(u.ck=k.ck/\u.en=k.en/\u.nr=k.nr)/\T5 k.ck k.en k.ws k.nr/\WdR b w u k.ws
theorem M5.later{b:Nat}{V:Nat->KC}{w w':World}{i:Nat}{u:KC}{k:Kn}(h:M5 b V w i u k)(hs:ai b w w'):M5 b V w' i u k:=⟨h.1,h.2.1,h.2.2.1,h.2.2.2.1,h.2.2.2.2.1,h.2.2.2.2.2.imp id λ⟨g,h1,h2,h3,h4,h5⟩=>⟨g,h1,h2,h3,h4,(hs.2 g h4 (γ h5).1).trans h5⟩⟩
def Pz(b:Nat)(V:Nat->KC)(w:World)(o:List KC)(ks:List Kn):Prop:=o.length=ks.length/\∀i (h:i<o.length) (h2:i<ks.length),M5 b V w i o[i] ks[i]
theorem Pz.later{b:Nat}{V:Nat->KC}{w w':World}{o:List KC}{ks:List Kn}(h:Pz b V w o ks)(hs:ai b w w'):Pz b V w' o ks:=⟨h.1,λi h1 h2=>(h.2 i h1 h2).later hs⟩
theorem Pz.snoc{b:Nat}{V:Nat->KC}{w:World}{o:List KC}{ks:List Kn}{u:KC}{k:Kn}(h:Pz b V w o ks)(hu:M5 b V w o.length u k):Pz b V w (o++[u]) (ks++[k]):=by
 refine ⟨by simp[h.1],λi h1 h2=>?_⟩
 by_cases hi:i<o.length
 .rw[List.getElem_append_left hi,List.getElem_append_left (by rw[<-h.1];exact hi)]
  exact h.2 i hi (by rw[<-h.1];exact hi)
 .have rJ:i=o.length:=by simp at h1;omega
  subst rJ;rw[List.getElem_append_right I,List.getElem_append_right (by rw[h.1];exact I)]
  simp only[Nat.sub_self,h.1,List.getElem_cons_zero];rw[<-h.1];exact hu
theorem M6{b:Nat}{V:Nat->KC}{w:World}{i:Nat}{u:KC}(h:ZJ V i u)(c:Int)(h0:0<=c)(h4:c<=4):∃k:Kn,M5 b V w i { u with ck:=c } k:=by
 obtain ⟨h1,⟨j,hj,h2⟩,h3,h5,h6,h7,h8,h9⟩:=h;exact ⟨⟨kQ i,lX j,u.wh,c,0,[],0⟩,⟨h1,rfl⟩,⟨j,hj,h2,rfl⟩,rfl,⟨rfl,h5,h9⟩,⟨⟨h0,h4⟩,(show (0:Int)<=0/\(0:Int)<=196608 from O),.inl ⟨rfl,rfl⟩⟩,.inl ⟨rfl,h6,h7,h8⟩⟩
theorem WL{b:Nat}{V:Nat->KC}{w:World}{i:Nat}{u:KC}(h:ZJ V i u)(z:Int)(h0:0<=z)(h4:z<4):∃k:Kn,M5 b V w i { u with en:=z*65536 } k:=by
 obtain ⟨h1,⟨j,hj,h2⟩,h3,h5,h6,h7,h8,h9⟩:=h;exact ⟨⟨kQ i,lX j,u.wh,0,z*65536,[],0⟩,⟨h1,rfl⟩,⟨j,hj,h2,rfl⟩,rfl,⟨h3,rfl,h9⟩,⟨(show (0:Int)<=0/\(0:Int)<=4 from O),by show 0<=z*65536/\z*65536<=196608;omega,.inl ⟨rfl,rfl⟩⟩,.inl ⟨rfl,h6,h7,h8⟩⟩
theorem WM{b:Nat}{V:Nat->KC}{w:World}{i:Nat}{u:KC}(h:ZJ V i u):∃k:Kn,M5 b V w i u k:=by
 obtain ⟨h1,⟨j,hj,h2⟩,h3,h5,h6,h7,h8,h9⟩:=h;exact ⟨⟨kQ i,lX j,u.wh,0,0,[],0⟩,⟨h1,rfl⟩,⟨j,hj,h2,rfl⟩,rfl,⟨h3,h5,h9⟩,⟨(show (0:Int)<=0/\(0:Int)<=4 from O),(show (0:Int)<=0/\(0:Int)<=196608 from O),.inl ⟨rfl,rfl⟩⟩,.inl ⟨rfl,h6,h7,h8⟩⟩
theorem nz{w:World}{g K j:Nat}{v:Value}{o:Obj}(h:w.heap[g]?=some o)(hK:K≠g):(w.setCell ⟨K,j,none⟩ v).heap[g]?=some o:=by
 rw[<-h];simp[World.setCell,Array.getElem?_modify,hK]
theorem pB.row{b g:Nat}{w W:World}{l:List ByteArray}{e:TypeId}{m:Nat×Nat}{n:Nat}(h:w.heap[g]?=some (.cells (l.map Value.string).toArray e m))(hn:n=l.length)(hl:l.length<=1000)(hb:b<g)(hs:ai b w W):pB W (.slice (some ⟨g,0,none⟩) n n) l:=by
 subst hn;refine ⟨_,_,rfl,⟨I,Y⟩,.inr ⟨g,0,rfl,Nat.lt_of_lt_of_le (γ h).1 hs.1,λi hi=>?_⟩⟩;rw[Nat.zero_add];exact kR h hs hb (by simp[hi])
theorem WN{b g:Nat}{V:Nat->KC}{w:World}{i:Nat}{u:KC}(h:ZJ V i u)(z:Int)(h0:3<=z)(h4:z<=8)(hb:b<g)(hg:w.heap[g]?=some (.cells #[.string ⟨#[107,101,121]⟩] 9 (0,0))):∃k:Kn,M5 b V w i { u with a3:=some ⟨g,0,none⟩,n3:=1,c3:=1,nr:=z } k:=by
 obtain ⟨h1,⟨j,hj,h2⟩,h3,h5,h6,h7,h8,h9⟩:=h;exact ⟨⟨kQ i,lX j,u.wh,0,0,[⟨#[107,101,121]⟩],z⟩,⟨h1,rfl⟩,⟨j,hj,h2,rfl⟩,rfl,⟨h3,h5,rfl⟩,⟨(show (0:Int)<=0/\(0:Int)<=4 from O),(show (0:Int)<=0/\(0:Int)<=196608 from O),.inr (.inl ⟨rfl,h0,h4⟩)⟩,.inr ⟨g,rfl,rfl,rfl,hb,hg⟩⟩
theorem WQ{b g:Nat}{V:Nat->KC}{w:World}{i:Nat}{u:KC}(h:ZJ V i u)(z:Int)(h0:0<=z)(h4:z<6)(hb:b<g)(hg:w.heap[g]?=some (.cells #[.string ⟨#[97]⟩,.string ⟨#[112,97,115,115]⟩] 9 (0,0))):∃k:Kn,M5 b V w i { u with a3:=some ⟨g,0,none⟩,n3:=2,c3:=2,nr:=z } k:=by
 obtain ⟨h1,⟨j,hj,h2⟩,h3,h5,h6,h7,h8,h9⟩:=h;exact ⟨⟨kQ i,lX j,u.wh,0,0,[⟨#[97]⟩,⟨#[112,97,115,115]⟩],z⟩,⟨h1,rfl⟩,⟨j,hj,h2,rfl⟩,rfl,⟨h3,h5,rfl⟩,⟨(show (0:Int)<=0/\(0:Int)<=4 from O),(show (0:Int)<=0/\(0:Int)<=196608 from O),.inr (.inr ⟨rfl,h0,show z<=5 by omega⟩)⟩,.inr ⟨g,rfl,rfl,rfl,hb,hg⟩⟩
theorem Rm{w:World}{B e k n:Nat}{v:Value}{xs:List Value}(h:w.ownsRow B e k v n xs):∀g,v.ownBlock=some g->∃cs,w.heap[g]?=some (.cells cs e (0,0)):=λg hg=>by
 rcases h.2 with ⟨h1,-⟩|⟨g',cap,cur,h1,-,h3,-⟩
 .rw[h1]at hg;cases hg
 .rw[h1]at hg;have:g'=g:=by injection hg
  subst this;exact ⟨cur,h3⟩
theorem WdR.grow{b B n:Nat}{w w1:World}{u:KC}{ws:List ByteArray}{v:Value}{xs:List Value}(h:WdR b w u ws)(hown:w.ownsRow B 44 11 v n xs)(hg:w.grownBy w1 v.ownBlock):WdR b w1 u ws:=by
 refine h.imp id ?_;rintro ⟨g,h1,h2,h3,h4,h5⟩;refine ⟨g,h1,h2,h3,h4,(hg.block g (γ h5).1 λe=>?_).trans h5⟩;obtain ⟨cs,h6⟩:=Rm hown g e.symm;rw[h5]at h6;injection h6 with h6;injection h6 with _ h6;exact absurd h6 O
theorem Pz.grow{b B n:Nat}{V:Nat->KC}{w w1:World}{o:List KC}{ks:List Kn}{v:Value}{xs:List Value}(h:Pz b V w o ks)(hown:w.ownsRow B 44 11 v n xs)(hg:w.grownBy w1 v.ownBlock):Pz b V w1 o ks:=
 ⟨h.1,λi h1 h2=>⟨(h.2 i h1 h2).1,(h.2 i h1 h2).2.1,(h.2 i h1 h2).2.2.1,(h.2 i h1 h2).2.2.2.1,(h.2 i h1 h2).2.2.2.2.1,(h.2 i h1 h2).2.2.2.2.2.grow hown hg⟩⟩
theorem M7{α:Type}{enc:α->List Value}{n:Nat}(E:kz enc n){P:Program}{T e:TypeId}{i0:TypeInfo}{z:Value}{jo:Nat}(ht:P.underlying T=some (.slice e))(hi:P.info? e=some i0)(hz0:i0.zero=some z)(hz1:i0.size=n)(hz2:i0.bytes=jo)(Lj:z.cells.size=n)(dV:jo<=1000)
  {w:World} {ops:Array Oper} {rest:List Oper} {op:Oper} {a:Act} {Q:Exit->Act->World->Prop} (s x:Operand) (v:Value) (c:Nat) (o:List α) (r:α) (cs:Array Value) (B:Nat)
  (og:op.guard=none) (ho:op.op=.call { callee:=.builtin .append,args:=#[s,x],argTypes:=#[T,T] })
  (hs:a.eval s=v) (hx:a.eval x=.slice (some ⟨w.heap.size,0,none⟩) 1 c) (hcs:cs=(enc r).toArray) (hown:OR e n enc B v o w) (hl:o.length<=1000000) (hB:B<=w.heap.size)
  (h:∀v' w1,OR e n enc B v' (o++[r]) w1->Below B w w1->w.grownBy w1 v.ownBlock->wpList P ops Q rest (a.put op.dst v') w1) :
  wpList P ops Q (op::rest) a (w.alloc (.cells cs e)):=by
 subst hcs;refine wpList_append_own _ og s x T ho B e i0 z n jo ht hi hz0 hz1 hz2 Lj E.pos v o.length _ hs (World.ownsRow.alloc hown _) ⟨w.heap.size,0,none⟩ 1 c (enc r) hx (by rw[E.len];omega) ?_ (E.one r) (by unfold maxLen;omega) ?_ ψ ?_
 .intro j u hj;rw[Addr.add_lit,Nat.zero_add,World.cell?_alloc_mark];simpa using hj
 .have:(o.length+1)*jo<=(o.length+1)*1000:=Nat.mul_le_mul_left _ dV;omega
 .intro v' w1 hown1 hg _;have hb:=(Below.refl w w).alloc I (.cells (enc r).toArray e);refine h v' w1 ?_ (((Below.refl B w).alloc hB (.cells (enc r).toArray e)).grown hg ψ (λk hk=>(World.ownsRow.lt hown k hk).1)) ⟨hg.os.trans hb.os,hg.tape.trans hb.tape,hg.output.trans hb.output,Nat.le_trans hb.size hg.size,λk hk hne=>(hg.block k (Nat.lt_of_lt_of_le hk hb.size) hne).trans (hb.block k hk)⟩;show w1.ownsRow B e n v' (o++[r]).length (bF enc (o++[r]));rw[bU,bz,List.length_append];exact hown1
def ZL(i:Nat)(k:Kn):Prop:=k.nm=kQ i/\(∃j,j<6/\k.pat=lX j)/\T5 k.ck k.en k.ws k.nr
def WR(b:Nat)(w:World)(e:Ending)(w':World):Prop:=∃v us ks,e=.returned v/\(1<=us.length/\us.length<=3)/\us.length=ks.length/\Rl b w' v/\(∀W,ai b w' W->BX W v us ks)/\(∀i (h:i<ks.length),ZL i ks[i])/\aD b w'/\Fr b w w'
theorem EM(b:Nat)(w:World)(ht:aD b w):
  Calls Tryz.prog 6 #[.pointer (some ⟨b,0,none⟩)] w (WR b w):=by
 have dL:=ht.lt;have HT:=Z ht;clear ht
 go_enter Tryz.func6,Tryz.ntmps6
 go_wp2_with fail;refine (Ch b w dL).mono ?_;rintro e w1 ⟨g,rfl,⟨-,bS,g',c',Kf,-,-,-,hS⟩,hb1⟩;injection Kf with Kf _ YM;injection Kf with Kf;injection Kf with Kf _ _;subst Kf YM;have nA:=HT.out.below hb1;have gX:Fr b w w1:=Fr.aa hb1;obtain ⟨V,gL,dR,k0,k1,k2,k3,k4,kP⟩:=bS.kcs;have HND:=Z (λ(W:World) (hs:ai b w1 W) (j:Nat) (hj:j<6)=>show bT W ([lX 0,lX 1,lX 2,lX 3,lX 4,lX 5][j]'(by simpa using hj)) (V j).pat from ajR hS gL dR (by rw[Nat.zero_add];exact k0 j hj) (by rw[Nat.zero_add];exact k1 j hj) (by rw[Nat.zero_add];exact k2 j hj) (by rw[Nat.zero_add];exact k3 j hj) (by rw[Nat.zero_add];exact k4 j hj) (by simpa using hj) W hs)
 have HK:=Z (λ(w':World) (hs:ai b w1 w')=>show ((∀j,j<6->w'.cell? ⟨g,j*5,none⟩=some (.int .i64 (V j).op))/\(∀j,j<6->w'.cell? ⟨g,j*5+1,none⟩=some (.slice (V j).a1 (V j).n1 (V j).c1))/\(∀j,j<6->w'.cell? ⟨g,j*5+2,none⟩=some (.slice (V j).a2 (V j).n2 (V j).c2))/\(∀j,j<6->w'.cell? ⟨g,j*5+3,none⟩=some (.int .i64 (V j).mn))/\(∀j,j<6->w'.cell? ⟨g,j*5+4,none⟩=some (.int .i64 (V j).mx))) from
  ⟨λj hj=>(hs.cell gL dR).trans (k0 j hj),λj hj=>(hs.cell gL dR).trans (k1 j hj),λj hj=>(hs.cell gL dR).trans (k2 j hj),λj hj=>(hs.cell gL dR).trans (k3 j hj),λj hj=>(hs.cell gL dR).trans (k4 j hj)⟩)
 have HP:=Z (λ(w':World) (hs:ai b w1 w') (j:Nat) (hj:j<6)=>(kP j hj).later hs);have BT:=Z (gA b 1 3 w1 Y Y Y Y nA);clear bS k0 k1 k2 k3 k4 kP nA hS;go_wp2_with fail;refine BT.out.mono ?_;rintro e w2 ⟨r,rfl,GG,nR,jP,eI⟩;obtain ⟨rn,Rn⟩:∃rn:Nat,r=(rn:Int):=⟨r.toNat,Y⟩;subst Rn;have acZ:=gX.trans eI;have H2:=Z (H jP (H eI acZ));clear BT jP gX eI hb1 acZ;go_wp2_with fail;go_loopw [3,5] (λv i wr=>∃(k:Nat) (o:List KC) (ks:List Kn),k<=rn/\i=.int .i64 (k:Int)/\k+o.length=rn/\OR 44 11 KC.cs w2.heap.size v o wr/\Pz b V wr o ks/\aD b wr/\Fr b w2 wr) (λ_ i _=>(intOf i).toNat)
 case atStart=>exact ⟨rn,[],[],I,rfl,ξ,OR.km _ _ _,⟨rfl,λi h=>absurd h (Nat.not_lt_zero i)⟩,H2.out.1,Fr.refl _ _⟩
 case round=>
  obtain ⟨k,o,ks,hk,rfl,IA,hown,Kv,sk,dY⟩:=hrel;by_cases hlt:0<k
  .have hd:decide ((0:Int)<(k:Int))=true:=τ;have cX:decide (0<k)=true:=decide_eq_true hlt;obtain ⟨A,c0,rfl,hle,bB⟩:=hown.cells Cg;clear bB;have H0:=Z (H hown (H Kv (H sk dY)));have EN:Fr b w1 wr:=H2.out.2.1.trans dY;have Ci:=Z (λw' (hf:Fr b wr w') (ht:aD b w')=>show (aD b w'/\((∀j,j<6->w'.cell? ⟨g,j*5,none⟩=some (.int .i64 (V j).op))/\(∀j,j<6->w'.cell? ⟨g,j*5+1,none⟩=some (.slice (V j).a1 (V j).n1 (V j).c1))/\(∀j,j<6->w'.cell? ⟨g,j*5+2,none⟩=some (.slice (V j).a2 (V j).n2 (V j).c2))/\(∀j,j<6->w'.cell? ⟨g,j*5+3,none⟩=some (.int .i64 (V j).mn))/\(∀j,j<6->w'.cell? ⟨g,j*5+4,none⟩=some (.int .i64 (V j).mx)))) from
    ⟨ht,HK.out w' (ai.dO (EN.trans hf))⟩)
   have pj:o.length<=3:=Y;have NU:=Z (λw'=>EO 0 o.length w' Y Y Y);obtain ⟨nmS,Ro⟩:∃nmS:ByteArray,bs (Lib.decDigits o.length)=nmS:=⟨_,rfl⟩;have kr:4+nmS.size<=9223372036854775807:=by rw[<-Ro,df];have:=Cj o.length 0 Y;omega
   rw[Ro]at NU;have Pn:=Z (show ⟨#[107,105,110,100]⟩++nmS=kQ o.length by rw[<-Ro];rfl)
   have mB:=(λw':World=>run_string_add_sum (P:=Tryz.prog) w' ⟨#[107,105,110,100]⟩ nmS kr);clear Ro kr;have Rp:=Z EN;have od:g<wr.heap.size:=Nat.lt_of_lt_of_le dR EN.size;have GH:Hid (Fr b wr wr.drew):=(Fr.refl _ _).drew;have Cb:Hid (aD b wr.drew):=sk.below υ.drew;have hz0:g≠wr.heap.size:=Y;have T6:b<wr.heap.size:=Y;have ac1:¬wr.heap.size=g:=Y;clear hown Kv sk dY EN
   go_upto_region 6 with fail
   go_cut [6] from 14 to 62 (λp wx=>∃(K:Nat) (u:KC),p=.pointer (some ⟨K,0,none⟩)/\wr.heap.size<=K/\wx.heap[K]?=some (.cells u.cs.toArray 44 (0,0))/\ZJ V o.length u/\aD b wx/\Fr b wr wx)
   case first=>
    go_region_held3 (λw'=>aD b w'/\((∀j,j<6->w'.cell? ⟨g,j*5,none⟩=some (.int .i64 (V j).op))/\(∀j,j<6->w'.cell? ⟨g,j*5+1,none⟩=some (.slice (V j).a1 (V j).n1 (V j).c1))/\(∀j,j<6->w'.cell? ⟨g,j*5+2,none⟩=some (.slice (V j).a2 (V j).n2 (V j).c2))/\(∀j,j<6->w'.cell? ⟨g,j*5+3,none⟩=some (.int .i64 (V j).mn))/\(∀j,j<6->w'.cell? ⟨g,j*5+4,none⟩=some (.int .i64 (V j).mx))))
     (first|exact Ci.out _ Ji.out htB.out|exact Ci.out _ (M8 Ji.out (by first|omega|exact I)) (Ck htB.out (Nat.lt_of_lt_of_le T6 (by first|omega|exact I)))|exact Ci.out _ (Ji.out.then (υ.alloc Ji.out.size _)) (htB.out.below (υ.alloc I _))|exact Ci.out _ Kw.out ZM.out|exact Ci.out _ (Kw.out.then (υ.alloc Kw.out.size _)) (ZM.out.below (υ.alloc I _))|exact Ci.out _ Rq.out WS.out|exact Ci.out _ (Rq.out.then (υ.alloc Rq.out.size _)) (WS.out.below (υ.alloc I _))|exact Ci.out _ GH.out Cb.out|exact Ci.out _ (GH.out.then (υ.alloc GH.out.size _)) (Cb.out.below (υ.alloc I _)))
     (first | (go_at_call 22;refine (NU.out _).mono ?_;rintro e w3 ⟨rfl,ZN⟩;(first | (have Rq:Hid (Fr b wr w3):=GH.out.then (ZN.mono GH.out.size);have WS:Hid (aD b w3):=Cb.out.below ZN) | (have Rq:Hid (Fr b wr w3):=(GH.out.then (υ.alloc GH.out.size _)).then (ZN.mono (by simp[World.drew,World.drewN]));have WS:Hid (aD b w3):=(Cb.out.below (υ.alloc I _)).below ZN;have KN:=Z (KR.step (b:=b) (heap_alloc_new wr.drew (ZK 44)) (Fr.aa ZN) (by simp only[World.drew,World.drewN];omega))));have hsN:wr.heap.size<=w3.heap.size:=Rq.out.size;have as3:g<w3.heap.size:=Y;have hzN:g≠w3.heap.size:=Y;have as4:¬w3.heap.size=g:=Y;clear ZN) | (have M9:=ZM;clear M9;go_at_call 20;refine (bQ b 2 _ Y Y (by first|exact ZM.out|exact ZM.out.below (υ.alloc I _))).mono ?_;rintro e w5 ⟨z,rfl,z0,z1,ac3,Cl⟩;obtain ⟨whv,YT⟩:∃x:Bool,(z == 1)=x:=⟨_,rfl⟩;(first|have Ji:Hid (Fr b wr w5):=Kw.out.trans Cl|have Ji:Hid (Fr b wr w5):=(Kw.out.then (υ.alloc Kw.out.size _)).trans Cl);have htB:=Z ac3;(first | (have prb:=KA;clear prb;have KB:=Z (KR.step KA.out Cl (by first|omega | (simp only[World.drew,World.drewN];omega)));have cB:=ac4 KB.out rfl whv;simp[go_sem]at cB) | (rw[GI]at Cl;have KB:=Z (Cl.2 Y);replace Cl:=Cl.1;have cB:=ac4 KB.out rfl whv;simp[go_sem]at cB)|skip);have hsB:wr.heap.size<=w5.heap.size:=Ji.out.size;have as5:g<w5.heap.size:=Y;have hzB:g≠w5.heap.size:=Y;have as6:¬w5.heap.size=g:=Y;clear ac3 Cl ZM Kw;have z2:z.toNat<2:=Y) | (have M9:=WS;clear M9;go_at_call 20;refine (bQ b 6 _ Y Y (by first|exact WS.out|exact WS.out.below (υ.alloc I _))).mono ?_;rintro e w4 ⟨q,rfl,q0,q1,ac5,Cm⟩;(first|have Kw:Hid (Fr b wr w4):=Rq.out.trans Cm|have Kw:Hid (Fr b wr w4):=(Rq.out.then (υ.alloc Rq.out.size _)).trans Cm);have ZM:=Z ac5;(first | (have prb:=KN;clear prb;have KA:=Z (KR.step KN.out Cm (by first|omega | (simp only[World.drew,World.drewN];omega)));skip) | (rw[GI]at Cm;have KA:=Z (Cm.2 Y);replace Cm:=Cm.1)|skip);have hsA:wr.heap.size<=w4.heap.size:=Kw.out.size;have as7:g<w4.heap.size:=Y;have We:g≠w4.heap.size:=Y;have as8:¬w4.heap.size=g:=Y;clear ac5 Cm WS Rq;have q2:q.toNat<6:=Y))
    all_goals
     (try go_wp2_with fail)
     go_meet
     first
      |exact ⟨w5.heap.size,⟨_,(V q.toNat).op,(V q.toNat).a1,(V q.toNat).n1,(V q.toNat).c1,(V q.toNat).a2,(V q.toNat).n2,(V q.toNat).c2,(V q.toNat).mn,(V q.toNat).mx,_,0,0,none,0,0,0⟩,rfl,Ji.out.size,heap_alloc_new _ _,⟨Pn.out,⟨q.toNat,q2,rfl⟩,rfl,rfl,rfl,rfl,rfl,rfl⟩,htB.out.below (υ.alloc I _),Ji.out.then (υ.alloc Ji.out.size _)⟩
      |exact ⟨_,⟨_,(V q.toNat).op,(V q.toNat).a1,(V q.toNat).n1,(V q.toNat).c1,(V q.toNat).a2,(V q.toNat).n2,(V q.toNat).c2,(V q.toNat).mn,(V q.toNat).mx,_,0,0,none,0,0,0⟩,rfl,(by first|omega|exact I),setRow_heap _ _ _ _ _ _ KB.out,⟨Pn.out,⟨q.toNat,q2,rfl⟩,rfl,rfl,rfl,rfl,rfl,rfl⟩,Ck htB.out (Nat.lt_of_lt_of_le T6 (by first|omega|exact I)),M8 Ji.out (by first|omega|exact I)⟩
   case rest=>
    obtain ⟨K,u,rfl,hK,hrow,Rs,GJ,MF⟩:=hcut;obtain ⟨W6,BC⟩:∃W6:World,W6=wc:=⟨_,rfl⟩;rw[<-BC]at hrow GJ MF|-;have HX:=Z (H hrow (H Rs (H GJ MF)));have hKs:K<W6.heap.size:=(γ hrow).1;clear BC hrow Rs GJ MF NU Pn GH Cb Ci hz0 ac1 mB
    apply_assumption
    go_upto_region 7 with fail
    go_cut [30] from 29 to 62 (λv wx=>∃r:Int,v=.int .i64 r/\0<=r/\r<8/\aD b wx/\Fr b W6 wx)
    case first=>
     go_wp2_with fail;refine (bQ b _ _ Y Y HX.out.2.2.1).mono ?_;rintro e w7 ⟨r,rfl,r0,r1,ht7,Ei⟩;go_wp2_with fail
     go_meet
     exact ⟨r,rfl,r0,r1,ht7,Ei⟩
    case rest=>
     obtain ⟨r,rfl,r0,r1,ht7,Ei⟩:=hcut;obtain ⟨W7,hW7⟩:∃W7:World,W7=wc:=⟨_,rfl⟩;rw[<-hW7]at ht7 Ei|-;have Ky:b<K:=Y;have T7:=KR.step HX.out.1 Ei Ky;have T8:=HX.out.2.1;have WT:=HX.out.2.2.2.trans Ei;have hK7:K<W7.heap.size:=Nat.lt_of_lt_of_le hKs Ei.size;have hs7:=WT.size;clear hW7 Ei
     apply_assumption
     go_cut [6] from 29 to 62 (λp wx=>p=.pointer (some ⟨K,0,none⟩)/\∃u:KC,wx.heap[K]?=some (.cells u.cs.toArray 44 (0,0))/\(∃k9:Kn,M5 b V wx o.length u k9)/\aD b wx/\Fr b wr wx)
     case first=>
      have H7:=Z (H T7 (H T8 (H WT ht7)));clear T7 T8 WT ht7;have hr:r=0\/r=1\/r=2\/r=3\/r=4\/5<=r:=Y;rcases hr with rfl|rfl|rfl|rfl|rfl|hr
      .obtain ⟨⟨-,-,-,-,-,-,-,c7,-⟩,we⟩:=KR.cells H7.out.1;have f7:=we 7;clear we;go_wp2_with fail
       go_meet
       exact ⟨rfl,{ u with ck:=1 },cN H7.out.1 7 _,M6 H7.out.2.1 1 Y Y,fD H7.out.2.2.2 Ky,kS H7.out.2.2.1 hK⟩
      .go_wp2_with fail;refine (bQ b _ _ Y Y H7.out.2.2.2).mono ?_;rintro e w8 ⟨z,rfl,z0,z1,Na,zX⟩;have oV:=KR.step H7.out.1 zX Ky;obtain ⟨⟨-,-,-,-,-,-,-,-,c8,-⟩,we⟩:=KR.cells oV;have f8:=we 8;have ZO:IntKind.i64.wrap (z*65536)=z*65536:=IntWalk.i64_in _ Y;have R8:=Z (H oV (H Na zX));clear we oV Na zX;go_wp2_with fail
       go_meet
       exact ⟨rfl,{ u with en:=z*65536 },cN R8.out.1 8 _,WL H7.out.2.1 z Y Y,fD R8.out.2.1 Ky,kS (H7.out.2.2.1.trans R8.out.2.2) hK⟩
      .go_wp2_with fail;refine (gA b 3 8 _ Y Y Y Y (H7.out.2.2.2.below (υ.alloc I _))).mono ?_;rintro e w8 ⟨z,rfl,z0,z1,Na,wJ⟩;have zX:Fr b W7 w8:=(Fr.aa (υ.alloc I _)).trans wJ;have oV:=KR.step H7.out.1 zX Ky;obtain ⟨⟨-,-,-,-,-,-,-,-,-,c9,mR⟩,we⟩:=KR.cells oV;have f9:=we 9;have f10:=we 10;have R8:=Z (H oV (H Na zX));have RW8:=Z (KR.step (heap_alloc_new W7 _) wJ Y);clear we oV Na zX wJ;go_wp2_with fail
       go_meet
       exact ⟨rfl,{ u with a3:=some ⟨W7.heap.size,0,none⟩,n3:=1,c3:=1,nr:=z },cN (cN R8.out.1 9 _) 10 _,WN H7.out.2.1 z Y Y Y (nz (nz RW8.out Y) Y),fD (fD R8.out.2.1 Ky) Ky,kS (kS (H7.out.2.2.1.trans R8.out.2.2) hK) hK⟩
      .go_wp2_with fail;refine (bQ b _ _ Y Y (H7.out.2.2.2.below (υ.alloc I _))).mono ?_;rintro e w8 ⟨z,rfl,z0,z1,Na,wJ⟩;have zX:Fr b W7 w8:=(Fr.aa (υ.alloc I _)).trans wJ;have oV:=KR.step H7.out.1 zX Ky;obtain ⟨⟨-,-,-,-,-,-,-,-,-,c9,mR⟩,we⟩:=KR.cells oV;have f9:=we 9;have f10:=we 10;have R8:=Z (H oV (H Na zX));have RW8:=Z (KR.step (heap_alloc_new W7 _) wJ Y);clear we oV Na zX wJ;go_wp2_with fail
       go_meet
       exact ⟨rfl,{ u with a3:=some ⟨W7.heap.size,0,none⟩,n3:=2,c3:=2,nr:=z },cN (cN R8.out.1 9 _) 10 _,WQ H7.out.2.1 z Y Y Y (nz (nz RW8.out Y) Y),fD (fD R8.out.2.1 Ky) Ky,kS (kS (H7.out.2.2.1.trans R8.out.2.2) hK) hK⟩
      .go_wp2_with fail;refine (gA b 0 4 _ Y Y Y Y H7.out.2.2.2).mono ?_;rintro e w8 ⟨z,rfl,z0,z1,Na,zX⟩;have oV:=KR.step H7.out.1 zX Ky;obtain ⟨⟨-,-,-,-,-,-,-,c7,-⟩,we⟩:=KR.cells oV;have f7:=we 7;have R8:=Z (H oV (H Na zX));clear we oV Na zX;go_wp2_with fail
       go_meet
       exact ⟨rfl,{ u with ck:=z },cN R8.out.1 7 _,M6 H7.out.2.1 z Y Y,fD R8.out.2.1 Ky,kS (H7.out.2.2.1.trans R8.out.2.2) hK⟩
      .have e0:(r == 0)=false:=by simpa using (show ¬r=0 by omega)
       have e1:(r == 1)=false:=by simpa using (show ¬r=1 by omega)
       have e2:(r == 2)=false:=by simpa using (show ¬r=2 by omega)
       have e3:(r == 3)=false:=by simpa using (show ¬r=3 by omega)
       have e4:(r == 4)=false:=by simpa using (show ¬r=4 by omega)
       go_wp2_with fail
       go_meet
       exact ⟨rfl,u,H7.out.1,WM H7.out.2.1,H7.out.2.2.2,H7.out.2.2.1⟩
     case rest=>
      obtain ⟨rfl,u9,Nb,⟨kz9,pR⟩,ht9,wA⟩:=hcut;obtain ⟨W9,qT⟩:∃W9:World,W9=wc:=⟨_,rfl⟩;rw[<-qT]at Nb ht9 wA pR|-;have cT:OR 44 11 KC.cs w2.heap.size (.slice A o.length c0) o W9:=H0.out.1.keep λk hk=>wA.block k (World.ownsRow.lt H0.out.1 k hk).2 (by intro e;injection e with e;have:=(World.ownsRow.lt H0.out.1 k hk).1;have:=H2.out.2.2.size;omega)
      obtain ⟨⟨k0,k1,k2,k3,k4,k5,k6,k7,k8,k9,ZP⟩,-⟩:=KR.cells Nb;have ajW:w2.heap.size<=W9.heap.size:=(H0.out.2.2.2.trans wA).size;have R9:=Z (H ht9 (H0.out.2.2.2.trans wA));have HJ:=Z (H pR (ai.dO wA));clear qT Nb wA ht9 pR;obtain ⟨i0,hi,hz0,hz1,hz2⟩:=info_parts Jj;have hw1:IntKind.i64.wrap ((k:Int) - 1)=(k:Int) - 1:=IntWalk.i64_in _ Y
      apply_assumption
      go_wp2_with (at_builtin;refine M7 Cg Tryz.underlying26 hi hz0 hz1 hz2 rfl Y _ _ _ _ _ u9 _ _ rfl rfl rfl rfl rfl cT Y ajW ?_;intro v10 GK WU wP ajX);go_roundw
      case rel=>
       obtain ⟨r3,r4⟩:=R9.out;have aJ:b<w2.heap.size:=Nat.lt_of_lt_of_le dL H2.out.2.2.size;exact ⟨k - 1,o++[u9],ks++[kz9],Y,by go_num,ψ,WU,((H0.out.2.1.later HJ.out.2).snoc HJ.out.1).grow cT ajX,r3.fU wP aJ,r4.then wP⟩
      case measure=>exact μ
  .obtain rfl:k=0:=Y;have H0:=Z (H hown (H Kv (H sk dY)));clear hown Kv sk dY;go_wp2_with fail;go_ret;obtain ⟨hown,Kv,sk,dY⟩:=H0.out;have aJ:b<w2.heap.size:=Nat.lt_of_lt_of_le dL H2.out.2.2.size;have EN:Fr b w1 wr:=H2.out.2.1.trans dY;have hne:o≠[]:=λe=>by rw[e]at IA;simp at IA;omega
   obtain ⟨A,c0,rfl,hle,bB⟩:=hown.cells Cg;obtain ⟨Af,cf,e0,-,Dh⟩:=ar (show wr.ownsRow _ _ _ _ _ _ from hown);injection e0 with _ _ e0;subst e0;obtain ⟨g3,rfl,hB3,sN,Dg⟩:=bB.resolve_left hne;refine ⟨_,o,ks,rfl,⟨Y,Y⟩,Kv.1,Rl.gq hown aJ hne Y (λu hu=>?_),λW hW=>⟨Kv.1,_,c0,rfl,⟨hle,Y⟩,.inr ⟨g3,0,rfl,Nat.lt_of_lt_of_le sN hW.1,λi hi j hj=>?_⟩,λi h1 h2=>?_⟩,λi h=>?_,sk,H2.out.2.2.trans dY⟩
   .obtain ⟨i,hi,rfl⟩:=List.mem_iff_getElem.1 hu;obtain ⟨-,⟨j,hj,hp,-⟩,-⟩:=Kv.2 i hi (by rw[<-Kv.1];exact hi)
    rw[hp];exact HP.out wr (ai.dO EN) j hj
   .rw[Nat.zero_add,hW.cell Y sN];exact (Dg i hi j hj).1
   .obtain ⟨⟨q1,q2⟩,⟨j,hj,hp,sj⟩,q3,⟨q4,q5,q6⟩,q8,q7⟩:=Kv.2 i h1 h2;have bc:=HND.out W ((ai.dO EN).trans hW) j hj;have Bg:[lX 0,lX 1,lX 2,lX 3,lX 4,lX 5][j]'ψ=lX j:=by
     have hx:j=0\/j=1\/j=2\/j=3\/j=4\/j=5:=Y;rcases hx with rfl|rfl|rfl|rfl|rfl|rfl <;> rfl
    rw[Bg,<-hp,<-sj]at bc;refine ⟨q1.trans q2.symm,bc,q3,q4,q5,?_,q6⟩;rcases q7 with ⟨e1,e2,e3,e4⟩|⟨g9,e1,e2,e3,e4,e5⟩
    .rw[e1,e2,e3,e4];exact pB.km W
    .rw[e1,e2,e3];exact pB.row e5 rfl (by rcases q8.2.2 with ⟨e,-⟩|⟨e,-⟩|⟨e,-⟩ <;> rw[e] <;> simp) e4 hW
   .obtain ⟨⟨-,q2⟩,⟨j,hj,-,sj⟩,-,-,q5,-⟩:=Kv.2 i (by rw[Kv.1];exact h) h
    exact ⟨q2,⟨j,hj,sj⟩,q5⟩
end Go.Proofs.YtdmoogjddmdmbaaGreatDoor
