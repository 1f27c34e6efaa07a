/- Walks. -/
import Derived.Deep.AppendLies
import Derived.Test.YtdmoogjddmdmbaaGreatDoorV46
import Derived.Test.YtdmoogjddmdmbaaGreatDoorV16
import Derived.Test.YtdmoogjddmdmbaaGreatDoorV08
import Derived.Test.YtdmoogjddmdmbaaGreatDoorV41
import Derived.Test.YtdmoogjddmdmbaaGreatDoorV23
set_option maxRecDepth 100000
set_option maxHeartbeats 16000000
set_option linter.unusedVariables false
set_option linter.unusedSimpArgs false
namespace Go.Proofs.YtdmoogjddmdmbaaGreatDoor
open Go.RowKit
section
set_option linter.unusedVariables false
set_option linter.unusedSimpArgs false
open Go.RowKit
def plN (i:Nat):ByteArray:=⟨#[112,108,97,105,110]⟩++bs (Lib.decDigits i)
def plU (i:Nat) (x:KC):KC:=⟨plN i,x.op,x.a1,x.n1,x.c1,x.a2,x.n2,x.c2,x.mn,x.mx,true,0,0,none,0,0,0⟩
def plK:Nat->List Nat->List Kn
 | _,[]=>[]
 | i,j::r=>⟨plN i,iG j,true,0,0,[],0⟩::plK (i+1) r
def aku (b:Nat) (w:World) (e:Ending) (w':World):Prop:=∃v us js,e = .returned v/\(1<=us.length/\us.length<=2)/\us.length=js.length/\(∀j∈js,j<2)/\Rz b w' v/\(∀W,af b w' W->fu W v us (plK 0 js))/\(∀u∈us,u.ck=0/\u.en=0/\u.n3=0/\u.wh=true)/\az b w'/\Fr b w w'
end
section
set_option linter.unusedVariables false
set_option linter.unusedSimpArgs false
open Go.RowKit
def kU (i:Nat):ByteArray:=⟨#[107,105,110,100]⟩++bs (Lib.decDigits i)
def TX (ck en:Int) (ws:List ByteArray) (nr:Int):Prop:=(0<=ck/\ck<=4)/\(0<=en/\en<=196608)/\((ws=[]/\nr=0)\/(ws=[⟨#[107,101,121]⟩]/\3<=nr/\nr<=8)\/(ws=[⟨#[97]⟩,⟨#[112,97,115,115]⟩]/\0<=nr/\nr<=5))
def ZO (V:Nat->KC) (i:Nat) (u:KC):Prop:=u.nm=kU i/\(∃j,j<6/\u.pat=(V j).pat)/\u.ck=0/\u.en=0/\u.a3=none/\u.n3=0/\u.c3=0/\u.nr=0
def WdR (b:Nat) (w:World) (u:KC) (ws:List ByteArray):Prop:=(ws=[]/\u.a3=none/\u.n3=0/\u.c3=0)\/∃g,u.a3=some ⟨g,0,none⟩/\u.n3=ws.length/\u.c3=ws.length/\b<g/\w.heap[g]?=some (.cells (ws.map Value.string).toArray 9 (0,0))
def NC (b:Nat) (V:Nat->KC) (w:World) (i:Nat) (u:KC) (k:Kn):Prop:=(u.nm=kU i/\k.nm=kU i)/\(∃j,j<6/\u.pat=(V j).pat/\k.pat=iG j)/\u.wh=k.wh/\(u.ck=k.ck/\u.en=k.en/\u.nr=k.nr)/\TX k.ck k.en k.ws k.nr/\WdR b w u k.ws
theorem NC.later {b:Nat} {V:Nat->KC} {w w':World} {i:Nat} {u:KC} {k:Kn} (h:NC b V w i u k) (hs:af b w w'):NC b V w' i u k:=⟨h.1,h.2.1,h.2.2.1,h.2.2.2.1,h.2.2.2.2.1,h.2.2.2.2.2.imp id λ⟨g,h1,h2,h3,h4,h5⟩=>⟨g,h1,h2,h3,h4,(hs.2 g h4 (Array.getElem?_eq_some_iff.1 h5).1).trans h5⟩⟩
def PT (b:Nat) (V:Nat->KC) (w:World) (o:List KC) (ks:List Kn):Prop:=o.length=ks.length/\∀i (h:i<o.length) (h2:i<ks.length),NC b V w i o[i] ks[i]
theorem PT.later {b:Nat} {V:Nat->KC} {w w':World} {o:List KC} {ks:List Kn} (h:PT b V w o ks) (hs:af b w w'):PT b V w' o ks:=⟨h.1,λi h1 h2=>(h.2 i h1 h2).later hs⟩
theorem PT.snoc {b:Nat} {V:Nat->KC} {w:World} {o:List KC} {ks:List Kn} {u:KC} {k:Kn} (h:PT b V w o ks) (hu:NC b V w o.length u k):PT b V w (o++[u]) (ks++[k]):=by
 refine ⟨by simp[h.1],λi h1 h2=>?_⟩
 by_cases hi:i<o.length
 .rw[List.getElem_append_left hi,List.getElem_append_left (by rw[<-h.1];exact hi)]
  exact h.2 i hi (by rw[<-h.1];exact hi)
 .have sR:i=o.length:=by simp at h1;omega
  subst sR;rw[List.getElem_append_right (Nat.le_refl _),List.getElem_append_right (by rw[h.1];exact Nat.le_refl _)]
  simp only[Nat.sub_self,h.1,List.getElem_cons_zero];rw[<-h.1];exact hu
theorem ND {b:Nat} {V:Nat->KC} {w:World} {i:Nat} {u:KC} (h:ZO V i u) (c:Int) (h0:0<=c) (h4:c<=4):∃k:Kn,NC b V w i { u with ck:=c } k:=by
 obtain ⟨h1,⟨j,hj,h2⟩,h3,h5,h6,h7,h8,h9⟩:=h;exact ⟨⟨kU i,iG j,u.wh,c,0,[],0⟩,⟨h1,rfl⟩,⟨j,hj,h2,rfl⟩,rfl,⟨rfl,h5,h9⟩,⟨⟨h0,h4⟩,(show (0:Int)<=0/\(0:Int)<=196608 from by decide), .inl ⟨rfl,rfl⟩⟩, .inl ⟨rfl,h6,h7,h8⟩⟩
theorem WY {b:Nat} {V:Nat->KC} {w:World} {i:Nat} {u:KC} (h:ZO V i u) (z:Int) (h0:0<=z) (h4:z<4):∃k:Kn,NC b V w i { u with en:=z*65536 } k:=by
 obtain ⟨h1,⟨j,hj,h2⟩,h3,h5,h6,h7,h8,h9⟩:=h;exact ⟨⟨kU i,iG j,u.wh,0,z*65536,[],0⟩,⟨h1,rfl⟩,⟨j,hj,h2,rfl⟩,rfl,⟨h3,rfl,h9⟩,⟨(show (0:Int)<=0/\(0:Int)<=4 from by decide),by show 0<=z*65536/\z*65536<=196608;omega, .inl ⟨rfl,rfl⟩⟩, .inl ⟨rfl,h6,h7,h8⟩⟩
theorem WZ {b:Nat} {V:Nat->KC} {w:World} {i:Nat} {u:KC} (h:ZO V i u):∃k:Kn,NC b V w i u k:=by
 obtain ⟨h1,⟨j,hj,h2⟩,h3,h5,h6,h7,h8,h9⟩:=h;exact ⟨⟨kU i,iG j,u.wh,0,0,[],0⟩,⟨h1,rfl⟩,⟨j,hj,h2,rfl⟩,rfl,⟨h3,h5,h9⟩,⟨(show (0:Int)<=0/\(0:Int)<=4 from by decide),(show (0:Int)<=0/\(0:Int)<=196608 from by decide), .inl ⟨rfl,rfl⟩⟩, .inl ⟨rfl,h6,h7,h8⟩⟩
theorem nu {w:World} {g K j:Nat} {v:Value} {o:Obj} (h:w.heap[g]?=some o) (hK:K≠g):(w.setCell ⟨K,j,none⟩ v).heap[g]?=some o:=by
 rw[<-h];simp[World.setCell,Array.getElem?_modify,hK]
theorem pK.row {b g:Nat} {w W:World} {l:List ByteArray} {e:TypeId} {m:Nat×Nat} {n:Nat} (h:w.heap[g]?=some (.cells (l.map Value.string).toArray e m)) (hn:n=l.length) (hl:l.length<=1000) (hb:b<g) (hs:af b w W):pK W (.slice (some ⟨g,0,none⟩) n n) l:=by
 subst hn;refine ⟨_,_,rfl,⟨Nat.le_refl _,by omega⟩, .inr ⟨g,0,rfl,Nat.lt_of_lt_of_le (Array.getElem?_eq_some_iff.1 h).1 hs.1,λi hi=>?_⟩⟩
 rw[Nat.zero_add];exact kV h hs hb (by simp[hi])
theorem W4 {b g:Nat} {V:Nat->KC} {w:World} {i:Nat} {u:KC} (h:ZO V i u) (z:Int) (h0:3<=z) (h4:z<=8) (hb:b<g) (hg:w.heap[g]?=some (.cells #[.string ⟨#[107,101,121]⟩] 9 (0,0))):∃k:Kn,NC b V w i { u with a3:=some ⟨g,0,none⟩,n3:=1,c3:=1,nr:=z } k:=by
 obtain ⟨h1,⟨j,hj,h2⟩,h3,h5,h6,h7,h8,h9⟩:=h;exact ⟨⟨kU i,iG j,u.wh,0,0,[⟨#[107,101,121]⟩],z⟩,⟨h1,rfl⟩,⟨j,hj,h2,rfl⟩,rfl,⟨h3,h5,rfl⟩,⟨(show (0:Int)<=0/\(0:Int)<=4 from by decide),(show (0:Int)<=0/\(0:Int)<=196608 from by decide), .inr (.inl ⟨rfl,h0,h4⟩)⟩, .inr ⟨g,rfl,rfl,rfl,hb,hg⟩⟩
theorem W5 {b g:Nat} {V:Nat->KC} {w:World} {i:Nat} {u:KC} (h:ZO V i u) (z:Int) (h0:0<=z) (h4:z<6) (hb:b<g) (hg:w.heap[g]?=some (.cells #[.string ⟨#[97]⟩, .string ⟨#[112,97,115,115]⟩] 9 (0,0))):∃k:Kn,NC b V w i { u with a3:=some ⟨g,0,none⟩,n3:=2,c3:=2,nr:=z } k:=by
 obtain ⟨h1,⟨j,hj,h2⟩,h3,h5,h6,h7,h8,h9⟩:=h;exact ⟨⟨kU i,iG j,u.wh,0,0,[⟨#[97]⟩,⟨#[112,97,115,115]⟩],z⟩,⟨h1,rfl⟩,⟨j,hj,h2,rfl⟩,rfl,⟨h3,h5,rfl⟩,⟨(show (0:Int)<=0/\(0:Int)<=4 from by decide),(show (0:Int)<=0/\(0:Int)<=196608 from by decide), .inr (.inr ⟨rfl,h0,show z<=5 by omega⟩)⟩, .inr ⟨g,rfl,rfl,rfl,hb,hg⟩⟩
theorem RA {w:World} {B e k n:Nat} {v:Value} {xs:List Value} (h:w.ownsRow B e k v n xs):∀g,v.ownBlock=some g->∃cs,w.heap[g]?=some (.cells cs e (0,0)):=λg hg=>by
 rcases h.2 with ⟨h1,-⟩ | ⟨g',cap,cur,h1,-,h3,-⟩
 .rw[h1]at hg;cases hg
 .rw[h1]at hg;have:g'=g:=by injection hg
  subst this;exact ⟨cur,h3⟩
theorem WdR.grow {b B n:Nat} {w w1:World} {u:KC} {ws:List ByteArray} {v:Value} {xs:List Value} (h:WdR b w u ws) (hown:w.ownsRow B 44 11 v n xs) (hg:w.grownBy w1 v.ownBlock):WdR b w1 u ws:=by
 refine h.imp id ?_;rintro ⟨g,h1,h2,h3,h4,h5⟩;refine ⟨g,h1,h2,h3,h4,(hg.block g (Array.getElem?_eq_some_iff.1 h5).1 λe=>?_).trans h5⟩;obtain ⟨cs,h6⟩:=RA hown g e.symm;rw[h5]at h6;injection h6 with h6;injection h6 with _ h6;exact absurd h6 (by decide)
theorem PT.grow {b B n:Nat} {V:Nat->KC} {w w1:World} {o:List KC} {ks:List Kn} {v:Value} {xs:List Value} (h:PT b V w o ks) (hown:w.ownsRow B 44 11 v n xs) (hg:w.grownBy w1 v.ownBlock):PT b V w1 o ks:=
 ⟨h.1,λi h1 h2=>⟨(h.2 i h1 h2).1,(h.2 i h1 h2).2.1,(h.2 i h1 h2).2.2.1,(h.2 i h1 h2).2.2.2.1,(h.2 i h1 h2).2.2.2.2.1,(h.2 i h1 h2).2.2.2.2.2.grow hown hg⟩⟩
theorem NF {α:Type} {enc:α->List Value} {n:Nat} (E:jg enc n) {P:Program} {T e:TypeId} {i0:TypeInfo} {z:Value} {ku:Nat} (ht:P.underlying T=some (.slice e)) (hi:P.info? e=some i0) (hz0:i0.zero=some z) (hz1:i0.size=n) (hz2:i0.bytes=ku) (IJ:z.cells.size=n) (fO:ku<=1000)
  {w:World} {ops:Array Oper} {rest:List Oper} {op:Oper} {a:Act} {Q:Exit->Act->World->Prop} (s x:Operand) (v:Value) (c:Nat) (o:List α) (r:α) (cs:Array Value) (B:Nat)
  (gV:op.guard=none) (ho:op.op = .call { callee:=.builtin .append,args:=#[s,x],argTypes:=#[T,T] })
  (hs:a.eval s=v) (hx:a.eval x = .slice (some ⟨w.heap.size,0,none⟩) 1 c) (hcs:cs=(enc r).toArray) (hown:OR e n enc B v o w) (hl:o.length<=1000000) (hB:B<=w.heap.size)
  (h:∀v' w1,OR e n enc B v' (o++[r]) w1->Below B w w1->w.grownBy w1 v.ownBlock->wpList P ops Q rest (a.put op.dst v') w1) :
  wpList P ops Q (op::rest) a (w.alloc (.cells cs e)):=by
 subst hcs;refine wpList_append_own _ gV s x T ho B e i0 z n ku ht hi hz0 hz1 hz2 IJ E.pos v o.length _ hs (World.ownsRow.alloc hown _) ⟨w.heap.size,0,none⟩ 1 c (enc r) hx (by rw[E.len];omega) ?_ (E.one r) (by unfold maxLen;omega) ?_ (by simp;omega) ?_
 .intro j u hj;rw[Addr.add_lit,Nat.zero_add,World.cell?_alloc_mark];simpa using hj
 .have:(o.length+1)*ku<=(o.length+1)*1000:=Nat.mul_le_mul_left _ fO;omega
 .intro v' w1 hown1 hg _;have hb:=(Below.refl w.heap.size w).alloc (Nat.le_refl _) (.cells (enc r).toArray e);refine h v' w1 ?_ (((Below.refl B w).alloc hB (.cells (enc r).toArray e)).grown hg (by simp;omega) (λk hk=>(World.ownsRow.lt hown k hk).1)) ⟨hg.os.trans hb.os,hg.tape.trans hb.tape,hg.output.trans hb.output,Nat.le_trans hb.size hg.size,λk hk hne=>(hg.block k (Nat.lt_of_lt_of_le hk hb.size) hne).trans (hb.block k hk)⟩
  show w1.ownsRow B e n v' (o++[r]).length (aY enc (o++[r]));rw[bA,bf,List.length_append];exact hown1
def ZP (i:Nat) (k:Kn):Prop:=k.nm=kU i/\(∃j,j<6/\k.pat=iG j)/\TX k.ck k.en k.ws k.nr
def Xa (b:Nat) (w:World) (e:Ending) (w':World):Prop:=∃v us ks,e = .returned v/\(1<=us.length/\us.length<=3)/\us.length=ks.length/\Rz b w' v/\(∀W,af b w' W->fu W v us ks)/\(∀i (h:i<ks.length),ZP i ks[i])/\az b w'/\Fr b w w'
set_option maxHeartbeats 8000000 in
theorem Fk (b:Nat) (w:World) (ht:az b w) :
  Calls Tryz.prog 6 #[.pointer (some ⟨b,0,none⟩)] w (Xa b w):=by
 have dK:=ht.lt;have HT:=Lib.hid ht;clear ht
 go_enter Tryz.func6,Tryz.ntmps6
 go_wp2_with fail;refine (rW b w dK).mono ?_;rintro e w1 ⟨g,rfl,⟨-,cR,g',c',xx,-,-,-,hS⟩,hb1⟩;injection xx with xx _ YR;injection xx with xx;injection xx with xx _ _;subst xx YR;have kr:=HT.out.below hb1;have gI:Fr b w w1:=Fr.aa hb1;obtain ⟨V,gQ,dV,k0,k1,k2,k3,k4,kP⟩:=cR.kcs;have HND:=Lib.hid (λ(W:World) (hs:af b w1 W) (j:Nat) (hj:j<6)=>show bX W ([iG 0,iG 1,iG 2,iG 3,iG 4,iG 5][j]'(by simpa using hj)) (V j).pat from ajz hS gQ dV (by rw[Nat.zero_add];exact k0 j hj) (by rw[Nat.zero_add];exact k1 j hj) (by rw[Nat.zero_add];exact k2 j hj) (by rw[Nat.zero_add];exact k3 j hj) (by rw[Nat.zero_add];exact k4 j hj) (by simpa using hj) W hs)
 have HK:=Lib.hid (λ(w':World) (hs:af b w1 w')=>show ((∀j,j<6->w'.cell? ⟨g,j*5,none⟩=some (.int .i64 (V j).op))/\(∀j,j<6->w'.cell? ⟨g,j*5+1,none⟩=some (.slice (V j).a1 (V j).n1 (V j).c1))/\(∀j,j<6->w'.cell? ⟨g,j*5+2,none⟩=some (.slice (V j).a2 (V j).n2 (V j).c2))/\(∀j,j<6->w'.cell? ⟨g,j*5+3,none⟩=some (.int .i64 (V j).mn))/\(∀j,j<6->w'.cell? ⟨g,j*5+4,none⟩=some (.int .i64 (V j).mx))) from
  ⟨λj hj=>(hs.cell gQ dV).trans (k0 j hj),λj hj=>(hs.cell gQ dV).trans (k1 j hj),λj hj=>(hs.cell gQ dV).trans (k2 j hj),λj hj=>(hs.cell gQ dV).trans (k3 j hj),λj hj=>(hs.cell gQ dV).trans (k4 j hj)⟩)
 have HP:=Lib.hid (λ(w':World) (hs:af b w1 w') (j:Nat) (hj:j<6)=>(kP j hj).later hs);have BT:=Lib.hid (jx b 1 3 w1 (by omega) (by omega) (by omega) (by omega) kr)
 clear cR k0 k1 k2 k3 k4 kP kr hS;go_wp2_with fail;refine BT.out.mono ?_;rintro e w2 ⟨r,rfl,Ha,kI,lH,eg⟩;obtain ⟨rn,RC⟩:∃rn:Nat,r=(rn:Int):=⟨r.toNat,by omega⟩
 subst RC;have acQ:=gI.trans eg;have H2:=Lib.hid (And.intro lH (And.intro eg acQ));clear BT lH gI eg hb1 acQ;go_wp2_with fail
 go_loopw [3,5] (λv i wr=>∃(k:Nat) (o:List KC) (ks:List Kn),k<=rn/\i = .int .i64 (k:Int)/\k+o.length=rn/\OR 44 11 KC.cs w2.heap.size v o wr/\PT b V wr o ks/\az b wr/\Fr b w2 wr) (λ_ i _=>(intOf i).toNat)
 case atStart=>exact ⟨rn,[],[],Nat.le_refl _,rfl,by simp,OR.ic _ _ _,⟨rfl,λi h=>absurd h (Nat.not_lt_zero i)⟩,H2.out.1,Fr.refl _ _⟩
 case round=>
  obtain ⟨k,o,ks,hk,rfl,Bf,hown,Lh,uU,eJ⟩:=hrel;by_cases hlt:0<k
  .have hd:decide ((0:Int)<(k:Int))=true:=decide_eq_true (by omega)
   have iI:decide (0<k)=true:=decide_eq_true hlt;obtain ⟨A,c0,rfl,hle,bD⟩:=hown.cells CN;clear bD;have H0:=Lib.hid (And.intro hown (And.intro Lh (And.intro uU eJ)));have Fl:Fr b w1 wr:=H2.out.2.1.trans eJ;have CO:=Lib.hid (λw' (hf:Fr b wr w') (ht:az b w')=>show (az b w'/\((∀j,j<6->w'.cell? ⟨g,j*5,none⟩=some (.int .i64 (V j).op))/\(∀j,j<6->w'.cell? ⟨g,j*5+1,none⟩=some (.slice (V j).a1 (V j).n1 (V j).c1))/\(∀j,j<6->w'.cell? ⟨g,j*5+2,none⟩=some (.slice (V j).a2 (V j).n2 (V j).c2))/\(∀j,j<6->w'.cell? ⟨g,j*5+3,none⟩=some (.int .i64 (V j).mn))/\(∀j,j<6->w'.cell? ⟨g,j*5+4,none⟩=some (.int .i64 (V j).mx)))) from
    ⟨ht,HK.out w' (af.dH (Fl.trans hf))⟩)
   have px:o.length<=3:=by omega
   have NU:=Lib.hid (λw'=>Fm 0 o.length w' (by omega) (by omega) (by omega))
   obtain ⟨nmS,RD⟩:∃nmS:ByteArray,bs (Lib.decDigits o.length)=nmS:=⟨_,rfl⟩;have lZ:4+nmS.size<=9223372036854775807:=by rw[<-RD,dj];have:=CR o.length 0 (by omega);omega
   rw[RD]at NU;have PE:=Lib.hid (show ⟨#[107,105,110,100]⟩++nmS=kU o.length by rw[<-RD];rfl)
   have uK:=(λw':World=>run_string_add_sum (P:=Tryz.prog) w' ⟨#[107,105,110,100]⟩ nmS lZ);clear RD lZ;have HWR:=Lib.hid Fl;have oC:g<wr.heap.size:=Nat.lt_of_lt_of_le dV Fl.size;have CT:Hid (Fr b wr wr.drew):=(Fr.refl _ _).drew;have wQ:Hid (az b wr.drew):=uU.below (Below.refl _ _).drew;have hz0:g≠wr.heap.size:=by omega
   have hbr:b<wr.heap.size:=by omega
   have acT:¬wr.heap.size=g:=by omega
   clear hown Lh uU eJ Fl
   go_upto_region 6 with fail
   go_cut [6] from 14 to 62 (λp wx=>∃(K:Nat) (u:KC),p = .pointer (some ⟨K,0,none⟩)/\wr.heap.size<=K/\wx.heap[K]?=some (.cells u.cs.toArray 44 (0,0))/\ZO V o.length u/\az b wx/\Fr b wr wx)
   case first=>
    go_region_held3 (λw'=>az b w'/\((∀j,j<6->w'.cell? ⟨g,j*5,none⟩=some (.int .i64 (V j).op))/\(∀j,j<6->w'.cell? ⟨g,j*5+1,none⟩=some (.slice (V j).a1 (V j).n1 (V j).c1))/\(∀j,j<6->w'.cell? ⟨g,j*5+2,none⟩=some (.slice (V j).a2 (V j).n2 (V j).c2))/\(∀j,j<6->w'.cell? ⟨g,j*5+3,none⟩=some (.int .i64 (V j).mn))/\(∀j,j<6->w'.cell? ⟨g,j*5+4,none⟩=some (.int .i64 (V j).mx))))
     (first | exact CO.out _ JL.out htB.out | exact CO.out _ (NG JL.out (by first | omega | exact Nat.le_refl _)) (CV htB.out (Nat.lt_of_lt_of_le hbr (by first | omega | exact Nat.le_refl _))) | exact CO.out _ (JL.out.then ((Below.refl _ _).alloc JL.out.size _)) (htB.out.below ((Below.refl _ _).alloc (Nat.le_refl _) _)) | exact CO.out _ Li.out ZQ.out | exact CO.out _ (Li.out.then ((Below.refl _ _).alloc Li.out.size _)) (ZQ.out.below ((Below.refl _ _).alloc (Nat.le_refl _) _)) | exact CO.out _ RF.out Xb.out | exact CO.out _ (RF.out.then ((Below.refl _ _).alloc RF.out.size _)) (Xb.out.below ((Below.refl _ _).alloc (Nat.le_refl _) _)) | exact CO.out _ CT.out wQ.out | exact CO.out _ (CT.out.then ((Below.refl _ _).alloc CT.out.size _)) (wQ.out.below ((Below.refl _ _).alloc (Nat.le_refl _) _)))
     (first | (go_at_call 22;refine (NU.out _).mono ?_;rintro e w3 ⟨rfl,ZR⟩;(first | (have RF:Hid (Fr b wr w3):=CT.out.then (ZR.mono CT.out.size);have Xb:Hid (az b w3):=wQ.out.below ZR) | (have RF:Hid (Fr b wr w3):=(CT.out.then ((Below.refl _ _).alloc CT.out.size _)).then (ZR.mono (by simp[World.drew,World.drewN]));have Xb:Hid (az b w3):=(wQ.out.below ((Below.refl _ _).alloc (Nat.le_refl _) _)).below ZR;have KN:=Lib.hid (KR.step (b:=b) (heap_alloc_new wr.drew (ZK 44)) (Fr.aa ZR) (by simp only[World.drew,World.drewN];omega))));have hsN:wr.heap.size<=w3.heap.size:=RF.out.size;have as6:g<w3.heap.size:=(by omega);have hzN:g≠w3.heap.size:=(by omega);have as7:¬w3.heap.size=g:=(by omega);clear ZR) | (have NH:=ZQ;clear NH;go_at_call 20;refine (bB b 2 _ (by omega) (by omega) (by first | exact ZQ.out | exact ZQ.out.below ((Below.refl _ _).alloc (Nat.le_refl _) _))).mono ?_;rintro e w5 ⟨z,rfl,z0,z1,acV,CW⟩;obtain ⟨whv,hwh⟩:∃x:Bool,(z == 1)=x:=⟨_,rfl⟩;(first | have JL:Hid (Fr b wr w5):=Li.out.trans CW | have JL:Hid (Fr b wr w5):=(Li.out.then ((Below.refl _ _).alloc Li.out.size _)).trans CW);have htB:=Lib.hid acV;(first | (have prb:=KA;clear prb;have KB:=Lib.hid (KR.step KA.out CW (by first | omega | (simp only[World.drew,World.drewN];omega)));have bT:=acW KB.out rfl whv;simp[go_sem]at bT) | (rw[Hb]at CW;have KB:=Lib.hid (CW.2 (by omega));replace CW:=CW.1;have bT:=acW KB.out rfl whv;simp[go_sem]at bT) | skip);have hsB:wr.heap.size<=w5.heap.size:=JL.out.size;have as8:g<w5.heap.size:=(by omega);have hzB:g≠w5.heap.size:=(by omega);have as9:¬w5.heap.size=g:=(by omega);clear acV CW ZQ Li;have z2:z.toNat<2:=(by omega)) | (have NH:=Xb;clear NH;go_at_call 20;refine (bB b 6 _ (by omega) (by omega) (by first | exact Xb.out | exact Xb.out.below ((Below.refl _ _).alloc (Nat.le_refl _) _))).mono ?_;rintro e w4 ⟨q,rfl,q0,q1,acX,CX⟩;(first | have Li:Hid (Fr b wr w4):=RF.out.trans CX | have Li:Hid (Fr b wr w4):=(RF.out.then ((Below.refl _ _).alloc RF.out.size _)).trans CX);have ZQ:=Lib.hid acX;(first | (have prb:=KN;clear prb;have KA:=Lib.hid (KR.step KN.out CX (by first | omega | (simp only[World.drew,World.drewN];omega)));skip) | (rw[Hb]at CX;have KA:=Lib.hid (CX.2 (by omega));replace CX:=CX.1) | skip);have hsA:wr.heap.size<=w4.heap.size:=Li.out.size;have ata:g<w4.heap.size:=(by omega);have Wj:g≠w4.heap.size:=(by omega);have atb:¬w4.heap.size=g:=(by omega);clear acX CX Xb RF;have q2:q.toNat<6:=(by omega)))
    all_goals
     (try go_wp2_with fail)
     go_meet
     first
      | exact ⟨w5.heap.size,⟨_,(V q.toNat).op,(V q.toNat).a1,(V q.toNat).n1,(V q.toNat).c1,(V q.toNat).a2,(V q.toNat).n2,(V q.toNat).c2,(V q.toNat).mn,(V q.toNat).mx,_,0,0,none,0,0,0⟩,rfl,JL.out.size,heap_alloc_new _ _,⟨PE.out,⟨q.toNat,q2,rfl⟩,rfl,rfl,rfl,rfl,rfl,rfl⟩,htB.out.below ((Below.refl _ _).alloc (Nat.le_refl _) _),JL.out.then ((Below.refl _ _).alloc JL.out.size _)⟩
      | exact ⟨_,⟨_,(V q.toNat).op,(V q.toNat).a1,(V q.toNat).n1,(V q.toNat).c1,(V q.toNat).a2,(V q.toNat).n2,(V q.toNat).c2,(V q.toNat).mn,(V q.toNat).mx,_,0,0,none,0,0,0⟩,rfl,(by first | omega | exact Nat.le_refl _),setRow_heap _ _ _ _ _ _ KB.out,⟨PE.out,⟨q.toNat,q2,rfl⟩,rfl,rfl,rfl,rfl,rfl,rfl⟩,CV htB.out (Nat.lt_of_lt_of_le hbr (by first | omega | exact Nat.le_refl _)),NG JL.out (by first | omega | exact Nat.le_refl _)⟩
   case rest=>
    obtain ⟨K,u,rfl,hK,hrow,RG,Xc,PM⟩:=hcut;obtain ⟨W6,sA⟩:∃W6:World,W6=wc:=⟨_,rfl⟩;rw[<-sA]at hrow Xc PM|-;have HX:=Lib.hid (And.intro hrow (And.intro RG (And.intro Xc PM)));have hKs:K<W6.heap.size:=(Array.getElem?_eq_some_iff.1 hrow).1;clear sA hrow RG Xc PM NU PE CT wQ CO hz0 acT uK
    apply_assumption
    go_upto_region 7 with fail
    go_cut [30] from 29 to 62 (λv wx=>∃r:Int,v = .int .i64 r/\0<=r/\r<8/\az b wx/\Fr b W6 wx)
    case first=>
     go_wp2_with fail;refine (bB b _ _ (by omega) (by omega) HX.out.2.2.1).mono ?_
     rintro e w7 ⟨r,rfl,r0,r1,ht7,Bj⟩;go_wp2_with fail
     go_meet
     exact ⟨r,rfl,r0,r1,ht7,Bj⟩
    case rest=>
     obtain ⟨r,rfl,r0,r1,ht7,Bj⟩:=hcut;obtain ⟨W7,Lj⟩:∃W7:World,W7=wc:=⟨_,rfl⟩;rw[<-Lj]at ht7 Bj|-;have Ll:b<K:=by omega
     have TZ:=KR.step HX.out.1 Bj Ll;have T2:=HX.out.2.1;have Xd:=HX.out.2.2.2.trans Bj;have hK7:K<W7.heap.size:=Nat.lt_of_lt_of_le hKs Bj.size;have hs7:=Xd.size;clear Lj Bj
     apply_assumption
     go_cut [6] from 29 to 62 (λp wx=>p = .pointer (some ⟨K,0,none⟩)/\∃u:KC,wx.heap[K]?=some (.cells u.cs.toArray 44 (0,0))/\(∃k9:Kn,NC b V wx o.length u k9)/\az b wx/\Fr b wr wx)
     case first=>
      have H7:=Lib.hid (And.intro TZ (And.intro T2 (And.intro Xd ht7)));clear TZ T2 Xd ht7;have hr:r=0\/r=1\/r=2\/r=3\/r=4\/5<=r:=by omega
      rcases hr with rfl | rfl | rfl | rfl | rfl | hr
      .obtain ⟨⟨-,-,-,-,-,-,-,c7,-⟩,wA⟩:=KR.cells H7.out.1;have f7:=wA 7;clear wA;go_wp2_with fail
       go_meet
       exact ⟨rfl,{ u with ck:=1 },cD H7.out.1 7 _,ND H7.out.2.1 1 (by omega) (by omega),fG H7.out.2.2.2 Ll,kW H7.out.2.2.1 hK⟩
      .go_wp2_with fail;refine (bB b _ _ (by omega) (by omega) H7.out.2.2.2).mono ?_
       rintro e w8 ⟨z,rfl,z0,z1,NI,wL⟩;have oP:=KR.step H7.out.1 wL Ll;obtain ⟨⟨-,-,-,-,-,-,-,-,c8,-⟩,wA⟩:=KR.cells oP;have f8:=wA 8;have hw8:IntKind.i64.wrap (z*65536)=z*65536:=IntWalk.i64_in _ (by omega)
       have R8:=Lib.hid (And.intro oP (And.intro NI wL));clear wA oP NI wL;go_wp2_with fail
       go_meet
       exact ⟨rfl,{ u with en:=z*65536 },cD R8.out.1 8 _,WY H7.out.2.1 z (by omega) (by omega),fG R8.out.2.1 Ll,kW (H7.out.2.2.1.trans R8.out.2.2) hK⟩
      .go_wp2_with fail;refine (jx b 3 8 _ (by omega) (by omega) (by omega) (by omega) (H7.out.2.2.2.below ((Below.refl _ _).alloc (Nat.le_refl _) _))).mono ?_
       rintro e w8 ⟨z,rfl,z0,z1,NI,wM⟩;have wL:Fr b W7 w8:=(Fr.aa ((Below.refl _ _).alloc (Nat.le_refl _) _)).trans wM;have oP:=KR.step H7.out.1 wL Ll;obtain ⟨⟨-,-,-,-,-,-,-,-,-,c9,tX⟩,wA⟩:=KR.cells oP;have f9:=wA 9;have f10:=wA 10;have R8:=Lib.hid (And.intro oP (And.intro NI wL));have RW8:=Lib.hid (KR.step (heap_alloc_new W7 _) wM (by omega))
       clear wA oP NI wL wM;go_wp2_with fail
       go_meet
       exact ⟨rfl,{ u with a3:=some ⟨W7.heap.size,0,none⟩,n3:=1,c3:=1,nr:=z },cD (cD R8.out.1 9 _) 10 _,W4 H7.out.2.1 z (by omega) (by omega) (by omega) (nu (nu RW8.out (by omega)) (by omega)),fG (fG R8.out.2.1 Ll) Ll,kW (kW (H7.out.2.2.1.trans R8.out.2.2) hK) hK⟩
      .go_wp2_with fail;refine (bB b _ _ (by omega) (by omega) (H7.out.2.2.2.below ((Below.refl _ _).alloc (Nat.le_refl _) _))).mono ?_
       rintro e w8 ⟨z,rfl,z0,z1,NI,wM⟩;have wL:Fr b W7 w8:=(Fr.aa ((Below.refl _ _).alloc (Nat.le_refl _) _)).trans wM;have oP:=KR.step H7.out.1 wL Ll;obtain ⟨⟨-,-,-,-,-,-,-,-,-,c9,tX⟩,wA⟩:=KR.cells oP;have f9:=wA 9;have f10:=wA 10;have R8:=Lib.hid (And.intro oP (And.intro NI wL));have RW8:=Lib.hid (KR.step (heap_alloc_new W7 _) wM (by omega))
       clear wA oP NI wL wM;go_wp2_with fail
       go_meet
       exact ⟨rfl,{ u with a3:=some ⟨W7.heap.size,0,none⟩,n3:=2,c3:=2,nr:=z },cD (cD R8.out.1 9 _) 10 _,W5 H7.out.2.1 z (by omega) (by omega) (by omega) (nu (nu RW8.out (by omega)) (by omega)),fG (fG R8.out.2.1 Ll) Ll,kW (kW (H7.out.2.2.1.trans R8.out.2.2) hK) hK⟩
      .go_wp2_with fail;refine (jx b 0 4 _ (by omega) (by omega) (by omega) (by omega) H7.out.2.2.2).mono ?_
       rintro e w8 ⟨z,rfl,z0,z1,NI,wL⟩;have oP:=KR.step H7.out.1 wL Ll;obtain ⟨⟨-,-,-,-,-,-,-,c7,-⟩,wA⟩:=KR.cells oP;have f7:=wA 7;have R8:=Lib.hid (And.intro oP (And.intro NI wL));clear wA oP NI wL;go_wp2_with fail
       go_meet
       exact ⟨rfl,{ u with ck:=z },cD R8.out.1 7 _,ND H7.out.2.1 z (by omega) (by omega),fG R8.out.2.1 Ll,kW (H7.out.2.2.1.trans R8.out.2.2) hK⟩
      .have e0:(r == 0)=false:=by simpa using (show ¬r=0 by omega)
       have e1:(r == 1)=false:=by simpa using (show ¬r=1 by omega)
       have e2:(r == 2)=false:=by simpa using (show ¬r=2 by omega)
       have e3:(r == 3)=false:=by simpa using (show ¬r=3 by omega)
       have e4:(r == 4)=false:=by simpa using (show ¬r=4 by omega)
       go_wp2_with fail
       go_meet
       exact ⟨rfl,u,H7.out.1,WZ H7.out.2.1,H7.out.2.2.2,H7.out.2.2.1⟩
     case rest=>
      obtain ⟨rfl,u9,NJ,⟨kz9,QO⟩,ht9,xW⟩:=hcut;obtain ⟨W9,ua⟩:∃W9:World,W9=wc:=⟨_,rfl⟩;rw[<-ua]at NJ ht9 xW QO|-;have ec:OR 44 11 KC.cs w2.heap.size (.slice A o.length c0) o W9:=H0.out.1.keep λk hk=>xW.block k (World.ownsRow.lt H0.out.1 k hk).2 (by intro e;injection e with e;have:=(World.ownsRow.lt H0.out.1 k hk).1;have:=H2.out.2.2.size;omega)
      obtain ⟨⟨k0,k1,k2,k3,k4,k5,k6,k7,k8,k9,k10⟩,-⟩:=KR.cells NJ;have ajF:w2.heap.size<=W9.heap.size:=(H0.out.2.2.2.trans xW).size;have R9:=Lib.hid (And.intro ht9 (H0.out.2.2.2.trans xW));have HJ:=Lib.hid (And.intro QO (af.dH xW));clear ua NJ xW ht9 QO;obtain ⟨i0,hi,hz0,hz1,hz2⟩:=info_parts JM;have hw1:IntKind.i64.wrap ((k:Int) - 1)=(k:Int) - 1:=IntWalk.i64_in _ (by omega)
      apply_assumption
      go_wp2_with (at_builtin;refine NF CN Tryz.underlying26 hi hz0 hz1 hz2 rfl (by omega) _ _ _ _ _ u9 _ _ rfl rfl rfl rfl rfl ec (by omega) ajF ?_;intro v10 ZS Xe qp ajG)
      go_roundw
      case rel=>
       obtain ⟨r3,r4⟩:=R9.out;have aL:b<w2.heap.size:=Nat.lt_of_lt_of_le dK H2.out.2.2.size;exact ⟨k - 1,o++[u9],ks++[kz9],by omega,by go_num,by simp;omega,Xe,((H0.out.2.1.later HJ.out.2).snoc HJ.out.1).grow ec ajG,r3.fW qp aL,r4.then qp⟩
      case measure=>simp[intOf];omega
  .obtain rfl:k=0:=by omega
   have H0:=Lib.hid (And.intro hown (And.intro Lh (And.intro uU eJ)));clear hown Lh uU eJ;go_wp2_with fail;go_ret;obtain ⟨hown,Lh,uU,eJ⟩:=H0.out;have aL:b<w2.heap.size:=Nat.lt_of_lt_of_le dK H2.out.2.2.size;have Fl:Fr b w1 wr:=H2.out.2.1.trans eJ;have hne:o≠[]:=λe=>by rw[e]at Bf;simp at Bf;omega
   obtain ⟨A,c0,rfl,hle,bD⟩:=hown.cells CN;obtain ⟨Af,cf,e0,-,Bb⟩:=ag (show wr.ownsRow _ _ _ _ _ _ from hown);injection e0 with _ _ e0;subst e0;obtain ⟨g3,rfl,hB3,rQ,M0⟩:=bD.resolve_left hne;refine ⟨_,o,ks,rfl,⟨by omega,by omega⟩,Lh.1,Rz.gW hown aL hne (by omega) (λu hu=>?_),λW hW=>⟨Lh.1,_,c0,rfl,⟨hle,by omega⟩, .inr ⟨g3,0,rfl,Nat.lt_of_lt_of_le rQ hW.1,λi hi j hj=>?_⟩,λi h1 h2=>?_⟩,λi h=>?_,uU,H2.out.2.2.trans eJ⟩
   .obtain ⟨i,hi,rfl⟩:=List.mem_iff_getElem.1 hu;obtain ⟨-,⟨j,hj,hp,-⟩,-⟩:=Lh.2 i hi (by rw[<-Lh.1];exact hi)
    rw[hp];exact HP.out wr (af.dH Fl) j hj
   .rw[Nat.zero_add,hW.cell (by omega) rQ]
    exact (M0 i hi j hj).1
   .obtain ⟨⟨q1,q2⟩,⟨j,hj,hp,JF⟩,q3,⟨q4,q5,q6⟩,q8,q7⟩:=Lh.2 i h1 h2;have bL:=HND.out W ((af.dH Fl).trans hW) j hj;have Gq:[iG 0,iG 1,iG 2,iG 3,iG 4,iG 5][j]'(by simp;omega)=iG j:=by
     have hx:j=0\/j=1\/j=2\/j=3\/j=4\/j=5:=by omega
     rcases hx with rfl | rfl | rfl | rfl | rfl | rfl <;> rfl
    rw[Gq,<-hp,<-JF]at bL;refine ⟨q1.trans q2.symm,bL,q3,q4,q5,?_,q6⟩;rcases q7 with ⟨e1,e2,e3,e4⟩ | ⟨g9,e1,e2,e3,e4,e5⟩
    .rw[e1,e2,e3,e4];exact pK.ic W
    .rw[e1,e2,e3];exact pK.row e5 rfl (by rcases q8.2.2 with ⟨e,-⟩ | ⟨e,-⟩ | ⟨e,-⟩ <;> rw[e] <;> simp) e4 hW
   .obtain ⟨⟨-,q2⟩,⟨j,hj,-,JF⟩,-,-,q5,-⟩:=Lh.2 i (by rw[Lh.1];exact h) h
    exact ⟨q2,⟨j,hj,JF⟩,q5⟩
end
end Go.Proofs.YtdmoogjddmdmbaaGreatDoor
