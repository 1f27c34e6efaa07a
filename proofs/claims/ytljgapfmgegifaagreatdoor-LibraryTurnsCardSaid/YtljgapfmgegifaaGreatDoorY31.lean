/- made.Plain: one or two kinds that ask for nothing beside patterns. · Walk: a library of kinds, as plain values. -/
import Derived.Deep.AppendLies
import Derived.Test.YtljgapfmgegifaaGreatDoorY30
import Derived.Test.YtljgapfmgegifaaGreatDoorY15
import Derived.Test.YtljgapfmgegifaaGreatDoorY07
import Derived.Test.YtljgapfmgegifaaGreatDoorY27
import Derived.Test.YtljgapfmgegifaaGreatDoorY22
namespace Go.Proofs.YtljgapfmgegifaaGreatDoor
set_option linter.unusedVariables false
set_option linter.unusedSimpArgs false
set_option maxRecDepth 100000
open Go.RowKit
def plN (i:Nat):ByteArray:=⟨#[112,108,97,105,110]⟩++bs (Lib.decDigits i)
def plU (i:Nat) (x:KC):KC:=⟨plN i,x.op,x.a1,x.n1,x.c1,x.a2,x.n2,x.c2,x.mn,x.mx,true,0,0,none,0,0,0⟩
def plK:Nat->List Nat->List Kn
 | _,[]=>[]
 | i,j::r=>⟨plN i,shN j,true,0,0,[],0⟩::plK (i+1) r
def PlPost (b:Nat) (w:World) (e:Ending) (w':World):Prop:=∃v us js,e = .returned v/\(1<=us.length/\us.length<=2)/\us.length=js.length/\(∀j∈js,j<2)/\KnV b w' v/\(∀W,Stay b w' W->KnsIn W v us (plK 0 js))/\(∀u∈us,u.ck=0/\u.en=0/\u.n3=0/\u.wh=true)/\TapeOK b w'/\Fr b w w'
def kdNm (i:Nat):ByteArray:=⟨#[107,105,110,100]⟩++bs (Lib.decDigits i)
def AskOK (ck en:Int) (ws:List ByteArray) (nr:Int):Prop:=(0<=ck/\ck<=4)/\(0<=en/\en<=196608)/\((ws=[]/\nr=0)\/(ws=[⟨#[107,101,121]⟩]/\3<=nr/\nr<=8)\/(ws=[⟨#[97]⟩,⟨#[112,97,115,115]⟩]/\0<=nr/\nr<=5))
def HP0 (V:Nat->KC) (i:Nat) (u:KC):Prop:=u.nm=kdNm i/\(∃j,j<6/\u.pat=(V j).pat)/\u.ck=0/\u.en=0/\u.a3=none/\u.n3=0/\u.c3=0/\u.nr=0
def WdR (b:Nat) (w:World) (u:KC) (ws:List ByteArray):Prop:=(ws=[]/\u.a3=none/\u.n3=0/\u.c3=0)\/∃g,u.a3=some ⟨g,0,none⟩/\u.n3=ws.length/\u.c3=ws.length/\b<g/\w.heap[g]?=some (.cells (ws.map Value.string).toArray 9 (0,0))
def KdR (b:Nat) (V:Nat->KC) (w:World) (i:Nat) (u:KC) (k:Kn):Prop:=(u.nm=kdNm i/\k.nm=kdNm i)/\(∃j,j<6/\u.pat=(V j).pat/\k.pat=shN j)/\u.wh=k.wh/\(u.ck=k.ck/\u.en=k.en/\u.nr=k.nr)/\AskOK k.ck k.en k.ws k.nr/\WdR b w u k.ws
theorem KdR.later {b:Nat} {V:Nat->KC} {w w':World} {i:Nat} {u:KC} {k:Kn} (h:KdR b V w i u k) (hs:Stay b w w'):KdR b V w' i u k:=⟨h.1,h.2.1,h.2.2.1,h.2.2.2.1,h.2.2.2.2.1,h.2.2.2.2.2.imp id λ⟨g,h1,h2,h3,h4,h5⟩=>⟨g,h1,h2,h3,h4,(hs.2 g h4 (Array.getElem?_eq_some_iff.1 h5).1).trans h5⟩⟩
def KdI (b:Nat) (V:Nat->KC) (w:World) (o:List KC) (ks:List Kn):Prop:=o.length=ks.length/\∀i (h:i<o.length) (h2:i<ks.length),KdR b V w i o[i] ks[i]
theorem KdI.later {b:Nat} {V:Nat->KC} {w w':World} {o:List KC} {ks:List Kn} (h:KdI b V w o ks) (hs:Stay b w w'):KdI b V w' o ks:=⟨h.1,λi h1 h2=>(h.2 i h1 h2).later hs⟩
theorem KdI.snoc {b:Nat} {V:Nat->KC} {w:World} {o:List KC} {ks:List Kn} {u:KC} {k:Kn} (h:KdI b V w o ks) (hu:KdR b V w o.length u k):KdI b V w (o++[u]) (ks++[k]):=by
 refine ⟨by simp[h.1],λi h1 h2=>?_⟩
 by_cases hi:i<o.length
 .rw[List.getElem_append_left hi,List.getElem_append_left (by rw[<-h.1];exact hi)]
  exact h.2 i hi (by rw[<-h.1];exact hi)
 .have hie:i=o.length:=by simp at h1;omega
  subst hie;rw[List.getElem_append_right (Nat.le_refl _),List.getElem_append_right (by rw[h.1];exact Nat.le_refl _)]
  simp only[Nat.sub_self,h.1,List.getElem_cons_zero];rw[<-h.1];exact hu
theorem kdR_ck {b:Nat} {V:Nat->KC} {w:World} {i:Nat} {u:KC} (h:HP0 V i u) (c:Int) (h0:0<=c) (h4:c<=4):∃k:Kn,KdR b V w i { u with ck:=c } k:=by
 obtain ⟨h1,⟨j,hj,h2⟩,h3,h5,h6,h7,h8,h9⟩:=h;exact ⟨⟨kdNm i,shN j,u.wh,c,0,[],0⟩,⟨h1,rfl⟩,⟨j,hj,h2,rfl⟩,rfl,⟨rfl,h5,h9⟩,⟨⟨h0,h4⟩,(show (0:Int)<=0/\(0:Int)<=196608 from by decide), .inl ⟨rfl,rfl⟩⟩, .inl ⟨rfl,h6,h7,h8⟩⟩
theorem kdR_en {b:Nat} {V:Nat->KC} {w:World} {i:Nat} {u:KC} (h:HP0 V i u) (z:Int) (h0:0<=z) (h4:z<4):∃k:Kn,KdR b V w i { u with en:=z*65536 } k:=by
 obtain ⟨h1,⟨j,hj,h2⟩,h3,h5,h6,h7,h8,h9⟩:=h;exact ⟨⟨kdNm i,shN j,u.wh,0,z*65536,[],0⟩,⟨h1,rfl⟩,⟨j,hj,h2,rfl⟩,rfl,⟨h3,rfl,h9⟩,⟨(show (0:Int)<=0/\(0:Int)<=4 from by decide),by show 0<=z*65536/\z*65536<=196608;omega, .inl ⟨rfl,rfl⟩⟩, .inl ⟨rfl,h6,h7,h8⟩⟩
theorem kdR_id {b:Nat} {V:Nat->KC} {w:World} {i:Nat} {u:KC} (h:HP0 V i u):∃k:Kn,KdR b V w i u k:=by
 obtain ⟨h1,⟨j,hj,h2⟩,h3,h5,h6,h7,h8,h9⟩:=h;exact ⟨⟨kdNm i,shN j,u.wh,0,0,[],0⟩,⟨h1,rfl⟩,⟨j,hj,h2,rfl⟩,rfl,⟨h3,h5,h9⟩,⟨(show (0:Int)<=0/\(0:Int)<=4 from by decide),(show (0:Int)<=0/\(0:Int)<=196608 from by decide), .inl ⟨rfl,rfl⟩⟩, .inl ⟨rfl,h6,h7,h8⟩⟩
theorem set_other {w:World} {g K j:Nat} {v:Value} {o:Obj} (h:w.heap[g]?=some o) (hK:K≠g):(w.setCell ⟨K,j,none⟩ v).heap[g]?=some o:=by
 rw[<-h];simp[World.setCell,Array.getElem?_modify,hK]
theorem StIn.row {b g:Nat} {w W:World} {l:List ByteArray} {e:TypeId} {m:Nat×Nat} {n:Nat} (h:w.heap[g]?=some (.cells (l.map Value.string).toArray e m)) (hn:n=l.length) (hl:l.length<=1000) (hb:b<g) (hs:Stay b w W):StIn W (.slice (some ⟨g,0,none⟩) n n) l:=by
 subst hn;refine ⟨_,_,rfl,⟨Nat.le_refl _,by omega⟩, .inr ⟨g,0,rfl,Nat.lt_of_lt_of_le (Array.getElem?_eq_some_iff.1 h).1 hs.1,λi hi=>?_⟩⟩
 rw[Nat.zero_add];exact cell_st h hs hb (by simp[hi])
theorem kdR_w1 {b g:Nat} {V:Nat->KC} {w:World} {i:Nat} {u:KC} (h:HP0 V i u) (z:Int) (h0:3<=z) (h4:z<=8) (hb:b<g) (hg:w.heap[g]?=some (.cells #[.string ⟨#[107,101,121]⟩] 9 (0,0))):∃k:Kn,KdR b V w i { u with a3:=some ⟨g,0,none⟩,n3:=1,c3:=1,nr:=z } k:=by
 obtain ⟨h1,⟨j,hj,h2⟩,h3,h5,h6,h7,h8,h9⟩:=h;exact ⟨⟨kdNm i,shN j,u.wh,0,0,[⟨#[107,101,121]⟩],z⟩,⟨h1,rfl⟩,⟨j,hj,h2,rfl⟩,rfl,⟨h3,h5,rfl⟩,⟨(show (0:Int)<=0/\(0:Int)<=4 from by decide),(show (0:Int)<=0/\(0:Int)<=196608 from by decide), .inr (.inl ⟨rfl,h0,h4⟩)⟩, .inr ⟨g,rfl,rfl,rfl,hb,hg⟩⟩
theorem kdR_w2 {b g:Nat} {V:Nat->KC} {w:World} {i:Nat} {u:KC} (h:HP0 V i u) (z:Int) (h0:0<=z) (h4:z<6) (hb:b<g) (hg:w.heap[g]?=some (.cells #[.string ⟨#[97]⟩, .string ⟨#[112,97,115,115]⟩] 9 (0,0))):∃k:Kn,KdR b V w i { u with a3:=some ⟨g,0,none⟩,n3:=2,c3:=2,nr:=z } k:=by
 obtain ⟨h1,⟨j,hj,h2⟩,h3,h5,h6,h7,h8,h9⟩:=h;exact ⟨⟨kdNm i,shN j,u.wh,0,0,[⟨#[97]⟩,⟨#[112,97,115,115]⟩],z⟩,⟨h1,rfl⟩,⟨j,hj,h2,rfl⟩,rfl,⟨h3,h5,rfl⟩,⟨(show (0:Int)<=0/\(0:Int)<=4 from by decide),(show (0:Int)<=0/\(0:Int)<=196608 from by decide), .inr (.inr ⟨rfl,h0,show z<=5 by omega⟩)⟩, .inr ⟨g,rfl,rfl,rfl,hb,hg⟩⟩
theorem own_row {w:World} {B e k n:Nat} {v:Value} {xs:List Value} (h:w.ownsRow B e k v n xs):∀g,v.ownBlock=some g->∃cs,w.heap[g]?=some (.cells cs e (0,0)):=λg hg=>by
 rcases h.2 with ⟨h1,-⟩ | ⟨g',cap,cur,h1,-,h3,-⟩
 .rw[h1]at hg;cases hg
 .rw[h1]at hg;have:g'=g:=by injection hg
  subst this;exact ⟨cur,h3⟩
theorem WdR.grow {b B n:Nat} {w w1:World} {u:KC} {ws:List ByteArray} {v:Value} {xs:List Value} (h:WdR b w u ws) (hown:w.ownsRow B 34 11 v n xs) (hg:w.grownBy w1 v.ownBlock):WdR b w1 u ws:=by
 refine h.imp id ?_;rintro ⟨g,h1,h2,h3,h4,h5⟩;refine ⟨g,h1,h2,h3,h4,(hg.block g (Array.getElem?_eq_some_iff.1 h5).1 λe=>?_).trans h5⟩;obtain ⟨cs,h6⟩:=own_row hown g e.symm;rw[h5]at h6;injection h6 with h6;injection h6 with _ h6;exact absurd h6 (by decide)
theorem KdI.grow {b B n:Nat} {V:Nat->KC} {w w1:World} {o:List KC} {ks:List Kn} {v:Value} {xs:List Value} (h:KdI b V w o ks) (hown:w.ownsRow B 34 11 v n xs) (hg:w.grownBy w1 v.ownBlock):KdI b V w1 o ks:=
 ⟨h.1,λi h1 h2=>⟨(h.2 i h1 h2).1,(h.2 i h1 h2).2.1,(h.2 i h1 h2).2.2.1,(h.2 i h1 h2).2.2.2.1,(h.2 i h1 h2).2.2.2.2.1,(h.2 i h1 h2).2.2.2.2.2.grow hown hg⟩⟩
theorem app_oneH {α:Type} {enc:α->List Value} {n:Nat} (E:EncS enc n) {P:Program} {T e:TypeId} {i0:TypeInfo} {z:Value} {by_:Nat} (ht:P.underlying T=some (.slice e)) (hi:P.info? e=some i0) (hz0:i0.zero=some z) (hz1:i0.size=n) (hz2:i0.bytes=by_) (hzs:z.cells.size=n) (hby:by_<=1000)
  {w:World} {ops:Array Oper} {rest:List Oper} {op:Oper} {a:Act} {Q:Exit->Act->World->Prop} (s x:Operand) (v:Value) (c:Nat) (o:List α) (r:α) (cs:Array Value) (B:Nat)
  (hgd:op.guard=none) (ho:op.op = .call { callee:=.builtin .append,args:=#[s,x],argTypes:=#[T,T] })
  (hs:a.eval s=v) (hx:a.eval x = .slice (some ⟨w.heap.size,0,none⟩) 1 c) (hcs:cs=(enc r).toArray) (hown:OR e n enc B v o w) (hl:o.length<=1000000) (hB:B<=w.heap.size)
  (h:∀v' w1,OR e n enc B v' (o++[r]) w1->Below B w w1->w.grownBy w1 v.ownBlock->wpList P ops Q rest (a.put op.dst v') w1) :
  wpList P ops Q (op::rest) a (w.alloc (.cells cs e)):=by
 subst hcs;refine wpList_append_own _ hgd s x T ho B e i0 z n by_ ht hi hz0 hz1 hz2 hzs E.pos v o.length _ hs (World.ownsRow.alloc hown _) ⟨w.heap.size,0,none⟩ 1 c (enc r) hx (by rw[E.len];omega) ?_ (E.one r) (by unfold maxLen;omega) ?_ (by simp;omega) ?_
 .intro j u hj;rw[Addr.add_lit,Nat.zero_add,World.cell?_alloc_mark];simpa using hj
 .have:(o.length+1)*by_<=(o.length+1)*1000:=Nat.mul_le_mul_left _ hby;omega
 .intro v' w1 hown1 hg _;have hb:=(Below.refl w.heap.size w).alloc (Nat.le_refl _) (.cells (enc r).toArray e);refine h v' w1 ?_ (((Below.refl B w).alloc hB (.cells (enc r).toArray e)).grown hg (by simp;omega) (λk hk=>(World.ownsRow.lt hown k hk).1)) ⟨hg.os.trans hb.os,hg.tape.trans hb.tape,hg.output.trans hb.output,Nat.le_trans hb.size hg.size,λk hk hne=>(hg.block k (Nat.lt_of_lt_of_le hk hb.size) hne).trans (hb.block k hk)⟩
  show w1.ownsRow B e n v' (o++[r]).length (rowF enc (o++[r]));rw[rowF_app,rowF_single,List.length_append];exact hown1
def KdK (i:Nat) (k:Kn):Prop:=k.nm=kdNm i/\(∃j,j<6/\k.pat=shN j)/\AskOK k.ck k.en k.ws k.nr
def KkPost (b:Nat) (w:World) (e:Ending) (w':World):Prop:=∃v us ks,e = .returned v/\(1<=us.length/\us.length<=3)/\us.length=ks.length/\KnV b w' v/\(∀W,Stay b w' W->KnsIn W v us ks)/\(∀i (h:i<ks.length),KdK i ks[i])/\TapeOK b w'/\Fr b w w'
set_option maxHeartbeats 8000000 in
theorem kindsN_any (b:Nat) (w:World) (ht:TapeOK b w) :
  Calls Tryz.prog 6 #[.pointer (some ⟨b,0,none⟩)] w (KkPost b w):=by
 have hbs:=ht.lt;have HT:=Lib.hid ht;clear ht
 go_enter Tryz.func6,Tryz.ntmps6
 go_wp2_with fail;refine (shapesN_any b w hbs).mono ?_;rintro e w1 ⟨g,rfl,⟨-,hkd,g',c',hv',-,-,-,hS⟩,hb1⟩;injection hv' with hv' _ hc';injection hv' with hv';injection hv' with hv' _ _;subst hv' hc';have ht1:=HT.out.below hb1;have hf1:Fr b w w1:=Fr.of_below hb1;obtain ⟨V,hbg,hgl,k0,k1,k2,k3,k4,kP⟩:=hkd.kcs;have HND:=Lib.hid (λ(W:World) (hs:Stay b w1 W) (j:Nat) (hj:j<6)=>show NdIn W ([shN 0,shN 1,shN 2,shN 3,shN 4,shN 5][j]'(by simpa using hj)) (V j).pat from kidN hS hbg hgl (by rw[Nat.zero_add];exact k0 j hj) (by rw[Nat.zero_add];exact k1 j hj) (by rw[Nat.zero_add];exact k2 j hj) (by rw[Nat.zero_add];exact k3 j hj) (by rw[Nat.zero_add];exact k4 j hj) (by simpa using hj) W hs)
 have HK:=Lib.hid (λ(w':World) (hs:Stay b w1 w')=>show ((∀j,j<6->w'.cell? ⟨g,j*5,none⟩=some (.int .i64 (V j).op))/\(∀j,j<6->w'.cell? ⟨g,j*5+1,none⟩=some (.slice (V j).a1 (V j).n1 (V j).c1))/\(∀j,j<6->w'.cell? ⟨g,j*5+2,none⟩=some (.slice (V j).a2 (V j).n2 (V j).c2))/\(∀j,j<6->w'.cell? ⟨g,j*5+3,none⟩=some (.int .i64 (V j).mn))/\(∀j,j<6->w'.cell? ⟨g,j*5+4,none⟩=some (.int .i64 (V j).mx))) from
  ⟨λj hj=>(hs.cell hbg hgl).trans (k0 j hj),λj hj=>(hs.cell hbg hgl).trans (k1 j hj),λj hj=>(hs.cell hbg hgl).trans (k2 j hj),λj hj=>(hs.cell hbg hgl).trans (k3 j hj),λj hj=>(hs.cell hbg hgl).trans (k4 j hj)⟩)
 have HP:=Lib.hid (λ(w':World) (hs:Stay b w1 w') (j:Nat) (hj:j<6)=>(kP j hj).later hs);have BT:=Lib.hid (between_any b 1 3 w1 (by omega) (by omega) (by omega) (by omega) ht1)
 clear hkd k0 k1 k2 k3 k4 kP ht1 hS;go_wp2_with fail;refine BT.out.mono ?_;rintro e w2 ⟨r,rfl,hr0,hr1,ht2,hf2⟩;obtain ⟨rn,hrn⟩:∃rn:Nat,r=(rn:Int):=⟨r.toNat,by omega⟩
 subst hrn;have hfw2:=hf1.trans hf2;have H2:=Lib.hid (And.intro ht2 (And.intro hf2 hfw2));clear BT ht2 hf1 hf2 hb1 hfw2;go_wp2_with fail
 go_loopw [3,5] (λv i wr=>∃(k:Nat) (o:List KC) (ks:List Kn),k<=rn/\i = .int .i64 (k:Int)/\k+o.length=rn/\OR 34 11 KC.cs w2.heap.size v o wr/\KdI b V wr o ks/\TapeOK b wr/\Fr b w2 wr) (λ_ i _=>(intOf i).toNat)
 case atStart=>exact ⟨rn,[],[],Nat.le_refl _,rfl,by simp,OR.nil_ _ _ _,⟨rfl,λi h=>absurd h (Nat.not_lt_zero i)⟩,H2.out.1,Fr.refl _ _⟩
 case round=>
  obtain ⟨k,o,ks,hk,rfl,hko,hown,hpo,htr,hfr⟩:=hrel;by_cases hlt:0<k
  .have hd:decide ((0:Int)<(k:Int))=true:=decide_eq_true (by omega)
   have hdn:decide (0<k)=true:=decide_eq_true hlt;obtain ⟨A,c0,rfl,hle,hcl⟩:=hown.cells encKC;clear hcl;have H0:=Lib.hid (And.intro hown (And.intro hpo (And.intro htr hfr)));have hfw1:Fr b w1 wr:=H2.out.2.1.trans hfr;have HKP:=Lib.hid (λw' (hf:Fr b wr w') (ht:TapeOK b w')=>show (TapeOK b w'/\((∀j,j<6->w'.cell? ⟨g,j*5,none⟩=some (.int .i64 (V j).op))/\(∀j,j<6->w'.cell? ⟨g,j*5+1,none⟩=some (.slice (V j).a1 (V j).n1 (V j).c1))/\(∀j,j<6->w'.cell? ⟨g,j*5+2,none⟩=some (.slice (V j).a2 (V j).n2 (V j).c2))/\(∀j,j<6->w'.cell? ⟨g,j*5+3,none⟩=some (.int .i64 (V j).mn))/\(∀j,j<6->w'.cell? ⟨g,j*5+4,none⟩=some (.int .i64 (V j).mx)))) from
    ⟨ht,HK.out w' (Stay.of_fr (hfw1.trans hf))⟩)
   have hol:o.length<=3:=by omega
   have NU:=Lib.hid (λw'=>number_ref 0 o.length w' (by omega) (by omega) (by omega))
   obtain ⟨nmS,hnmS⟩:∃nmS:ByteArray,bs (Lib.decDigits o.length)=nmS:=⟨_,rfl⟩;have hnl:4+nmS.size<=9223372036854775807:=by rw[<-hnmS,size_bs];have:=dec_len2 o.length 0 (by omega);omega
   rw[hnmS]at NU;have HNM:=Lib.hid (show ⟨#[107,105,110,100]⟩++nmS=kdNm o.length by rw[<-hnmS];rfl)
   have hadd:=(λw':World=>run_string_add_sum (P:=Tryz.prog) w' ⟨#[107,105,110,100]⟩ nmS hnl);clear hnmS hnl;have HWR:=Lib.hid hfw1;have hgr:g<wr.heap.size:=Nat.lt_of_lt_of_le hgl hfw1.size;have hf0:Hid (Fr b wr wr.drew):=(Fr.refl _ _).drew;have ht0:Hid (TapeOK b wr.drew):=htr.below (Below.refl _ _).drew;have hz0:g≠wr.heap.size:=by omega
   have hbr:b<wr.heap.size:=by omega
   have hz0':¬wr.heap.size=g:=by omega
   clear hown hpo htr hfr hfw1
   go_upto_region 6 with fail
   go_cut [6] from 14 to 62 (λp wx=>∃(K:Nat) (u:KC),p = .pointer (some ⟨K,0,none⟩)/\wr.heap.size<=K/\wx.heap[K]?=some (.cells u.cs.toArray 34 (0,0))/\HP0 V o.length u/\TapeOK b wx/\Fr b wr wx)
   case first=>
    go_region_held3 (λw'=>TapeOK b w'/\((∀j,j<6->w'.cell? ⟨g,j*5,none⟩=some (.int .i64 (V j).op))/\(∀j,j<6->w'.cell? ⟨g,j*5+1,none⟩=some (.slice (V j).a1 (V j).n1 (V j).c1))/\(∀j,j<6->w'.cell? ⟨g,j*5+2,none⟩=some (.slice (V j).a2 (V j).n2 (V j).c2))/\(∀j,j<6->w'.cell? ⟨g,j*5+3,none⟩=some (.int .i64 (V j).mn))/\(∀j,j<6->w'.cell? ⟨g,j*5+4,none⟩=some (.int .i64 (V j).mx))))
     (first | exact HKP.out _ hfB.out htB.out | exact HKP.out _ (fr_row hfB.out (by first | omega | exact Nat.le_refl _)) (tape_row htB.out (Nat.lt_of_lt_of_le hbr (by first | omega | exact Nat.le_refl _))) | exact HKP.out _ (hfB.out.then ((Below.refl _ _).alloc hfB.out.size _)) (htB.out.below ((Below.refl _ _).alloc (Nat.le_refl _) _)) | exact HKP.out _ hfA.out htA.out | exact HKP.out _ (hfA.out.then ((Below.refl _ _).alloc hfA.out.size _)) (htA.out.below ((Below.refl _ _).alloc (Nat.le_refl _) _)) | exact HKP.out _ hfN.out htN.out | exact HKP.out _ (hfN.out.then ((Below.refl _ _).alloc hfN.out.size _)) (htN.out.below ((Below.refl _ _).alloc (Nat.le_refl _) _)) | exact HKP.out _ hf0.out ht0.out | exact HKP.out _ (hf0.out.then ((Below.refl _ _).alloc hf0.out.size _)) (ht0.out.below ((Below.refl _ _).alloc (Nat.le_refl _) _)))
     (first | (go_at_call 19;refine (NU.out _).mono ?_;rintro e w3 ⟨rfl,hbN⟩;(first | (have hfN:Hid (Fr b wr w3):=hf0.out.then (hbN.mono hf0.out.size);have htN:Hid (TapeOK b w3):=ht0.out.below hbN) | (have hfN:Hid (Fr b wr w3):=(hf0.out.then ((Below.refl _ _).alloc hf0.out.size _)).then (hbN.mono (by simp[World.drew,World.drewN]));have htN:Hid (TapeOK b w3):=(ht0.out.below ((Below.refl _ _).alloc (Nat.le_refl _) _)).below hbN;have KN:=Lib.hid (KR.step (b:=b) (heap_alloc_new wr.drew (ZK 34)) (Fr.of_below hbN) (by simp only[World.drew,World.drewN];omega))));have hsN:wr.heap.size<=w3.heap.size:=hfN.out.size;have hzN2:g<w3.heap.size:=(by omega);have hzN:g≠w3.heap.size:=(by omega);have hzN':¬w3.heap.size=g:=(by omega);clear hbN) | (have probe:=htA;clear probe;go_at_call 7;refine (next_any b 2 _ (by omega) (by omega) (by first | exact htA.out | exact htA.out.below ((Below.refl _ _).alloc (Nat.le_refl _) _))).mono ?_;rintro e w5 ⟨z,rfl,z0,z1,htBX,hfBX⟩;obtain ⟨whv,hwh⟩:∃x:Bool,(z == 1)=x:=⟨_,rfl⟩;(first | have hfB:Hid (Fr b wr w5):=hfA.out.trans hfBX | have hfB:Hid (Fr b wr w5):=(hfA.out.then ((Below.refl _ _).alloc hfA.out.size _)).trans hfBX);have htB:=Lib.hid htBX;(first | (have prb:=KA;clear prb;have KB:=Lib.hid (KR.step KA.out hfBX (by first | omega | (simp only[World.drew,World.drewN];omega)));have hst:=st11 KB.out rfl whv;simp[go_sem]at hst) | (rw[fr_mark]at hfBX;have KB:=Lib.hid (hfBX.2 (by omega));replace hfBX:=hfBX.1;have hst:=st11 KB.out rfl whv;simp[go_sem]at hst) | skip);have hsB:wr.heap.size<=w5.heap.size:=hfB.out.size;have hzB2:g<w5.heap.size:=(by omega);have hzB:g≠w5.heap.size:=(by omega);have hzB':¬w5.heap.size=g:=(by omega);clear htBX hfBX htA hfA;have z2:z.toNat<2:=(by omega)) | (have probe:=htN;clear probe;go_at_call 7;refine (next_any b 6 _ (by omega) (by omega) (by first | exact htN.out | exact htN.out.below ((Below.refl _ _).alloc (Nat.le_refl _) _))).mono ?_;rintro e w4 ⟨q,rfl,q0,q1,htAX,hfAX⟩;(first | have hfA:Hid (Fr b wr w4):=hfN.out.trans hfAX | have hfA:Hid (Fr b wr w4):=(hfN.out.then ((Below.refl _ _).alloc hfN.out.size _)).trans hfAX);have htA:=Lib.hid htAX;(first | (have prb:=KN;clear prb;have KA:=Lib.hid (KR.step KN.out hfAX (by first | omega | (simp only[World.drew,World.drewN];omega)));skip) | (rw[fr_mark]at hfAX;have KA:=Lib.hid (hfAX.2 (by omega));replace hfAX:=hfAX.1) | skip);have hsA:wr.heap.size<=w4.heap.size:=hfA.out.size;have hzA2:g<w4.heap.size:=(by omega);have hzA:g≠w4.heap.size:=(by omega);have hzA':¬w4.heap.size=g:=(by omega);clear htAX hfAX htN hfN;have q2:q.toNat<6:=(by omega)))
    all_goals
     (try go_wp2_with fail)
     go_meet
     first
      | exact ⟨w5.heap.size,⟨_,(V q.toNat).op,(V q.toNat).a1,(V q.toNat).n1,(V q.toNat).c1,(V q.toNat).a2,(V q.toNat).n2,(V q.toNat).c2,(V q.toNat).mn,(V q.toNat).mx,_,0,0,none,0,0,0⟩,rfl,hfB.out.size,heap_alloc_new _ _,⟨HNM.out,⟨q.toNat,q2,rfl⟩,rfl,rfl,rfl,rfl,rfl,rfl⟩,htB.out.below ((Below.refl _ _).alloc (Nat.le_refl _) _),hfB.out.then ((Below.refl _ _).alloc hfB.out.size _)⟩
      | exact ⟨_,⟨_,(V q.toNat).op,(V q.toNat).a1,(V q.toNat).n1,(V q.toNat).c1,(V q.toNat).a2,(V q.toNat).n2,(V q.toNat).c2,(V q.toNat).mn,(V q.toNat).mx,_,0,0,none,0,0,0⟩,rfl,(by first | omega | exact Nat.le_refl _),setRow_heap _ _ _ _ _ _ KB.out,⟨HNM.out,⟨q.toNat,q2,rfl⟩,rfl,rfl,rfl,rfl,rfl,rfl⟩,tape_row htB.out (Nat.lt_of_lt_of_le hbr (by first | omega | exact Nat.le_refl _)),fr_row hfB.out (by first | omega | exact Nat.le_refl _)⟩
   case rest=>
    obtain ⟨K,u,rfl,hK,hrow,hpat,htx,hfx⟩:=hcut;obtain ⟨W6,hW6⟩:∃W6:World,W6=wc:=⟨_,rfl⟩;rw[<-hW6]at hrow htx hfx|-;have HX:=Lib.hid (And.intro hrow (And.intro hpat (And.intro htx hfx)));have hKs:K<W6.heap.size:=(Array.getElem?_eq_some_iff.1 hrow).1;clear hW6 hrow hpat htx hfx NU HNM hf0 ht0 HKP hz0 hz0' hadd
    apply_assumption
    go_upto_region 7 with fail
    go_cut [30] from 29 to 62 (λv wx=>∃r:Int,v = .int .i64 r/\0<=r/\r<8/\TapeOK b wx/\Fr b W6 wx)
    case first=>
     go_wp2_with fail;refine (next_any b _ _ (by omega) (by omega) HX.out.2.2.1).mono ?_
     rintro e w7 ⟨r,rfl,r0,r1,ht7,hf7⟩;go_wp2_with fail
     go_meet
     exact ⟨r,rfl,r0,r1,ht7,hf7⟩
    case rest=>
     obtain ⟨r,rfl,r0,r1,ht7,hf7⟩:=hcut;obtain ⟨W7,hW7⟩:∃W7:World,W7=wc:=⟨_,rfl⟩;rw[<-hW7]at ht7 hf7|-;have hbK:b<K:=by omega
     have hrow7:=KR.step HX.out.1 hf7 hbK;have hpat7:=HX.out.2.1;have hfx7:=HX.out.2.2.2.trans hf7;have hK7:K<W7.heap.size:=Nat.lt_of_lt_of_le hKs hf7.size;have hs7:=hfx7.size;clear hW7 hf7
     apply_assumption
     go_cut [6] from 29 to 62 (λp wx=>p = .pointer (some ⟨K,0,none⟩)/\∃u:KC,wx.heap[K]?=some (.cells u.cs.toArray 34 (0,0))/\(∃k9:Kn,KdR b V wx o.length u k9)/\TapeOK b wx/\Fr b wr wx)
     case first=>
      have H7:=Lib.hid (And.intro hrow7 (And.intro hpat7 (And.intro hfx7 ht7)));clear hrow7 hpat7 hfx7 ht7;have hr:r=0\/r=1\/r=2\/r=3\/r=4\/5<=r:=by omega
      rcases hr with rfl | rfl | rfl | rfl | rfl | hr
      .obtain ⟨⟨-,-,-,-,-,-,-,c7,-⟩,hfz⟩:=KR.cells H7.out.1;have f7:=hfz 7;clear hfz;go_wp2_with fail
       go_meet
       exact ⟨rfl,{ u with ck:=1 },set_row_at H7.out.1 7 _,kdR_ck H7.out.2.1 1 (by omega) (by omega),tape_set H7.out.2.2.2 hbK,fr_set H7.out.2.2.1 hK⟩
      .go_wp2_with fail;refine (next_any b _ _ (by omega) (by omega) H7.out.2.2.2).mono ?_
       rintro e w8 ⟨z,rfl,z0,z1,ht8,hf8⟩;have row8:=KR.step H7.out.1 hf8 hbK;obtain ⟨⟨-,-,-,-,-,-,-,-,c8,-⟩,hfz⟩:=KR.cells row8;have f8:=hfz 8;have hw8:IntKind.i64.wrap (z*65536)=z*65536:=IntWalk.i64_in _ (by omega)
       have R8:=Lib.hid (And.intro row8 (And.intro ht8 hf8));clear hfz row8 ht8 hf8;go_wp2_with fail
       go_meet
       exact ⟨rfl,{ u with en:=z*65536 },set_row_at R8.out.1 8 _,kdR_en H7.out.2.1 z (by omega) (by omega),tape_set R8.out.2.1 hbK,fr_set (H7.out.2.2.1.trans R8.out.2.2) hK⟩
      .go_wp2_with fail;refine (between_any b 3 8 _ (by omega) (by omega) (by omega) (by omega) (H7.out.2.2.2.below ((Below.refl _ _).alloc (Nat.le_refl _) _))).mono ?_
       rintro e w8 ⟨z,rfl,z0,z1,ht8,hf8'⟩;have hf8:Fr b W7 w8:=(Fr.of_below ((Below.refl _ _).alloc (Nat.le_refl _) _)).trans hf8';have row8:=KR.step H7.out.1 hf8 hbK;obtain ⟨⟨-,-,-,-,-,-,-,-,-,c9,c10⟩,hfz⟩:=KR.cells row8;have f9:=hfz 9;have f10:=hfz 10;have R8:=Lib.hid (And.intro row8 (And.intro ht8 hf8));have RW8:=Lib.hid (KR.step (heap_alloc_new W7 _) hf8' (by omega))
       clear hfz row8 ht8 hf8 hf8';go_wp2_with fail
       go_meet
       exact ⟨rfl,{ u with a3:=some ⟨W7.heap.size,0,none⟩,n3:=1,c3:=1,nr:=z },set_row_at (set_row_at R8.out.1 9 _) 10 _,kdR_w1 H7.out.2.1 z (by omega) (by omega) (by omega) (set_other (set_other RW8.out (by omega)) (by omega)),tape_set (tape_set R8.out.2.1 hbK) hbK,fr_set (fr_set (H7.out.2.2.1.trans R8.out.2.2) hK) hK⟩
      .go_wp2_with fail;refine (next_any b _ _ (by omega) (by omega) (H7.out.2.2.2.below ((Below.refl _ _).alloc (Nat.le_refl _) _))).mono ?_
       rintro e w8 ⟨z,rfl,z0,z1,ht8,hf8'⟩;have hf8:Fr b W7 w8:=(Fr.of_below ((Below.refl _ _).alloc (Nat.le_refl _) _)).trans hf8';have row8:=KR.step H7.out.1 hf8 hbK;obtain ⟨⟨-,-,-,-,-,-,-,-,-,c9,c10⟩,hfz⟩:=KR.cells row8;have f9:=hfz 9;have f10:=hfz 10;have R8:=Lib.hid (And.intro row8 (And.intro ht8 hf8));have RW8:=Lib.hid (KR.step (heap_alloc_new W7 _) hf8' (by omega))
       clear hfz row8 ht8 hf8 hf8';go_wp2_with fail
       go_meet
       exact ⟨rfl,{ u with a3:=some ⟨W7.heap.size,0,none⟩,n3:=2,c3:=2,nr:=z },set_row_at (set_row_at R8.out.1 9 _) 10 _,kdR_w2 H7.out.2.1 z (by omega) (by omega) (by omega) (set_other (set_other RW8.out (by omega)) (by omega)),tape_set (tape_set R8.out.2.1 hbK) hbK,fr_set (fr_set (H7.out.2.2.1.trans R8.out.2.2) hK) hK⟩
      .go_wp2_with fail;refine (between_any b 0 4 _ (by omega) (by omega) (by omega) (by omega) H7.out.2.2.2).mono ?_
       rintro e w8 ⟨z,rfl,z0,z1,ht8,hf8⟩;have row8:=KR.step H7.out.1 hf8 hbK;obtain ⟨⟨-,-,-,-,-,-,-,c7,-⟩,hfz⟩:=KR.cells row8;have f7:=hfz 7;have R8:=Lib.hid (And.intro row8 (And.intro ht8 hf8));clear hfz row8 ht8 hf8;go_wp2_with fail
       go_meet
       exact ⟨rfl,{ u with ck:=z },set_row_at R8.out.1 7 _,kdR_ck H7.out.2.1 z (by omega) (by omega),tape_set R8.out.2.1 hbK,fr_set (H7.out.2.2.1.trans R8.out.2.2) hK⟩
      .have e0:(r == 0)=false:=by simpa using (show ¬r=0 by omega)
       have e1:(r == 1)=false:=by simpa using (show ¬r=1 by omega)
       have e2:(r == 2)=false:=by simpa using (show ¬r=2 by omega)
       have e3:(r == 3)=false:=by simpa using (show ¬r=3 by omega)
       have e4:(r == 4)=false:=by simpa using (show ¬r=4 by omega)
       go_wp2_with fail
       go_meet
       exact ⟨rfl,u,H7.out.1,kdR_id H7.out.2.1,H7.out.2.2.2,H7.out.2.2.1⟩
     case rest=>
      obtain ⟨rfl,u9,hrow9,⟨kz9,hk9⟩,ht9,hf9⟩:=hcut;obtain ⟨W9,hW9⟩:∃W9:World,W9=wc:=⟨_,rfl⟩;rw[<-hW9]at hrow9 ht9 hf9 hk9|-;have hown9:OR 34 11 KC.cs w2.heap.size (.slice A o.length c0) o W9:=H0.out.1.keep λk hk=>hf9.block k (World.ownsRow.lt H0.out.1 k hk).2 (by intro e;injection e with e;have:=(World.ownsRow.lt H0.out.1 k hk).1;have:=H2.out.2.2.size;omega)
      obtain ⟨⟨k0,k1,k2,k3,k4,k5,k6,k7,k8,k9,k10⟩,-⟩:=KR.cells hrow9;have hsz9:w2.heap.size<=W9.heap.size:=(H0.out.2.2.2.trans hf9).size;have R9:=Lib.hid (And.intro ht9 (H0.out.2.2.2.trans hf9));have HJ:=Lib.hid (And.intro hk9 (Stay.of_fr hf9));clear hW9 hrow9 hf9 ht9 hk9;obtain ⟨i0,hi,hz0,hz1,hz2⟩:=info_parts info_kind;have hw1:IntKind.i64.wrap ((k:Int) - 1)=(k:Int) - 1:=IntWalk.i64_in _ (by omega)
      apply_assumption
      go_wp2_with (at_builtin;refine app_oneH encKC Tryz.underlying26 hi hz0 hz1 hz2 rfl (by omega) _ _ _ _ _ u9 _ _ rfl rfl rfl rfl rfl hown9 (by omega) hsz9 ?_;intro v10 w10 hown10 hb10 hg10)
      go_roundw
      case rel=>
       obtain ⟨r3,r4⟩:=R9.out;have hb2:b<w2.heap.size:=Nat.lt_of_lt_of_le hbs H2.out.2.2.size;exact ⟨k - 1,o++[u9],ks++[kz9],by omega,by go_num,by simp;omega,hown10,((H0.out.2.1.later HJ.out.2).snoc HJ.out.1).grow hown9 hg10,r3.below' hb10 hb2,r4.then hb10⟩
      case measure=>simp[intOf];omega
  .obtain rfl:k=0:=by omega
   have H0:=Lib.hid (And.intro hown (And.intro hpo (And.intro htr hfr)));clear hown hpo htr hfr;go_wp2_with fail;go_ret;obtain ⟨hown,hpo,htr,hfr⟩:=H0.out;have hb2:b<w2.heap.size:=Nat.lt_of_lt_of_le hbs H2.out.2.2.size;have hfw1:Fr b w1 wr:=H2.out.2.1.trans hfr;have hne:o≠[]:=λe=>by rw[e]at hko;simp at hko;omega
   obtain ⟨A,c0,rfl,hle,hcl⟩:=hown.cells encKC;obtain ⟨Af,cf,e0,-,hcm⟩:=own_form (show wr.ownsRow _ _ _ _ _ _ from hown);injection e0 with _ _ e0;subst e0;obtain ⟨g3,rfl,hB3,hg3,hc3⟩:=hcl.resolve_left hne;refine ⟨_,o,ks,rfl,⟨by omega,by omega⟩,hpo.1,KnV.of_OR hown hb2 hne (by omega) (λu hu=>?_),λW hW=>⟨hpo.1,_,c0,rfl,⟨hle,by omega⟩, .inr ⟨g3,0,rfl,Nat.lt_of_lt_of_le hg3 hW.1,λi hi j hj=>?_⟩,λi h1 h2=>?_⟩,λi h=>?_,htr,H2.out.2.2.trans hfr⟩
   .obtain ⟨i,hi,rfl⟩:=List.mem_iff_getElem.1 hu;obtain ⟨-,⟨j,hj,hp,-⟩,-⟩:=hpo.2 i hi (by rw[<-hpo.1];exact hi)
    rw[hp];exact HP.out wr (Stay.of_fr hfw1) j hj
   .rw[Nat.zero_add,hW.cell (by omega) hg3]
    exact (hc3 i hi j hj).1
   .obtain ⟨⟨q1,q2⟩,⟨j,hj,hp,hp2⟩,q3,⟨q4,q5,q6⟩,q8,q7⟩:=hpo.2 i h1 h2;have hnd:=HND.out W ((Stay.of_fr hfw1).trans hW) j hj;have hsh:[shN 0,shN 1,shN 2,shN 3,shN 4,shN 5][j]'(by simp;omega)=shN j:=by
     have hx:j=0\/j=1\/j=2\/j=3\/j=4\/j=5:=by omega
     rcases hx with rfl | rfl | rfl | rfl | rfl | rfl <;> rfl
    rw[hsh,<-hp,<-hp2]at hnd;refine ⟨q1.trans q2.symm,hnd,q3,q4,q5,?_,q6⟩;rcases q7 with ⟨e1,e2,e3,e4⟩ | ⟨g9,e1,e2,e3,e4,e5⟩
    .rw[e1,e2,e3,e4];exact StIn.nil_ W
    .rw[e1,e2,e3];exact StIn.row e5 rfl (by rcases q8.2.2 with ⟨e,-⟩ | ⟨e,-⟩ | ⟨e,-⟩ <;> rw[e] <;> simp) e4 hW
   .obtain ⟨⟨-,q2⟩,⟨j,hj,-,hp2⟩,-,-,q5,-⟩:=hpo.2 i (by rw[hpo.1];exact h) h
    exact ⟨q2,⟨j,hj,hp2⟩,q5⟩
end Go.Proofs.YtljgapfmgegifaaGreatDoor
