/- Walks. -/
import Derived.Test.YtdmoogjddmdmbaaGreatDoorProg
import Derived.Test.YtdmoogjddmdmbaaGreatDoorV02
import Derived.Test.YtdmoogjddmdmbaaGreatDoorV01
set_option maxRecDepth 100000
set_option maxHeartbeats 16000000
set_option linter.unusedVariables false
set_option linter.unusedSimpArgs false
namespace Go.Proofs.YtdmoogjddmdmbaaGreatDoor
open Go.RowKit
section
set_option linter.unusedVariables false
set_option linter.unusedSimpArgs false
theorem ij:(Tryz.prog.info? 5).map (λi=>(i.zero,i.size,i.bytes))=some (some (.int .u8 0),1,1):=by kernel_rfl
theorem ft:(Tryz.prog.info? 3).map (λi=>(i.zero,i.size,i.bytes))=some (some (.int .i64 0),1,8):=by kernel_rfl
theorem acF {n:Nat} (h:n<16):n=0\/n=1\/n=2\/n=3\/n=4\/n=5\/n=6\/n=7\/n=8\/n=9\/n=10\/n=11\/n=12\/n=13\/n=14\/n=15:=by omega
theorem WI {n:Nat} (h:n<16):(⟨#[48,49,50,51,52,53,54,55,56,57,97,98,99,100,101,102]⟩:ByteArray)[n]'(by exact h)=EE n:=by
 rcases acF h with h | h | h | h | h | h | h | h | h | h | h | h | h | h | h | h <;> (subst h; rfl)
theorem Gv (k:IntKind) (y:Int) (h0:0<=y) (h1:y<16) (w:World):(Instr.index 9 (.string ⟨#[48,49,50,51,52,53,54,55,56,57,97,98,99,100,101,102]⟩) (.int k y)).run Tryz.prog w = .ok (.int .u8 (EE y).toNat) w:=by
 obtain ⟨n,rfl⟩:=Int.eq_ofNat_of_zero_le h0;have hn:n<16:=by omega
 have h:=rK (P:=Tryz.prog) Tryz.underlying9 (⟨#[48,49,50,51,52,53,54,55,56,57,97,98,99,100,101,102]⟩:ByteArray) n hn k (n:Int) rfl w;rw[WI hn]at h;exact h
end
section
set_option linter.unusedVariables false
set_option linter.unusedSimpArgs false
open Go.RowKit
theorem GW:(Tryz.prog.info? 195).map (λi=>(i.zero,i.size,i.bytes))=some (some (.agg #[.int .u8 0, .int .u8 0, .int .i64 0]),3,16):=by kernel_rfl
end
section
set_option linter.unusedVariables false
set_option linter.unusedSimpArgs false
open Go.RowKit
def az (b:Nat) (w:World):Prop:=∃(a:Option Addr) (n c k:Nat),w.heap[b]?=some (.cells #[.slice a n c, .int .i64 (k:Int)] 25 (0,0))/\k<=n/\n<=maxLen/\
 ∀j,j<n->∃ad x,a=some ad/\ad.block<b/\w.cell? (ad.add j)=some (.int .i64 x)
def Fr (b:Nat) (w w':World):Prop:=w.grownBy w' (some b)
theorem Fr.refl (b:Nat) (w:World):Fr b w w:=⟨rfl,rfl,rfl,Nat.le_refl _,λ_ _ _=>rfl⟩
theorem Fr.trans {b:Nat} {w w1 w2:World} (h:Fr b w w1) (h':Fr b w1 w2):Fr b w w2:=
 ⟨h'.os.trans h.os,h'.tape.trans h.tape,h'.output.trans h.output,Nat.le_trans h.size h'.size,λk hk hne=>(h'.block k (Nat.lt_of_lt_of_le hk h.size) hne).trans (h.block k hk hne)⟩
theorem Fr.aa {b:Nat} {w w1:World} (h:Below w.heap.size w w1):Fr b w w1:=⟨h.os,h.tape,h.output,h.size,λk hk _=>h.block k hk⟩
theorem Fr.below {b B:Nat} {w w1:World} (h:Fr b w w1) (hB:B<=b) (hb:B<=w.heap.size):Below B w w1:=
 ⟨h.os,h.tape,h.output,h.size,λk hk=>h.block k (by omega) (by intro e;injection e;omega)⟩
theorem Fr.then {b:Nat} {w w1 w2:World} (h:Fr b w w1) (h':Below w.heap.size w1 w2):Fr b w w2:=
 ⟨h'.os.trans h.os,h'.tape.trans h.tape,h'.output.trans h.output,Nat.le_trans h.size h'.size,λk hk hne=>(h'.block k hk).trans (h.block k hk hne)⟩
theorem az.lt {b:Nat} {w:World} (h:az b w):b<w.heap.size:=by
 obtain ⟨a,n,c,k,hb,-⟩:=h;exact (Array.getElem?_eq_some_iff.1 hb).1
theorem az.keep {b:Nat} {w w1:World} (h:az b w) (hk:∀k,k<=b->w1.heap[k]?=w.heap[k]?):az b w1:=by
 obtain ⟨a,n,c,k,hb,h1,h2,h3⟩:=h;refine ⟨a,n,c,k,(hk b (Nat.le_refl _)).trans hb,h1,h2,λj hj=>?_⟩;obtain ⟨ad,x,ha,hlt,hc⟩:=h3 j hj;exact ⟨ad,x,ha,hlt,(World.cell?_of_block (by rw[gw];exact hk _ (Nat.le_of_lt hlt))).trans hc⟩
theorem az.below {b:Nat} {w w1:World} (h:az b w) (hb:Below w.heap.size w w1):az b w1:=
 h.keep λk hk=>hb.block k (Nat.lt_of_le_of_lt hk h.lt)
theorem az.fW {b B:Nat} {w w1:World} (h:az b w) (hb:Below B w w1) (hB:b<B):az b w1:=
 h.keep λk hk=>hb.block k (Nat.lt_of_le_of_lt hk hB)
theorem Dd (x:Int):0<=bits .and .i64 x 65535/\bits .and .i64 x 65535<=65535:=by
 have hle:(BitVec.ofInt 64 x &&& BitVec.ofInt 64 65535).toNat<=65535:=by
  rw[BitVec.toNat_and];exact Nat.le_trans Nat.and_le_right (by decide)
 have e:bits .and .i64 x 65535=((BitVec.ofInt 64 x &&& BitVec.ofInt 64 65535).toNat:Int):=by
  unfold bits;show IntKind.i64.wrap (((BitVec.ofInt 64 x &&& BitVec.ofInt 64 65535).toNat:Nat):Int)=_;rw[IntWalk.i64_in _ (by omega)]
 rw[e];omega
theorem yn {b:Nat} {w W:World} (a:Option Addr) (n c k:Nat) (hb:w.heap[b]?=some (.cells #[.slice a n c, .int .i64 (k:Int)] 25 (0,0))) (hk:k<n) (hn:n<=maxLen)
  (hc:∀j,j<n->∃ad x,a=some ad/\ad.block<b/\w.cell? (ad.add j)=some (.int .i64 x))
  (h:W.heap=(w.setCell ⟨b,1,none⟩ (.int .i64 ((k:Int)+1))).heap) (h1:W.os=w.os) (h2:W.tape=w.tape) (h3:W.output=w.output):az b W/\Fr b w W:=by
 have hne:∀i,i≠b->W.heap[i]?=w.heap[i]?:=λi hi=>by rw[h];exact Below.heap_setCell _ _ _ _ hi
 have xz:W.heap[b]?=some (.cells #[.slice a n c, .int .i64 ((k+1:Nat):Int)] 25 (0,0)):=by
  rw[h];simp[World.setCell,Array.getElem?_modify,hb]
 refine ⟨⟨a,n,c,k+1,xz,by omega,hn,λj hj=>?_⟩,h1,h2,h3,by rw[h];simp[World.setCell],λi _ hi=>hne i (λe=>hi (by rw[e]))⟩
 obtain ⟨ad,x,ha,hlt,mZ⟩:=hc j hj;exact ⟨ad,x,ha,hlt,(World.cell?_of_block (hne _ (by rw[gw];omega))).trans mZ⟩
def Ph (b:Nat) (n:Int) (w:World) (e:Ending) (w':World):Prop:=∃r:Int,e = .returned (.int .i64 r)/\0<=r/\r<n/\az b w'/\Fr b w w'
theorem bB (b:Nat) (n:Int) (w:World) (hn:0<n) (mV:n<=65536) (ht:az b w) :
  Calls Tryz.prog 20 #[.pointer (some ⟨b,0,none⟩), .int .i64 n] w (Ph b n w):=by
 have wQ:=Lib.hid ht;obtain ⟨a,m,c,k,hb,hk,hm,hcell⟩:=ht;unfold maxLen at hm;have c0:w.cell? ⟨b,0,none⟩=some (.slice a m c):=by rw[cell_of_row w b 0 _ _ _ hb];rfl
 have c1:w.cell? ⟨b,1,none⟩=some (.int .i64 (k:Int)):=by rw[cell_of_row w b 1 _ _ _ hb];rfl
 have f1:w.frozen? ⟨b,1,none⟩=false:=by simp[World.frozen?,hb]
 by_cases hlt:k<m
 .obtain ⟨ad,x,rfl,akb,mZ⟩:=hcell k hlt;have HB:=Lib.hid hb;have HC:=Lib.hid hcell;clear hb hcell;obtain ⟨y,hy⟩:∃y,bits .and .i64 x 65535=y:=⟨_,rfl⟩;have KX:=Dd x;rw[hy]at KX
  go_enter Tryz.func20,Tryz.ntmps20
  go_wp2_with fail
  go_quiet (fail)
  go_wp2_with fail
  go_quiet (fail)
  go_wp2
  go_ret;refine ⟨y % n,rfl,Int.emod_nonneg _ (by omega),Int.emod_lt_of_pos _ hn,?_⟩
  exact yn (some ad) m c k HB.out hlt (by unfold maxLen;omega) HC.out rfl rfl rfl rfl
 .obtain rfl:k=m:=by omega
  go_enter Tryz.func20,Tryz.ntmps20
  go_wp2_with fail
  go_quiet (fail)
  go_wp2
  go_ret;exact ⟨0,rfl,by omega,by omega,wQ.out,⟨rfl,rfl,rfl,Nat.le_refl _,λ_ _ _=>rfl⟩⟩
def Kz (b:Nat) (n:Nat) (w:World) (e:Ending) (w':World):Prop:=∃(v:Value) (l:List UInt8),e = .returned v/\l.length=n/\OB 5 w.heap.size v l w'/\az b w'/\Fr b w w'
theorem OB.keep {e:TypeId} {B:Nat} {v:Value} {l:List UInt8} {w w1:World} (h:OB e B v l w) (hk:∀k,v.ownBlock=some k->w1.heap[k]?=w.heap[k]?):OB e B v l w1:=by
 refine ⟨h.1,?_⟩;rcases h.2 with h1 | ⟨g,cap,cur,rfl,hb,hg,rest⟩
 .exact .inl h1
 .exact .inr ⟨g,cap,cur,rfl,hb,(hk g rfl).trans hg,rest⟩
theorem OB.fr {e:TypeId} {B b:Nat} {v:Value} {l:List UInt8} {w w1:World} (h:OB e B v l w) (hf:Fr b w w1) (hB:b<B):OB e B v l w1:=
 h.keep λk hk=>by
  have h1:=World.ownsRow.lt h k hk;exact hf.block k h1.2 (by intro e;injection e;omega)
set_option maxHeartbeats 1000000 in
theorem KD (b n:Nat) (w:World) (hn:n<=1000000) (ht:az b w) :
  Calls Tryz.prog 23 #[.pointer (some ⟨b,0,none⟩), .int .i64 (n:Int)] w (Kz b n w):=by
 obtain ⟨i0,hi,hz0,hz1,hz2⟩:=info_parts ij;have dK:=ht.lt
 go_enter Tryz.func23,Tryz.ntmps23
 go_wp2
 go_loopw [5,6] (λv i wr=>∃(k:Nat) (l:List UInt8),k<=n/\i = .int .i64 (k:Int)/\l.length=k/\OB 5 w.heap.size v l wr/\az b wr/\Fr b w wr) (λ_ i _=>n - (intOf i).toNat)
 case atStart=>exact ⟨0,[],by omega,rfl,rfl,OB.ic _ _ _,ht,Fr.refl _ _⟩
 case round=>
  obtain ⟨k,l,hk,rfl,hl,hown,uU,eJ⟩:=hrel;by_cases hlt:k<n
  .go_wp2_with fail;refine (bB b _ _ (by omega) (by omega) uU).mono ?_
   rintro e w1 ⟨r,rfl,Ha,kI,kr,gI⟩;have hown1:=hown.fr gI dK;by_cases e0:r=0
   .subst e0;go_wp2_with fail;refine (bB b _ _ (by omega) (by omega) kr).mono ?_
    rintro e w2 ⟨q,rfl,tH,hq1,lH,eg⟩;have aQ:=hown1.fr eg dK;obtain ⟨u,c,-,lQ,nP,tG,ED⟩:=pO Tryz.underlying9 ⟨#[32,10,61,37,43,47,45,46]⟩ q.toNat (show q.toNat<8 by omega) .i64 q (by omega)
    go_wp2_with (at_builtin;refine qP Tryz.underlying28 hi hz0 hz1 hz2 _ _ _ _ _ u _ rfl rfl rfl rfl aQ lQ.out (by omega) (Nat.le_trans eJ.size (Nat.le_trans gI.size eg.size)) ?_;intro v1 w3 bZ dc _ _)
    go_roundw
    case rel=>exact ⟨k+1,_,by omega,by go_num,by simp;omega,bZ,lH.fW dc dK,((eJ.trans gI).trans eg).then dc⟩
    case measure=>simp[intOf];omega
   by_cases e1:r=1
   .subst e1;go_wp2_with fail;refine (bB b _ _ (by omega) (by omega) kr).mono ?_
    rintro e w2 ⟨q,rfl,tH,hq1,lH,eg⟩;have aQ:=hown1.fr eg dK;have hu:=iZ q.toNat (by omega)
    rw[Int.toNat_of_nonneg tH]at hu;have HU:=Lib.hid hu;clear hu;go_wp2_with (at_builtin;refine qP Tryz.underlying28 hi hz0 hz1 hz2 _ _ _ _ _ (UInt8.ofNat q.toNat) _ rfl rfl rfl rfl aQ HU.out (by omega) (Nat.le_trans eJ.size (Nat.le_trans gI.size eg.size)) ?_;intro v1 w3 bZ dc _ _)
    go_roundw
    case rel=>exact ⟨k+1,_,by omega,by go_num,by simp;omega,bZ,lH.fW dc dK,((eJ.trans gI).trans eg).then dc⟩
    case measure=>simp[intOf];omega
   by_cases e2:r=2\/r=3
   .rcases e2 with rfl | rfl
    all_goals
     skip
     go_wp2_with fail;refine (bB b _ _ (by omega) (by omega) kr).mono ?_
     rintro e w2 ⟨q,rfl,tH,hq1,lH,eg⟩;have aQ:=hown1.fr eg dK;have hu:=iZ (48+q).toNat (by omega)
     rw[Int.toNat_of_nonneg (by omega)]at hu
     have HU:=Lib.hid hu;clear hu;go_wp2_with (at_builtin;refine qP Tryz.underlying28 hi hz0 hz1 hz2 _ _ _ _ _ (UInt8.ofNat (48+q).toNat) _ rfl rfl rfl rfl aQ HU.out (by omega) (Nat.le_trans eJ.size (Nat.le_trans gI.size eg.size)) ?_;intro v1 w3 bZ dc _ _)
     go_roundw
     case rel=>exact ⟨k+1,_,by omega,by go_num,by simp;omega,bZ,lH.fW dc dK,((eJ.trans gI).trans eg).then dc⟩
     case measure=>simp[intOf];omega
   have e2':¬r=2:=λh=>e2 (.inl h);have e3':¬r=3:=λh=>e2 (.inr h);clear e2
   .skip
    go_wp2_with fail;refine (bB b _ _ (by omega) (by omega) kr).mono ?_
    rintro e w2 ⟨q,rfl,tH,hq1,lH,eg⟩;have aQ:=hown1.fr eg dK;obtain ⟨u,c,-,lQ,nP,tG,ED⟩:=pO Tryz.underlying9 ⟨#[97,98,99,100,101,102,116,107]⟩ q.toNat (show q.toNat<8 by omega) .i64 q (by omega)
    go_wp2_with (at_builtin;refine qP Tryz.underlying28 hi hz0 hz1 hz2 _ _ _ _ _ u _ rfl rfl rfl rfl aQ lQ.out (by omega) (Nat.le_trans eJ.size (Nat.le_trans gI.size eg.size)) ?_;intro v1 w3 bZ dc _ _)
    go_roundw
    case rel=>exact ⟨k+1,_,by omega,by go_num,by simp;omega,bZ,lH.fW dc dK,((eJ.trans gI).trans eg).then dc⟩
    case measure=>simp[intOf];omega
  .obtain rfl:k=n:=by omega
   go_wp2
   go_ret;exact ⟨_,l,rfl,hl,hown,uU,eJ⟩
end
section
set_option linter.unusedVariables false
set_option linter.unusedSimpArgs false
open Go.RowKit
def uw (a b:Int):Int:=if a<b then -1 else if b<a then 1 else 0
theorem zo (a:Int) (w:World):Calls Tryz.prog 107 #[.int .i64 a] w λe w'=>e = .returned (.bool false)/\w=w':=by
 go_enter Tryz.func107,Tryz.ntmps107
 go_wp2
 go_ret;exact ⟨rfl,rfl⟩
theorem zp (a b:Int) (w:World):Calls Tryz.prog 80 #[.int .i64 a, .int .i64 b] w λe w'=>e = .returned (.int .i64 (uw a b))/\w=w':=by
 unfold uw;by_cases h1:a<b
 .rw[if_pos h1]
  go_enter Tryz.func80,Tryz.ntmps80
  go_wp2_with (go_at_call 107;refine (zo _ _).mono ?_;rintro e w1 ⟨rfl,rfl⟩);go_ret;exact ⟨rfl,rfl⟩
 .rw[if_neg h1];by_cases h2:b<a
  .rw[if_pos h2]
   go_enter Tryz.func80,Tryz.ntmps80
   go_wp2_with (go_at_call 107;refine (zo _ _).mono ?_;rintro e w1 ⟨rfl,rfl⟩);go_ret;exact ⟨rfl,rfl⟩
  .rw[if_neg h2]
   go_enter Tryz.func80,Tryz.ntmps80
   go_wp2_with (go_at_call 107;refine (zo _ _).mono ?_;rintro e w1 ⟨rfl,rfl⟩);go_ret;exact ⟨rfl,rfl⟩
end
section
set_option linter.unusedVariables false
set_option linter.unusedSimpArgs false
open Go.RowKit
def PW (b:Nat) (w:World) (v:Value):Prop:=∃g f n c,v = .slice (some ⟨g,f,none⟩) n c/\1<=n/\n<=1000/\b<g/\g<w.heap.size/\
 ∀j<n,∃lo hi:Int,w.cell? ⟨g,f+j*2,none⟩=some (.int .u8 lo)/\w.cell? ⟨g,f+j*2+1,none⟩=some (.int .u8 hi)/\0<=lo/\lo<=hi/\hi<256
def zJ (b:Nat) (w:World) (G:List Value->Prop) (n:Nat) (v:Value):Prop:=∃g f c,v = .slice (some ⟨g,f,none⟩) n c/\b<g/\g<w.heap.size/\n<=1000/\
 ∀j<n,∃u0 u1 u2 u3 u4,w.cell? ⟨g,f+j*5,none⟩=some u0/\w.cell? ⟨g,f+j*5+1,none⟩=some u1/\w.cell? ⟨g,f+j*5+2,none⟩=some u2/\w.cell? ⟨g,f+j*5+3,none⟩=some u3/\w.cell? ⟨g,f+j*5+4,none⟩=some u4/\G [u0,u1,u2,u3,u4]
def Sl (v:Value):Prop:=∃A n c,v = .slice A n c
theorem Sl.of (A:Option Addr) (n c:Nat):Sl (.slice A n c):=⟨A,n,c,rfl⟩
def j6 (b:Nat) (w:World):Nat->Nat->List Value->Prop
 | 0,_,_=>False
 | d+1,m,vs=>∃v1 v2 mn mx,(Sl v1/\Sl v2)/\((vs=[.int .i64 1,v1,v2, .int .i64 mn, .int .i64 mx]/\PW b w v1/\1<=m)\/
   (vs=[.int .i64 2,v1,v2, .int .i64 mn, .int .i64 mx]/\∃n m',zJ b w (j6 b w d m') n v2/\n*m'<=m)\/
   (vs=[.int .i64 3,v1,v2, .int .i64 mn, .int .i64 mx]/\∃n,zJ b w (j6 b w d m) n v2/\1<=n)\/
   (vs=[.int .i64 4,v1,v2, .int .i64 mn, .int .i64 mx]/\∃n m',zJ b w (j6 b w d m') n v2/\1<=n/\0<=mn/\mn<=mx/\(1<=mx/\mx<=1000)/\mx.toNat*m'<=m))
def af (b:Nat) (w w':World):Prop:=w.heap.size<=w'.heap.size/\∀k,b<k->k<w.heap.size->w'.heap[k]?=w.heap[k]?
theorem af.refl (b:Nat) (w:World):af b w w:=⟨Nat.le_refl _,λ_ _ _=>rfl⟩
theorem af.trans {b:Nat} {w w1 w2:World} (h:af b w w1) (h':af b w1 w2):af b w w2:=⟨Nat.le_trans h.1 h'.1,λk hk hlt=>(h'.2 k hk (Nat.lt_of_lt_of_le hlt h.1)).trans (h.2 k hk hlt)⟩
theorem af.dH {b:Nat} {w w':World} (h:Fr b w w'):af b w w':=⟨h.size,λk hk hlt=>h.block k hlt (by intro e;injection e;omega)⟩
theorem af.aa {b:Nat} {w w':World} (h:Below w.heap.size w w'):af b w w':=⟨h.size,λk _ hlt=>h.block k hlt⟩
theorem af.cell {b:Nat} {w w':World} (h:af b w w') {g j:Nat} (hg:b<g) (hlt:g<w.heap.size):w'.cell? ⟨g,j,none⟩=w.cell? ⟨g,j,none⟩:=World.cell?_of_block (a:=⟨g,j,none⟩) (h.2 g hg hlt)
theorem PW.later {b:Nat} {w w':World} {v:Value} (h:PW b w v) (hs:af b w w'):PW b w' v:=by
 obtain ⟨g,f,n,c,rfl,h1,h2,h3,h4,h5⟩:=h;refine ⟨g,f,n,c,rfl,h1,h2,h3,Nat.lt_of_lt_of_le h4 hs.1,λj hj=>?_⟩;obtain ⟨lo,hi,q1,q2,r⟩:=h5 j hj;exact ⟨lo,hi,(hs.cell h3 h4).trans q1,(hs.cell h3 h4).trans q2,r⟩
theorem zJ.later {b:Nat} {w w':World} {G G':List Value->Prop} {n:Nat} {v:Value} (h:zJ b w G n v) (hs:af b w w') (hG:∀us,G us->G' us):zJ b w' G' n v:=by
 obtain ⟨g,f,c,rfl,h3,h4,h2,h5⟩:=h;refine ⟨g,f,c,rfl,h3,Nat.lt_of_lt_of_le h4 hs.1,h2,λj hj=>?_⟩;obtain ⟨u0,u1,u2,u3,u4,q0,q1,q2,q3,q4,hg⟩:=h5 j hj;exact ⟨u0,u1,u2,u3,u4,(hs.cell h3 h4).trans q0,(hs.cell h3 h4).trans q1,(hs.cell h3 h4).trans q2,(hs.cell h3 h4).trans q3,(hs.cell h3 h4).trans q4,hG _ hg⟩
theorem j6.later {b:Nat} {w w':World} (hs:af b w w'):∀{d m:Nat} {vs:List Value},j6 b w d m vs->j6 b w' d m vs
 | 0,_,_,h=>h
 | d+1,m,vs,⟨v1,v2,mn,mx,hsl,h⟩=>by
  refine ⟨v1,v2,mn,mx,hsl,?_⟩;rcases h with ⟨h1,h2,h3⟩ | ⟨h1,n,m',h2,h3⟩ | ⟨h1,n,h2,h3⟩ | ⟨h1,n,m',h2,h3⟩
  .exact .inl ⟨h1,h2.later hs,h3⟩
  .exact .inr (.inl ⟨h1,n,m',h2.later hs (λus=>j6.later hs),h3⟩)
  .exact .inr (.inr (.inl ⟨h1,n,h2.later hs (λus=>j6.later hs),h3⟩))
  .exact .inr (.inr (.inr ⟨h1,n,m',h2.later hs (λus=>j6.later hs),h3⟩))
def adN (b d m:Nat) (w:World) (e:Ending) (w':World):Prop:=∃A B n n' c c' o mn mx,e = .returned (.agg #[.int .i64 o, .slice A n c, .slice B n' c', .int .i64 mn, .int .i64 mx])/\j6 b w' d m [.int .i64 o, .slice A n c, .slice B n' c', .int .i64 mn, .int .i64 mx]/\Below w.heap.size w w'
theorem j6.mono {b:Nat} {w:World}:∀{d d' m m':Nat} {vs:List Value},d<=d'->m<=m'->j6 b w d m vs->j6 b w d' m' vs
 | 0,_,_,_,_,_,_,h=>h.elim
 | d+1,0,_,_,_,hd,_,_=>by omega
 | d+1,d'+1,m,m',vs,hd,hm,⟨v1,v2,mn,mx,hsl,h⟩=>by
  refine ⟨v1,v2,mn,mx,hsl,?_⟩;rcases h with ⟨h1,h2,h3⟩ | ⟨h1,n,k,h2,h3⟩ | ⟨h1,n,h2,h3⟩ | ⟨h1,n,k,h2,h3,h4,h5,h6,h7⟩
  .exact .inl ⟨h1,h2,by omega⟩
  .exact .inr (.inl ⟨h1,n,k,h2.later (af.refl _ _) (λus=>j6.mono (by omega) (Nat.le_refl _)),by omega⟩)
  .exact .inr (.inr (.inl ⟨h1,n,h2.later (af.refl _ _) (λus=>j6.mono (by omega) hm),h3⟩))
  .exact .inr (.inr (.inr ⟨h1,n,k,h2.later (af.refl _ _) (λus=>j6.mono (by omega) (Nat.le_refl _)),h3,h4,h5,h6,by omega⟩))
theorem zJ.new {b:Nat} {w:World} {G:List Value->Prop} {us:List (List Value)} {cs:Array Value} {e:TypeId} {n c:Nat} (hb:b<w.heap.size) (hcs:cs=us.flatten.toArray) (h5:∀u∈us,u.length=5) (hG:∀u∈us,G u) (hn:n=us.length) (mV:n<=1000) :
  zJ b (w.alloc (.cells cs e)) G n (.slice (some ⟨w.heap.size,0,none⟩) n c):=by
 subst hn hcs;refine ⟨w.heap.size,0,c,rfl,hb,by simp,mV,λj hj=>?_⟩
 have xm:∀(us:List (List Value)),(∀u∈us,u.length=5)->∀j (hj:j<us.length) i,i<5->us.flatten[j*5+i]?=(us[j])[i]?:=by
  intro us
  induction us with
  | nil=>intro _ j hj;simp at hj
  | cons a r ih=>
   intro h j hj i hi;have ha:=h a (by simp)
   match j,hj with
   | 0,_=>rw[List.flatten_cons,List.getElem?_append_left (by omega)];simp
   | j+1,hj=>
    rw[List.flatten_cons,List.getElem?_append_right (by omega),show (j+1)*5+i-a.length=j*5+i by omega,ih (λu hu=>h u (by simp[hu])) j (by simpa using hj) i hi]
    rfl
 have h:=xm us h5 j hj;have hu5:=h5 us[j] (List.getElem_mem hj);have hg:=hG us[j] (List.getElem_mem hj);generalize us[j]=u at *
 match u,hu5 with
 | [u0,u1,u2,u3,u4],_=>
  refine ⟨u0,u1,u2,u3,u4,?_,?_,?_,?_,?_,hg⟩
  .have:=h 0 (by omega);rw[World.cell?_alloc_mark];simpa using this
  .have:=h 1 (by omega);rw[World.cell?_alloc_mark,Nat.zero_add];simpa using this
  .have:=h 2 (by omega);rw[World.cell?_alloc_mark,Nat.zero_add];simpa using this
  .have:=h 3 (by omega);rw[World.cell?_alloc_mark,Nat.zero_add];simpa using this
  .have:=h 4 (by omega);rw[World.cell?_alloc_mark,Nat.zero_add];simpa using this
end
section
set_option linter.unusedVariables false
set_option linter.unusedSimpArgs false
open Go.RowKit
theorem PW.new {b:Nat} {w w':World} {g n c:Nat} {rs:List (Int×Int)} {e:TypeId} (hg:w'.heap[g]?=some (.cells (rs.flatMap λp=>[Value.int .u8 p.1,Value.int .u8 p.2]).toArray e (0,0))) (hb:b<g) (hn:n=rs.length) (h1:1<=n) (h2:n<=1000) (hr:∀p∈rs,0<=p.1/\p.1<=p.2/\p.2<256):PW b w' (.slice (some ⟨g,0,none⟩) n c):=by
 subst hn;refine ⟨g,0,_,c,rfl,h1,h2,hb,(Array.getElem?_eq_some_iff.1 hg).1,λj hj=>?_⟩;have xm:∀(rs:List (Int×Int)) j (hj:j<rs.length),(rs.flatMap λp=>[Value.int .u8 p.1,Value.int .u8 p.2])[j*2]?=some (.int .u8 (rs[j]).1)/\(rs.flatMap λp=>[Value.int .u8 p.1,Value.int .u8 p.2])[j*2+1]?=some (.int .u8 (rs[j]).2):=by
  intro rs
  induction rs with
  | nil=>intro j hj;simp at hj
  | cons a r ih=>
   intro j hj
   match j,hj with
   | 0,_=>exact ⟨rfl,rfl⟩
   | j+1,hj=>
    obtain ⟨q1,q2⟩:=ih j (by simpa using hj)
    refine ⟨?_,?_⟩
    .rw[List.flatMap_cons,List.getElem?_append_right (by simp;omega),show (j+1)*2-[Value.int IntKind.u8 a.1,Value.int IntKind.u8 a.2].length=j*2 by simp;omega];exact q1
    .rw[List.flatMap_cons,List.getElem?_append_right (by simp;omega),show (j+1)*2+1-[Value.int IntKind.u8 a.1,Value.int IntKind.u8 a.2].length=j*2+1 by simp;omega];exact q2
 obtain ⟨q1,q2⟩:=xm rs j hj;refine ⟨(rs[j]).1,(rs[j]).2,?_,?_,hr _ (List.getElem_mem hj)⟩
 .rw[cell_of_row _ _ _ _ _ _ hg,Nat.zero_add];simpa using q1
 .rw[cell_of_row _ _ _ _ _ _ hg,Nat.zero_add];simpa using q2
def alB (b:Nat) (w:World) (e:Ending) (w':World):Prop:=∃g,e = .returned (.slice (some ⟨g,0,none⟩) 6 6)/\zJ b w' (j6 b w' 4 18) 6 (.slice (some ⟨g,0,none⟩) 6 6)/\Below w.heap.size w w'
end
section
set_option linter.unusedVariables false
set_option linter.unusedSimpArgs false
open Go.RowKit
theorem dA (c:Int) (w:World) :
  Calls Tryz.prog 47 #[.int .i64 c] w λe w'=>e = .returned (.bool (wR c))/\w=w':=by
 by_cases h:0<=c
 all_goals
  go_enter Tryz.func47,Tryz.ntmps47
  go_wp2
  go_ret;exact ⟨aj (by unfold wR;first | (simp[h];done) | (rw[decide_eq_false (by omega)];rfl)),rfl⟩
theorem kZ (s:ByteArray) (w:World) (hs:s.size<=1000000) :
  Calls Tryz.prog 48 #[.string s] w λe w'=>e = .returned (.bool (dU qM (bl s)))/\w=w':=by
 go_enter Tryz.func48,Tryz.ntmps48
 go_wp2
 go_loop [3] (λi=>∃k:Nat,k<=s.size/\i = .int .i64 k/\dU qM ((bl s).drop k)=dU qM (bl s)) (λi=>s.size - (intOf i).toNat)
 case atStart=>exact ⟨0,Nat.zero_le _,rfl,rfl⟩
 case round=>
  obtain ⟨k,hk,rfl,hrel⟩:=hrel;have HR:=Lib.hid hrel;clear hrel;by_cases hlt:k<s.size
  .have hdr:=Lib.hid (iC s k hlt);by_cases h1:(s[k].toNat:Int)<48
   .go_wp2
    go_ret;exact ⟨aj (by rw[<-HR.out,hdr.out,mT (Hr (by omega))]),rfl⟩
   .by_cases h2:57<(s[k].toNat:Int)
    .go_wp2
     go_ret;exact ⟨aj (by rw[<-HR.out,hdr.out,mT (Hr (by omega))]),rfl⟩
    .go_wp2
     go_round
     case rel=>exact ⟨k+1,by omega,by go_num,by rw[<-HR.out,hdr.out,pU (XR (by omega) (by omega))]⟩
     case measure=>simp[intOf];omega
  .obtain rfl:k=s.size:=by omega
   go_wp2
   go_ret;exact ⟨aj (by rw[<-HR.out,eG];rfl),rfl⟩
theorem qB (s:ByteArray) (w:World) (hs:s.size<=1000000) :
  Calls Tryz.prog 49 #[.string s] w λe w'=>e = .returned (.bool (dU Be (bl s)))/\w=w':=by
 go_enter Tryz.func49,Tryz.ntmps49
 go_wp2
 go_loop [3] (λi=>∃k:Nat,k<=s.size/\i = .int .i64 k/\dU Be ((bl s).drop k)=dU Be (bl s)) (λi=>s.size - (intOf i).toNat)
 case atStart=>exact ⟨0,Nat.zero_le _,rfl,rfl⟩
 case round=>
  obtain ⟨k,hk,rfl,hrel⟩:=hrel;have HR:=Lib.hid hrel;clear hrel;by_cases hlt:k<s.size
  .have hdr:=Lib.hid (iC s k hlt);by_cases h1:(s[k].toNat:Int)<48
   .by_cases h3:(s[k].toNat:Int)<65
    .go_wp2
     go_ret;exact ⟨aj (by rw[<-HR.out,hdr.out,mT (zX (by omega))]),rfl⟩
    .exfalso;omega
   .by_cases h2:57<(s[k].toNat:Int)
    .by_cases h3:(s[k].toNat:Int)<65
     .go_wp2
      go_ret;exact ⟨aj (by rw[<-HR.out,hdr.out,mT (zX (by omega))]),rfl⟩
     .by_cases h4:90<(s[k].toNat:Int)
      .go_wp2
       go_ret;exact ⟨aj (by rw[<-HR.out,hdr.out,mT (zX (by omega))]),rfl⟩
      .go_wp2
       go_round
       case rel=>exact ⟨k+1,by omega,by go_num,by rw[<-HR.out,hdr.out,pU (Ol (by omega))]⟩
       case measure=>simp[intOf];omega
    .go_wp2
     go_round
     case rel=>exact ⟨k+1,by omega,by go_num,by rw[<-HR.out,hdr.out,pU (Ol (by omega))]⟩
     case measure=>simp[intOf];omega
  .obtain rfl:k=s.size:=by omega
   go_wp2
   go_ret;exact ⟨aj (by rw[<-HR.out,eG];rfl),rfl⟩
theorem Om (s:ByteArray) (w:World) (hs:s.size<=1000000) :
  Calls Tryz.prog 51 #[.string s] w λe w'=>e = .returned (.int .i64 (dQ (bl s) 0))/\w=w':=by
 go_enter Tryz.func51,Tryz.ntmps51
 go_wp2
 go_loop [3,4] (λn i=>∃(k:Nat) (N:Int),k<=s.size/\i = .int .i64 k/\n = .int .i64 N/\0<=N/\N<97/\dQ ((bl s).drop k) N=dQ (bl s) 0) (λ_ i=>s.size - (intOf i).toNat)
 case atStart=>exact ⟨0,0,Nat.zero_le _,rfl,rfl,by omega,by omega,rfl⟩
 case round=>
  obtain ⟨k,N,hk,rfl,rfl,Me,AY,hrel⟩:=hrel;have HR:=Lib.hid hrel;clear hrel;by_cases hlt:k<s.size
  .have hdr:=Lib.hid (iC s k hlt);have xE:=pN s[k];by_cases hd:(s[k].toNat:Int)<=57
   all_goals
    go_wp2
    go_round
    case rel=>exact ⟨k+1,_,by omega,by go_num,rfl,by omega,by omega,by rw[<-HR.out,hdr.out];first | exact Kc hd (by unfold val;omega) | exact Kd hd (by unfold val;omega)⟩
    case measure=>simp[intOf];omega
  .obtain rfl:k=s.size:=by omega
   have hN:N=dQ (bl s) 0:=by rw[<-HR.out,eG];rfl
   have HN:=Lib.hid hN;clear hN
   go_wp2
   go_ret;exact ⟨aH (by rw[HN.out]),rfl⟩
theorem Sj (s:ByteArray) (w:World) (hs:s.size<=1000000) :
  Calls Tryz.prog 53 #[.string s] w λe w'=>e = .returned (.int .u32 (KW (bl s)))/\w=w':=by
 go_enter Tryz.func53,Tryz.ntmps53
 go_wp2
 go_loop [3,4] (λn i=>∃(k:Nat) (N:Int),k<=s.size/\i = .int .i64 k/\n = .int .u32 N/\0<=N/\N<4294967296/\wC ((bl s).drop k) N=wC (bl s) 4294967295) (λ_ i=>s.size - (intOf i).toNat)
 case atStart=>exact ⟨0,_,Nat.zero_le _,rfl,rfl,by omega,by omega,rfl⟩
 case round=>
  obtain ⟨k,N,hk,rfl,rfl,Me,AY,hrel⟩:=hrel;have HR:=Lib.hid hrel;clear hrel;by_cases hlt:k<s.size
  .have hdr:=Lib.hid (iC s k hlt);have xE:=pN s[k]
   go_wp2
   obtain ⟨X,hX⟩:∃X,X=bits .xor .u32 N s[k].toNat:=⟨_,rfl⟩;have Tu:=mi .xor N s[k].toNat;rw[<-hX]at Tu|-;have HX:=Lib.hid hX;clear hX xE
   go_loop [3,5] (λn i=>∃(j:Nat) (M:Int),j<=8/\i = .int .i64 j/\n = .int .u32 M/\0<=M/\M<4294967296/\jt (8-j) M=jt 8 X) (λ_ i=>8 - (intOf i).toNat)
   case atStart=>exact ⟨0,X,by omega,rfl,rfl,by omega,by omega,rfl⟩
   case round=>
    obtain ⟨j,M,hj,rfl,rfl,Mg,xF,hrel⟩:=hrel;have HI:=Lib.hid hrel;clear hrel;by_cases hlj:j<8
    .have Y0:=Lib.hid (show 8-j=(8 - (j+1))+1 by omega)
     rcases hb:(bits .and .u32 M 1 == 1)
     .go_wp2
      go_round
      case rel=>exact ⟨j+1,M / 2,by omega,by go_num,rfl,by omega,by omega,by rw[<-HI.out,Y0.out,iq,Mh hb]⟩
      case measure=>simp[intOf];omega
     .go_wp2
      go_round
      case rel=>exact ⟨j+1,_,by omega,by go_num,rfl,(mi _ _ _).1,(mi _ _ _).2,by rw[<-HI.out,Y0.out,iq,Gu hb]⟩
      case measure=>simp[intOf];omega
    .obtain rfl:j=8:=by omega
     go_wp2
     go_round
     case rel=>exact ⟨k+1,M,by omega,by go_num,rfl,by omega,by omega,by rw[<-HR.out,hdr.out,wC,<-HX.out,<-HI.out];rfl⟩
     case measure=>simp[intOf];omega
  .obtain rfl:k=s.size:=by omega
   have hN:N=wC (bl s) 4294967295:=by rw[<-HR.out,eG];rfl
   have HN:=Lib.hid hN;clear hN
   go_wp2
   go_ret;exact ⟨aH (by unfold KW;rw[<-HN.out]),rfl⟩
theorem FN (s:ByteArray) (w:World) (hs:s.size<=1000000) :
  Calls Tryz.prog 54 #[.string s] w λe w'=>e = .returned (.int .u8 (65+mh (bl s) 0 0))/\w=w':=by
 go_enter Tryz.func54,Tryz.ntmps54
 go_wp2
 have y9:=za (bl s) 0 0 (by omega) (by omega)
 go_loop [3,4] (λn i=>∃(k:Nat) (N:Int),k<=s.size/\i = .int .i64 k/\n = .int .i64 N/\0<=N/\N<26/\mh ((bl s).drop k) k N=mh (bl s) 0 0) (λ_ i=>s.size - (intOf i).toNat)
 case atStart=>exact ⟨0,0,Nat.zero_le _,rfl,rfl,by omega,by omega,rfl⟩
 case round=>
  obtain ⟨k,N,hk,rfl,rfl,Me,AY,hrel⟩:=hrel;have HR:=Lib.hid hrel;clear hrel;by_cases hlt:k<s.size
  .have hdr:=Lib.hid (iC s k hlt);have xE:=pN s[k];have hp:=rP s[k].toNat k (by omega) xE (by omega)
   go_wp2
   go_round
   case rel=>exact ⟨k+1,(N+s[k].toNat*((k+1) % 26)) % 26,by omega,by go_num,rfl,by omega,by omega,by rw[<-HR.out,hdr.out];rfl⟩
   case measure=>simp[intOf];omega
  .obtain rfl:k=s.size:=by omega
   have hN:N=mh (bl s) 0 0:=by rw[<-HR.out,eG];rfl
   have HN:=Lib.hid hN;clear hN y9
   go_wp2
   go_ret;exact ⟨aH (by rw[HN.out]),rfl⟩
set_option maxHeartbeats 400000 in
theorem Oo (x:Int) (w:World) (h0:0<=x) (h1:x<4294967296) :
  Calls Tryz.prog 52 #[.int .u32 x] w λe w'=>e = .returned (.string (bs (kC 8 x)))/\Below w.heap.size w w':=by
 obtain ⟨i0,hi,hz0,hz1,hz2⟩:=info_parts ij
 go_enter Tryz.func52,Tryz.ntmps52
 go_wp2
 go_loopw [3,4] (λv i wr=>∃(m:Nat) (l:List UInt8),m<=8/\i = .int .i64 (4*(m:Int) - 4)/\OB 5 w.heap.size v l wr/\l.length+m=8/\Below w.heap.size w wr/\l++kC m x=kC 8 x) (λ_ i _=>(intOf i+4).toNat)
 case atStart=>exact ⟨8,[],by omega,rfl,OB.ic _ _ _,rfl,Below.refl _ _,rfl⟩
 case round=>
  obtain ⟨m,l,hm,rfl,hown,hl,aI,hrel⟩:=hrel;have HR:=Lib.hid hrel;clear hrel;rcases m with _ | m
  .obtain ⟨A,n,c,rfl⟩:∃A n c,u3 = .slice A n c:=hown.aao;have hcv:=hown.conv Tryz.underlying28 Tryz.underlying5 Tryz.underlying9
   go_wp2
   go_ret;exact ⟨sU (by rw[<-HR.out];simp[kC]),aI⟩
  .obtain ⟨y,hy⟩:∃y,bits .and .u32 (x / 2 ^ (4*(m+1) - 4)) 15=y:=⟨_,rfl⟩;have KX:y=x / 2 ^ (4*m) % 16:=by rw[<-hy,Tv (zc _ h0 h1).1 (zc _ h0 h1).2];rfl
   have hy0:0<=y:=by omega
   have KS:y<16:=by omega
   have HY:=Lib.hid KX;clear KX;have ED:=Gv .u32 y hy0 KS;go_wp2_with (at_builtin;refine qP Tryz.underlying28 hi hz0 hz1 hz2 _ _ _ _ _ (EE y) _ rfl rfl rfl rfl hown rfl (by omega) aI.size ?_;intro v1 w1 hown1 hb1 _ _)
   go_roundw
   case rel=>exact ⟨m,l++[EE y],by omega,by go_num,hown1,by simp;omega,aI.trans (hb1.mono (Nat.le_refl _)),by rw[<-HR.out,kC,<-HY.out];simp⟩
   case measure=>simp[intOf];omega
set_option maxHeartbeats 400000 in
theorem Dp (s:ByteArray) (w:World) (hs:s.size<=1000000) :
  Calls Tryz.prog 50 #[.string s] w λe w'=>e = .returned (.bool (qC (bl s)))/\w=w':=by
 by_cases h2:s.size<2
 .go_enter Tryz.func50,Tryz.ntmps50
  go_wp2
  go_ret;exact ⟨aj (by unfold qC;rw[decide_eq_false (by rw[aB];omega)];rfl),rfl⟩
 .rcases hd:dU qM (bl s)
  .go_enter Tryz.func50,Tryz.ntmps50
   go_wp2_with (go_at_call 48;refine (kZ _ _ hs).mono ?_;rintro e w' ⟨rfl,rfl⟩);go_ret;exact ⟨aj (by unfold qC;rw[hd];simp),rfl⟩
  .go_enter Tryz.func50,Tryz.ntmps50
   go_wp2_with (go_at_call 48;refine (kZ _ _ hs).mono ?_;rintro e w' ⟨rfl,rfl⟩);have Hd:=Lib.hid hd;clear hd
   go_loop [3,4] (λn i=>∃(k:Nat) (N:Int),k<=s.size/\i = .int .i64 k/\n = .int .i64 N/\0<=N/\N<=512*k/\r6 ((bl s).reverse.drop k) k N=r6 (bl s).reverse 0 0) (λ_ i=>s.size - (intOf i).toNat)
   case atStart=>exact ⟨0,0,Nat.zero_le _,rfl,rfl,by omega,by omega,rfl⟩
   case round=>
    obtain ⟨k,N,hk,rfl,rfl,Me,AY,hrel⟩:=hrel;have HR:=Lib.hid hrel;clear hrel;by_cases hlt:k<s.size
    .have hdr:=Lib.hid (Oq s k hlt);obtain ⟨u,c,Tw,lQ,nP,tG,ED⟩:=pO Tryz.underlying9 s (s.size - 1-k) (by omega) .i64 ((s.size:Int) - 1-k) (by omega)
     by_cases hev:(k:Int) % 2=1
     .by_cases hd:9<(c - 48) % 256*2
      all_goals
       go_wp2
       go_round
       case rel=>exact ⟨k+1,_,by omega,by go_num,rfl,by omega,by omega,by rw[<-HR.out,hdr.out,<-Tw.out]; exact vq lQ.out (by rw[if_pos (by omega)]; unfold Qu val; split <;> omega)⟩
       case measure=>simp[intOf];omega
     .go_wp2
      go_round
      case rel=>exact ⟨k+1,_,by omega,by go_num,rfl,by omega,by omega,by rw[<-HR.out,hdr.out,<-Tw.out];exact vq lQ.out (by rw[if_neg (by omega)];unfold val;omega)⟩
      case measure=>simp[intOf];omega
    .obtain rfl:k=s.size:=by omega
     have hN:N=r6 (bl s).reverse 0 0:=by rw[<-HR.out,List.drop_eq_nil_of_le (by rw[List.length_reverse,aB];exact Nat.le_refl _)];rfl
     have HN:=Lib.hid hN;clear hN
     go_wp2
     go_ret;exact ⟨aj (by unfold qC;rw[Hd.out,<-HN.out,decide_eq_true (by rw[aB];omega)];rfl),rfl⟩
theorem ka {c:Int} {s:ByteArray} {r:ByteArray} (hv:wR c=true) (hs:s.size<=65536) (hp:Hs c (bl s)=true) (h:r=bs (bl s++qD c (bl s))) :
  Ending.returned (.tuple #[.string r, .int .i64 0]) = .returned (.tuple #[.string (bs (jK c (bl s)).1), .int .i64 (jK c (bl s)).2]):=by
 unfold jK;rw[hv,hp,if_neg (by decide),if_neg (by rw[aB];omega),if_neg (by decide),h]
theorem zY {c:Int} {s:ByteArray} (hv:wR c=true) (hs:s.size<=65536) (hp:Hs c (bl s)=false) :
  Ending.returned (.tuple #[.string ⟨#[]⟩, .int .i64 4]) = .returned (.tuple #[.string (bs (jK c (bl s)).1), .int .i64 (jK c (bl s)).2]):=by
 unfold jK;rw[hv,hp,if_neg (by decide),if_neg (by rw[aB];omega),if_pos rfl];rfl
set_option maxHeartbeats 1000000 in
theorem XS (s:ByteArray) (w:World) (hs:s.size<=65536) (hz:¬s.size=0) (hp:dU qM (bl s)=true) :
  Calls Tryz.prog 25 #[.int .i64 1, .string s] w λe w'=>e = .returned (.tuple #[.string (bs (jK 1 (bl s)).1), .int .i64 (jK 1 (bl s)).2])/\Below w.heap.size w w':=by
 have hv:wR 1=true:=rfl;have QM:=Lib.hid ((Ht hz).trans hp);have hz0:((s.size:Int) == 0)=false:=beq_eq_false_iff_ne.2 (by omega)
 go_enter Tryz.func25,Tryz.ntmps25
 go_wp2_with (first | (go_at_call 47;refine (dA _ _).mono ?_;rintro e w' ⟨rfl,rfl⟩) | (go_at_call 48;refine (kZ _ _ (by omega)).mono ?_;rintro e w' ⟨rfl,rfl⟩))
 have HP:=Lib.hid hp;clear hp
 go_loopw [6] (λd wr=>∃j:Nat,j<=9/\d = .int .u8 (48+(j:Int))/\Below w.heap.size w wr/\lf (9-j) (bl s)=lf 9 (bl s)) (λd _=>(57-intOf d).toNat)
 case atStart=>exact ⟨0,by omega,rfl,Below.refl _ _,rfl⟩
 case round=>
  obtain ⟨j,hj,rfl,aI,hrel⟩:=hrel;have HR:=Lib.hid hrel;clear hrel;by_cases hlt:j<9
  .obtain ⟨u,hu⟩:∃u,UInt8.ofNat (48+j)=u:=⟨_,rfl⟩;have hcv:=λw=>jP (P:=Tryz.prog) Tryz.underlying28 Tryz.underlying5 Tryz.underlying9 [u] [.int .u8 (48+(j:Int))] (by rw[<-hu];simp only[List.map];rw[<-iZ (48+j) (by omega)];simp) 1 1 rfl w
   have ai2:∀(W:World) (o:Obj),_:=λW o=>ID (P:=Tryz.prog) Tryz.underlying28 Tryz.underlying5 Tryz.underlying9 [u] [.int .u8 (48+(j:Int))] (by rw[<-hu];simp only[List.map];rw[<-iZ (48+j) (by omega)];simp) 1 1 rfl W o
   have h56:UInt8.ofNat (56 - (8-j))=u:=by rw[<-hu];congr 1;omega
   have Hu:=Lib.hid h56;clear hu h56;have vS:=Dq u;have hsz:(s++bs [u]).size<=1000000:=by rw[ByteArray.size_append,vS];omega
   have Ui:=Lib.hid (show 9-j=(8-j)+1 by omega)
   rcases hq:qC (bl (s++bs [u]))
   .have TU:=Lib.hid (Ot s [u]▸hq);go_wp2_with (go_at_call 50;refine (Dp _ _ hsz).mono ?_;rintro e w' ⟨rfl,rfl⟩);go_roundw
    case rel=>exact ⟨j+1,by omega,by go_num,aI.alloc aI.size _,by rw[<-HR.out,Ui.out,Ke (by rw[Hu.out];exact TU.out)];congr 1;omega⟩
    case measure=>simp[intOf];omega
   .have TU:=Lib.hid (Ot s [u]▸hq);have bO:=Lib.hid (show s++bs [u]=bs (bl s++qD 1 (bl s)) by rw[mH];unfold qD;rw[if_pos rfl,<-HR.out,Ui.out,FO (by rw[Hu.out];exact TU.out),Hu.out])
    go_wp2_with (go_at_call 50;refine (Dp _ _ hsz).mono ?_;rintro e w' ⟨rfl,rfl⟩)
    go_ret2
    exact ⟨ka hv hs QM.out bO.out,(aI.alloc aI.size _).alloc ((aI.alloc aI.size _).size) _⟩
  .obtain rfl:j=9:=by omega
   have bO:=Lib.hid (show s++⟨#[57]⟩=bs (bl s++qD 1 (bl s)) by rw[show (⟨#[57]⟩:ByteArray)=bs [57] from rfl,mH];unfold qD;rw[if_pos rfl,<-HR.out];rfl)
   go_wp2
   go_ret2
   exact ⟨ka hv hs QM.out bO.out,aI⟩
set_option maxHeartbeats 1000000 in
theorem XT (s:ByteArray) (w:World) (hs:s.size<=65536) (hz:¬s.size=0) (hp:dU Be (bl s)=true) :
  Calls Tryz.prog 25 #[.int .i64 2, .string s] w λe w'=>e = .returned (.tuple #[.string (bs (jK 2 (bl s)).1), .int .i64 (jK 2 (bl s)).2])/\Below w.heap.size w w':=by
 have hv:wR 2=true:=rfl;have QM:=Lib.hid ((Hv hz).trans hp);have hz0:((s.size:Int) == 0)=false:=beq_eq_false_iff_ne.2 (by omega)
 have hsz:(s++⟨#[48,48]⟩:ByteArray).size<=1000000:=by rw[ByteArray.size_append];exact Nat.le_trans (Nat.add_le_add_right hs 2) (by decide)
 obtain ⟨Me,AY⟩:=yz (bl (s++⟨#[48,48]⟩)) 0 (by omega) (by omega)
 obtain ⟨N,hN⟩:∃N,dQ (bl (s++⟨#[48,48]⟩)) 0=N:=⟨_,rfl⟩;rw[hN]at Me AY;have hcv:=λw=>jP (P:=Tryz.prog) Tryz.underlying28 Tryz.underlying5 Tryz.underlying9 [UInt8.ofNat (48+(98-N) / 10).toNat,UInt8.ofNat (48+(98-N) % 10).toNat] [.int .u8 (48+(98-N) / 10), .int .u8 (48+(98-N) % 10)] (by simp only[List.map];rw[<-iZ _ (by omega),<-iZ _ (by omega),Int.toNat_of_nonneg (by omega),Int.toNat_of_nonneg (by omega)]) 2 2 rfl w
 have bO:=Lib.hid (show s++bs [UInt8.ofNat (48+(98-N) / 10).toNat,UInt8.ofNat (48+(98-N) % 10).toNat]=bs (bl s++qD 2 (bl s)) by rw[mH];unfold qD Sk;rw[if_neg (by decide),if_pos rfl,show dQ (bl s++[48,48]) 0=N from XU s [48,48]▸hN])
 have xu:(bs [UInt8.ofNat (48+(98-N) / 10).toNat,UInt8.ofNat (48+(98-N) % 10).toNat]).size=2:=rfl;generalize bs [UInt8.ofNat (48+(98-N) / 10).toNat,UInt8.ofNat (48+(98-N) % 10).toNat]=t at hcv bO xu
 go_enter Tryz.func25,Tryz.ntmps25
 go_wp2_with (first | (go_at_call 47;refine (dA _ _).mono ?_;rintro e w' ⟨rfl,rfl⟩) | (go_at_call 49;refine (qB _ _ (by omega)).mono ?_;rintro e w' ⟨rfl,rfl⟩) | (go_at_call 51;refine (Om _ _ hsz).mono ?_;rintro e w' ⟨rfl,rfl⟩))
 go_ret2
 exact ⟨ka hv hs QM.out bO.out,(Below.refl _ w).alloc (Nat.le_refl _) _⟩
set_option maxHeartbeats 1000000 in
theorem XV (s:ByteArray) (w:World) (hs:s.size<=65536) (hz:¬s.size=0) :
  Calls Tryz.prog 25 #[.int .i64 3, .string s] w λe w'=>e = .returned (.tuple #[.string (bs (jK 3 (bl s)).1), .int .i64 (jK 3 (bl s)).2])/\Below w.heap.size w w':=by
 have hv:wR 3=true:=rfl;have hz0:((s.size:Int) == 0)=false:=beq_eq_false_iff_ne.2 (by omega)
 have xE:=Lib.hid (Mi (bl s));have Y0:(bs (kC 8 (KW (bl s)))).size=8:=by rw[dj,vr]
 have bO:=Lib.hid (show s++bs (kC 8 (KW (bl s)))=bs (bl s++qD 3 (bl s)) by rw[mH];rfl)
 go_enter Tryz.func25,Tryz.ntmps25
 go_wp2_with (first | (go_at_call 47;refine (dA _ _).mono ?_;rintro e w' ⟨rfl,rfl⟩) | (go_at_call 53;refine (Sj _ _ (by omega)).mono ?_;rintro e w' ⟨rfl,rfl⟩) | (go_at_call 52;refine (Oo _ _ xE.out.1 xE.out.2).mono ?_;rintro e w3 ⟨rfl,dc⟩))
 go_ret2
 exact ⟨ka hv hs (Sm hz) bO.out,dc⟩
set_option maxHeartbeats 1000000 in
theorem XW (s:ByteArray) (w:World) (hs:s.size<=65536) (hz:¬s.size=0) :
  Calls Tryz.prog 25 #[.int .i64 4, .string s] w λe w'=>e = .returned (.tuple #[.string (bs (jK 4 (bl s)).1), .int .i64 (jK 4 (bl s)).2])/\Below w.heap.size w w':=by
 have hv:wR 4=true:=rfl;have hz0:((s.size:Int) == 0)=false:=beq_eq_false_iff_ne.2 (by omega)
 obtain ⟨Me,AY⟩:=za (bl s) 0 0 (by omega) (by omega)
 have bO:∀N,mh (bl s) 0 0=N->s++bs [UInt8.ofNat (65+N).toNat]=bs (bl s++qD 4 (bl s)):=by rintro N rfl;rw[mH];rfl
 obtain ⟨N,hN⟩:∃N,mh (bl s) 0 0=N:=⟨_,rfl⟩;rw[hN]at Me AY;have bO:=Lib.hid (bO N hN);have hcv:=λw=>jP (P:=Tryz.prog) Tryz.underlying28 Tryz.underlying5 Tryz.underlying9 [UInt8.ofNat (65+N).toNat] [.int .u8 (65+N)] (by simp only[List.map];rw[<-iZ _ (by omega),Int.toNat_of_nonneg (by omega)]) 1 1 rfl w
 generalize UInt8.ofNat (65+N).toNat=u at hcv bO;have vS:=Dq u
 go_enter Tryz.func25,Tryz.ntmps25
 go_wp2_with (first | (go_at_call 47;refine (dA _ _).mono ?_;rintro e w' ⟨rfl,rfl⟩) | (go_at_call 54;refine (FN _ _ (by omega)).mono ?_;rintro e w' ⟨rfl,rfl⟩))
 go_ret2
 exact ⟨ka hv hs (Sn hz) bO.out,(Below.refl _ w).alloc (Nat.le_refl _) _⟩
set_option maxHeartbeats 400000 in
theorem zZ (c:Int) (s:ByteArray) (w:World) (hs:s.size<=1000000) :
  Calls Tryz.prog 25 #[.int .i64 c, .string s] w λe w'=>e = .returned (.tuple #[.string (bs (jK c (bl s)).1), .int .i64 (jK c (bl s)).2])/\Below w.heap.size w w':=by
 rcases hv:wR c
 .go_enter Tryz.func25,Tryz.ntmps25
  go_wp2_with (go_at_call 47;refine (dA _ _).mono ?_;rintro e w' ⟨rfl,rfl⟩)
  go_ret2
  exact ⟨by unfold jK;rw[hv];rfl,Below.refl _ _⟩
 by_cases hl:65536<s.size
 .go_enter Tryz.func25,Tryz.ntmps25
  go_wp2_with (go_at_call 47;refine (dA _ _).mono ?_;rintro e w' ⟨rfl,rfl⟩)
  go_ret2
  exact ⟨by unfold jK;rw[hv,if_neg (by decide),if_pos (by rw[aB];exact hl)];rfl,Below.refl _ _⟩
 have hc:=Kf hv;by_cases h0:c=0
 .subst h0;have bO:=Lib.hid (show s=bs (bl s++qD 0 (bl s)) by unfold qD;simp;rfl)
  go_enter Tryz.func25,Tryz.ntmps25
  go_wp2_with (go_at_call 47;refine (dA _ _).mono ?_;rintro e w' ⟨rfl,rfl⟩)
  go_ret2
  exact ⟨ka hv (by omega) rfl bO.out,Below.refl _ _⟩
 by_cases hz:s.size=0
 .have hz0:((s.size:Int) == 0)=true:=beq_iff_eq.2 (by omega)
  have hp:=Sp hz h0;have HZ:=Lib.hid hz;clear hz
  go_enter Tryz.func25,Tryz.ntmps25
  go_wp2_with (go_at_call 47;refine (dA _ _).mono ?_;rintro e w' ⟨rfl,rfl⟩)
  go_ret2
  exact ⟨zY hv (by omega) hp,Below.refl _ _⟩
 have hz0:((s.size:Int) == 0)=false:=beq_eq_false_iff_ne.2 (by omega)
 rcases hc with rfl | rfl | rfl | rfl | rfl
 .exact absurd rfl h0
 .rcases hp:dU qM (bl s)
  .have QM:=(Ht hz).trans hp
   go_enter Tryz.func25,Tryz.ntmps25
   go_wp2_with (first | (go_at_call 47;refine (dA _ _).mono ?_;rintro e w' ⟨rfl,rfl⟩) | (go_at_call 48;refine (kZ _ _ (by omega)).mono ?_;rintro e w' ⟨rfl,rfl⟩))
   go_ret2
   exact ⟨zY hv (by omega) QM,Below.refl _ _⟩
  .exact XS s w (by omega) hz hp
 .rcases hp:dU Be (bl s)
  .have QM:=(Hv hz).trans hp
   go_enter Tryz.func25,Tryz.ntmps25
   go_wp2_with (first | (go_at_call 47;refine (dA _ _).mono ?_;rintro e w' ⟨rfl,rfl⟩) | (go_at_call 49;refine (qB _ _ (by omega)).mono ?_;rintro e w' ⟨rfl,rfl⟩))
   go_ret2
   exact ⟨zY hv (by omega) QM,Below.refl _ _⟩
  .exact XT s w (by omega) hz hp
 .exact XV s w (by omega) hz
 .exact XW s w (by omega) hz
end
section
set_option linter.unusedVariables false
set_option linter.unusedSimpArgs false
open Go.RowKit
def AJ (A:Option Addr) (n:Nat) (w:World):Prop:=n<=maxLen/\∀j,j<n->∃ad x,A=some ad/\ad.block<w.heap.size/\w.cell? (ad.add j)=some (.int .i64 x)
theorem O8 {A:Option Addr} {n c:Nat} {w:World} (h:AJ A n w):az w.heap.size (w.alloc (.cells #[.slice A n c, .int .i64 0] 25)):=by
 refine ⟨A,n,c,0,heap_alloc_new w _,Nat.zero_le _,h.1,λj hj=>?_⟩;obtain ⟨ad,x,ha,hlt,hc⟩:=h.2 j hj;exact ⟨ad,x,ha,hlt,(World.cell?_alloc_lt w _ _ (by rw[gw];exact hlt)).trans hc⟩
end
section
set_option linter.unusedVariables false
set_option linter.unusedSimpArgs false
open Go.RowKit
theorem FL {w:World} {a:Option Addr} {len cap:Nat} {zs:List Int}
  (h:(a=none/\len=0/\cap=0/\zs=[])\/∃x,a=some x/\len<=cap/\cap<=maxLen/\zs.length=cap/\(∀i,i<zs.length->w.cell? (x.add i)=some (.int .i64 (zs.getD i 0)))/\∀n∈zs,(Lit.int .i64 n).wf=true):AJ a len w:=by
 rcases h with ⟨rfl,rfl,rfl,rfl⟩ | ⟨x,rfl,hl,hm,hz,hc,-⟩
 .exact ⟨Nat.zero_le _,λj hj=>absurd hj (Nat.not_lt_zero _)⟩
 .refine ⟨Nat.le_trans hl hm,λj hj=>⟨x,_,rfl,?_,hc j (by omega)⟩⟩
  have:=World.block_lt_of_cell? w _ (hc j (by omega))
  rwa [gw]at this
end
end Go.Proofs.YtdmoogjddmdmbaaGreatDoor
