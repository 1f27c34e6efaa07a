/- Closed facts on the element types of this program's slices. · What the program's table says of edges. · The tape of numbers: what Next returns lies from 0 on and before its bound, whatever the tape holds; nothing but the tape's own block is written. Condition: the bound is positive. · Patterns in memory, of which a member can be made, with a bound of its bytes; the patterns of kinds. · Walks of the reference of check sums: what a text is completed by. · Walks: the patterns of kinds. · What a call of a law is handed as its tape, and the tape that it makes of it. · What the shell of a law's proof tells of its tape is what the walks ask of it. -/
import Derived.Test.YtljgapfmgegifaaGreatDoorProg
import Derived.Test.YtljgapfmgegifaaGreatDoorV03
import Derived.Test.YtljgapfmgegifaaGreatDoorV02
namespace Go.Proofs.YtljgapfmgegifaaGreatDoor
set_option linter.unusedVariables false
set_option linter.unusedSimpArgs false
set_option maxRecDepth 100000
theorem info_u8:(Tryz.prog.info? 5).map (λi=>(i.zero,i.size,i.bytes))=some (some (.int .u8 0),1,1):=by kernel_rfl
theorem info_str:(Tryz.prog.info? 9).map (λi=>(i.zero,i.size,i.bytes))=some (some (.string ByteArray.empty),1,16):=by kernel_rfl
theorem info_int:(Tryz.prog.info? 3).map (λi=>(i.zero,i.size,i.bytes))=some (some (.int .i64 0),1,8):=by kernel_rfl
theorem nat16 {n:Nat} (h:n<16):n=0\/n=1\/n=2\/n=3\/n=4\/n=5\/n=6\/n=7\/n=8\/n=9\/n=10\/n=11\/n=12\/n=13\/n=14\/n=15:=by omega
theorem hex_at {n:Nat} (h:n<16):(⟨#[48,49,50,51,52,53,54,55,56,57,97,98,99,100,101,102]⟩:ByteArray)[n]'(by exact h)=hexd n:=by
 rcases nat16 h with h | h | h | h | h | h | h | h | h | h | h | h | h | h | h | h <;> (subst h; rfl)
theorem idx_hex (k:IntKind) (y:Int) (h0:0<=y) (h1:y<16) (w:World):(Instr.index 9 (.string ⟨#[48,49,50,51,52,53,54,55,56,57,97,98,99,100,101,102]⟩) (.int k y)).run Tryz.prog w = .ok (.int .u8 (hexd y).toNat) w:=by
 obtain ⟨n,rfl⟩:=Int.eq_ofNat_of_zero_le h0;have hn:n<16:=by omega
 have h:=run_idx_str (P:=Tryz.prog) Tryz.underlying9 (⟨#[48,49,50,51,52,53,54,55,56,57,97,98,99,100,101,102]⟩:ByteArray) n hn k (n:Int) rfl w;rw[hex_at hn]at h;exact h
end Go.Proofs.YtljgapfmgegifaaGreatDoor
namespace Go.Proofs.YtljgapfmgegifaaGreatDoor
set_option linter.unusedVariables false
set_option linter.unusedSimpArgs false
set_option maxRecDepth 100000
open Go.RowKit
theorem info_ed:(Tryz.prog.info? 184).map (λi=>(i.zero,i.size,i.bytes))=some (some (.agg #[.int .u8 0, .int .u8 0, .int .i64 0]),3,16):=by kernel_rfl
def TapeOK (b:Nat) (w:World):Prop:=∃(a:Option Addr) (n c k:Nat),w.heap[b]?=some (.cells #[.slice a n c, .int .i64 (k:Int)] 25 (0,0))/\k<=n/\n<=maxLen/\
 ∀j,j<n->∃ad x,a=some ad/\ad.block<b/\w.cell? (ad.add j)=some (.int .i64 x)
def Fr (b:Nat) (w w':World):Prop:=w.grownBy w' (some b)
theorem Fr.refl (b:Nat) (w:World):Fr b w w:=⟨rfl,rfl,rfl,Nat.le_refl _,λ_ _ _=>rfl⟩
theorem Fr.trans {b:Nat} {w w1 w2:World} (h:Fr b w w1) (h':Fr b w1 w2):Fr b w w2:=
 ⟨h'.os.trans h.os,h'.tape.trans h.tape,h'.output.trans h.output,Nat.le_trans h.size h'.size,λk hk hne=>(h'.block k (Nat.lt_of_lt_of_le hk h.size) hne).trans (h.block k hk hne)⟩
theorem Fr.of_below {b:Nat} {w w1:World} (h:Below w.heap.size w w1):Fr b w w1:=⟨h.os,h.tape,h.output,h.size,λk hk _=>h.block k hk⟩
theorem Fr.below {b B:Nat} {w w1:World} (h:Fr b w w1) (hB:B<=b) (hb:B<=w.heap.size):Below B w w1:=
 ⟨h.os,h.tape,h.output,h.size,λk hk=>h.block k (by omega) (by intro e;injection e;omega)⟩
theorem Fr.then {b:Nat} {w w1 w2:World} (h:Fr b w w1) (h':Below w.heap.size w1 w2):Fr b w w2:=
 ⟨h'.os.trans h.os,h'.tape.trans h.tape,h'.output.trans h.output,Nat.le_trans h.size h'.size,λk hk hne=>(h'.block k hk).trans (h.block k hk hne)⟩
theorem TapeOK.lt {b:Nat} {w:World} (h:TapeOK b w):b<w.heap.size:=by
 obtain ⟨a,n,c,k,hb,-⟩:=h;exact (Array.getElem?_eq_some_iff.1 hb).1
theorem TapeOK.keep {b:Nat} {w w1:World} (h:TapeOK b w) (hk:∀k,k<=b->w1.heap[k]?=w.heap[k]?):TapeOK b w1:=by
 obtain ⟨a,n,c,k,hb,h1,h2,h3⟩:=h;refine ⟨a,n,c,k,(hk b (Nat.le_refl _)).trans hb,h1,h2,λj hj=>?_⟩;obtain ⟨ad,x,ha,hlt,hc⟩:=h3 j hj;exact ⟨ad,x,ha,hlt,(World.cell?_of_block (by rw[Reads_block];exact hk _ (Nat.le_of_lt hlt))).trans hc⟩
theorem TapeOK.below {b:Nat} {w w1:World} (h:TapeOK b w) (hb:Below w.heap.size w w1):TapeOK b w1:=
 h.keep λk hk=>hb.block k (Nat.lt_of_le_of_lt hk h.lt)
theorem TapeOK.below' {b B:Nat} {w w1:World} (h:TapeOK b w) (hb:Below B w w1) (hB:b<B):TapeOK b w1:=
 h.keep λk hk=>hb.block k (Nat.lt_of_le_of_lt hk hB)
theorem and_mask (x:Int):0<=bits .and .i64 x 65535/\bits .and .i64 x 65535<=65535:=by
 have hle:(BitVec.ofInt 64 x &&& BitVec.ofInt 64 65535).toNat<=65535:=by
  rw[BitVec.toNat_and];exact Nat.le_trans Nat.and_le_right (by decide)
 have e:bits .and .i64 x 65535=((BitVec.ofInt 64 x &&& BitVec.ofInt 64 65535).toNat:Int):=by
  unfold bits;show IntKind.i64.wrap (((BitVec.ofInt 64 x &&& BitVec.ofInt 64 65535).toNat:Nat):Int)=_;rw[IntWalk.i64_in _ (by omega)]
 rw[e];omega
theorem tape_step {b:Nat} {w W:World} (a:Option Addr) (n c k:Nat) (hb:w.heap[b]?=some (.cells #[.slice a n c, .int .i64 (k:Int)] 25 (0,0))) (hk:k<n) (hn:n<=maxLen)
  (hc:∀j,j<n->∃ad x,a=some ad/\ad.block<b/\w.cell? (ad.add j)=some (.int .i64 x))
  (h:W.heap=(w.setCell ⟨b,1,none⟩ (.int .i64 ((k:Int)+1))).heap) (h1:W.os=w.os) (h2:W.tape=w.tape) (h3:W.output=w.output):TapeOK b W/\Fr b w W:=by
 have hne:∀i,i≠b->W.heap[i]?=w.heap[i]?:=λi hi=>by rw[h];exact Below.heap_setCell _ _ _ _ hi
 have hbb:W.heap[b]?=some (.cells #[.slice a n c, .int .i64 ((k+1:Nat):Int)] 25 (0,0)):=by
  rw[h];simp[World.setCell,Array.getElem?_modify,hb]
 refine ⟨⟨a,n,c,k+1,hbb,by omega,hn,λj hj=>?_⟩,h1,h2,h3,by rw[h];simp[World.setCell],λi _ hi=>hne i (λe=>hi (by rw[e]))⟩
 obtain ⟨ad,x,ha,hlt,hcx⟩:=hc j hj;exact ⟨ad,x,ha,hlt,(World.cell?_of_block (hne _ (by rw[Reads_block];omega))).trans hcx⟩
def NextPost (b:Nat) (n:Int) (w:World) (e:Ending) (w':World):Prop:=∃r:Int,e = .returned (.int .i64 r)/\0<=r/\r<n/\TapeOK b w'/\Fr b w w'
theorem next_any (b:Nat) (n:Int) (w:World) (hn:0<n) (hn2:n<=65536) (ht:TapeOK b w) :
  Calls Tryz.prog 7 #[.pointer (some ⟨b,0,none⟩), .int .i64 n] w (NextPost b n w):=by
 have ht0:=Lib.hid ht;obtain ⟨a,m,c,k,hb,hk,hm,hcell⟩:=ht;unfold maxLen at hm;have c0:w.cell? ⟨b,0,none⟩=some (.slice a m c):=by rw[cell_of_row w b 0 _ _ _ hb];rfl
 have c1:w.cell? ⟨b,1,none⟩=some (.int .i64 (k:Int)):=by rw[cell_of_row w b 1 _ _ _ hb];rfl
 have f1:w.frozen? ⟨b,1,none⟩=false:=by simp[World.frozen?,hb]
 by_cases hlt:k<m
 .obtain ⟨ad,x,rfl,hadb,hcx⟩:=hcell k hlt;have HB:=Lib.hid hb;have HC:=Lib.hid hcell;clear hb hcell;obtain ⟨y,hy⟩:∃y,bits .and .i64 x 65535=y:=⟨_,rfl⟩;have hyb:=and_mask x;rw[hy]at hyb
  go_enter Tryz.func7,Tryz.ntmps7
  go_wp2_with fail
  go_quiet (fail)
  go_wp2_with fail
  go_quiet (fail)
  go_wp2
  go_ret;refine ⟨y % n,rfl,Int.emod_nonneg _ (by omega),Int.emod_lt_of_pos _ hn,?_⟩
  exact tape_step (some ad) m c k HB.out hlt (by unfold maxLen;omega) HC.out rfl rfl rfl rfl
 .obtain rfl:k=m:=by omega
  go_enter Tryz.func7,Tryz.ntmps7
  go_wp2_with fail
  go_quiet (fail)
  go_wp2
  go_ret;exact ⟨0,rfl,by omega,by omega,ht0.out,⟨rfl,rfl,rfl,Nat.le_refl _,λ_ _ _=>rfl⟩⟩
def BytesPost (b:Nat) (n:Nat) (w:World) (e:Ending) (w':World):Prop:=∃(v:Value) (l:List UInt8),e = .returned v/\l.length=n/\OB 5 w.heap.size v l w'/\TapeOK b w'/\Fr b w w'
theorem OB.keep {e:TypeId} {B:Nat} {v:Value} {l:List UInt8} {w w1:World} (h:OB e B v l w) (hk:∀k,v.ownBlock=some k->w1.heap[k]?=w.heap[k]?):OB e B v l w1:=by
 refine ⟨h.1,?_⟩;rcases h.2 with h1 | ⟨g,cap,cur,rfl,hb,hg,rest⟩
 .exact .inl h1
 .exact .inr ⟨g,cap,cur,rfl,hb,(hk g rfl).trans hg,rest⟩
theorem OB.fr {e:TypeId} {B b:Nat} {v:Value} {l:List UInt8} {w w1:World} (h:OB e B v l w) (hf:Fr b w w1) (hB:b<B):OB e B v l w1:=
 h.keep λk hk=>by
  have h1:=World.ownsRow.lt h k hk;exact hf.block k h1.2 (by intro e;injection e;omega)
set_option maxHeartbeats 1000000 in
theorem bytes_any (b n:Nat) (w:World) (hn:n<=1000000) (ht:TapeOK b w) :
  Calls Tryz.prog 24 #[.pointer (some ⟨b,0,none⟩), .int .i64 (n:Int)] w (BytesPost b n w):=by
 obtain ⟨i0,hi,hz0,hz1,hz2⟩:=info_parts info_u8;have hbs:=ht.lt
 go_enter Tryz.func24,Tryz.ntmps24
 go_wp2
 go_loopw [5,6] (λv i wr=>∃(k:Nat) (l:List UInt8),k<=n/\i = .int .i64 (k:Int)/\l.length=k/\OB 5 w.heap.size v l wr/\TapeOK b wr/\Fr b w wr) (λ_ i _=>n - (intOf i).toNat)
 case atStart=>exact ⟨0,[],by omega,rfl,rfl,OB.nil_ _ _ _,ht,Fr.refl _ _⟩
 case round=>
  obtain ⟨k,l,hk,rfl,hl,hown,htr,hfr⟩:=hrel;by_cases hlt:k<n
  .go_wp2_with fail;refine (next_any b _ _ (by omega) (by omega) htr).mono ?_
   rintro e w1 ⟨r,rfl,hr0,hr1,ht1,hf1⟩;have hown1:=hown.fr hf1 hbs;by_cases e0:r=0
   .subst e0;go_wp2_with fail;refine (next_any b _ _ (by omega) (by omega) ht1).mono ?_
    rintro e w2 ⟨q,rfl,hq0,hq1,ht2,hf2⟩;have hown2:=hown1.fr hf2 hbs;obtain ⟨u,c,-,hcu,hc0,hc1,hix⟩:=idx_str Tryz.underlying9 ⟨#[32,10,61,37,43,47,45,46]⟩ q.toNat (show q.toNat<8 by omega) .i64 q (by omega)
    go_wp2_with (at_builtin;refine app_u8 Tryz.underlying41 hi hz0 hz1 hz2 _ _ _ _ _ u _ rfl rfl rfl rfl hown2 hcu.out (by omega) (Nat.le_trans hfr.size (Nat.le_trans hf1.size hf2.size)) ?_;intro v1 w3 hown3 hb3 _ _)
    go_roundw
    case rel=>exact ⟨k+1,_,by omega,by go_num,by simp;omega,hown3,ht2.below' hb3 hbs,((hfr.trans hf1).trans hf2).then hb3⟩
    case measure=>simp[intOf];omega
   by_cases e1:r=1
   .subst e1;go_wp2_with fail;refine (next_any b _ _ (by omega) (by omega) ht1).mono ?_
    rintro e w2 ⟨q,rfl,hq0,hq1,ht2,hf2⟩;have hown2:=hown1.fr hf2 hbs;have hu:=byte_nat q.toNat (by omega)
    rw[Int.toNat_of_nonneg hq0]at hu;have HU:=Lib.hid hu;clear hu;go_wp2_with (at_builtin;refine app_u8 Tryz.underlying41 hi hz0 hz1 hz2 _ _ _ _ _ (UInt8.ofNat q.toNat) _ rfl rfl rfl rfl hown2 HU.out (by omega) (Nat.le_trans hfr.size (Nat.le_trans hf1.size hf2.size)) ?_;intro v1 w3 hown3 hb3 _ _)
    go_roundw
    case rel=>exact ⟨k+1,_,by omega,by go_num,by simp;omega,hown3,ht2.below' hb3 hbs,((hfr.trans hf1).trans hf2).then hb3⟩
    case measure=>simp[intOf];omega
   by_cases e2:r=2\/r=3
   .rcases e2 with rfl | rfl
    all_goals
     skip
     go_wp2_with fail;refine (next_any b _ _ (by omega) (by omega) ht1).mono ?_
     rintro e w2 ⟨q,rfl,hq0,hq1,ht2,hf2⟩;have hown2:=hown1.fr hf2 hbs;have hu:=byte_nat (48+q).toNat (by omega)
     rw[Int.toNat_of_nonneg (by omega)]at hu
     have HU:=Lib.hid hu;clear hu;go_wp2_with (at_builtin;refine app_u8 Tryz.underlying41 hi hz0 hz1 hz2 _ _ _ _ _ (UInt8.ofNat (48+q).toNat) _ rfl rfl rfl rfl hown2 HU.out (by omega) (Nat.le_trans hfr.size (Nat.le_trans hf1.size hf2.size)) ?_;intro v1 w3 hown3 hb3 _ _)
     go_roundw
     case rel=>exact ⟨k+1,_,by omega,by go_num,by simp;omega,hown3,ht2.below' hb3 hbs,((hfr.trans hf1).trans hf2).then hb3⟩
     case measure=>simp[intOf];omega
   have e2':¬r=2:=λh=>e2 (.inl h);have e3':¬r=3:=λh=>e2 (.inr h);clear e2
   .skip
    go_wp2_with fail;refine (next_any b _ _ (by omega) (by omega) ht1).mono ?_
    rintro e w2 ⟨q,rfl,hq0,hq1,ht2,hf2⟩;have hown2:=hown1.fr hf2 hbs;obtain ⟨u,c,-,hcu,hc0,hc1,hix⟩:=idx_str Tryz.underlying9 ⟨#[97,98,99,100,101,102,116,107]⟩ q.toNat (show q.toNat<8 by omega) .i64 q (by omega)
    go_wp2_with (at_builtin;refine app_u8 Tryz.underlying41 hi hz0 hz1 hz2 _ _ _ _ _ u _ rfl rfl rfl rfl hown2 hcu.out (by omega) (Nat.le_trans hfr.size (Nat.le_trans hf1.size hf2.size)) ?_;intro v1 w3 hown3 hb3 _ _)
    go_roundw
    case rel=>exact ⟨k+1,_,by omega,by go_num,by simp;omega,hown3,ht2.below' hb3 hbs,((hfr.trans hf1).trans hf2).then hb3⟩
    case measure=>simp[intOf];omega
  .obtain rfl:k=n:=by omega
   go_wp2
   go_ret;exact ⟨_,l,rfl,hl,hown,htr,hfr⟩
def RgV (b:Nat) (w:World) (v:Value):Prop:=∃g f n c,v = .slice (some ⟨g,f,none⟩) n c/\1<=n/\n<=1000/\b<g/\g<w.heap.size/\
 ∀j<n,∃lo hi:Int,w.cell? ⟨g,f+j*2,none⟩=some (.int .u8 lo)/\w.cell? ⟨g,f+j*2+1,none⟩=some (.int .u8 hi)/\0<=lo/\lo<=hi/\hi<256
def KdV (b:Nat) (w:World) (G:List Value->Prop) (n:Nat) (v:Value):Prop:=∃g f c,v = .slice (some ⟨g,f,none⟩) n c/\b<g/\g<w.heap.size/\n<=1000/\
 ∀j<n,∃u0 u1 u2 u3 u4,w.cell? ⟨g,f+j*5,none⟩=some u0/\w.cell? ⟨g,f+j*5+1,none⟩=some u1/\w.cell? ⟨g,f+j*5+2,none⟩=some u2/\w.cell? ⟨g,f+j*5+3,none⟩=some u3/\w.cell? ⟨g,f+j*5+4,none⟩=some u4/\G [u0,u1,u2,u3,u4]
def Sl (v:Value):Prop:=∃A n c,v = .slice A n c
theorem Sl.of (A:Option Addr) (n c:Nat):Sl (.slice A n c):=⟨A,n,c,rfl⟩
def Pat (b:Nat) (w:World):Nat->Nat->List Value->Prop
 | 0,_,_=>False
 | d+1,m,vs=>∃v1 v2 mn mx,(Sl v1/\Sl v2)/\((vs=[.int .i64 1,v1,v2, .int .i64 mn, .int .i64 mx]/\RgV b w v1/\1<=m)\/
   (vs=[.int .i64 2,v1,v2, .int .i64 mn, .int .i64 mx]/\∃n m',KdV b w (Pat b w d m') n v2/\n*m'<=m)\/
   (vs=[.int .i64 3,v1,v2, .int .i64 mn, .int .i64 mx]/\∃n,KdV b w (Pat b w d m) n v2/\1<=n)\/
   (vs=[.int .i64 4,v1,v2, .int .i64 mn, .int .i64 mx]/\∃n m',KdV b w (Pat b w d m') n v2/\1<=n/\0<=mn/\mn<=mx/\(1<=mx/\mx<=1000)/\mx.toNat*m'<=m))
def Stay (b:Nat) (w w':World):Prop:=w.heap.size<=w'.heap.size/\∀k,b<k->k<w.heap.size->w'.heap[k]?=w.heap[k]?
theorem Stay.refl (b:Nat) (w:World):Stay b w w:=⟨Nat.le_refl _,λ_ _ _=>rfl⟩
theorem Stay.trans {b:Nat} {w w1 w2:World} (h:Stay b w w1) (h':Stay b w1 w2):Stay b w w2:=⟨Nat.le_trans h.1 h'.1,λk hk hlt=>(h'.2 k hk (Nat.lt_of_lt_of_le hlt h.1)).trans (h.2 k hk hlt)⟩
theorem Stay.of_fr {b:Nat} {w w':World} (h:Fr b w w'):Stay b w w':=⟨h.size,λk hk hlt=>h.block k hlt (by intro e;injection e;omega)⟩
theorem Stay.of_below {b:Nat} {w w':World} (h:Below w.heap.size w w'):Stay b w w':=⟨h.size,λk _ hlt=>h.block k hlt⟩
theorem Stay.cell {b:Nat} {w w':World} (h:Stay b w w') {g j:Nat} (hg:b<g) (hlt:g<w.heap.size):w'.cell? ⟨g,j,none⟩=w.cell? ⟨g,j,none⟩:=World.cell?_of_block (a:=⟨g,j,none⟩) (h.2 g hg hlt)
theorem RgV.later {b:Nat} {w w':World} {v:Value} (h:RgV b w v) (hs:Stay b w w'):RgV b w' v:=by
 obtain ⟨g,f,n,c,rfl,h1,h2,h3,h4,h5⟩:=h;refine ⟨g,f,n,c,rfl,h1,h2,h3,Nat.lt_of_lt_of_le h4 hs.1,λj hj=>?_⟩;obtain ⟨lo,hi,q1,q2,r⟩:=h5 j hj;exact ⟨lo,hi,(hs.cell h3 h4).trans q1,(hs.cell h3 h4).trans q2,r⟩
theorem KdV.later {b:Nat} {w w':World} {G G':List Value->Prop} {n:Nat} {v:Value} (h:KdV b w G n v) (hs:Stay b w w') (hG:∀us,G us->G' us):KdV b w' G' n v:=by
 obtain ⟨g,f,c,rfl,h3,h4,h2,h5⟩:=h;refine ⟨g,f,c,rfl,h3,Nat.lt_of_lt_of_le h4 hs.1,h2,λj hj=>?_⟩;obtain ⟨u0,u1,u2,u3,u4,q0,q1,q2,q3,q4,hg⟩:=h5 j hj;exact ⟨u0,u1,u2,u3,u4,(hs.cell h3 h4).trans q0,(hs.cell h3 h4).trans q1,(hs.cell h3 h4).trans q2,(hs.cell h3 h4).trans q3,(hs.cell h3 h4).trans q4,hG _ hg⟩
theorem Pat.later {b:Nat} {w w':World} (hs:Stay b w w'):∀{d m:Nat} {vs:List Value},Pat b w d m vs->Pat b w' d m vs
 | 0,_,_,h=>h
 | d+1,m,vs,⟨v1,v2,mn,mx,hsl,h⟩=>by
  refine ⟨v1,v2,mn,mx,hsl,?_⟩;rcases h with ⟨h1,h2,h3⟩ | ⟨h1,n,m',h2,h3⟩ | ⟨h1,n,h2,h3⟩ | ⟨h1,n,m',h2,h3⟩
  .exact .inl ⟨h1,h2.later hs,h3⟩
  .exact .inr (.inl ⟨h1,n,m',h2.later hs (λus=>Pat.later hs),h3⟩)
  .exact .inr (.inr (.inl ⟨h1,n,h2.later hs (λus=>Pat.later hs),h3⟩))
  .exact .inr (.inr (.inr ⟨h1,n,m',h2.later hs (λus=>Pat.later hs),h3⟩))
def NodePost (b d m:Nat) (w:World) (e:Ending) (w':World):Prop:=∃A B n n' c c' o mn mx,e = .returned (.agg #[.int .i64 o, .slice A n c, .slice B n' c', .int .i64 mn, .int .i64 mx])/\Pat b w' d m [.int .i64 o, .slice A n c, .slice B n' c', .int .i64 mn, .int .i64 mx]/\Below w.heap.size w w'
theorem Pat.mono {b:Nat} {w:World}:∀{d d' m m':Nat} {vs:List Value},d<=d'->m<=m'->Pat b w d m vs->Pat b w d' m' vs
 | 0,_,_,_,_,_,_,h=>h.elim
 | d+1,0,_,_,_,hd,_,_=>by omega
 | d+1,d'+1,m,m',vs,hd,hm,⟨v1,v2,mn,mx,hsl,h⟩=>by
  refine ⟨v1,v2,mn,mx,hsl,?_⟩;rcases h with ⟨h1,h2,h3⟩ | ⟨h1,n,k,h2,h3⟩ | ⟨h1,n,h2,h3⟩ | ⟨h1,n,k,h2,h3,h4,h5,h6,h7⟩
  .exact .inl ⟨h1,h2,by omega⟩
  .exact .inr (.inl ⟨h1,n,k,h2.later (Stay.refl _ _) (λus=>Pat.mono (by omega) (Nat.le_refl _)),by omega⟩)
  .exact .inr (.inr (.inl ⟨h1,n,h2.later (Stay.refl _ _) (λus=>Pat.mono (by omega) hm),h3⟩))
  .exact .inr (.inr (.inr ⟨h1,n,k,h2.later (Stay.refl _ _) (λus=>Pat.mono (by omega) (Nat.le_refl _)),h3,h4,h5,h6,by omega⟩))
theorem KdV.new {b:Nat} {w:World} {G:List Value->Prop} {us:List (List Value)} {cs:Array Value} {e:TypeId} {n c:Nat} (hb:b<w.heap.size) (hcs:cs=us.flatten.toArray) (h5:∀u∈us,u.length=5) (hG:∀u∈us,G u) (hn:n=us.length) (hn2:n<=1000) :
  KdV b (w.alloc (.cells cs e)) G n (.slice (some ⟨w.heap.size,0,none⟩) n c):=by
 subst hn hcs;refine ⟨w.heap.size,0,c,rfl,hb,by simp,hn2,λj hj=>?_⟩
 have hflat:∀(us:List (List Value)),(∀u∈us,u.length=5)->∀j (hj:j<us.length) i,i<5->us.flatten[j*5+i]?=(us[j])[i]?:=by
  intro us
  induction us with
  | nil=>intro _ j hj;simp at hj
  | cons a r ih=>
   intro h j hj i hi;have ha:=h a (by simp)
   match j,hj with
   | 0,_=>rw[List.flatten_cons,List.getElem?_append_left (by omega)];simp
   | j+1,hj=>
    rw[List.flatten_cons,List.getElem?_append_right (by omega),show (j+1)*5+i-a.length=j*5+i by omega,ih (λu hu=>h u (by simp[hu])) j (by simpa using hj) i hi]
    rfl
 have h:=hflat us h5 j hj;have hu5:=h5 us[j] (List.getElem_mem hj);have hg:=hG us[j] (List.getElem_mem hj);generalize us[j]=u at *
 match u,hu5 with
 | [u0,u1,u2,u3,u4],_=>
  refine ⟨u0,u1,u2,u3,u4,?_,?_,?_,?_,?_,hg⟩
  .have:=h 0 (by omega);rw[World.cell?_alloc_mark];simpa using this
  .have:=h 1 (by omega);rw[World.cell?_alloc_mark,Nat.zero_add];simpa using this
  .have:=h 2 (by omega);rw[World.cell?_alloc_mark,Nat.zero_add];simpa using this
  .have:=h 3 (by omega);rw[World.cell?_alloc_mark,Nat.zero_add];simpa using this
  .have:=h 4 (by omega);rw[World.cell?_alloc_mark,Nat.zero_add];simpa using this
theorem valid_ref (c:Int) (w:World) :
  Calls Tryz.prog 48 #[.int .i64 c] w λe w'=>e = .returned (.bool (vld c))/\w=w':=by
 by_cases h:0<=c
 all_goals
  go_enter Tryz.func48,Tryz.ntmps48
  go_wp2
  go_ret;exact ⟨ret_bool (by unfold vld;first | (simp[h];done) | (rw[decide_eq_false (by omega)];rfl)),rfl⟩
theorem digits_ref (s:ByteArray) (w:World) (hs:s.size<=1000000) :
  Calls Tryz.prog 49 #[.string s] w λe w'=>e = .returned (.bool (allF dig (bl s)))/\w=w':=by
 go_enter Tryz.func49,Tryz.ntmps49
 go_wp2
 go_loop [3] (λi=>∃k:Nat,k<=s.size/\i = .int .i64 k/\allF dig ((bl s).drop k)=allF dig (bl s)) (λi=>s.size - (intOf i).toNat)
 case atStart=>exact ⟨0,Nat.zero_le _,rfl,rfl⟩
 case round=>
  obtain ⟨k,hk,rfl,hrel⟩:=hrel;have HR:=Lib.hid hrel;clear hrel;by_cases hlt:k<s.size
  .have hdr:=Lib.hid (drop_byte s k hlt);by_cases h1:(s[k].toNat:Int)<48
   .go_wp2
    go_ret;exact ⟨ret_bool (by rw[<-HR.out,hdr.out,allF_no (dig_mk0 (by omega))]),rfl⟩
   .by_cases h2:57<(s[k].toNat:Int)
    .go_wp2
     go_ret;exact ⟨ret_bool (by rw[<-HR.out,hdr.out,allF_no (dig_mk0 (by omega))]),rfl⟩
    .go_wp2
     go_round
     case rel=>exact ⟨k+1,by omega,by go_num,by rw[<-HR.out,hdr.out,allF_yes (dig_mk (by omega) (by omega))]⟩
     case measure=>simp[intOf];omega
  .obtain rfl:k=s.size:=by omega
   go_wp2
   go_ret;exact ⟨ret_bool (by rw[<-HR.out,drop_all];rfl),rfl⟩
theorem capitals_ref (s:ByteArray) (w:World) (hs:s.size<=1000000) :
  Calls Tryz.prog 50 #[.string s] w λe w'=>e = .returned (.bool (allF sgn (bl s)))/\w=w':=by
 go_enter Tryz.func50,Tryz.ntmps50
 go_wp2
 go_loop [3] (λi=>∃k:Nat,k<=s.size/\i = .int .i64 k/\allF sgn ((bl s).drop k)=allF sgn (bl s)) (λi=>s.size - (intOf i).toNat)
 case atStart=>exact ⟨0,Nat.zero_le _,rfl,rfl⟩
 case round=>
  obtain ⟨k,hk,rfl,hrel⟩:=hrel;have HR:=Lib.hid hrel;clear hrel;by_cases hlt:k<s.size
  .have hdr:=Lib.hid (drop_byte s k hlt);by_cases h1:(s[k].toNat:Int)<48
   .by_cases h3:(s[k].toNat:Int)<65
    .go_wp2
     go_ret;exact ⟨ret_bool (by rw[<-HR.out,hdr.out,allF_no (sgn_mk0 (by omega))]),rfl⟩
    .exfalso;omega
   .by_cases h2:57<(s[k].toNat:Int)
    .by_cases h3:(s[k].toNat:Int)<65
     .go_wp2
      go_ret;exact ⟨ret_bool (by rw[<-HR.out,hdr.out,allF_no (sgn_mk0 (by omega))]),rfl⟩
     .by_cases h4:90<(s[k].toNat:Int)
      .go_wp2
       go_ret;exact ⟨ret_bool (by rw[<-HR.out,hdr.out,allF_no (sgn_mk0 (by omega))]),rfl⟩
      .go_wp2
       go_round
       case rel=>exact ⟨k+1,by omega,by go_num,by rw[<-HR.out,hdr.out,allF_yes (sgn_mk (by omega))]⟩
       case measure=>simp[intOf];omega
    .go_wp2
     go_round
     case rel=>exact ⟨k+1,by omega,by go_num,by rw[<-HR.out,hdr.out,allF_yes (sgn_mk (by omega))]⟩
     case measure=>simp[intOf];omega
  .obtain rfl:k=s.size:=by omega
   go_wp2
   go_ret;exact ⟨ret_bool (by rw[<-HR.out,drop_all];rfl),rfl⟩
theorem rest_ref (s:ByteArray) (w:World) (hs:s.size<=1000000) :
  Calls Tryz.prog 52 #[.string s] w λe w'=>e = .returned (.int .i64 (mod97R (bl s) 0))/\w=w':=by
 go_enter Tryz.func52,Tryz.ntmps52
 go_wp2
 go_loop [3,4] (λn i=>∃(k:Nat) (N:Int),k<=s.size/\i = .int .i64 k/\n = .int .i64 N/\0<=N/\N<97/\mod97R ((bl s).drop k) N=mod97R (bl s) 0) (λ_ i=>s.size - (intOf i).toNat)
 case atStart=>exact ⟨0,0,Nat.zero_le _,rfl,rfl,by omega,by omega,rfl⟩
 case round=>
  obtain ⟨k,N,hk,rfl,rfl,hN0,hN1,hrel⟩:=hrel;have HR:=Lib.hid hrel;clear hrel;by_cases hlt:k<s.size
  .have hdr:=Lib.hid (drop_byte s k hlt);have hcb:=byte_lt s[k];by_cases hd:(s[k].toNat:Int)<=57
   all_goals
    go_wp2
    go_round
    case rel=>exact ⟨k+1,_,by omega,by go_num,rfl,by omega,by omega,by rw[<-HR.out,hdr.out];first | exact mod97R_lo hd (by unfold val;omega) | exact mod97R_hi hd (by unfold val;omega)⟩
    case measure=>simp[intOf];omega
  .obtain rfl:k=s.size:=by omega
   have hN:N=mod97R (bl s) 0:=by rw[<-HR.out,drop_all];rfl
   have HN:=Lib.hid hN;clear hN
   go_wp2
   go_ret;exact ⟨ret_int (by rw[HN.out]),rfl⟩
theorem crc_ref (s:ByteArray) (w:World) (hs:s.size<=1000000) :
  Calls Tryz.prog 54 #[.string s] w λe w'=>e = .returned (.int .u32 (crc (bl s)))/\w=w':=by
 go_enter Tryz.func54,Tryz.ntmps54
 go_wp2
 go_loop [3,4] (λn i=>∃(k:Nat) (N:Int),k<=s.size/\i = .int .i64 k/\n = .int .u32 N/\0<=N/\N<4294967296/\crcF ((bl s).drop k) N=crcF (bl s) 4294967295) (λ_ i=>s.size - (intOf i).toNat)
 case atStart=>exact ⟨0,_,Nat.zero_le _,rfl,rfl,by omega,by omega,rfl⟩
 case round=>
  obtain ⟨k,N,hk,rfl,rfl,hN0,hN1,hrel⟩:=hrel;have HR:=Lib.hid hrel;clear hrel;by_cases hlt:k<s.size
  .have hdr:=Lib.hid (drop_byte s k hlt);have hcb:=byte_lt s[k]
   go_wp2
   obtain ⟨X,hX⟩:∃X,X=bits .xor .u32 N s[k].toNat:=⟨_,rfl⟩;have hXb:=u32_bd .xor N s[k].toNat;rw[<-hX]at hXb|-;have HX:=Lib.hid hX;clear hX hcb
   go_loop [3,5] (λn i=>∃(j:Nat) (M:Int),j<=8/\i = .int .i64 j/\n = .int .u32 M/\0<=M/\M<4294967296/\crcBits (8-j) M=crcBits 8 X) (λ_ i=>8 - (intOf i).toNat)
   case atStart=>exact ⟨0,X,by omega,rfl,rfl,by omega,by omega,rfl⟩
   case round=>
    obtain ⟨j,M,hj,rfl,rfl,hM0,hM1,hrel⟩:=hrel;have HI:=Lib.hid hrel;clear hrel;by_cases hlj:j<8
    .have hs8:=Lib.hid (show 8-j=(8 - (j+1))+1 by omega)
     rcases hb:(bits .and .u32 M 1 == 1)
     .go_wp2
      go_round
      case rel=>exact ⟨j+1,M / 2,by omega,by go_num,rfl,by omega,by omega,by rw[<-HI.out,hs8.out,crcBits_step,crc_no hb]⟩
      case measure=>simp[intOf];omega
     .go_wp2
      go_round
      case rel=>exact ⟨j+1,_,by omega,by go_num,rfl,(u32_bd _ _ _).1,(u32_bd _ _ _).2,by rw[<-HI.out,hs8.out,crcBits_step,crc_yes hb]⟩
      case measure=>simp[intOf];omega
    .obtain rfl:j=8:=by omega
     go_wp2
     go_round
     case rel=>exact ⟨k+1,M,by omega,by go_num,rfl,by omega,by omega,by rw[<-HR.out,hdr.out,crcF,<-HX.out,<-HI.out];rfl⟩
     case measure=>simp[intOf];omega
  .obtain rfl:k=s.size:=by omega
   have hN:N=crcF (bl s) 4294967295:=by rw[<-HR.out,drop_all];rfl
   have HN:=Lib.hid hN;clear hN
   go_wp2
   go_ret;exact ⟨ret_int (by unfold crc;rw[<-HN.out]),rfl⟩
theorem letter_ref (s:ByteArray) (w:World) (hs:s.size<=1000000) :
  Calls Tryz.prog 55 #[.string s] w λe w'=>e = .returned (.int .u8 (65+letF (bl s) 0 0))/\w=w':=by
 go_enter Tryz.func55,Tryz.ntmps55
 go_wp2
 have hbd:=letF_bd (bl s) 0 0 (by omega) (by omega)
 go_loop [3,4] (λn i=>∃(k:Nat) (N:Int),k<=s.size/\i = .int .i64 k/\n = .int .i64 N/\0<=N/\N<26/\letF ((bl s).drop k) k N=letF (bl s) 0 0) (λ_ i=>s.size - (intOf i).toNat)
 case atStart=>exact ⟨0,0,Nat.zero_le _,rfl,rfl,by omega,by omega,rfl⟩
 case round=>
  obtain ⟨k,N,hk,rfl,rfl,hN0,hN1,hrel⟩:=hrel;have HR:=Lib.hid hrel;clear hrel;by_cases hlt:k<s.size
  .have hdr:=Lib.hid (drop_byte s k hlt);have hcb:=byte_lt s[k];have hp:=let_step_bd s[k].toNat k (by omega) hcb (by omega)
   go_wp2
   go_round
   case rel=>exact ⟨k+1,(N+s[k].toNat*((k+1) % 26)) % 26,by omega,by go_num,rfl,by omega,by omega,by rw[<-HR.out,hdr.out];rfl⟩
   case measure=>simp[intOf];omega
  .obtain rfl:k=s.size:=by omega
   have hN:N=letF (bl s) 0 0:=by rw[<-HR.out,drop_all];rfl
   have HN:=Lib.hid hN;clear hN hbd
   go_wp2
   go_ret;exact ⟨ret_int (by rw[HN.out]),rfl⟩
set_option maxHeartbeats 400000 in
theorem hex3_ref (x:Int) (w:World) (h0:0<=x) (h1:x<4294967296) :
  Calls Tryz.prog 53 #[.int .u32 x] w λe w'=>e = .returned (.string (bs (hexR 8 x)))/\Below w.heap.size w w':=by
 obtain ⟨i0,hi,hz0,hz1,hz2⟩:=info_parts info_u8
 go_enter Tryz.func53,Tryz.ntmps53
 go_wp2
 go_loopw [3,4] (λv i wr=>∃(m:Nat) (l:List UInt8),m<=8/\i = .int .i64 (4*(m:Int) - 4)/\OB 5 w.heap.size v l wr/\l.length+m=8/\Below w.heap.size w wr/\l++hexR m x=hexR 8 x) (λ_ i _=>(intOf i+4).toNat)
 case atStart=>exact ⟨8,[],by omega,rfl,OB.nil_ _ _ _,rfl,Below.refl _ _,rfl⟩
 case round=>
  obtain ⟨m,l,hm,rfl,hown,hl,hbel,hrel⟩:=hrel;have HR:=Lib.hid hrel;clear hrel;rcases m with _ | m
  .obtain ⟨A,n,c,rfl⟩:∃A n c,u3 = .slice A n c:=hown.form_;have hcv:=hown.conv Tryz.underlying41 Tryz.underlying5 Tryz.underlying9
   go_wp2
   go_ret;exact ⟨ret_str (by rw[<-HR.out];simp[hexR]),hbel⟩
  .obtain ⟨y,hy⟩:∃y,bits .and .u32 (x / 2 ^ (4*(m+1) - 4)) 15=y:=⟨_,rfl⟩;have hyb:y=x / 2 ^ (4*m) % 16:=by rw[<-hy,and15 (div_bd _ h0 h1).1 (div_bd _ h0 h1).2];rfl
   have hy0:0<=y:=by omega
   have hy1:y<16:=by omega
   have HY:=Lib.hid hyb;clear hyb;have hix:=idx_hex .u32 y hy0 hy1;go_wp2_with (at_builtin;refine app_u8 Tryz.underlying41 hi hz0 hz1 hz2 _ _ _ _ _ (hexd y) _ rfl rfl rfl rfl hown rfl (by omega) hbel.size ?_;intro v1 w1 hown1 hb1 _ _)
   go_roundw
   case rel=>exact ⟨m,l++[hexd y],by omega,by go_num,hown1,by simp;omega,hbel.trans (hb1.mono (Nat.le_refl _)),by rw[<-HR.out,hexR,<-HY.out];simp⟩
   case measure=>simp[intOf];omega
set_option maxHeartbeats 400000 in
theorem luhn_ref (s:ByteArray) (w:World) (hs:s.size<=1000000) :
  Calls Tryz.prog 51 #[.string s] w λe w'=>e = .returned (.bool (luhnQ (bl s)))/\w=w':=by
 by_cases h2:s.size<2
 .go_enter Tryz.func51,Tryz.ntmps51
  go_wp2
  go_ret;exact ⟨ret_bool (by unfold luhnQ;rw[decide_eq_false (by rw[size_list];omega)];rfl),rfl⟩
 .rcases hd:allF dig (bl s)
  .go_enter Tryz.func51,Tryz.ntmps51
   go_wp2_with (go_at_call 49;refine (digits_ref _ _ hs).mono ?_;rintro e w' ⟨rfl,rfl⟩);go_ret;exact ⟨ret_bool (by unfold luhnQ;rw[hd];simp),rfl⟩
  .go_enter Tryz.func51,Tryz.ntmps51
   go_wp2_with (go_at_call 49;refine (digits_ref _ _ hs).mono ?_;rintro e w' ⟨rfl,rfl⟩);have Hd:=Lib.hid hd;clear hd
   go_loop [3,4] (λn i=>∃(k:Nat) (N:Int),k<=s.size/\i = .int .i64 k/\n = .int .i64 N/\0<=N/\N<=512*k/\luhnR ((bl s).reverse.drop k) k N=luhnR (bl s).reverse 0 0) (λ_ i=>s.size - (intOf i).toNat)
   case atStart=>exact ⟨0,0,Nat.zero_le _,rfl,rfl,by omega,by omega,rfl⟩
   case round=>
    obtain ⟨k,N,hk,rfl,rfl,hN0,hN1,hrel⟩:=hrel;have HR:=Lib.hid hrel;clear hrel;by_cases hlt:k<s.size
    .have hdr:=Lib.hid (drop_rev s k hlt);obtain ⟨u,c,hus,hcu,hc0,hc1,hix⟩:=idx_str Tryz.underlying9 s (s.size - 1-k) (by omega) .i64 ((s.size:Int) - 1-k) (by omega)
     by_cases hev:(k:Int) % 2=1
     .by_cases hd:9<(c - 48) % 256*2
      all_goals
       go_wp2
       go_round
       case rel=>exact ⟨k+1,_,by omega,by go_num,rfl,by omega,by omega,by rw[<-HR.out,hdr.out,<-hus.out]; exact luhnR_step hcu.out (by rw[if_pos (by omega)]; unfold dbl val; split <;> omega)⟩
       case measure=>simp[intOf];omega
     .go_wp2
      go_round
      case rel=>exact ⟨k+1,_,by omega,by go_num,rfl,by omega,by omega,by rw[<-HR.out,hdr.out,<-hus.out];exact luhnR_step hcu.out (by rw[if_neg (by omega)];unfold val;omega)⟩
      case measure=>simp[intOf];omega
    .obtain rfl:k=s.size:=by omega
     have hN:N=luhnR (bl s).reverse 0 0:=by rw[<-HR.out,List.drop_eq_nil_of_le (by rw[List.length_reverse,size_list];exact Nat.le_refl _)];rfl
     have HN:=Lib.hid hN;clear hN
     go_wp2
     go_ret;exact ⟨ret_bool (by unfold luhnQ;rw[Hd.out,<-HN.out,decide_eq_true (by rw[size_list];omega)];rfl),rfl⟩
theorem cmpR_yes {c:Int} {s:ByteArray} {r:ByteArray} (hv:vld c=true) (hs:s.size<=65536) (hp:prm c (bl s)=true) (h:r=bs (bl s++addQ c (bl s))) :
  Ending.returned (.tuple #[.string r, .int .i64 0]) = .returned (.tuple #[.string (bs (cmpQ c (bl s)).1), .int .i64 (cmpQ c (bl s)).2]):=by
 unfold cmpQ;rw[hv,hp,if_neg (by decide),if_neg (by rw[size_list];omega),if_neg (by decide),h]
theorem cmpR_no {c:Int} {s:ByteArray} (hv:vld c=true) (hs:s.size<=65536) (hp:prm c (bl s)=false) :
  Ending.returned (.tuple #[.string ⟨#[]⟩, .int .i64 4]) = .returned (.tuple #[.string (bs (cmpQ c (bl s)).1), .int .i64 (cmpQ c (bl s)).2]):=by
 unfold cmpQ;rw[hv,hp,if_neg (by decide),if_neg (by rw[size_list];omega),if_pos rfl];rfl
set_option maxHeartbeats 1000000 in
theorem compR1 (s:ByteArray) (w:World) (hs:s.size<=65536) (hz:¬s.size=0) (hp:allF dig (bl s)=true) :
  Calls Tryz.prog 26 #[.int .i64 1, .string s] w λe w'=>e = .returned (.tuple #[.string (bs (cmpQ 1 (bl s)).1), .int .i64 (cmpQ 1 (bl s)).2])/\Below w.heap.size w w':=by
 have hv:vld 1=true:=rfl;have hpp:=Lib.hid ((prm_at1 hz).trans hp);have hz0:((s.size:Int) == 0)=false:=beq_eq_false_iff_ne.2 (by omega)
 go_enter Tryz.func26,Tryz.ntmps26
 go_wp2_with (first | (go_at_call 48;refine (valid_ref _ _).mono ?_;rintro e w' ⟨rfl,rfl⟩) | (go_at_call 49;refine (digits_ref _ _ (by omega)).mono ?_;rintro e w' ⟨rfl,rfl⟩))
 have HP:=Lib.hid hp;clear hp
 go_loopw [6] (λd wr=>∃j:Nat,j<=9/\d = .int .u8 (48+(j:Int))/\Below w.heap.size w wr/\luhnSf (9-j) (bl s)=luhnSf 9 (bl s)) (λd _=>(57-intOf d).toNat)
 case atStart=>exact ⟨0,by omega,rfl,Below.refl _ _,rfl⟩
 case round=>
  obtain ⟨j,hj,rfl,hbel,hrel⟩:=hrel;have HR:=Lib.hid hrel;clear hrel;by_cases hlt:j<9
  .obtain ⟨u,hu⟩:∃u,UInt8.ofNat (48+j)=u:=⟨_,rfl⟩;have hcv:=λw=>conv_row (P:=Tryz.prog) Tryz.underlying41 Tryz.underlying5 Tryz.underlying9 [u] [.int .u8 (48+(j:Int))] (by rw[<-hu];simp only[List.map];rw[<-byte_nat (48+j) (by omega)];simp) 1 1 rfl w
   have hcv2:∀(W:World) (o:Obj),_:=λW o=>conv_row2 (P:=Tryz.prog) Tryz.underlying41 Tryz.underlying5 Tryz.underlying9 [u] [.int .u8 (48+(j:Int))] (by rw[<-hu];simp only[List.map];rw[<-byte_nat (48+j) (by omega)];simp) 1 1 rfl W o
   have h56:UInt8.ofNat (56 - (8-j))=u:=by rw[<-hu];congr 1;omega
   have Hu:=Lib.hid h56;clear hu h56;have hs1:=size_bs1 u;have hsz:(s++bs [u]).size<=1000000:=by rw[ByteArray.size_append,hs1];omega
   have hfuel:=Lib.hid (show 9-j=(8-j)+1 by omega)
   rcases hq:luhnQ (bl (s++bs [u]))
   .have hq':=Lib.hid (cat_bl s [u]▸hq);go_wp2_with (go_at_call 51;refine (luhn_ref _ _ hsz).mono ?_;rintro e w' ⟨rfl,rfl⟩);go_roundw
    case rel=>exact ⟨j+1,by omega,by go_num,hbel.alloc hbel.size _,by rw[<-HR.out,hfuel.out,luhnSf_no (by rw[Hu.out];exact hq'.out)];congr 1;omega⟩
    case measure=>simp[intOf];omega
   .have hq':=Lib.hid (cat_bl s [u]▸hq);have hfin:=Lib.hid (show s++bs [u]=bs (bl s++addQ 1 (bl s)) by rw[cat_bs];unfold addQ;rw[if_pos rfl,<-HR.out,hfuel.out,luhnSf_yes (by rw[Hu.out];exact hq'.out),Hu.out])
    go_wp2_with (go_at_call 51;refine (luhn_ref _ _ hsz).mono ?_;rintro e w' ⟨rfl,rfl⟩)
    go_ret2
    exact ⟨cmpR_yes hv hs hpp.out hfin.out,(hbel.alloc hbel.size _).alloc ((hbel.alloc hbel.size _).size) _⟩
  .obtain rfl:j=9:=by omega
   have hfin:=Lib.hid (show s++⟨#[57]⟩=bs (bl s++addQ 1 (bl s)) by rw[show (⟨#[57]⟩:ByteArray)=bs [57] from rfl,cat_bs];unfold addQ;rw[if_pos rfl,<-HR.out];rfl)
   go_wp2
   go_ret2
   exact ⟨cmpR_yes hv hs hpp.out hfin.out,hbel⟩
set_option maxHeartbeats 1000000 in
theorem compR2 (s:ByteArray) (w:World) (hs:s.size<=65536) (hz:¬s.size=0) (hp:allF sgn (bl s)=true) :
  Calls Tryz.prog 26 #[.int .i64 2, .string s] w λe w'=>e = .returned (.tuple #[.string (bs (cmpQ 2 (bl s)).1), .int .i64 (cmpQ 2 (bl s)).2])/\Below w.heap.size w w':=by
 have hv:vld 2=true:=rfl;have hpp:=Lib.hid ((prm_at2 hz).trans hp);have hz0:((s.size:Int) == 0)=false:=beq_eq_false_iff_ne.2 (by omega)
 have hsz:(s++⟨#[48,48]⟩:ByteArray).size<=1000000:=by rw[ByteArray.size_append];exact Nat.le_trans (Nat.add_le_add_right hs 2) (by decide)
 obtain ⟨hN0,hN1⟩:=mod97R_bd (bl (s++⟨#[48,48]⟩)) 0 (by omega) (by omega)
 obtain ⟨N,hN⟩:∃N,mod97R (bl (s++⟨#[48,48]⟩)) 0=N:=⟨_,rfl⟩;rw[hN]at hN0 hN1;have hcv:=λw=>conv_row (P:=Tryz.prog) Tryz.underlying41 Tryz.underlying5 Tryz.underlying9 [UInt8.ofNat (48+(98-N) / 10).toNat,UInt8.ofNat (48+(98-N) % 10).toNat] [.int .u8 (48+(98-N) / 10), .int .u8 (48+(98-N) % 10)] (by simp only[List.map];rw[<-byte_nat _ (by omega),<-byte_nat _ (by omega),Int.toNat_of_nonneg (by omega),Int.toNat_of_nonneg (by omega)]) 2 2 rfl w
 have hfin:=Lib.hid (show s++bs [UInt8.ofNat (48+(98-N) / 10).toNat,UInt8.ofNat (48+(98-N) % 10).toNat]=bs (bl s++addQ 2 (bl s)) by rw[cat_bs];unfold addQ twoD;rw[if_neg (by decide),if_pos rfl,show mod97R (bl s++[48,48]) 0=N from bl_lit s [48,48]▸hN])
 have hs2:(bs [UInt8.ofNat (48+(98-N) / 10).toNat,UInt8.ofNat (48+(98-N) % 10).toNat]).size=2:=rfl;generalize bs [UInt8.ofNat (48+(98-N) / 10).toNat,UInt8.ofNat (48+(98-N) % 10).toNat]=t at hcv hfin hs2
 go_enter Tryz.func26,Tryz.ntmps26
 go_wp2_with (first | (go_at_call 48;refine (valid_ref _ _).mono ?_;rintro e w' ⟨rfl,rfl⟩) | (go_at_call 50;refine (capitals_ref _ _ (by omega)).mono ?_;rintro e w' ⟨rfl,rfl⟩) | (go_at_call 52;refine (rest_ref _ _ hsz).mono ?_;rintro e w' ⟨rfl,rfl⟩))
 go_ret2
 exact ⟨cmpR_yes hv hs hpp.out hfin.out,(Below.refl _ w).alloc (Nat.le_refl _) _⟩
set_option maxHeartbeats 1000000 in
theorem compR3 (s:ByteArray) (w:World) (hs:s.size<=65536) (hz:¬s.size=0) :
  Calls Tryz.prog 26 #[.int .i64 3, .string s] w λe w'=>e = .returned (.tuple #[.string (bs (cmpQ 3 (bl s)).1), .int .i64 (cmpQ 3 (bl s)).2])/\Below w.heap.size w w':=by
 have hv:vld 3=true:=rfl;have hz0:((s.size:Int) == 0)=false:=beq_eq_false_iff_ne.2 (by omega)
 have hcb:=Lib.hid (crc_bd (bl s));have hs8:(bs (hexR 8 (crc (bl s)))).size=8:=by rw[size_bs,hexR_len]
 have hfin:=Lib.hid (show s++bs (hexR 8 (crc (bl s)))=bs (bl s++addQ 3 (bl s)) by rw[cat_bs];rfl)
 go_enter Tryz.func26,Tryz.ntmps26
 go_wp2_with (first | (go_at_call 48;refine (valid_ref _ _).mono ?_;rintro e w' ⟨rfl,rfl⟩) | (go_at_call 54;refine (crc_ref _ _ (by omega)).mono ?_;rintro e w' ⟨rfl,rfl⟩) | (go_at_call 53;refine (hex3_ref _ _ hcb.out.1 hcb.out.2).mono ?_;rintro e w3 ⟨rfl,hb3⟩))
 go_ret2
 exact ⟨cmpR_yes hv hs (prm_at3 hz) hfin.out,hb3⟩
set_option maxHeartbeats 1000000 in
theorem compR4 (s:ByteArray) (w:World) (hs:s.size<=65536) (hz:¬s.size=0) :
  Calls Tryz.prog 26 #[.int .i64 4, .string s] w λe w'=>e = .returned (.tuple #[.string (bs (cmpQ 4 (bl s)).1), .int .i64 (cmpQ 4 (bl s)).2])/\Below w.heap.size w w':=by
 have hv:vld 4=true:=rfl;have hz0:((s.size:Int) == 0)=false:=beq_eq_false_iff_ne.2 (by omega)
 obtain ⟨hN0,hN1⟩:=letF_bd (bl s) 0 0 (by omega) (by omega)
 have hfin:∀N,letF (bl s) 0 0=N->s++bs [UInt8.ofNat (65+N).toNat]=bs (bl s++addQ 4 (bl s)):=by rintro N rfl;rw[cat_bs];rfl
 obtain ⟨N,hN⟩:∃N,letF (bl s) 0 0=N:=⟨_,rfl⟩;rw[hN]at hN0 hN1;have hfin:=Lib.hid (hfin N hN);have hcv:=λw=>conv_row (P:=Tryz.prog) Tryz.underlying41 Tryz.underlying5 Tryz.underlying9 [UInt8.ofNat (65+N).toNat] [.int .u8 (65+N)] (by simp only[List.map];rw[<-byte_nat _ (by omega),Int.toNat_of_nonneg (by omega)]) 1 1 rfl w
 generalize UInt8.ofNat (65+N).toNat=u at hcv hfin;have hs1:=size_bs1 u
 go_enter Tryz.func26,Tryz.ntmps26
 go_wp2_with (first | (go_at_call 48;refine (valid_ref _ _).mono ?_;rintro e w' ⟨rfl,rfl⟩) | (go_at_call 55;refine (letter_ref _ _ (by omega)).mono ?_;rintro e w' ⟨rfl,rfl⟩))
 go_ret2
 exact ⟨cmpR_yes hv hs (prm_at4 hz) hfin.out,(Below.refl _ w).alloc (Nat.le_refl _) _⟩
set_option maxHeartbeats 400000 in
theorem complete_ref (c:Int) (s:ByteArray) (w:World) (hs:s.size<=1000000) :
  Calls Tryz.prog 26 #[.int .i64 c, .string s] w λe w'=>e = .returned (.tuple #[.string (bs (cmpQ c (bl s)).1), .int .i64 (cmpQ c (bl s)).2])/\Below w.heap.size w w':=by
 rcases hv:vld c
 .go_enter Tryz.func26,Tryz.ntmps26
  go_wp2_with (go_at_call 48;refine (valid_ref _ _).mono ?_;rintro e w' ⟨rfl,rfl⟩)
  go_ret2
  exact ⟨by unfold cmpQ;rw[hv];rfl,Below.refl _ _⟩
 by_cases hl:65536<s.size
 .go_enter Tryz.func26,Tryz.ntmps26
  go_wp2_with (go_at_call 48;refine (valid_ref _ _).mono ?_;rintro e w' ⟨rfl,rfl⟩)
  go_ret2
  exact ⟨by unfold cmpQ;rw[hv,if_neg (by decide),if_pos (by rw[size_list];exact hl)];rfl,Below.refl _ _⟩
 have hc:=vld_cases hv;by_cases h0:c=0
 .subst h0;have hfin:=Lib.hid (show s=bs (bl s++addQ 0 (bl s)) by unfold addQ;simp;rfl)
  go_enter Tryz.func26,Tryz.ntmps26
  go_wp2_with (go_at_call 48;refine (valid_ref _ _).mono ?_;rintro e w' ⟨rfl,rfl⟩)
  go_ret2
  exact ⟨cmpR_yes hv (by omega) rfl hfin.out,Below.refl _ _⟩
 by_cases hz:s.size=0
 .have hz0:((s.size:Int) == 0)=true:=beq_iff_eq.2 (by omega)
  have hp:=prm_nil hz h0;have HZ:=Lib.hid hz;clear hz
  go_enter Tryz.func26,Tryz.ntmps26
  go_wp2_with (go_at_call 48;refine (valid_ref _ _).mono ?_;rintro e w' ⟨rfl,rfl⟩)
  go_ret2
  exact ⟨cmpR_no hv (by omega) hp,Below.refl _ _⟩
 have hz0:((s.size:Int) == 0)=false:=beq_eq_false_iff_ne.2 (by omega)
 rcases hc with rfl | rfl | rfl | rfl | rfl
 .exact absurd rfl h0
 .rcases hp:allF dig (bl s)
  .have hpp:=(prm_at1 hz).trans hp
   go_enter Tryz.func26,Tryz.ntmps26
   go_wp2_with (first | (go_at_call 48;refine (valid_ref _ _).mono ?_;rintro e w' ⟨rfl,rfl⟩) | (go_at_call 49;refine (digits_ref _ _ (by omega)).mono ?_;rintro e w' ⟨rfl,rfl⟩))
   go_ret2
   exact ⟨cmpR_no hv (by omega) hpp,Below.refl _ _⟩
  .exact compR1 s w (by omega) hz hp
 .rcases hp:allF sgn (bl s)
  .have hpp:=(prm_at2 hz).trans hp
   go_enter Tryz.func26,Tryz.ntmps26
   go_wp2_with (first | (go_at_call 48;refine (valid_ref _ _).mono ?_;rintro e w' ⟨rfl,rfl⟩) | (go_at_call 50;refine (capitals_ref _ _ (by omega)).mono ?_;rintro e w' ⟨rfl,rfl⟩))
   go_ret2
   exact ⟨cmpR_no hv (by omega) hpp,Below.refl _ _⟩
  .exact compR2 s w (by omega) hz hp
 .exact compR3 s w (by omega) hz
 .exact compR4 s w (by omega) hz
theorem RgV.new {b:Nat} {w w':World} {g n c:Nat} {rs:List (Int×Int)} {e:TypeId} (hg:w'.heap[g]?=some (.cells (rs.flatMap λp=>[Value.int .u8 p.1,Value.int .u8 p.2]).toArray e (0,0))) (hb:b<g) (hn:n=rs.length) (h1:1<=n) (h2:n<=1000) (hr:∀p∈rs,0<=p.1/\p.1<=p.2/\p.2<256):RgV b w' (.slice (some ⟨g,0,none⟩) n c):=by
 subst hn;refine ⟨g,0,_,c,rfl,h1,h2,hb,(Array.getElem?_eq_some_iff.1 hg).1,λj hj=>?_⟩;have hflat:∀(rs:List (Int×Int)) j (hj:j<rs.length),(rs.flatMap λp=>[Value.int .u8 p.1,Value.int .u8 p.2])[j*2]?=some (.int .u8 (rs[j]).1)/\(rs.flatMap λp=>[Value.int .u8 p.1,Value.int .u8 p.2])[j*2+1]?=some (.int .u8 (rs[j]).2):=by
  intro rs
  induction rs with
  | nil=>intro j hj;simp at hj
  | cons a r ih=>
   intro j hj
   match j,hj with
   | 0,_=>exact ⟨rfl,rfl⟩
   | j+1,hj=>
    obtain ⟨q1,q2⟩:=ih j (by simpa using hj)
    refine ⟨?_,?_⟩
    .rw[List.flatMap_cons,List.getElem?_append_right (by simp;omega),show (j+1)*2-[Value.int IntKind.u8 a.1,Value.int IntKind.u8 a.2].length=j*2 by simp;omega];exact q1
    .rw[List.flatMap_cons,List.getElem?_append_right (by simp;omega),show (j+1)*2+1-[Value.int IntKind.u8 a.1,Value.int IntKind.u8 a.2].length=j*2+1 by simp;omega];exact q2
 obtain ⟨q1,q2⟩:=hflat rs j hj;refine ⟨(rs[j]).1,(rs[j]).2,?_,?_,hr _ (List.getElem_mem hj)⟩
 .rw[cell_of_row _ _ _ _ _ _ hg,Nat.zero_add];simpa using q1
 .rw[cell_of_row _ _ _ _ _ _ hg,Nat.zero_add];simpa using q2
def ShPost (b:Nat) (w:World) (e:Ending) (w':World):Prop:=∃g,e = .returned (.slice (some ⟨g,0,none⟩) 6 6)/\KdV b w' (Pat b w' 4 18) 6 (.slice (some ⟨g,0,none⟩) 6 6)/\Below w.heap.size w w'
def TapeArg (A:Option Addr) (n:Nat) (w:World):Prop:=n<=maxLen/\∀j,j<n->∃ad x,A=some ad/\ad.block<w.heap.size/\w.cell? (ad.add j)=some (.int .i64 x)
theorem tape_new {A:Option Addr} {n c:Nat} {w:World} (h:TapeArg A n w):TapeOK w.heap.size (w.alloc (.cells #[.slice A n c, .int .i64 0] 25)):=by
 refine ⟨A,n,c,0,heap_alloc_new w _,Nat.zero_le _,h.1,λj hj=>?_⟩;obtain ⟨ad,x,ha,hlt,hc⟩:=h.2 j hj;exact ⟨ad,x,ha,hlt,(World.cell?_alloc_lt w _ _ (by rw[Reads_block];exact hlt)).trans hc⟩
theorem tapeArg_of {w:World} {a:Option Addr} {len cap:Nat} {zs:List Int}
  (h:(a=none/\len=0/\cap=0/\zs=[])\/∃x,a=some x/\len<=cap/\cap<=maxLen/\zs.length=cap/\(∀i,i<zs.length->w.cell? (x.add i)=some (.int .i64 (zs.getD i 0)))/\∀n∈zs,(Lit.int .i64 n).wf=true):TapeArg a len w:=by
 rcases h with ⟨rfl,rfl,rfl,rfl⟩ | ⟨x,rfl,hl,hm,hz,hc,-⟩
 .exact ⟨Nat.zero_le _,λj hj=>absurd hj (Nat.not_lt_zero _)⟩
 .refine ⟨Nat.le_trans hl hm,λj hj=>⟨x,_,rfl,?_,hc j (by omega)⟩⟩
  have:=World.block_lt_of_cell? w _ (hc j (by omega))
  rwa [Reads_block]at this
end Go.Proofs.YtljgapfmgegifaaGreatDoor
