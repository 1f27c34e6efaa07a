/- Closed facts on the element types of this program's slices. · What the program's table says of edges. · The tape of numbers: what Next returns lies from 0 on and before its bound, whatever the tape holds; nothing but the tape's own block is written. Condition: the bound is positive. · Patterns in memory, of which a member can be made, with a bound of its bytes; the patterns of kinds. · Walks: the patterns of kinds. · What a call of a law is handed as its tape, and the tape that it makes of it. · What the shell of a law's proof tells of its tape is what the walks ask of it. -/
import Derived.Test.YtljgapfmgegifaaGreatDoorProg
import Derived.Test.YtljgapfmgegifaaGreatDoorY02
import Derived.Test.YtljgapfmgegifaaGreatDoorY01
namespace Go.Proofs.YtljgapfmgegifaaGreatDoor
set_option linter.unusedVariables false
set_option linter.unusedSimpArgs false
set_option maxRecDepth 100000
theorem info_u8:(Tryz.prog.info? 5).map (λi=>(i.zero,i.size,i.bytes))=some (some (.int .u8 0),1,1):=by kernel_rfl
theorem info_int:(Tryz.prog.info? 3).map (λi=>(i.zero,i.size,i.bytes))=some (some (.int .i64 0),1,8):=by kernel_rfl
end Go.Proofs.YtljgapfmgegifaaGreatDoor
namespace Go.Proofs.YtljgapfmgegifaaGreatDoor
set_option linter.unusedVariables false
set_option linter.unusedSimpArgs false
set_option maxRecDepth 100000
open Go.RowKit
theorem info_ed:(Tryz.prog.info? 184).map (λi=>(i.zero,i.size,i.bytes))=some (some (.agg #[.int .u8 0, .int .u8 0, .int .i64 0]),3,16):=by kernel_rfl
def TapeOK (b:Nat) (w:World):Prop:=∃(a:Option Addr) (n c k:Nat),w.heap[b]?=some (.cells #[.slice a n c, .int .i64 (k:Int)] 25 (0,0))/\k<=n/\n<=maxLen/\
 ∀j,j<n->∃ad x,a=some ad/\ad.block<b/\w.cell? (ad.add j)=some (.int .i64 x)
def Fr (b:Nat) (w w':World):Prop:=w.grownBy w' (some b)
theorem Fr.refl (b:Nat) (w:World):Fr b w w:=⟨rfl,rfl,rfl,Nat.le_refl _,λ_ _ _=>rfl⟩
theorem Fr.trans {b:Nat} {w w1 w2:World} (h:Fr b w w1) (h':Fr b w1 w2):Fr b w w2:=
 ⟨h'.os.trans h.os,h'.tape.trans h.tape,h'.output.trans h.output,Nat.le_trans h.size h'.size,λk hk hne=>(h'.block k (Nat.lt_of_lt_of_le hk h.size) hne).trans (h.block k hk hne)⟩
theorem Fr.of_below {b:Nat} {w w1:World} (h:Below w.heap.size w w1):Fr b w w1:=⟨h.os,h.tape,h.output,h.size,λk hk _=>h.block k hk⟩
theorem Fr.below {b B:Nat} {w w1:World} (h:Fr b w w1) (hB:B<=b) (hb:B<=w.heap.size):Below B w w1:=
 ⟨h.os,h.tape,h.output,h.size,λk hk=>h.block k (by omega) (by intro e;injection e;omega)⟩
theorem Fr.then {b:Nat} {w w1 w2:World} (h:Fr b w w1) (h':Below w.heap.size w1 w2):Fr b w w2:=
 ⟨h'.os.trans h.os,h'.tape.trans h.tape,h'.output.trans h.output,Nat.le_trans h.size h'.size,λk hk hne=>(h'.block k hk).trans (h.block k hk hne)⟩
theorem TapeOK.lt {b:Nat} {w:World} (h:TapeOK b w):b<w.heap.size:=by
 obtain ⟨a,n,c,k,hb,-⟩:=h;exact (Array.getElem?_eq_some_iff.1 hb).1
theorem TapeOK.keep {b:Nat} {w w1:World} (h:TapeOK b w) (hk:∀k,k<=b->w1.heap[k]?=w.heap[k]?):TapeOK b w1:=by
 obtain ⟨a,n,c,k,hb,h1,h2,h3⟩:=h;refine ⟨a,n,c,k,(hk b (Nat.le_refl _)).trans hb,h1,h2,λj hj=>?_⟩;obtain ⟨ad,x,ha,hlt,hc⟩:=h3 j hj;exact ⟨ad,x,ha,hlt,(World.cell?_of_block (by rw[Reads_block];exact hk _ (Nat.le_of_lt hlt))).trans hc⟩
theorem TapeOK.below {b:Nat} {w w1:World} (h:TapeOK b w) (hb:Below w.heap.size w w1):TapeOK b w1:=
 h.keep λk hk=>hb.block k (Nat.lt_of_le_of_lt hk h.lt)
theorem TapeOK.below' {b B:Nat} {w w1:World} (h:TapeOK b w) (hb:Below B w w1) (hB:b<B):TapeOK b w1:=
 h.keep λk hk=>hb.block k (Nat.lt_of_le_of_lt hk hB)
theorem and_mask (x:Int):0<=bits .and .i64 x 65535/\bits .and .i64 x 65535<=65535:=by
 have hle:(BitVec.ofInt 64 x &&& BitVec.ofInt 64 65535).toNat<=65535:=by
  rw[BitVec.toNat_and];exact Nat.le_trans Nat.and_le_right (by decide)
 have e:bits .and .i64 x 65535=((BitVec.ofInt 64 x &&& BitVec.ofInt 64 65535).toNat:Int):=by
  unfold bits;show IntKind.i64.wrap (((BitVec.ofInt 64 x &&& BitVec.ofInt 64 65535).toNat:Nat):Int)=_;rw[IntWalk.i64_in _ (by omega)]
 rw[e];omega
theorem tape_step {b:Nat} {w W:World} (a:Option Addr) (n c k:Nat) (hb:w.heap[b]?=some (.cells #[.slice a n c, .int .i64 (k:Int)] 25 (0,0))) (hk:k<n) (hn:n<=maxLen)
  (hc:∀j,j<n->∃ad x,a=some ad/\ad.block<b/\w.cell? (ad.add j)=some (.int .i64 x))
  (h:W.heap=(w.setCell ⟨b,1,none⟩ (.int .i64 ((k:Int)+1))).heap) (h1:W.os=w.os) (h2:W.tape=w.tape) (h3:W.output=w.output):TapeOK b W/\Fr b w W:=by
 have hne:∀i,i≠b->W.heap[i]?=w.heap[i]?:=λi hi=>by rw[h];exact Below.heap_setCell _ _ _ _ hi
 have hbb:W.heap[b]?=some (.cells #[.slice a n c, .int .i64 ((k+1:Nat):Int)] 25 (0,0)):=by
  rw[h];simp[World.setCell,Array.getElem?_modify,hb]
 refine ⟨⟨a,n,c,k+1,hbb,by omega,hn,λj hj=>?_⟩,h1,h2,h3,by rw[h];simp[World.setCell],λi _ hi=>hne i (λe=>hi (by rw[e]))⟩
 obtain ⟨ad,x,ha,hlt,hcx⟩:=hc j hj;exact ⟨ad,x,ha,hlt,(World.cell?_of_block (hne _ (by rw[Reads_block];omega))).trans hcx⟩
def NextPost (b:Nat) (n:Int) (w:World) (e:Ending) (w':World):Prop:=∃r:Int,e = .returned (.int .i64 r)/\0<=r/\r<n/\TapeOK b w'/\Fr b w w'
theorem next_any (b:Nat) (n:Int) (w:World) (hn:0<n) (hn2:n<=65536) (ht:TapeOK b w) :
  Calls Tryz.prog 7 #[.pointer (some ⟨b,0,none⟩), .int .i64 n] w (NextPost b n w):=by
 have ht0:=Lib.hid ht;obtain ⟨a,m,c,k,hb,hk,hm,hcell⟩:=ht;unfold maxLen at hm;have c0:w.cell? ⟨b,0,none⟩=some (.slice a m c):=by rw[cell_of_row w b 0 _ _ _ hb];rfl
 have c1:w.cell? ⟨b,1,none⟩=some (.int .i64 (k:Int)):=by rw[cell_of_row w b 1 _ _ _ hb];rfl
 have f1:w.frozen? ⟨b,1,none⟩=false:=by simp[World.frozen?,hb]
 by_cases hlt:k<m
 .obtain ⟨ad,x,rfl,hadb,hcx⟩:=hcell k hlt;have HB:=Lib.hid hb;have HC:=Lib.hid hcell;clear hb hcell;obtain ⟨y,hy⟩:∃y,bits .and .i64 x 65535=y:=⟨_,rfl⟩;have hyb:=and_mask x;rw[hy]at hyb
  go_enter Tryz.func7,Tryz.ntmps7
  go_wp2_with fail
  go_quiet (fail)
  go_wp2_with fail
  go_quiet (fail)
  go_wp2
  go_ret;refine ⟨y % n,rfl,Int.emod_nonneg _ (by omega),Int.emod_lt_of_pos _ hn,?_⟩
  exact tape_step (some ad) m c k HB.out hlt (by unfold maxLen;omega) HC.out rfl rfl rfl rfl
 .obtain rfl:k=m:=by omega
  go_enter Tryz.func7,Tryz.ntmps7
  go_wp2_with fail
  go_quiet (fail)
  go_wp2
  go_ret;exact ⟨0,rfl,by omega,by omega,ht0.out,⟨rfl,rfl,rfl,Nat.le_refl _,λ_ _ _=>rfl⟩⟩
def BytesPost (b:Nat) (n:Nat) (w:World) (e:Ending) (w':World):Prop:=∃(v:Value) (l:List UInt8),e = .returned v/\l.length=n/\OB 5 w.heap.size v l w'/\TapeOK b w'/\Fr b w w'
def RgV (b:Nat) (w:World) (v:Value):Prop:=∃g f n c,v = .slice (some ⟨g,f,none⟩) n c/\1<=n/\n<=1000/\b<g/\g<w.heap.size/\
 ∀j<n,∃lo hi:Int,w.cell? ⟨g,f+j*2,none⟩=some (.int .u8 lo)/\w.cell? ⟨g,f+j*2+1,none⟩=some (.int .u8 hi)/\0<=lo/\lo<=hi/\hi<256
def KdV (b:Nat) (w:World) (G:List Value->Prop) (n:Nat) (v:Value):Prop:=∃g f c,v = .slice (some ⟨g,f,none⟩) n c/\b<g/\g<w.heap.size/\n<=1000/\
 ∀j<n,∃u0 u1 u2 u3 u4,w.cell? ⟨g,f+j*5,none⟩=some u0/\w.cell? ⟨g,f+j*5+1,none⟩=some u1/\w.cell? ⟨g,f+j*5+2,none⟩=some u2/\w.cell? ⟨g,f+j*5+3,none⟩=some u3/\w.cell? ⟨g,f+j*5+4,none⟩=some u4/\G [u0,u1,u2,u3,u4]
def Sl (v:Value):Prop:=∃A n c,v = .slice A n c
theorem Sl.of (A:Option Addr) (n c:Nat):Sl (.slice A n c):=⟨A,n,c,rfl⟩
def Pat (b:Nat) (w:World):Nat->Nat->List Value->Prop
 | 0,_,_=>False
 | d+1,m,vs=>∃v1 v2 mn mx,(Sl v1/\Sl v2)/\((vs=[.int .i64 1,v1,v2, .int .i64 mn, .int .i64 mx]/\RgV b w v1/\1<=m)\/
   (vs=[.int .i64 2,v1,v2, .int .i64 mn, .int .i64 mx]/\∃n m',KdV b w (Pat b w d m') n v2/\n*m'<=m)\/
   (vs=[.int .i64 3,v1,v2, .int .i64 mn, .int .i64 mx]/\∃n,KdV b w (Pat b w d m) n v2/\1<=n)\/
   (vs=[.int .i64 4,v1,v2, .int .i64 mn, .int .i64 mx]/\∃n m',KdV b w (Pat b w d m') n v2/\1<=n/\0<=mn/\mn<=mx/\(1<=mx/\mx<=1000)/\mx.toNat*m'<=m))
def Stay (b:Nat) (w w':World):Prop:=w.heap.size<=w'.heap.size/\∀k,b<k->k<w.heap.size->w'.heap[k]?=w.heap[k]?
theorem Stay.refl (b:Nat) (w:World):Stay b w w:=⟨Nat.le_refl _,λ_ _ _=>rfl⟩
theorem Stay.trans {b:Nat} {w w1 w2:World} (h:Stay b w w1) (h':Stay b w1 w2):Stay b w w2:=⟨Nat.le_trans h.1 h'.1,λk hk hlt=>(h'.2 k hk (Nat.lt_of_lt_of_le hlt h.1)).trans (h.2 k hk hlt)⟩
theorem Stay.of_fr {b:Nat} {w w':World} (h:Fr b w w'):Stay b w w':=⟨h.size,λk hk hlt=>h.block k hlt (by intro e;injection e;omega)⟩
theorem Stay.of_below {b:Nat} {w w':World} (h:Below w.heap.size w w'):Stay b w w':=⟨h.size,λk _ hlt=>h.block k hlt⟩
theorem Stay.cell {b:Nat} {w w':World} (h:Stay b w w') {g j:Nat} (hg:b<g) (hlt:g<w.heap.size):w'.cell? ⟨g,j,none⟩=w.cell? ⟨g,j,none⟩:=World.cell?_of_block (a:=⟨g,j,none⟩) (h.2 g hg hlt)
theorem RgV.later {b:Nat} {w w':World} {v:Value} (h:RgV b w v) (hs:Stay b w w'):RgV b w' v:=by
 obtain ⟨g,f,n,c,rfl,h1,h2,h3,h4,h5⟩:=h;refine ⟨g,f,n,c,rfl,h1,h2,h3,Nat.lt_of_lt_of_le h4 hs.1,λj hj=>?_⟩;obtain ⟨lo,hi,q1,q2,r⟩:=h5 j hj;exact ⟨lo,hi,(hs.cell h3 h4).trans q1,(hs.cell h3 h4).trans q2,r⟩
theorem KdV.later {b:Nat} {w w':World} {G G':List Value->Prop} {n:Nat} {v:Value} (h:KdV b w G n v) (hs:Stay b w w') (hG:∀us,G us->G' us):KdV b w' G' n v:=by
 obtain ⟨g,f,c,rfl,h3,h4,h2,h5⟩:=h;refine ⟨g,f,c,rfl,h3,Nat.lt_of_lt_of_le h4 hs.1,h2,λj hj=>?_⟩;obtain ⟨u0,u1,u2,u3,u4,q0,q1,q2,q3,q4,hg⟩:=h5 j hj;exact ⟨u0,u1,u2,u3,u4,(hs.cell h3 h4).trans q0,(hs.cell h3 h4).trans q1,(hs.cell h3 h4).trans q2,(hs.cell h3 h4).trans q3,(hs.cell h3 h4).trans q4,hG _ hg⟩
theorem Pat.later {b:Nat} {w w':World} (hs:Stay b w w'):∀{d m:Nat} {vs:List Value},Pat b w d m vs->Pat b w' d m vs
 | 0,_,_,h=>h
 | d+1,m,vs,⟨v1,v2,mn,mx,hsl,h⟩=>by
  refine ⟨v1,v2,mn,mx,hsl,?_⟩;rcases h with ⟨h1,h2,h3⟩ | ⟨h1,n,m',h2,h3⟩ | ⟨h1,n,h2,h3⟩ | ⟨h1,n,m',h2,h3⟩
  .exact .inl ⟨h1,h2.later hs,h3⟩
  .exact .inr (.inl ⟨h1,n,m',h2.later hs (λus=>Pat.later hs),h3⟩)
  .exact .inr (.inr (.inl ⟨h1,n,h2.later hs (λus=>Pat.later hs),h3⟩))
  .exact .inr (.inr (.inr ⟨h1,n,m',h2.later hs (λus=>Pat.later hs),h3⟩))
def NodePost (b d m:Nat) (w:World) (e:Ending) (w':World):Prop:=∃A B n n' c c' o mn mx,e = .returned (.agg #[.int .i64 o, .slice A n c, .slice B n' c', .int .i64 mn, .int .i64 mx])/\Pat b w' d m [.int .i64 o, .slice A n c, .slice B n' c', .int .i64 mn, .int .i64 mx]/\Below w.heap.size w w'
theorem Pat.mono {b:Nat} {w:World}:∀{d d' m m':Nat} {vs:List Value},d<=d'->m<=m'->Pat b w d m vs->Pat b w d' m' vs
 | 0,_,_,_,_,_,_,h=>h.elim
 | d+1,0,_,_,_,hd,_,_=>by omega
 | d+1,d'+1,m,m',vs,hd,hm,⟨v1,v2,mn,mx,hsl,h⟩=>by
  refine ⟨v1,v2,mn,mx,hsl,?_⟩;rcases h with ⟨h1,h2,h3⟩ | ⟨h1,n,k,h2,h3⟩ | ⟨h1,n,h2,h3⟩ | ⟨h1,n,k,h2,h3,h4,h5,h6,h7⟩
  .exact .inl ⟨h1,h2,by omega⟩
  .exact .inr (.inl ⟨h1,n,k,h2.later (Stay.refl _ _) (λus=>Pat.mono (by omega) (Nat.le_refl _)),by omega⟩)
  .exact .inr (.inr (.inl ⟨h1,n,h2.later (Stay.refl _ _) (λus=>Pat.mono (by omega) hm),h3⟩))
  .exact .inr (.inr (.inr ⟨h1,n,k,h2.later (Stay.refl _ _) (λus=>Pat.mono (by omega) (Nat.le_refl _)),h3,h4,h5,h6,by omega⟩))
theorem KdV.new {b:Nat} {w:World} {G:List Value->Prop} {us:List (List Value)} {cs:Array Value} {e:TypeId} {n c:Nat} (hb:b<w.heap.size) (hcs:cs=us.flatten.toArray) (h5:∀u∈us,u.length=5) (hG:∀u∈us,G u) (hn:n=us.length) (hn2:n<=1000) :
  KdV b (w.alloc (.cells cs e)) G n (.slice (some ⟨w.heap.size,0,none⟩) n c):=by
 subst hn hcs;refine ⟨w.heap.size,0,c,rfl,hb,by simp,hn2,λj hj=>?_⟩
 have hflat:∀(us:List (List Value)),(∀u∈us,u.length=5)->∀j (hj:j<us.length) i,i<5->us.flatten[j*5+i]?=(us[j])[i]?:=by
  intro us
  induction us with
  | nil=>intro _ j hj;simp at hj
  | cons a r ih=>
   intro h j hj i hi;have ha:=h a (by simp)
   match j,hj with
   | 0,_=>rw[List.flatten_cons,List.getElem?_append_left (by omega)];simp
   | j+1,hj=>
    rw[List.flatten_cons,List.getElem?_append_right (by omega),show (j+1)*5+i-a.length=j*5+i by omega,ih (λu hu=>h u (by simp[hu])) j (by simpa using hj) i hi]
    rfl
 have h:=hflat us h5 j hj;have hu5:=h5 us[j] (List.getElem_mem hj);have hg:=hG us[j] (List.getElem_mem hj);generalize us[j]=u at *
 match u,hu5 with
 | [u0,u1,u2,u3,u4],_=>
  refine ⟨u0,u1,u2,u3,u4,?_,?_,?_,?_,?_,hg⟩
  .have:=h 0 (by omega);rw[World.cell?_alloc_mark];simpa using this
  .have:=h 1 (by omega);rw[World.cell?_alloc_mark,Nat.zero_add];simpa using this
  .have:=h 2 (by omega);rw[World.cell?_alloc_mark,Nat.zero_add];simpa using this
  .have:=h 3 (by omega);rw[World.cell?_alloc_mark,Nat.zero_add];simpa using this
  .have:=h 4 (by omega);rw[World.cell?_alloc_mark,Nat.zero_add];simpa using this
theorem RgV.new {b:Nat} {w w':World} {g n c:Nat} {rs:List (Int×Int)} {e:TypeId} (hg:w'.heap[g]?=some (.cells (rs.flatMap λp=>[Value.int .u8 p.1,Value.int .u8 p.2]).toArray e (0,0))) (hb:b<g) (hn:n=rs.length) (h1:1<=n) (h2:n<=1000) (hr:∀p∈rs,0<=p.1/\p.1<=p.2/\p.2<256):RgV b w' (.slice (some ⟨g,0,none⟩) n c):=by
 subst hn;refine ⟨g,0,_,c,rfl,h1,h2,hb,(Array.getElem?_eq_some_iff.1 hg).1,λj hj=>?_⟩;have hflat:∀(rs:List (Int×Int)) j (hj:j<rs.length),(rs.flatMap λp=>[Value.int .u8 p.1,Value.int .u8 p.2])[j*2]?=some (.int .u8 (rs[j]).1)/\(rs.flatMap λp=>[Value.int .u8 p.1,Value.int .u8 p.2])[j*2+1]?=some (.int .u8 (rs[j]).2):=by
  intro rs
  induction rs with
  | nil=>intro j hj;simp at hj
  | cons a r ih=>
   intro j hj
   match j,hj with
   | 0,_=>exact ⟨rfl,rfl⟩
   | j+1,hj=>
    obtain ⟨q1,q2⟩:=ih j (by simpa using hj)
    refine ⟨?_,?_⟩
    .rw[List.flatMap_cons,List.getElem?_append_right (by simp;omega),show (j+1)*2-[Value.int IntKind.u8 a.1,Value.int IntKind.u8 a.2].length=j*2 by simp;omega];exact q1
    .rw[List.flatMap_cons,List.getElem?_append_right (by simp;omega),show (j+1)*2+1-[Value.int IntKind.u8 a.1,Value.int IntKind.u8 a.2].length=j*2+1 by simp;omega];exact q2
 obtain ⟨q1,q2⟩:=hflat rs j hj;refine ⟨(rs[j]).1,(rs[j]).2,?_,?_,hr _ (List.getElem_mem hj)⟩
 .rw[cell_of_row _ _ _ _ _ _ hg,Nat.zero_add];simpa using q1
 .rw[cell_of_row _ _ _ _ _ _ hg,Nat.zero_add];simpa using q2
def ShPost (b:Nat) (w:World) (e:Ending) (w':World):Prop:=∃g,e = .returned (.slice (some ⟨g,0,none⟩) 6 6)/\KdV b w' (Pat b w' 4 18) 6 (.slice (some ⟨g,0,none⟩) 6 6)/\Below w.heap.size w w'
def TapeArg (A:Option Addr) (n:Nat) (w:World):Prop:=n<=maxLen/\∀j,j<n->∃ad x,A=some ad/\ad.block<w.heap.size/\w.cell? (ad.add j)=some (.int .i64 x)
theorem tape_new {A:Option Addr} {n c:Nat} {w:World} (h:TapeArg A n w):TapeOK w.heap.size (w.alloc (.cells #[.slice A n c, .int .i64 0] 25)):=by
 refine ⟨A,n,c,0,heap_alloc_new w _,Nat.zero_le _,h.1,λj hj=>?_⟩;obtain ⟨ad,x,ha,hlt,hc⟩:=h.2 j hj;exact ⟨ad,x,ha,hlt,(World.cell?_alloc_lt w _ _ (by rw[Reads_block];exact hlt)).trans hc⟩
theorem tapeArg_of {w:World} {a:Option Addr} {len cap:Nat} {zs:List Int}
  (h:(a=none/\len=0/\cap=0/\zs=[])\/∃x,a=some x/\len<=cap/\cap<=maxLen/\zs.length=cap/\(∀i,i<zs.length->w.cell? (x.add i)=some (.int .i64 (zs.getD i 0)))/\∀n∈zs,(Lit.int .i64 n).wf=true):TapeArg a len w:=by
 rcases h with ⟨rfl,rfl,rfl,rfl⟩ | ⟨x,rfl,hl,hm,hz,hc,-⟩
 .exact ⟨Nat.zero_le _,λj hj=>absurd hj (Nat.not_lt_zero _)⟩
 .refine ⟨Nat.le_trans hl hm,λj hj=>⟨x,_,rfl,?_,hc j (by omega)⟩⟩
  have:=World.block_lt_of_cell? w _ (hc j (by omega))
  rwa [Reads_block]at this
end Go.Proofs.YtljgapfmgegifaaGreatDoor
