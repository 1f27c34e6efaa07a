/- Closed facts on the element types of this program's slices. · What the program's table says of edges. · The tape of numbers: what Next returns lies from 0 on and before its bound, whatever the tape holds; nothing but the tape's own block is written. Condition: the bound is positive. · The library comparison of ints. · Patterns in memory, of which a member can be made, with a bound of its bytes; the patterns of kinds. · Walks: the patterns of kinds. -/
import Derived.Test.YtdmoogjddmdmbaaGreatDoorProg
import Derived.Test.YtdmoogjddmdmbaaGreatDoorY02
import Derived.Test.YtdmoogjddmdmbaaGreatDoorY01
namespace Go.Proofs.YtdmoogjddmdmbaaGreatDoor
set_option linter.unusedVariables false
set_option linter.unusedSimpArgs false
set_option maxRecDepth 100000
theorem info_u8:(Tryz.prog.info? 5).map (λi=>(i.zero,i.size,i.bytes))=some (some (.int .u8 0),1,1):=by kernel_rfl
theorem info_int:(Tryz.prog.info? 3).map (λi=>(i.zero,i.size,i.bytes))=some (some (.int .i64 0),1,8):=by kernel_rfl
theorem nat16 {n:Nat} (h:n<16):n=0\/n=1\/n=2\/n=3\/n=4\/n=5\/n=6\/n=7\/n=8\/n=9\/n=10\/n=11\/n=12\/n=13\/n=14\/n=15:=by omega
theorem hex_at {n:Nat} (h:n<16):(⟨#[48,49,50,51,52,53,54,55,56,57,97,98,99,100,101,102]⟩:ByteArray)[n]'(by exact h)=hexd n:=by
 rcases nat16 h with h | h | h | h | h | h | h | h | h | h | h | h | h | h | h | h <;> (subst h; rfl)
theorem idx_hex (k:IntKind) (y:Int) (h0:0<=y) (h1:y<16) (w:World):(Instr.index 9 (.string ⟨#[48,49,50,51,52,53,54,55,56,57,97,98,99,100,101,102]⟩) (.int k y)).run Tryz.prog w = .ok (.int .u8 (hexd y).toNat) w:=by
 obtain ⟨n,rfl⟩:=Int.eq_ofNat_of_zero_le h0;have hn:n<16:=by omega
 have h:=run_idx_str (P:=Tryz.prog) Tryz.underlying9 (⟨#[48,49,50,51,52,53,54,55,56,57,97,98,99,100,101,102]⟩:ByteArray) n hn k (n:Int) rfl w;rw[hex_at hn]at h;exact h
end Go.Proofs.YtdmoogjddmdmbaaGreatDoor
namespace Go.Proofs.YtdmoogjddmdmbaaGreatDoor
set_option linter.unusedVariables false
set_option linter.unusedSimpArgs false
set_option maxRecDepth 100000
open Go.RowKit
theorem info_ed:(Tryz.prog.info? 195).map (λi=>(i.zero,i.size,i.bytes))=some (some (.agg #[.int .u8 0, .int .u8 0, .int .i64 0]),3,16):=by kernel_rfl
def TapeOK (b:Nat) (w:World):Prop:=∃(a:Option Addr) (n c k:Nat),w.heap[b]?=some (.cells #[.slice a n c, .int .i64 (k:Int)] 25 (0,0))/\k<=n/\n<=maxLen/\
 ∀j,j<n->∃ad x,a=some ad/\ad.block<b/\w.cell? (ad.add j)=some (.int .i64 x)
def Fr (b:Nat) (w w':World):Prop:=w.grownBy w' (some b)
def NextPost (b:Nat) (n:Int) (w:World) (e:Ending) (w':World):Prop:=∃r:Int,e = .returned (.int .i64 r)/\0<=r/\r<n/\TapeOK b w'/\Fr b w w'
def BytesPost (b:Nat) (n:Nat) (w:World) (e:Ending) (w':World):Prop:=∃(v:Value) (l:List UInt8),e = .returned v/\l.length=n/\OB 5 w.heap.size v l w'/\TapeOK b w'/\Fr b w w'
def cmpI (a b:Int):Int:=if a<b then -1 else if b<a then 1 else 0
theorem nan_any (a:Int) (w:World):Calls Tryz.prog 107 #[.int .i64 a] w λe w'=>e = .returned (.bool false)/\w=w':=by
 go_enter Tryz.func107,Tryz.ntmps107
 go_wp2
 go_ret;exact ⟨rfl,rfl⟩
theorem cmp_any (a b:Int) (w:World):Calls Tryz.prog 80 #[.int .i64 a, .int .i64 b] w λe w'=>e = .returned (.int .i64 (cmpI a b))/\w=w':=by
 unfold cmpI;by_cases h1:a<b
 .rw[if_pos h1]
  go_enter Tryz.func80,Tryz.ntmps80
  go_wp2_with (go_at_call 107;refine (nan_any _ _).mono ?_;rintro e w1 ⟨rfl,rfl⟩);go_ret;exact ⟨rfl,rfl⟩
 .rw[if_neg h1];by_cases h2:b<a
  .rw[if_pos h2]
   go_enter Tryz.func80,Tryz.ntmps80
   go_wp2_with (go_at_call 107;refine (nan_any _ _).mono ?_;rintro e w1 ⟨rfl,rfl⟩);go_ret;exact ⟨rfl,rfl⟩
  .rw[if_neg h2]
   go_enter Tryz.func80,Tryz.ntmps80
   go_wp2_with (go_at_call 107;refine (nan_any _ _).mono ?_;rintro e w1 ⟨rfl,rfl⟩);go_ret;exact ⟨rfl,rfl⟩
def RgV (b:Nat) (w:World) (v:Value):Prop:=∃g f n c,v = .slice (some ⟨g,f,none⟩) n c/\1<=n/\n<=1000/\b<g/\g<w.heap.size/\
 ∀j<n,∃lo hi:Int,w.cell? ⟨g,f+j*2,none⟩=some (.int .u8 lo)/\w.cell? ⟨g,f+j*2+1,none⟩=some (.int .u8 hi)/\0<=lo/\lo<=hi/\hi<256
def KdV (b:Nat) (w:World) (G:List Value->Prop) (n:Nat) (v:Value):Prop:=∃g f c,v = .slice (some ⟨g,f,none⟩) n c/\b<g/\g<w.heap.size/\n<=1000/\
 ∀j<n,∃u0 u1 u2 u3 u4,w.cell? ⟨g,f+j*5,none⟩=some u0/\w.cell? ⟨g,f+j*5+1,none⟩=some u1/\w.cell? ⟨g,f+j*5+2,none⟩=some u2/\w.cell? ⟨g,f+j*5+3,none⟩=some u3/\w.cell? ⟨g,f+j*5+4,none⟩=some u4/\G [u0,u1,u2,u3,u4]
def Sl (v:Value):Prop:=∃A n c,v = .slice A n c
theorem Sl.of (A:Option Addr) (n c:Nat):Sl (.slice A n c):=⟨A,n,c,rfl⟩
def Pat (b:Nat) (w:World):Nat->Nat->List Value->Prop
 | 0,_,_=>False
 | d+1,m,vs=>∃v1 v2 mn mx,(Sl v1/\Sl v2)/\((vs=[.int .i64 1,v1,v2, .int .i64 mn, .int .i64 mx]/\RgV b w v1/\1<=m)\/
   (vs=[.int .i64 2,v1,v2, .int .i64 mn, .int .i64 mx]/\∃n m',KdV b w (Pat b w d m') n v2/\n*m'<=m)\/
   (vs=[.int .i64 3,v1,v2, .int .i64 mn, .int .i64 mx]/\∃n,KdV b w (Pat b w d m) n v2/\1<=n)\/
   (vs=[.int .i64 4,v1,v2, .int .i64 mn, .int .i64 mx]/\∃n m',KdV b w (Pat b w d m') n v2/\1<=n/\0<=mn/\mn<=mx/\(1<=mx/\mx<=1000)/\mx.toNat*m'<=m))
def Stay (b:Nat) (w w':World):Prop:=w.heap.size<=w'.heap.size/\∀k,b<k->k<w.heap.size->w'.heap[k]?=w.heap[k]?
theorem Stay.refl (b:Nat) (w:World):Stay b w w:=⟨Nat.le_refl _,λ_ _ _=>rfl⟩
theorem Stay.trans {b:Nat} {w w1 w2:World} (h:Stay b w w1) (h':Stay b w1 w2):Stay b w w2:=⟨Nat.le_trans h.1 h'.1,λk hk hlt=>(h'.2 k hk (Nat.lt_of_lt_of_le hlt h.1)).trans (h.2 k hk hlt)⟩
theorem Stay.of_below {b:Nat} {w w':World} (h:Below w.heap.size w w'):Stay b w w':=⟨h.size,λk _ hlt=>h.block k hlt⟩
theorem Stay.cell {b:Nat} {w w':World} (h:Stay b w w') {g j:Nat} (hg:b<g) (hlt:g<w.heap.size):w'.cell? ⟨g,j,none⟩=w.cell? ⟨g,j,none⟩:=World.cell?_of_block (a:=⟨g,j,none⟩) (h.2 g hg hlt)
theorem RgV.later {b:Nat} {w w':World} {v:Value} (h:RgV b w v) (hs:Stay b w w'):RgV b w' v:=by
 obtain ⟨g,f,n,c,rfl,h1,h2,h3,h4,h5⟩:=h;refine ⟨g,f,n,c,rfl,h1,h2,h3,Nat.lt_of_lt_of_le h4 hs.1,λj hj=>?_⟩;obtain ⟨lo,hi,q1,q2,r⟩:=h5 j hj;exact ⟨lo,hi,(hs.cell h3 h4).trans q1,(hs.cell h3 h4).trans q2,r⟩
theorem KdV.later {b:Nat} {w w':World} {G G':List Value->Prop} {n:Nat} {v:Value} (h:KdV b w G n v) (hs:Stay b w w') (hG:∀us,G us->G' us):KdV b w' G' n v:=by
 obtain ⟨g,f,c,rfl,h3,h4,h2,h5⟩:=h;refine ⟨g,f,c,rfl,h3,Nat.lt_of_lt_of_le h4 hs.1,h2,λj hj=>?_⟩;obtain ⟨u0,u1,u2,u3,u4,q0,q1,q2,q3,q4,hg⟩:=h5 j hj;exact ⟨u0,u1,u2,u3,u4,(hs.cell h3 h4).trans q0,(hs.cell h3 h4).trans q1,(hs.cell h3 h4).trans q2,(hs.cell h3 h4).trans q3,(hs.cell h3 h4).trans q4,hG _ hg⟩
theorem Pat.later {b:Nat} {w w':World} (hs:Stay b w w'):∀{d m:Nat} {vs:List Value},Pat b w d m vs->Pat b w' d m vs
 | 0,_,_,h=>h
 | d+1,m,vs,⟨v1,v2,mn,mx,hsl,h⟩=>by
  refine ⟨v1,v2,mn,mx,hsl,?_⟩;rcases h with ⟨h1,h2,h3⟩ | ⟨h1,n,m',h2,h3⟩ | ⟨h1,n,h2,h3⟩ | ⟨h1,n,m',h2,h3⟩
  .exact .inl ⟨h1,h2.later hs,h3⟩
  .exact .inr (.inl ⟨h1,n,m',h2.later hs (λus=>Pat.later hs),h3⟩)
  .exact .inr (.inr (.inl ⟨h1,n,h2.later hs (λus=>Pat.later hs),h3⟩))
  .exact .inr (.inr (.inr ⟨h1,n,m',h2.later hs (λus=>Pat.later hs),h3⟩))
def NodePost (b d m:Nat) (w:World) (e:Ending) (w':World):Prop:=∃A B n n' c c' o mn mx,e = .returned (.agg #[.int .i64 o, .slice A n c, .slice B n' c', .int .i64 mn, .int .i64 mx])/\Pat b w' d m [.int .i64 o, .slice A n c, .slice B n' c', .int .i64 mn, .int .i64 mx]/\Below w.heap.size w w'
theorem Pat.mono {b:Nat} {w:World}:∀{d d' m m':Nat} {vs:List Value},d<=d'->m<=m'->Pat b w d m vs->Pat b w d' m' vs
 | 0,_,_,_,_,_,_,h=>h.elim
 | d+1,0,_,_,_,hd,_,_=>by omega
 | d+1,d'+1,m,m',vs,hd,hm,⟨v1,v2,mn,mx,hsl,h⟩=>by
  refine ⟨v1,v2,mn,mx,hsl,?_⟩;rcases h with ⟨h1,h2,h3⟩ | ⟨h1,n,k,h2,h3⟩ | ⟨h1,n,h2,h3⟩ | ⟨h1,n,k,h2,h3,h4,h5,h6,h7⟩
  .exact .inl ⟨h1,h2,by omega⟩
  .exact .inr (.inl ⟨h1,n,k,h2.later (Stay.refl _ _) (λus=>Pat.mono (by omega) (Nat.le_refl _)),by omega⟩)
  .exact .inr (.inr (.inl ⟨h1,n,h2.later (Stay.refl _ _) (λus=>Pat.mono (by omega) hm),h3⟩))
  .exact .inr (.inr (.inr ⟨h1,n,k,h2.later (Stay.refl _ _) (λus=>Pat.mono (by omega) (Nat.le_refl _)),h3,h4,h5,h6,by omega⟩))
theorem KdV.new {b:Nat} {w:World} {G:List Value->Prop} {us:List (List Value)} {cs:Array Value} {e:TypeId} {n c:Nat} (hb:b<w.heap.size) (hcs:cs=us.flatten.toArray) (h5:∀u∈us,u.length=5) (hG:∀u∈us,G u) (hn:n=us.length) (hn2:n<=1000) :
  KdV b (w.alloc (.cells cs e)) G n (.slice (some ⟨w.heap.size,0,none⟩) n c):=by
 subst hn hcs;refine ⟨w.heap.size,0,c,rfl,hb,by simp,hn2,λj hj=>?_⟩
 have hflat:∀(us:List (List Value)),(∀u∈us,u.length=5)->∀j (hj:j<us.length) i,i<5->us.flatten[j*5+i]?=(us[j])[i]?:=by
  intro us
  induction us with
  | nil=>intro _ j hj;simp at hj
  | cons a r ih=>
   intro h j hj i hi;have ha:=h a (by simp)
   match j,hj with
   | 0,_=>rw[List.flatten_cons,List.getElem?_append_left (by omega)];simp
   | j+1,hj=>
    rw[List.flatten_cons,List.getElem?_append_right (by omega),show (j+1)*5+i-a.length=j*5+i by omega,ih (λu hu=>h u (by simp[hu])) j (by simpa using hj) i hi]
    rfl
 have h:=hflat us h5 j hj;have hu5:=h5 us[j] (List.getElem_mem hj);have hg:=hG us[j] (List.getElem_mem hj);generalize us[j]=u at *
 match u,hu5 with
 | [u0,u1,u2,u3,u4],_=>
  refine ⟨u0,u1,u2,u3,u4,?_,?_,?_,?_,?_,hg⟩
  .have:=h 0 (by omega);rw[World.cell?_alloc_mark];simpa using this
  .have:=h 1 (by omega);rw[World.cell?_alloc_mark,Nat.zero_add];simpa using this
  .have:=h 2 (by omega);rw[World.cell?_alloc_mark,Nat.zero_add];simpa using this
  .have:=h 3 (by omega);rw[World.cell?_alloc_mark,Nat.zero_add];simpa using this
  .have:=h 4 (by omega);rw[World.cell?_alloc_mark,Nat.zero_add];simpa using this
theorem RgV.new {b:Nat} {w w':World} {g n c:Nat} {rs:List (Int×Int)} {e:TypeId} (hg:w'.heap[g]?=some (.cells (rs.flatMap λp=>[Value.int .u8 p.1,Value.int .u8 p.2]).toArray e (0,0))) (hb:b<g) (hn:n=rs.length) (h1:1<=n) (h2:n<=1000) (hr:∀p∈rs,0<=p.1/\p.1<=p.2/\p.2<256):RgV b w' (.slice (some ⟨g,0,none⟩) n c):=by
 subst hn;refine ⟨g,0,_,c,rfl,h1,h2,hb,(Array.getElem?_eq_some_iff.1 hg).1,λj hj=>?_⟩;have hflat:∀(rs:List (Int×Int)) j (hj:j<rs.length),(rs.flatMap λp=>[Value.int .u8 p.1,Value.int .u8 p.2])[j*2]?=some (.int .u8 (rs[j]).1)/\(rs.flatMap λp=>[Value.int .u8 p.1,Value.int .u8 p.2])[j*2+1]?=some (.int .u8 (rs[j]).2):=by
  intro rs
  induction rs with
  | nil=>intro j hj;simp at hj
  | cons a r ih=>
   intro j hj
   match j,hj with
   | 0,_=>exact ⟨rfl,rfl⟩
   | j+1,hj=>
    obtain ⟨q1,q2⟩:=ih j (by simpa using hj)
    refine ⟨?_,?_⟩
    .rw[List.flatMap_cons,List.getElem?_append_right (by simp;omega),show (j+1)*2-[Value.int IntKind.u8 a.1,Value.int IntKind.u8 a.2].length=j*2 by simp;omega];exact q1
    .rw[List.flatMap_cons,List.getElem?_append_right (by simp;omega),show (j+1)*2+1-[Value.int IntKind.u8 a.1,Value.int IntKind.u8 a.2].length=j*2+1 by simp;omega];exact q2
 obtain ⟨q1,q2⟩:=hflat rs j hj;refine ⟨(rs[j]).1,(rs[j]).2,?_,?_,hr _ (List.getElem_mem hj)⟩
 .rw[cell_of_row _ _ _ _ _ _ hg,Nat.zero_add];simpa using q1
 .rw[cell_of_row _ _ _ _ _ _ hg,Nat.zero_add];simpa using q2
def ShPost (b:Nat) (w:World) (e:Ending) (w':World):Prop:=∃g,e = .returned (.slice (some ⟨g,0,none⟩) 6 6)/\KdV b w' (Pat b w' 4 18) 6 (.slice (some ⟨g,0,none⟩) 6 6)/\Below w.heap.size w w'
end Go.Proofs.YtdmoogjddmdmbaaGreatDoor
