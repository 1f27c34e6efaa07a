/- What the joined texts lack. -/
import Derived.Test.YtoaibhacognbjaaGreatDoorY02
import Derived.Test.YtoaibhacognbjaaGreatDoorY01
import Derived.Test.YtoaibhacognbjaaGreatDoorY18
import Derived.Test.YtoaibhacognbjaaGreatDoorY04
import Derived.Test.YtoaibhacognbjaaGreatDoorY11
import Derived.Test.YtoaibhacognbjaaGreatDoorY16
import Derived.Test.YtoaibhacognbjaaGreatDoorY14
import Derived.Test.YtoaibhacognbjaaGreatDoorY12
import Derived.Test.YtoaibhacognbjaaGreatDoorY10
import Derived.Test.YtoaibhacognbjaaGreatDoorY08
import Derived.Test.YtoaibhacognbjaaGreatDoorY07
import Derived.Test.YtoaibhacognbjaaGreatDoorY06
import Derived.Test.YtoaibhacognbjaaGreatDoorY05
import Derived.Test.YtoaibhacognbjaaGreatDoorY09
import Derived.Test.YtoaibhacognbjaaGreatDoorY13
import Derived.Test.YtoaibhacognbjaaGreatDoorY15
import Derived.Test.YtoaibhacognbjaaGreatDoorY24
import Derived.Test.YtoaibhacognbjaaGreatDoorY25
import Derived.Test.YtoaibhacognbjaaGreatDoorY27
import Derived.Test.YtoaibhacognbjaaGreatDoorY21
import Derived.Test.YtoaibhacognbjaaGreatDoorY26
import Derived.Test.YtoaibhacognbjaaGreatDoorY19
import Derived.Test.YtoaibhacognbjaaGreatDoorY31
import Derived.Test.YtoaibhacognbjaaGreatDoorY03
import Derived.Test.YtoaibhacognbjaaGreatDoorY30
import Derived.Test.YtoaibhacognbjaaGreatDoorY28
import Derived.Test.YtoaibhacognbjaaGreatDoorY23
import Derived.Test.YtoaibhacognbjaaGreatDoorY22
import Derived.Test.YtoaibhacognbjaaGreatDoorY20
import Derived.Test.YtoaibhacognbjaaGreatDoorY17
import Derived.Test.YtoaibhacognbjaaGreatDoorY29
import Derived.Test.YtoaibhacognbjaaGreatDoorY40
import Derived.Test.YtoaibhacognbjaaGreatDoorY44
import Derived.Test.YtoaibhacognbjaaGreatDoorY43
import Derived.Test.YtoaibhacognbjaaGreatDoorY42
import Derived.Test.YtoaibhacognbjaaGreatDoorY33
namespace Go.Proofs.YtoaibhacognbjaaGreatDoor
set_option linter.unusedVariables false
set_option linter.unusedSimpArgs false
set_option maxRecDepth 100000
open Go.RowKit
theorem RB.keep {e:TypeId} {g:Nat} {l:List UInt8} {w w1:World} (h:RB e g l w) (hk:w1.heap[g]?=w.heap[g]?):RB e g l w1:=by
 obtain ⟨cs,lo,hi,hg,r⟩:=h;exact ⟨cs,lo,hi,hk.trans hg,r⟩
theorem RB.lt {e:TypeId} {g:Nat} {l:List UInt8} {w:World} (h:RB e g l w):g<w.heap.size:=by
 obtain ⟨cs,lo,hi,hg,-⟩:=h;exact (Array.getElem?_eq_some_iff.1 hg).1
end Go.Proofs.YtoaibhacognbjaaGreatDoor
namespace Go.Proofs.YtoaibhacognbjaaGreatDoor
set_option linter.unusedVariables false
set_option linter.unusedSimpArgs false
set_option maxRecDepth 100000
open Go.RowKit
theorem VrOK.fr {w w':World} {b:Nat} (h:VrOK w) (hf:Fr b w w') (hb:nG≤b):VrOK w':=h.of_low hf.size fun k hk=>hf.block k (Nat.lt_of_lt_of_le hk h.low) (by intro e;injection e;omega)
end Go.Proofs.YtoaibhacognbjaaGreatDoor
namespace Go.Proofs.YtoaibhacognbjaaGreatDoor
set_option linter.unusedVariables false
set_option linter.unusedSimpArgs false
set_option maxRecDepth 100000
open Go
theorem StepsI.nil {P:Program} {ops:Array Oper} {Q:Exit→Act→World→Prop} {Inv:(Nat→Bool)→Act→World→Prop} {i:Nat}:StepsI P ops Q Inv i []:=fun k o h=>by simp at h
end Go.Proofs.YtoaibhacognbjaaGreatDoor
namespace Go.Proofs.YtoaibhacognbjaaGreatDoor
set_option linter.unusedVariables false
set_option linter.unusedSimpArgs false
set_option maxRecDepth 100000
open Go.RowKit
open Go.Maps (Keyed)
theorem MV.mono {P:Program} {k:TypeId} {b n n':Nat} {f:Lit→Option Value} {w:World} (h:MV P k b n f w) (hn:n≤n'):MV P k b n' f w:=by
 obtain ⟨D,h1,h2⟩:=h;exact ⟨D,h1.mono hn,h2⟩
theorem MV.drop {P:Program} {k e t:TypeId} {b n:Nat} {f:Lit→Option Value} {w:World} (h:MV P k b n f w) (K:Keyed P k) (ht:P.underlying t=some (.map k e)) {key:Value} {x:Lit} (hkey:keyOf P k key=some x) (hx:WideAt.IsKeyLit x) (ty:TypeId) :
  ∃w',(Builtin.delete_ #[t,k] ty #[.map (some b),key]).run P w = .ok (.tuple #[]) w'∧MV P k b n (updV f x none) w'∧w.grownBy w' (some b):=by
 obtain ⟨D,h1,h2⟩:=h;obtain ⟨w',hr,h3,h4⟩:=h1.drop K ht hkey ty;refine ⟨w',hr,⟨_,h3,fun y hy=>?_⟩,h4.grown⟩;unfold updV;by_cases e:y=x
 ·subst e;rw[if_pos (WideAt.sameKey_self hx)];exact ⟨fun z=>Maps.atKey_del_same _,Maps.has_del_same⟩
 ·rw[if_neg (fun h=>e (WideAt.sameKey_eq h))];exact ⟨fun z=>by rw[Maps.atKey_del_other e];exact (h2 y hy).1 z,by rw[Maps.has_del_other e];exact (h2 y hy).2⟩
end Go.Proofs.YtoaibhacognbjaaGreatDoor
namespace Go.Proofs.YtoaibhacognbjaaGreatDoor
set_option linter.unusedVariables false
set_option linter.unusedSimpArgs false
set_option maxRecDepth 100000
open Go.RowKit
theorem SL.later {w w':World} {v:Value} {l:List Nat} (h:SL w v l) (hb:Below w.heap.size w w'):SL w' v l:=h.keep (fp:=[]) (fp':=[]) (outOf_nil v) (KeepF.of_below hb)
end Go.Proofs.YtoaibhacognbjaaGreatDoor
namespace Go.Proofs.YtoaibhacognbjaaGreatDoor
set_option linter.unusedVariables false
set_option linter.unusedSimpArgs false
set_option maxRecDepth 100000
open Go.RowKit
open Go.Maps (Keyed)
theorem MN.len {P:Program} {k e t:TypeId} {b n:Nat} {f:Lit→Option Value} {w:World} (h:MN P k b n f w) (ht:P.underlying t=some (.map k e)) (ty:TypeId):(Builtin.len_ #[t] ty #[.map (some b)]).run P w = .ok (.int .i64 (n:Int)) w:=by
 obtain ⟨D,h1,h2,-⟩:=h;rw[←h2];exact h1.len ht ty
section
variable {m:Mc} {cs ds:List (Option Nat)} {seen:List (Bool×List Ed)} {k:Nat}
end
end Go.Proofs.YtoaibhacognbjaaGreatDoor
namespace Go.Proofs.YtoaibhacognbjaaGreatDoor
set_option linter.unusedVariables false
set_option linter.unusedSimpArgs false
set_option maxRecDepth 100000
open Go.RowKit
theorem StIn.nil_ (w:World):StIn w (.slice none 0 0) []:=⟨none,0,rfl,⟨by simp,by simp⟩, .inl rfl⟩
theorem KnsIn.later {w w':World} {v:Value} {us:List KC} {ks:List Kn} (h:KnsIn w v us ks) (hb:Below w.heap.size w w'):KnsIn w' v us ks:=by
 obtain ⟨hl,A,c,e,hc,h,hk⟩:=h;refine ⟨hl,A,c,e,hc,h.imp id ?_,fun i h1 h2=>(hk i h1 h2).later hb⟩;rintro ⟨g,f,h1,hg,hcell⟩;exact ⟨g,f,h1,Nat.lt_of_lt_of_le hg hb.size,fun i hi j hj=>(hb.cell (p:=⟨g,f+i*11+j,none⟩) hg).trans (hcell i hi j hj)⟩
end Go.Proofs.YtoaibhacognbjaaGreatDoor
namespace Go.Proofs.YtoaibhacognbjaaGreatDoor
set_option linter.unusedVariables false
set_option linter.unusedSimpArgs false
set_option maxRecDepth 100000
section
variable {m:Mc} {wh:Bool} {c:Nat} (hc:∀w,acF m w 0=true→c∉w) (hs:sgN c=false) (a b:List Nat)
include hc hs
end
theorem chA_whole {m:Mc} {wh:Bool} {tok:List Nat} (h1:acF m tok 0=true) (h2:tok≠[]):chA m wh tok=[(0,tok.length)]:=by
 have hp:0<tok.length:=List.length_pos_iff.2 h2;have hch:chF m wh tok 0=some tok.length:=by
  refine (chF_is m wh tok 0 tok.length (Nat.zero_le _)).2 ⟨⟨hp,Nat.le_refl _,?_,?_⟩,fun x hx=>hx.2.1⟩
  ·rw[List.drop_zero,Nat.sub_zero,List.take_length];exact h1
  ·unfold clrF;simp
 unfold chA;obtain ⟨n,hn⟩:∃n,tok.length=n+1:=⟨tok.length - 1,by omega⟩
 rw[hn,chsF,if_pos (by omega),hch]
 show (0,tok.length)::_=_;rw[hn]
 congr 1
 cases n with
 | zero=>rfl
 | succ n=>rw[chsF,if_neg (by omega)]
end Go.Proofs.YtoaibhacognbjaaGreatDoor
namespace Go.Proofs.YtoaibhacognbjaaGreatDoor
set_option linter.unusedVariables false
set_option linter.unusedSimpArgs false
set_option maxRecDepth 100000
open Go.RowKit
theorem Bx.later {w wr w':World} {a b c d:Value} (h:Bx w a b c d wr) (hb:Below wr.heap.size wr w'):Bx w a b c d w':=
 ⟨h.bel.trans (hb.mono h.bel.size),Nat.le_trans h.siz hb.size,(hb.block _ (by have:=h.siz;omega)).trans h.r0,(hb.block _ (by have:=h.siz;omega)).trans h.r1⟩
theorem Bx.cells {w wr:World} {a b c d:Value} (h:Bx w a b c d wr):wr.cell? ⟨w.heap.size,0,none⟩=some a∧wr.cell? ⟨w.heap.size,1,none⟩=some b∧wr.cell? ⟨w.heap.size+1,0,none⟩=some c∧wr.cell? ⟨w.heap.size+1,1,none⟩=some d∧w.heap.size<wr.heap.size∧w.heap.size+1<wr.heap.size:=by
 have h1:=h.siz;refine ⟨?_,?_,?_,?_,by omega,by omega⟩
 ·rw[cell_of_row _ _ _ _ _ _ h.r0];rfl
 ·rw[cell_of_row _ _ _ _ _ _ h.r0];rfl
 ·rw[cell_of_row _ _ _ _ _ _ h.r1];rfl
 ·rw[cell_of_row _ _ _ _ _ _ h.r1];rfl
end Go.Proofs.YtoaibhacognbjaaGreatDoor
namespace Go.Proofs.YtoaibhacognbjaaGreatDoor
set_option linter.unusedVariables false
set_option linter.unusedSimpArgs false
set_option maxRecDepth 100000
open Go.RowKit
theorem FnsIn.later {w w':World} {v:Value} {fs:List (KC×M2)} {ms:List Mc} (h:FnsIn w v fs ms) (hb:Below w.heap.size w w'):FnsIn w' v fs ms:=by
 obtain ⟨hl,A,c,e,hc,h,hm⟩:=h;refine ⟨hl,A,c,e,hc,h.imp id ?_,fun i h1 h2=>(hm i h1 h2).later hb⟩;rintro ⟨g,f,h1,hg,hcell⟩;exact ⟨g,f,h1,Nat.lt_of_lt_of_le hg hb.size,fun i hi j hj=>(hb.cell (p:=⟨g,f+i*13+j,none⟩) hg).trans (hcell i hi j hj)⟩
end Go.Proofs.YtoaibhacognbjaaGreatDoor
namespace Go.Proofs.YtoaibhacognbjaaGreatDoor
set_option linter.unusedVariables false
set_option linter.unusedSimpArgs false
set_option maxRecDepth 100000
open Go.RowKit
theorem MtIn.later {w w':World} {v:Value} {l:List Mt} (h:MtIn w v l) (hb:Below w.heap.size w w'):MtIn w' v l:=by
 obtain ⟨A,c,e,hc,h⟩:=h;refine ⟨A,c,e,hc,h.imp id ?_⟩;rintro ⟨g,f,h1,hg,hcell⟩;exact ⟨g,f,h1,Nat.lt_of_lt_of_le hg hb.size,fun i hi j hj=>(hb.cell (p:=⟨g,f+i*3+j,none⟩) hg).trans (hcell i hi j hj)⟩
end Go.Proofs.YtoaibhacognbjaaGreatDoor
namespace Go.Proofs.YtoaibhacognbjaaGreatDoor
set_option linter.unusedVariables false
set_option linter.unusedSimpArgs false
set_option maxRecDepth 100000
open Go.RowKit
theorem KR.cells {w:World} {K:Nat} {e:TypeId} {u:KC} (h:w.heap[K]?=some (.cells u.cs.toArray e (0,0))) :
  (w.cell? ⟨K,0,none⟩=some (.string u.nm)∧w.cell? ⟨K,1,none⟩=some (.int .i64 u.op)∧w.cell? ⟨K,2,none⟩=some (.slice u.a1 u.n1 u.c1)∧w.cell? ⟨K,3,none⟩=some (.slice u.a2 u.n2 u.c2)∧w.cell? ⟨K,4,none⟩=some (.int .i64 u.mn)∧w.cell? ⟨K,5,none⟩=some (.int .i64 u.mx)∧w.cell? ⟨K,6,none⟩=some (.bool u.wh)∧w.cell? ⟨K,7,none⟩=some (.int .i64 u.ck)∧w.cell? ⟨K,8,none⟩=some (.int .i64 u.en)∧w.cell? ⟨K,9,none⟩=some (.slice u.a3 u.n3 u.c3)∧w.cell? ⟨K,10,none⟩=some (.int .i64 u.nr))∧∀j,w.frozen? ⟨K,j,none⟩=false:=by
 refine ⟨⟨?_,?_,?_,?_,?_,?_,?_,?_,?_,?_,?_⟩,fun j=>by simp[World.frozen?,h]⟩ <;> (rw[cell_of_row _ _ _ _ _ _ h]; rfl)
end Go.Proofs.YtoaibhacognbjaaGreatDoor
namespace Go.Proofs.YtoaibhacognbjaaGreatDoor
set_option linter.unusedVariables false
set_option linter.unusedSimpArgs false
set_option maxRecDepth 100000
open Go.RowKit
theorem MbN.mono {b m m':Nat} {nd:Nd} {w:World} {e:Ending} {w':World} (h:MbN b m nd w e w') (hm:m≤m'):MbN b m' nd w e w':=by
 obtain ⟨v,l,h1,h2,r⟩:=h;exact ⟨v,l,h1,Nat.le_trans h2 hm,r⟩
theorem inR_mem {rs:List (Nat×Nat)} {r:Nat×Nat} {c:Nat} (h:r∈rs) (h1:r.1≤c) (h2:c≤r.2):inR rs c=true:=by
 unfold inR;exact List.any_eq_true.2 ⟨r,h,by simp[h1,h2]⟩
theorem setN_in {b:Nat} {w:World} {g f n c:Nat} {rs:List (Nat×Nat)} {lo hi:Int} (hs:RgS b w (.slice (some ⟨g,f,none⟩) n c) rs) (j:Nat) (hj:j<n) (h1:w.cell? ⟨g,f+j*2,none⟩=some (.int .u8 lo)) (h2:w.cell? ⟨g,f+j*2+1,none⟩=some (.int .u8 hi)) (x:Int) (h3:lo≤x) (h4:x≤hi):inR rs x.toNat=true:=by
 obtain ⟨A,c',e,hc,hor⟩:=hs w (Stay.refl b w);injection e with e1 e2 e3;rcases hor with h | ⟨g',f',rfl,hg,hcl⟩
 ·rw[h]at e2;simp at e2;omega
 ·injection e1 with e1;injection e1 with e1 e4 _;subst e1 e4;have hj2:j<rs.length:=by omega
  obtain ⟨⟨q1,q2⟩,-⟩:=hcl j hj2;rw[q1]at h1;rw[q2]at h2;injection h1 with h1;injection h1 with _ h1;injection h2 with h2;injection h2 with _ h2;exact inR_mem (List.getElem_mem hj2) (by omega) (by omega)
theorem KdsS.get {b:Nat} {w:World} {kids:List Nd} {g f n c:Nat} (h:KdsS b w kids (.slice (some ⟨g,f,none⟩) n c)):n=kids.length∧∀W,Stay b w W→KdsIn W kids g f:=by
 obtain ⟨g',f',n',c',e,h1,h2⟩:=h;injection e with e1 e2 e3;injection e1 with e1;injection e1 with e1 e4 _;subst e1 e4;exact ⟨e2.trans h1,h2⟩
theorem langN_set {rs:List (Nat×Nat)} {kids:List Nd} {mn mx:Int} {x:Nat} (hx:x<256) (h:inR rs x=true):langN (.mk 1 rs kids mn mx) ([UInt8.ofNat x].map UInt8.toNat):=by
 rw[langN]
 change (if (1:Int)=1 then _ else _)
 rw[if_pos rfl];exact ⟨x,by simp only[List.map_cons,List.map_nil,UInt8.toNat_ofNat'];congr 1;omega,h⟩
theorem langN_rep {rs:List (Nat×Nat)} {kids:List Nd} {mn mx:Int} (h0:0<kids.length) (j:Nat) (h1:mn≤(j:Int)) (h2:(j:Int)≤mx) {w:List Nat} (h:powL (langN kids[0]) (j - 0) w):langN (.mk 4 rs kids mn mx) w:=by
 rw[langN]
 change (if (4:Int)=1 then _ else (if (4:Int)=2 then _ else (if (4:Int)=3 then _ else _)))
 rw[if_neg (by decide),if_neg (by decide),if_neg (by decide)]
 refine ⟨j,h1,h2,?_⟩
 cases kids with
 | nil=>cases h0
 | cons a r=>exact h
theorem langC_at:∀{kids:List Nd} {j:Nat} (h:j<kids.length) {w:List Nat},langN kids[j] w→langC kids w
 | a::r,0,_,w,h=>.inl h
 | a::r,j+1,hj,w,h=>.inr (langC_at (kids:=r) (j:=j) (by simpa using hj) h)
theorem langN_cho {rs:List (Nat×Nat)} {kids:List Nd} {mn mx:Int} {j:Nat} (hj:j<kids.length) {w:List Nat} (h:langN kids[j] w):langN (.mk 3 rs kids mn mx) w:=by
 rw[langN]
 change (if (3:Int)=1 then _ else (if (3:Int)=2 then _ else (if (3:Int)=3 then _ else _)))
 rw[if_neg (by decide),if_neg (by decide),if_pos rfl]
 exact langC_at hj h
set_option maxHeartbeats 4000000 in
theorem memberN_set (b m:Nat) (rs:List (Nat×Nat)) (kids:List Nd) (A B:Option Addr) (n c n' c':Nat) (mn mx:Int) (w:World) (hr:RgV b w (.slice A n c)) (hs:RgS b w (.slice A n c) rs) (hm:1≤m) (ht:TapeOK b w) :
  Calls Tryz.prog 28 #[.pointer (some ⟨b,0,none⟩), .agg #[.int .i64 1, .slice A n c, .slice B n' c', .int .i64 mn, .int .i64 mx]] w (MbN b m (.mk 1 rs kids mn mx) w):=by
 obtain ⟨g,f,n0,c0,hv,h1,h2,hbg,hgl,hcs⟩:=hr;injection hv with e1 e2 e3;subst e1 e2 e3;obtain ⟨W1,hW1⟩:∃W,w.alloc (Obj.cells #[Value.int IntKind.i64 1,Value.slice (some ⟨g,f,none⟩) n c,Value.slice B n' c',Value.int IntKind.i64 mn,Value.int IntKind.i64 mx] 29)=W:=⟨_,rfl⟩;have hbel:Below w.heap.size w W1:=by rw[←hW1];exact (Below.refl _ _).alloc (Nat.le_refl _) _
 have hz1:W1.heap.size=w.heap.size+1:=by rw[←hW1];simp
 have m1:W1.cell? ⟨w.heap.size,1,none⟩=some (.slice (some ⟨g,f,none⟩) n c):=by rw[←hW1,World.cell?_alloc_mark];rfl
 have ht1:=ht.below hbel;have hbs:=ht.lt;obtain ⟨LO,HI,hch⟩:∃LO HI:Nat→Int,∀j,j<n→(w.cell? ⟨g,f+j*2,none⟩=some (.int .u8 (LO j))∧w.cell? ⟨g,f+j*2+1,none⟩=some (.int .u8 (HI j))∧0≤LO j∧LO j≤HI j∧HI j<256):=by
  refine ⟨fun j=>if h:j<n then (hcs j h).choose else 0,fun j=>if h:j<n then (hcs j h).choose_spec.choose else 0,fun j hj=>?_⟩;simp only[dif_pos hj];exact (hcs j hj).choose_spec.choose_spec
 have HCS:=Lib.hid (fun (w':World) (hs:Stay b w w')=>show (∀j,j<n→w'.cell? ⟨g,f+j*2,none⟩=some (.int .u8 (LO j)))∧(∀j,j<n→w'.cell? ⟨g,f+j*2+1,none⟩=some (.int .u8 (HI j))) from
  ⟨fun j hj=>(hs.cell hbg hgl).trans (hch j hj).1,fun j hj=>(hs.cell hbg hgl).trans (hch j hj).2.1⟩)
 have HBD:=Lib.hid (fun j hj=>(hch j hj).2.2);have hin:∀j,j<n→∀x:Int,LO j≤x→x≤HI j→inR rs x.toNat=true:=fun j hj x h3 h4=>setN_in hs j hj (hch j hj).1 (hch j hj).2.1 x h3 h4;have HIN:=Lib.hid hin;clear hin hs;clear hch;have HW1:=Lib.hid hW1;have HB:=Lib.hid hbel;clear hcs hW1 hbel ht;have NX:=Lib.hid (fun w' (ht:TapeOK b w')=>next_any2 b (n:Int) w' (by omega) (by omega) ht)
 have HT1:=Lib.hid ht1;have HM1:=Lib.hid (And.intro m1 hz1);clear ht1 m1 hz1
 go_enter Tryz.func28,Tryz.ntmps28
 go_upto_region 4 with fail
 rw[HW1.out];obtain ⟨m1,hz1⟩:=HM1.out;clear HM1 HW1;have HKP:=Lib.hid (fun w' (hf:Fr b W1 w') (ht:TapeOK b w')=>show w'.cell? ⟨w.heap.size,1,none⟩=some (.slice (some ⟨g,f,none⟩) n c)∧TapeOK b w'∧(∀j,j<n→w'.cell? ⟨g,f+j*2,none⟩=some (.int .u8 (LO j)))∧(∀j,j<n→w'.cell? ⟨g,f+j*2+1,none⟩=some (.int .u8 (HI j))) from
  ⟨(World.cell?_of_block (a:=⟨w.heap.size,1,none⟩) (hf.block w.heap.size (by omega) (by intro e;injection e;omega))).trans m1,ht,HCS.out w' ((Stay.of_below HB.out:Stay b w W1).trans (Stay.of_fr hf))⟩)
 have z1:¬w.heap.size=W1.heap.size:=by omega
 have z2:¬W1.heap.size=w.heap.size:=by omega
 have z3:¬b=W1.heap.size:=by omega
 have z7:w.heap.size<W1.heap.size:=by omega
 have z4:g<W1.heap.size:=by omega
 have z5:¬g=W1.heap.size:=by omega
 have z6:¬W1.heap.size=g:=by omega
 have HZ1:=Lib.hid hz1;clear hz1
 go_cut [6] from 13 to 88 (fun p wx=>∃(R:Nat) (lo hi:Int),p = .pointer (some ⟨R,0,none⟩)∧wx.cell? ⟨R,0,none⟩=some (.int .u8 lo)∧wx.cell? ⟨R,1,none⟩=some (.int .u8 hi)∧0≤lo∧lo≤hi∧hi<256∧Hid (∀x:Int,lo≤x→x≤hi→inR rs x.toNat=true)∧TapeOK b wx∧Fr b W1 wx∧R<wx.heap.size∧b<R)
 case first=>
  go_region_with ((go_at_call 12;(first | refine (NX.out _ (HT1.out.below (Below.refl _ _).drew)).mono ?_ | refine (NX.out _ (HT1.out.below ((Below.refl _ _).alloc (Nat.le_refl _) _).drew)).mono ?_);rintro e w2 ⟨r,rfl,hr0,hr1,ht2,hf2,hs2⟩;have hrn:r.toNat<n:=(by omega);have hf1:Fr b W1 w2:=(by first | exact fr_of_drew hf2 | exact ((Fr.refl _ _).then ((Below.refl _ _).alloc (Nat.le_refl _) _)).drew.trans hf2);obtain ⟨mm,tt,ll,hh⟩:=HKP.out w2 hf1 ht2;have l0:=ll r.toNat hrn;have l1:=hh r.toNat hrn;have y1:g<w2.heap.size:=(by have:=hf1.size;have:=HZ1.out;omega);have y2:¬g=w2.heap.size:=(by omega);have y4:w.heap.size<w2.heap.size:=(by have:=hf1.size;omega);have y5:¬w.heap.size=w2.heap.size:=(by omega);have y3:¬w2.heap.size=g:=(by omega);(first | (have kb:w2.heap[W1.heap.size]?=some (.cells #[.int .u8 0, .int .u8 0] 98 (0,0)):=(hf2.block W1.heap.size (by simp[World.drew,World.drewN]) (by intro e;injection e with e;exact z3 e.symm)).trans (heap_alloc_new W1 _);have kc0:w2.cell? ⟨W1.heap.size,0,none⟩=some (.int .u8 0):=(by rw[cell_of_row _ _ _ _ _ _ kb];rfl);have kc1:w2.cell? ⟨W1.heap.size,1,none⟩=some (.int .u8 0):=(by rw[cell_of_row _ _ _ _ _ _ kb];rfl);have kf:∀j,w2.frozen? ⟨W1.heap.size,j,none⟩=false:=(fun j=>by simp[World.frozen?,kb]);have KB:=Lib.hid kb;clear kb) | skip);have hff:=Lib.hid (And.intro hf1 ht2);clear hs2 hf2 hf1 ll hh))
  all_goals
   go_wp2_with fail
   go_meet
   obtain ⟨hf1,ht2⟩:=hff.out;obtain ⟨bd0,bd1,bd2⟩:=HBD.out r.toNat hrn
   first
    | exact ⟨w2.heap.size,LO r.toNat,HI r.toNat,rfl,by rw[World.cell?_alloc_mark];rfl,by rw[World.cell?_alloc_mark];rfl,bd0,bd1,bd2,HIN.out r.toNat hrn,ht2.below ((Below.refl _ _).alloc (Nat.le_refl _) _),hf1.then ((Below.refl _ _).alloc hf1.size _),by simp,by omega⟩
    | exact ⟨W1.heap.size,LO r.toNat,HI r.toNat,rfl,by rw[cell_of_row _ _ _ _ _ _ (set_row_at (set_row_at KB.out 0 _) 1 _)];rfl,by rw[cell_of_row _ _ _ _ _ _ (set_row_at (set_row_at KB.out 0 _) 1 _)];rfl,bd0,bd1,bd2,HIN.out r.toNat hrn,tape_set (tape_set ht2 (by omega)) (by omega),fr_set (fr_set hf1 (Nat.le_refl _)) (Nat.le_refl _),by simpa [World.setCell] using World.block_lt_of_cell? _ _ kc0,by omega⟩
 case rest=>
  obtain ⟨R,lo,hi,rfl,q0,q1,b0,b1,b2,HLR,ht2,hf,hR,hbR⟩:=hcut;obtain ⟨W2,hW2⟩:∃W2:World,W2=wc:=⟨_,rfl⟩;rw[←hW2]at q0 q1 ht2 hf hR⊢;clear hW2 m1 z1 z2 z3 z4 z5 z6 z7 HKP NX HT1 HCS HBD HIN;have hT0:w.heap.size≤W2.heap.size:=by have h1:=hf.size;have h2:=HB.out.size;omega
  have hFW:Fr b w W2:=(Fr.of_below HB.out).trans hf;have NX:=Lib.hid (fun w' (ht:TapeOK b w')=>next_any b (hi-lo+1) w' (by omega) (by omega) ht)
  have hw0:IntKind.i64.wrap hi=hi:=IntWalk.i64_in _ (by omega)
  have hw1:IntKind.i64.wrap lo=lo:=IntWalk.i64_in _ (by omega)
  have hw2:IntKind.i64.wrap (hi-lo)=hi-lo:=IntWalk.i64_in _ (by omega)
  have hw3:IntKind.i64.wrap (hi-lo+1)=hi-lo+1:=IntWalk.i64_in _ (by omega)
  have HK2:=Lib.hid (fun w' (hf:Fr b W2 w') (ht:TapeOK b w')=>show w'.cell? ⟨R,0,none⟩=some (.int .u8 lo)∧w'.cell? ⟨R,1,none⟩=some (.int .u8 hi)∧TapeOK b w' from
   ⟨(World.cell?_of_block (a:=⟨R,0,none⟩) (hf.block R hR (by intro e;injection e;omega))).trans q0,(World.cell?_of_block (a:=⟨R,1,none⟩) (hf.block R hR (by intro e;injection e;omega))).trans q1,ht⟩)
  have HT2:=Lib.hid ht2;clear ht2
  go_upto_region 5 with fail
  go_region_held3 (fun w'=>w'.cell? ⟨R,0,none⟩=some (.int .u8 lo)∧w'.cell? ⟨R,1,none⟩=some (.int .u8 hi)∧TapeOK b w')
   (first | exact HK2.out _ (Fr.refl _ _).drew (HT2.out.below (Below.refl _ _).drew) | exact HK2.out _ (fr_of_drew hf3) ht3 | exact HK2.out _ ((fr_of_drew hf3).then ((Below.refl _ _).alloc (fr_of_drew hf3).size _)) (ht3.below ((Below.refl _ _).alloc (Nat.le_refl _) _)))
   ((go_at_call 12;refine (NX.out _ (HT2.out.below (Below.refl _ _).drew)).mono ?_;rintro e w3 ⟨r,rfl,hr0,hr1,ht3,hf3⟩;have hw4:IntKind.u8.wrap r=r:=(IntWalk.u8_in _ (by omega));have hw5:IntKind.u8.wrap (lo+r)=lo+r:=(IntWalk.u8_in _ (by omega))))
  all_goals
   go_wp2_with fail;go_ret;have hf4:=fr_of_drew hf3;have hu:lo+r=((UInt8.ofNat (lo+r).toNat).toNat:Int):=by rw[UInt8.toNat_ofNat'];omega
   refine ⟨_,[UInt8.ofNat (lo+r).toNat],rfl,hm,langN_set (by omega) (HLR.out _ (by omega) (by omega)),?_,ht3.below ((Below.refl _ _).alloc (Nat.le_refl _) _),hFW.trans (hf4.then ((Below.refl _ _).alloc hf4.size _))⟩
   have h5:=ownW (w:=w3.alloc (.cells #[.int .u8 (lo+r)] 5)) (B:=w.heap.size) (cs:=[.int .u8 (lo+r)]) (heap_alloc_new _ _) (by have:=hf4.size;omega) (by simp)
   show World.ownsRow _ _ _ _ _ _ _;simp only[List.map_cons,List.map_nil,List.length_cons,List.length_nil];rw[←hu];exact h5
set_option maxHeartbeats 4000000 in
theorem memberN_seq (b d m' n:Nat) (rs:List (Nat×Nat)) (kids:List Nd) (A B:Option Addr) (a1 a2 b1 b2:Nat) (mn mx:Int) (w:World) (hk:KdV b w (Pat b w d m') n (.slice B b1 b2)) (hS:KdsS b w kids (.slice B b1 b2)) (hm:n*m'≤1000000) (ht:TapeOK b w)
  (hIH:∀(nd:Nd) (vs:List Value) (w':World),PN b w' d m' nd vs→TapeOK b w'→Calls Tryz.prog 28 #[.pointer (some ⟨b,0,none⟩), .agg vs.toArray] w' (MbN b m' nd w')) :
  Calls Tryz.prog 28 #[.pointer (some ⟨b,0,none⟩), .agg #[.int .i64 2, .slice A a1 a2, .slice B b1 b2, .int .i64 mn, .int .i64 mx]] w (MbN b (n*m') (.mk 2 rs kids mn mx) w):=by
 obtain ⟨i0,hi,hz0,hz1,hz2⟩:=info_parts info_u8;obtain ⟨g,f,c,U0,U1,U2,U3,U4,hv,hbg,hgl,hn,k0,k1,k2,k3,k4,kG⟩:=hk.fns;injection hv with e1 e2 e3;subst e1 e2 e3;obtain ⟨hkl,hS⟩:=hS.get;obtain ⟨W1,hW1⟩:∃W,w.alloc (Obj.cells #[Value.int IntKind.i64 2,Value.slice A a1 a2,Value.slice (some ⟨g,f,none⟩) b1 b2,Value.int IntKind.i64 mn,Value.int IntKind.i64 mx] 29)=W:=⟨_,rfl⟩;have hbel:Below w.heap.size w W1:=by rw[←hW1];exact (Below.refl _ _).alloc (Nat.le_refl _) _
 have hz1w:W1.heap.size=w.heap.size+1:=by rw[←hW1];simp
 have m2:W1.cell? ⟨w.heap.size,2,none⟩=some (.slice (some ⟨g,f,none⟩) b1 b2):=by rw[←hW1,World.cell?_alloc_mark];rfl
 have hbs:=ht.lt;have ht1:=ht.below hbel;have HK:=Lib.hid (fun (w':World) (hf:Fr b w w') (j:Nat) (hj:j<b1)=>show (w'.cell? ⟨g,f+j*5,none⟩=some (U0 j)∧w'.cell? ⟨g,f+j*5+1,none⟩=some (U1 j)∧w'.cell? ⟨g,f+j*5+2,none⟩=some (U2 j)∧w'.cell? ⟨g,f+j*5+3,none⟩=some (U3 j)∧w'.cell? ⟨g,f+j*5+4,none⟩=some (U4 j)∧∀hj2:j<kids.length,PN b w' d m' kids[j] [U0 j,U1 j,U2 j,U3 j,U4 j]) from
  ⟨((Stay.of_fr hf).cell hbg hgl).trans (k0 j hj),((Stay.of_fr hf).cell hbg hgl).trans (k1 j hj),((Stay.of_fr hf).cell hbg hgl).trans (k2 j hj),((Stay.of_fr hf).cell hbg hgl).trans (k3 j hj),((Stay.of_fr hf).cell hbg hgl).trans (k4 j hj),fun hj2=>⟨(kG j hj).later (Stay.of_fr hf),fun W hW=>kidN hS hbg hgl (k0 j hj) (k1 j hj) (k2 j hj) (k3 j hj) (k4 j hj) hj2 W ((Stay.of_fr hf).trans hW)⟩⟩)
 have HKL:=Lib.hid hkl;have HIH:=Lib.hid hIH;have HW1:=Lib.hid hW1;have HB:=Lib.hid hbel;have HM2:=Lib.hid m2;have HT1:=Lib.hid ht1;have HZ:=Lib.hid hz1w;clear k0 k1 k2 k3 k4 kG hIH hW1 hbel m2 ht ht1 hk hz1w hS hkl
 go_enter Tryz.func28,Tryz.ntmps28
 go_wp2_with fail;rw[HW1.out];clear HW1
 go_loopw [5,7] (fun v i wr=>∃(k:Nat) (o:List UInt8),k≤b1∧i = .int .i64 (k:Int)∧OB 5 W1.heap.size v o wr∧(o.length≤k*m'∧Hid (langS (kids.take k) (o.map UInt8.toNat)))∧TapeOK b wr∧Fr b W1 wr) (fun _ i _=>b1 - (intOf i).toNat)
 case atStart=>exact ⟨0,[],by omega,rfl,OB.nil_ _ _ _,⟨by simp,rfl⟩,HT1.out,Fr.refl _ _⟩
 case round=>
  obtain ⟨k,o,hk,rfl,hown,⟨ho,HLG⟩,htr,hfr⟩:=hrel;have hfw:Fr b w wr:=(Fr.of_below HB.out).trans hfr;have c2:wr.cell? ⟨w.heap.size,2,none⟩=some (.slice (some ⟨g,f,none⟩) b1 b2):=(World.cell?_of_block (a:=⟨w.heap.size,2,none⟩) (hfr.block w.heap.size (by have:=HZ.out;omega) (by intro e;injection e;omega))).trans HM2.out
  by_cases hlt:k<b1
  ·have hd:decide ((k:Int)<(b1:Int))=true:=decide_eq_true (by omega)
   have hdn:decide (k<b1)=true:=decide_eq_true hlt;obtain ⟨q0,q1,q2,q3,q4,hP⟩:=HK.out wr hfw k hlt;have hkk:k<kids.length:=by have:=HKL.out;omega
   have IH:=Lib.hid (HIH.out kids[k] _ wr (hP hkk) htr);have hkm:k*m'+m'≤1000000:=by
    have:(k+1)*m'≤b1*m':=Nat.mul_le_mul_right _ hlt;rw[Nat.succ_mul]at this;omega
   have HKM:=Lib.hid hkm;clear hP hkm;go_wp2_with fail;refine IH.out.mono ?_;rintro e w2 ⟨v2,l2,rfl,hl2,hL2,hv2,ht2,hf2⟩;have hbs1:b<W1.heap.size:=by have:=HZ.out;omega
   have hown2:=hown.fr hf2 hbs1;have hlen:o.length+l2.length<1000000000:=by have:=HKM.out;omega
   have hBs:W1.heap.size≤w2.heap.size:=Nat.le_trans hfr.size hf2.size;have HO:=Lib.hid (show (o++l2).length≤(k+1)*m'∧Hid (langS (kids.take (k+1)) ((o++l2).map UInt8.toNat)) from ⟨by rw[List.length_append,Nat.succ_mul];omega,by
    have h:=(langS_snoc kids[k] (kids.take k) ((o++l2).map UInt8.toNat)).2 ⟨_,_,List.map_append,HLG.out,hL2⟩;rw[←List.take_succ_eq_append_getElem hkk]at h;exact h⟩)
   clear ho hl2 hL2 HLG q0 q1 q2 q3 q4;go_wp2_with (at_builtin;refine app_OB Tryz.underlying41 hi hz0 hz1 hz2 _ _ _ _ _ _ _ _ rfl rfl rfl rfl hown2 hv2 hlen hBs ?_;intro v3 w3 hown3 hb3);go_roundw
   case rel=>exact ⟨k+1,o++l2,by omega,by go_num,hown3,HO.out,ht2.below' hb3 hbs1,(hfr.trans hf2).then hb3⟩
   case measure=>simp[intOf];omega
  ·obtain rfl:k=b1:=by omega
   have hd:decide ((k:Int)<(k:Int))=false:=decide_eq_false (by omega)
   have hdn:decide (k<k)=false:=decide_eq_false (by omega)
   go_wp2_with fail;go_ret;exact ⟨_,o,rfl,ho,(by have h:=HLG.out;rw[HKL.out,List.take_length]at h;exact h),hown.mono (by have:=HZ.out;omega),htr,hfw⟩
set_option maxHeartbeats 4000000 in
theorem memberN_rep (b d m' n:Nat) (rs:List (Nat×Nat)) (kids:List Nd) (A B:Option Addr) (a1 a2 b1 b2:Nat) (mn mx:Int) (w:World) (hk:KdV b w (Pat b w d m') n (.slice B b1 b2)) (hS:KdsS b w kids (.slice B b1 b2)) (hn1:1≤n) (h0:0≤mn) (h1:mn≤mx) (h1000:mx≤1000) (hm:mx.toNat*m'≤1000000) (ht:TapeOK b w)
  (hIH:∀(nd:Nd) (vs:List Value) (w':World),PN b w' d m' nd vs→TapeOK b w'→Calls Tryz.prog 28 #[.pointer (some ⟨b,0,none⟩), .agg vs.toArray] w' (MbN b m' nd w')) :
  Calls Tryz.prog 28 #[.pointer (some ⟨b,0,none⟩), .agg #[.int .i64 4, .slice A a1 a2, .slice B b1 b2, .int .i64 mn, .int .i64 mx]] w (MbN b (mx.toNat*m') (.mk 4 rs kids mn mx) w):=by
 obtain ⟨i0,hi,hz0,hz1,hz2⟩:=info_parts info_u8;obtain ⟨g,f,c,U0,U1,U2,U3,U4,hv,hbg,hgl,hn,k0,k1,k2,k3,k4,kG⟩:=hk.fns;injection hv with e1 e2 e3;subst e1 e2 e3;obtain ⟨hkl,hS⟩:=hS.get;have hk0:0<kids.length:=by omega
 obtain ⟨W1,hW1⟩:∃W,w.alloc (Obj.cells #[Value.int IntKind.i64 4,Value.slice A a1 a2,Value.slice (some ⟨g,f,none⟩) b1 b2,Value.int IntKind.i64 mn,Value.int IntKind.i64 mx] 29)=W:=⟨_,rfl⟩;have hbel:Below w.heap.size w W1:=by rw[←hW1];exact (Below.refl _ _).alloc (Nat.le_refl _) _
 have hz1w:W1.heap.size=w.heap.size+1:=by rw[←hW1];simp
 have m2:W1.cell? ⟨w.heap.size,2,none⟩=some (.slice (some ⟨g,f,none⟩) b1 b2):=by rw[←hW1,World.cell?_alloc_mark];rfl
 have m3:W1.cell? ⟨w.heap.size,3,none⟩=some (.int .i64 mn):=by rw[←hW1,World.cell?_alloc_mark];rfl
 have m4:W1.cell? ⟨w.heap.size,4,none⟩=some (.int .i64 mx):=by rw[←hW1,World.cell?_alloc_mark];rfl
 have hbs:=ht.lt;have ht1:=ht.below hbel;have HK:=Lib.hid (fun (w':World) (hf:Fr b w w')=>show (w'.cell? ⟨g,f,none⟩=some (U0 0)∧w'.cell? ⟨g,f+1,none⟩=some (U1 0)∧w'.cell? ⟨g,f+2,none⟩=some (U2 0)∧w'.cell? ⟨g,f+3,none⟩=some (U3 0)∧w'.cell? ⟨g,f+4,none⟩=some (U4 0)∧PN b w' d m' kids[0] [U0 0,U1 0,U2 0,U3 0,U4 0]) from
  ⟨((Stay.of_fr hf).cell hbg hgl).trans (by simpa using k0 0 (by omega)),((Stay.of_fr hf).cell hbg hgl).trans (by simpa using k1 0 (by omega)),((Stay.of_fr hf).cell hbg hgl).trans (by simpa using k2 0 (by omega)),((Stay.of_fr hf).cell hbg hgl).trans (by simpa using k3 0 (by omega)),((Stay.of_fr hf).cell hbg hgl).trans (by simpa using k4 0 (by omega)),⟨(kG 0 (by omega)).later (Stay.of_fr hf),fun W hW=>kidN hS hbg hgl (k0 0 (by omega)) (k1 0 (by omega)) (k2 0 (by omega)) (k3 0 (by omega)) (k4 0 (by omega)) hk0 W ((Stay.of_fr hf).trans hW)⟩⟩)
 have HIH:=Lib.hid hIH;have HW1:=Lib.hid hW1;have HB:=Lib.hid hbel;have HM2:=Lib.hid m2;have HZ:=Lib.hid hz1w;have BT:=Lib.hid (between_any b mn mx W1 h1 (by omega) (by omega) (by omega) ht1)
 have hkn:0<b1:=by omega
 have HX:=Lib.hid (And.intro h0 (And.intro h1 (And.intro h1000 hm)));clear k0 k1 k2 k3 k4 kG hIH hW1 hbel m2 ht ht1 hk hz1w h0 h1 h1000 hm hS hkl;have HM34:=Lib.hid (And.intro m3 m4);clear m3 m4
 go_enter Tryz.func28,Tryz.ntmps28
 go_upto_region 14 with fail
 rw[HW1.out];obtain ⟨m3,m4⟩:=HM34.out;clear HW1;go_wp2_with fail;refine BT.out.mono ?_;rintro e w1 ⟨r,rfl,hr0,hr1,ht1,hf1⟩;have hrm:=HX.out;have HRB:=Lib.hid (And.intro hr0 hr1);have HT1:=Lib.hid ht1;have HF1:=Lib.hid hf1;obtain ⟨rn,hrn⟩:∃rn:Nat,r=(rn:Int):=⟨r.toNat,by omega⟩
 subst hrn;have HRN:=Lib.hid (show rn≤mx.toNat by omega)
 have hr1000:rn≤1000:=by omega
 clear m3 m4 hr0 hr1 ht1 hf1 hrm BT;go_wp2_with fail
 go_loopw [5,8] (fun v i wr=>∃(k:Nat) (o:List UInt8),k≤rn∧i = .int .i64 (k:Int)∧OB 5 W1.heap.size v o wr∧(o.length≤(rn-k)*m'∧Hid (powL (langN kids[0]) (rn-k) (o.map UInt8.toNat)))∧TapeOK b wr∧Fr b W1 wr) (fun _ i _=>(intOf i).toNat)
 case atStart=>exact ⟨rn,[],by omega,rfl,OB.nil_ _ _ _,⟨by simp,by rw[Nat.sub_self];rfl⟩,HT1.out,HF1.out⟩
 case round=>
  obtain ⟨k,o,hk,rfl,hown,⟨ho,HLG⟩,htr,hfr⟩:=hrel;have hfw:Fr b w wr:=(Fr.of_below HB.out).trans hfr;have c2:wr.cell? ⟨w.heap.size,2,none⟩=some (.slice (some ⟨g,f,none⟩) b1 b2):=(World.cell?_of_block (a:=⟨w.heap.size,2,none⟩) (hfr.block w.heap.size (by have:=HZ.out;omega) (by intro e;injection e;omega))).trans HM2.out
  have hbnd:rn*m'≤mx.toNat*m':=Nat.mul_le_mul_right _ HRN.out;by_cases hlt:0<k
  ·have hd:decide ((0:Int)<(k:Int))=true:=decide_eq_true (by omega)
   have hdn:decide (0<k)=true:=decide_eq_true hlt;obtain ⟨q0,q1,q2,q3,q4,hP⟩:=HK.out wr hfw;have IH:=Lib.hid (HIH.out kids[0] _ wr hP htr);have hstep:(rn-k)*m'+m'=(rn - (k - 1))*m':=by rw[←Nat.succ_mul];congr 1;omega
   have hle2:(rn - (k - 1))*m'≤rn*m':=Nat.mul_le_mul_right _ (by omega)
   have HKM:=Lib.hid (And.intro hstep (And.intro hle2 hbnd));have hw1:IntKind.i64.wrap ((k:Int) - 1)=(k:Int) - 1:=IntWalk.i64_in _ (by omega)
   clear hP hstep hle2 hbnd;go_wp2_with fail;refine IH.out.mono ?_;rintro e w2 ⟨v2,l2,rfl,hl2,hL2,hv2,ht2,hf2⟩;have hbs1:b<W1.heap.size:=by have:=HZ.out;omega
   have hown2:=hown.fr hf2 hbs1;have hlen:o.length+l2.length<1000000000:=by have h1:=HKM.out;have h2:=HX.out.2.2.2;omega
   have hBs:W1.heap.size≤w2.heap.size:=Nat.le_trans hfr.size hf2.size;have HO:=Lib.hid (show (o++l2).length≤(rn - (k - 1))*m'∧Hid (powL (langN kids[0]) (rn - (k - 1)) ((o++l2).map UInt8.toNat)) from ⟨by rw[List.length_append,←HKM.out.1];omega,by
    rw[show rn - (k - 1)=rn-k+1 by omega]
    exact ⟨_,_,List.map_append,HLG.out,hL2⟩⟩)
   clear ho hl2 hL2 HLG q0 q1 q2 q3 q4;go_wp2_with (at_builtin;refine app_OB Tryz.underlying41 hi hz0 hz1 hz2 _ _ _ _ _ _ _ _ rfl rfl rfl rfl hown2 hv2 hlen hBs ?_;intro v3 w3 hown3 hb3);go_roundw
   case rel=>exact ⟨k - 1,o++l2,by omega,by go_num,hown3,HO.out,ht2.below' hb3 hbs1,(hfr.trans hf2).then hb3⟩
   case measure=>simp[intOf];omega
  ·obtain rfl:k=0:=by omega
   have hlen:o.length≤mx.toNat*m':=by simp at ho;omega
   go_wp2_with fail;go_ret;exact ⟨_,o,rfl,hlen,langN_rep hk0 rn (by have:=HRB.out;have:=HX.out;omega) (by have:=HRB.out;omega) HLG.out,hown.mono (by have:=HZ.out;omega),htr,hfw⟩
set_option maxHeartbeats 4000000 in
theorem memberN_choice (b d m n:Nat) (rs:List (Nat×Nat)) (kids:List Nd) (A B:Option Addr) (a1 a2 b1 b2:Nat) (mn mx:Int) (w:World) (hk:KdV b w (Pat b w d m) n (.slice B b1 b2)) (hS:KdsS b w kids (.slice B b1 b2)) (hn1:1≤n) (ht:TapeOK b w)
  (hIH:∀(nd:Nd) (vs:List Value) (w':World),PN b w' d m nd vs→TapeOK b w'→Calls Tryz.prog 28 #[.pointer (some ⟨b,0,none⟩), .agg vs.toArray] w' (MbN b m nd w')) :
  Calls Tryz.prog 28 #[.pointer (some ⟨b,0,none⟩), .agg #[.int .i64 3, .slice A a1 a2, .slice B b1 b2, .int .i64 mn, .int .i64 mx]] w (MbN b m (.mk 3 rs kids mn mx) w):=by
 obtain ⟨g,f,c,U0,U1,U2,U3,U4,hv,hbg,hgl,hn,k0,k1,k2,k3,k4,kG⟩:=hk.fns;injection hv with e1 e2 e3;subst e1 e2 e3;obtain ⟨hkl,hS⟩:=hS.get;obtain ⟨W1,hW1⟩:∃W,w.alloc (Obj.cells #[Value.int IntKind.i64 3,Value.slice A a1 a2,Value.slice (some ⟨g,f,none⟩) b1 b2,Value.int IntKind.i64 mn,Value.int IntKind.i64 mx] 29)=W:=⟨_,rfl⟩;have hbel:Below w.heap.size w W1:=by rw[←hW1];exact (Below.refl _ _).alloc (Nat.le_refl _) _
 have hz1w:W1.heap.size=w.heap.size+1:=by rw[←hW1];simp
 have m2:W1.cell? ⟨w.heap.size,2,none⟩=some (.slice (some ⟨g,f,none⟩) b1 b2):=by rw[←hW1,World.cell?_alloc_mark];rfl
 have hbs:=ht.lt;have ht1:=ht.below hbel;have HKP:=Lib.hid (fun (w':World) (hf:Fr b W1 w') (htt:TapeOK b w')=>show (w'.cell? ⟨w.heap.size,2,none⟩=some (.slice (some ⟨g,f,none⟩) b1 b2)∧TapeOK b w'∧(∀j,j<b1→w'.cell? ⟨g,f+j*5,none⟩=some (U0 j))∧(∀j,j<b1→w'.cell? ⟨g,f+j*5+1,none⟩=some (U1 j))∧(∀j,j<b1→w'.cell? ⟨g,f+j*5+2,none⟩=some (U2 j))∧(∀j,j<b1→w'.cell? ⟨g,f+j*5+3,none⟩=some (U3 j))∧(∀j,j<b1→w'.cell? ⟨g,f+j*5+4,none⟩=some (U4 j))) from by
  have hfw:Fr b w w':=(Fr.of_below hbel).trans hf;have hs:=Stay.of_fr hfw;exact ⟨(World.cell?_of_block (a:=⟨w.heap.size,2,none⟩) (hf.block w.heap.size (by omega) (by intro e;injection e;omega))).trans m2,htt,fun j hj=>(hs.cell hbg hgl).trans (k0 j hj),fun j hj=>(hs.cell hbg hgl).trans (k1 j hj),fun j hj=>(hs.cell hbg hgl).trans (k2 j hj),fun j hj=>(hs.cell hbg hgl).trans (k3 j hj),fun j hj=>(hs.cell hbg hgl).trans (k4 j hj)⟩)
 have HG:=Lib.hid (fun (w':World) (hf:Fr b W1 w') (j:Nat) (hj:j<b1) (hj2:j<kids.length)=>show PN b w' d m kids[j] [U0 j,U1 j,U2 j,U3 j,U4 j] from ⟨(kG j hj).later (Stay.of_fr ((Fr.of_below hbel).trans hf)),fun W hW=>kidN hS hbg hgl (k0 j hj) (k1 j hj) (k2 j hj) (k3 j hj) (k4 j hj) hj2 W ((Stay.of_fr ((Fr.of_below hbel).trans hf)).trans hW)⟩);have HKL:=Lib.hid hkl;have NX:=Lib.hid (fun w' (ht:TapeOK b w')=>next_any b (b1:Int) w' (by omega) (by omega) ht)
 have HIH:=Lib.hid hIH;have HW1:=Lib.hid hW1;have HB:=Lib.hid hbel;have HT1:=Lib.hid ht1;have HZ:=Lib.hid hz1w;clear k0 k1 k2 k3 k4 kG hIH hW1 hbel m2 ht ht1 hk hz1w hS hkl
 go_enter Tryz.func28,Tryz.ntmps28
 go_upto_region 12 with fail
 rw[HW1.out];clear HW1
 go_region_held3 (fun w'=>w'.cell? ⟨w.heap.size,2,none⟩=some (.slice (some ⟨g,f,none⟩) b1 b2)∧TapeOK b w'∧(∀j,j<b1→w'.cell? ⟨g,f+j*5,none⟩=some (U0 j))∧(∀j,j<b1→w'.cell? ⟨g,f+j*5+1,none⟩=some (U1 j))∧(∀j,j<b1→w'.cell? ⟨g,f+j*5+2,none⟩=some (U2 j))∧(∀j,j<b1→w'.cell? ⟨g,f+j*5+3,none⟩=some (U3 j))∧(∀j,j<b1→w'.cell? ⟨g,f+j*5+4,none⟩=some (U4 j)))
  (first | exact HKP.out _ (Fr.refl _ _).drew (HT1.out.below (Below.refl _ _).drew) | exact HKP.out _ (fr_of_drew hf2) ht2 | exact HKP.out _ ((fr_of_drew hf2).trans hf3) ht3)
  ((first | (go_at_call 12;refine (NX.out _ (HT1.out.below (Below.refl _ _).drew)).mono ?_;rintro e w2 ⟨r,rfl,hr0,hr1,ht2,hf2⟩;have hrn:r.toNat<b1:=(by omega);have hrk:r.toNat<kids.length:=(by have:=HKL.out;omega)) | (go_at_call 28;refine (HIH.out _ _ w2 (HG.out w2 (fr_of_drew hf2) r.toNat hrn hrk) ht2).mono ?_;rintro e w3 ⟨v3,l3,rfl,hl3,hL3,hv3,ht3,hf3⟩)))
 all_goals
  go_wp2_with fail;go_ret;have hff:=(fr_of_drew hf2).trans hf3;exact ⟨v3,l3,rfl,hl3,langN_cho hrk hL3,hv3.mono (by have h1:=HZ.out;have h2:W1.heap.size≤w2.heap.size:=hf2.size;omega),ht3,(Fr.of_below HB.out).trans hff⟩
theorem NdS.parts {b:Nat} {w:World} {nd:Nd} {v1 v2:Value} {o mn mx:Int} (hS:NdS b w nd [.int .i64 o,v1,v2, .int .i64 mn, .int .i64 mx]):∃rs kids,nd = .mk o rs kids mn mx∧RgS b w v1 rs∧∀W,Stay b w W→∃A c,v2 = .slice A kids.length c∧(kids.length≤c∧c≤9223372036854775807)∧(kids=[]∨∃g f,A=some ⟨g,f,none⟩∧g<W.heap.size∧KdsIn W kids g f):=by
 obtain ⟨op,rs,kids,mn',mx'⟩:=nd;obtain ⟨u1,u2,e,-⟩:=hS w (Stay.refl b w);injection e with e0 e;injection e with e1 e;injection e with e2 e;injection e with e3 e;injection e with e4 _;injection e0 with _ e0;injection e3 with _ e3;injection e4 with _ e4;subst e0 e3 e4;refine ⟨rs,kids,rfl,fun W hW=>?_,fun W hW=>?_⟩
 ·obtain ⟨u1,u2,e,h1,h2⟩:=hS W hW;injection e with e0 e;injection e with e1 e;subst e1;exact h1
 ·obtain ⟨u1,u2,e,h1,h2⟩:=hS W hW;injection e with e0 e;injection e with e1 e;injection e with e2 e;subst e2;exact h2
theorem PN.kids {b:Nat} {w:World} {n d m:Nat} {nd:Nd} {v1:Value} {B:Option Addr} {b1 b2:Nat} {o mn mx:Int} (hk:KdV b w (Pat b w d m) n (.slice B b1 b2)) (hS:NdS b w nd [.int .i64 o,v1, .slice B b1 b2, .int .i64 mn, .int .i64 mx]):∃rs kids,nd = .mk o rs kids mn mx∧KdsS b w kids (.slice B b1 b2):=by
 obtain ⟨rs,kids,rfl,-,h⟩:=hS.parts;obtain ⟨g,f,c,hv,-⟩:=hk;injection hv with e1 e2 e3;subst e1;refine ⟨rs,kids,rfl,g,f,b1,b2,rfl,?_,fun W hW=>?_⟩
 ·obtain ⟨A,c',e,-⟩:=h w (Stay.refl b w);injection e with _ e
 ·obtain ⟨A,c',e,-,hor⟩:=h W hW;injection e with e1 e2 e3;rcases hor with rfl | ⟨g',f',rfl,-,hq⟩
  ·exact trivial
  ·injection e1 with e1;injection e1 with e1 e4 _;subst e1 e4;exact hq
theorem memberN_any (b:Nat):∀(d m:Nat) (nd:Nd) (vs:List Value) (w:World),PN b w d m nd vs→m≤1000000→TapeOK b w→Calls Tryz.prog 28 #[.pointer (some ⟨b,0,none⟩), .agg vs.toArray] w (MbN b m nd w)
 | 0,_,_,_,_,h,_,_=>h.1.elim
 | d+1,m,nd,vs,w,⟨⟨v1,v2,mn,mx,⟨⟨A,a1,a2,e1⟩,⟨B,b1,b2,e2⟩⟩,h⟩,hS⟩,hm,ht=>by
  subst e1 e2;rcases h with ⟨rfl,h2,h3⟩ | ⟨rfl,n,m',h2,h3⟩ | ⟨rfl,n,h2,h3⟩ | ⟨rfl,n,m',h2,h3,h4,h5,h6,h7⟩
  ·obtain ⟨rs,kids,rfl,hr,-⟩:=hS.parts;exact memberN_set b m rs kids A B _ _ _ _ mn mx w h2 hr h3 ht
  ·obtain ⟨rs,kids,rfl,hks⟩:=PN.kids h2 hS;have hm':m'≤1000000∨n=0:=by
    rcases Nat.eq_zero_or_pos n with h0 | h0
    ·exact .inr h0
    ·left
     have:1*m'≤n*m':=Nat.mul_le_mul_right _ h0;omega
   rcases hm' with hm' | hn0
   ·exact (memberN_seq b d m' n rs kids A B _ _ _ _ mn mx w h2 hks (by omega) ht (fun nd vs w' hP ht'=>memberN_any b d m' nd vs w' hP hm' ht')).mono fun e w' h=>h.mono h3
   ·subst hn0;exact (memberN_seq b d 0 0 rs kids A B _ _ _ _ mn mx w (by
     obtain ⟨g,f,c,q1,q2,q3,q4,-⟩:=h2;exact ⟨g,f,c,q1,q2,q3,q4,fun j hj=>absurd hj (Nat.not_lt_zero _)⟩) hks (by omega) ht (fun nd vs w' hP ht'=>memberN_any b d 0 nd vs w' hP (by omega) ht')).mono fun e w' h=>h.mono (by omega)
  ·obtain ⟨rs,kids,rfl,hks⟩:=PN.kids h2 hS;exact memberN_choice b d m n rs kids A B _ _ _ _ mn mx w h2 hks h3 ht (fun nd vs w' hP ht'=>memberN_any b d m nd vs w' hP hm ht')
  ·obtain ⟨rs,kids,rfl,hks⟩:=PN.kids h2 hS;have hm':m'≤1000000:=by
    have:1*m'≤mx.toNat*m':=Nat.mul_le_mul_right _ (by omega)
    omega
   exact (memberN_rep b d m' n rs kids A B _ _ _ _ mn mx w h2 hks h3 h4 h5 h6.2 (by omega) ht (fun nd vs w' hP ht'=>memberN_any b d m' nd vs w' hP hm' ht')).mono fun e w' h=>h.mono h7
end Go.Proofs.YtoaibhacognbjaaGreatDoor
