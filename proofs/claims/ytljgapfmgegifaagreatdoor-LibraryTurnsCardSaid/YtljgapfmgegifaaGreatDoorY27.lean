/- Walks: members of patterns. · Walks: members of sequences, choices, repetitions. · Members that a maker makes belong to the pattern. -/
import Derived.Deep.RegionHeld3
import Derived.Deep.CutRange
import Derived.Test.YtljgapfmgegifaaGreatDoorY03
import Derived.Test.YtljgapfmgegifaaGreatDoorY26
import Derived.Test.YtljgapfmgegifaaGreatDoorY05
namespace Go.Proofs.YtljgapfmgegifaaGreatDoor
set_option linter.unusedVariables false
set_option linter.unusedSimpArgs false
set_option maxRecDepth 100000
open Go.RowKit
def MbPost (b m:Nat) (w:World) (e:Ending) (w':World):Prop:=∃(v:Value) (l:List UInt8),e = .returned v/\l.length<=m/\OB 5 w.heap.size v l w'/\TapeOK b w'/\Fr b w w'
theorem Fr.drew {b:Nat} {w w':World} (h:Fr b w w'):Fr b w w'.drew:=⟨h.os,h.tape,h.output,h.size,h.block⟩
theorem set_row_at {w:World} {G e:Nat} {cs:Array Value} {m:Nat×Nat} (h:w.heap[G]?=some (.cells cs e m)) (j:Nat) (v:Value):(w.setCell ⟨G,j,none⟩ v).heap[G]?=some (.cells (cs.setIfInBounds j v) e m):=by
 simp[World.setCell,Array.getElem?_modify,h]
theorem fr_set {b K j:Nat} {v:Value} {w w':World} (h:Fr b w w') (hK:w.heap.size<=K):Fr b w (w'.setCell ⟨K,j,none⟩ v):=
 ⟨h.os,h.tape,h.output,by simpa [World.setCell] using h.size,λk hk hne=>(Below.heap_setCell _ _ _ _ (by dsimp only;omega)).trans (h.block k hk hne)⟩
theorem tape_set {b K j:Nat} {v:Value} {w:World} (h:TapeOK b w) (hK:b<K):TapeOK b (w.setCell ⟨K,j,none⟩ v):=h.keep λk hk=>Below.heap_setCell _ _ _ _ (by dsimp only;omega)
theorem between_any (b:Nat) (x y:Int) (w:World) (h:x<=y) (h2:y-x<=65000) (hx:-1000000000<=x) (hy:y<=1000000000) (ht:TapeOK b w) :
  Calls Tryz.prog 12 #[.pointer (some ⟨b,0,none⟩), .int .i64 x, .int .i64 y] w λe w'=>∃r:Int,e = .returned (.int .i64 r)/\x<=r/\r<=y/\TapeOK b w'/\Fr b w w':=by
 have N:=next_any b (y-x+1) w (by omega) (by omega) ht
 have hw1:IntKind.i64.wrap (y-x)=y-x:=IntWalk.i64_in _ (by omega)
 have hw2:IntKind.i64.wrap (y-x+1)=y-x+1:=IntWalk.i64_in _ (by omega)
 have HN:=Lib.hid N;clear N
 go_enter Tryz.func12,Tryz.ntmps12
 go_wp2_with fail;refine HN.out.mono ?_;rintro e w1 ⟨r,rfl,h0,h1,ht1,hf1⟩;have hw3:IntKind.i64.wrap (x+r)=x+r:=IntWalk.i64_in _ (by omega)
 go_wp2_with fail;go_ret;exact ⟨x+r,rfl,by omega,by omega,ht1,hf1⟩
def MbN (b m:Nat) (nd:Nd) (w:World) (e:Ending) (w':World):Prop:=∃(v:Value) (l:List UInt8),e = .returned v/\l.length<=m/\langN nd (l.map UInt8.toNat)/\OB 5 w.heap.size v l w'/\TapeOK b w'/\Fr b w w'
def KdsS (b:Nat) (w:World) (kids:List Nd) (v:Value):Prop:=∃g f n c,v = .slice (some ⟨g,f,none⟩) n c/\n=kids.length/\∀W,Stay b w W->KdsIn W kids g f
theorem kidN {b:Nat} {w:World} {kids:List Nd} {g f j:Nat} {u0 u1 u2 u3 u4:Value} (hS:∀W,Stay b w W->KdsIn W kids g f) (hbg:b<g) (hgl:g<w.heap.size) (k0:w.cell? ⟨g,f+j*5,none⟩=some u0) (k1:w.cell? ⟨g,f+j*5+1,none⟩=some u1) (k2:w.cell? ⟨g,f+j*5+2,none⟩=some u2) (k3:w.cell? ⟨g,f+j*5+3,none⟩=some u3) (k4:w.cell? ⟨g,f+j*5+4,none⟩=some u4)
  (hj2:j<kids.length) (W:World) (hW:Stay b w W):NdIn W kids[j] [u0,u1,u2,u3,u4]:=by
 obtain ⟨vs,h1,h2⟩:=(hS W hW).at j hj2;have h5:vs.length=5:=by obtain ⟨A1,c1,A2,c2,rfl,-⟩:=h2.form;rfl
 obtain ⟨x0,x1,x2,x3,x4,rfl⟩:∃x0 x1 x2 x3 x4,vs=[x0,x1,x2,x3,x4]:=by
  match vs,h5 with
  | [x0,x1,x2,x3,x4],_=>exact ⟨x0,x1,x2,x3,x4,rfl⟩
 have q0:=(h1 0 (by decide)).symm.trans ((hW.cell hbg hgl).trans (by simpa using k0))
 have q1:=(h1 1 (by decide)).symm.trans ((hW.cell hbg hgl).trans k1)
 have q2:=(h1 2 (by decide)).symm.trans ((hW.cell hbg hgl).trans k2)
 have q3:=(h1 3 (by decide)).symm.trans ((hW.cell hbg hgl).trans k3)
 have q4:=(h1 4 (by decide)).symm.trans ((hW.cell hbg hgl).trans k4)
 injection q0 with q0;injection q1 with q1;injection q2 with q2;injection q3 with q3;injection q4 with q4;subst q0 q1 q2 q3 q4;exact h2
end Go.Proofs.YtljgapfmgegifaaGreatDoor
