/- Walks. -/
import Derived.RangeFuncNested
import Derived.RangeFuncBound
import Derived.RangeFuncCalls
import Derived.RangeFuncLeaves
import Derived.RangeFuncWrites
import Derived.Shelf.Abstract
import Derived.Shelf.RegionOpen
import Derived.WalkKit
import Derived.OwnWalkIn
import Derived.TacticsInMore
import Derived.LoopNIn
import Derived.LoopIn
import Derived.Test.YtdmoogjddmdmbaaGreatDoorX11
set_option maxRecDepth 100000
set_option maxHeartbeats 16000000
set_option linter.unusedVariables false
set_option linter.unusedSimpArgs false
namespace Go.Proofs.YtdmoogjddmdmbaaGreatDoor
open Go.RowKit
section
open Go.RowKit Go.Shelf
attribute [local go_sem] Oper.semAt_some
def Ik(s n:Nat)(W W':World):Prop:=W'.heap[s]?=W.heap[s]?/\W'.heap[n]?=W.heap[n]?
theorem Ik.refl(s n:Nat)(W:World):Ik s n W W:=⟨rfl,rfl⟩
theorem Ik.trans{s n:Nat}{A B C:World}(h:Ik s n A B)(k:Ik s n B C):Ik s n A C:=⟨k.1.trans h.1,k.2.trans h.2⟩
theorem Qh(F:Fence)(n:Nat)(h54:F.fn 93)(hro:F.round=none)(a:Option Addr)(len cap:Nat)(w:World):
  CallsIn F n Tryz.prog 93 #[.slice a len cap] w λe w'=>e=.returned (.func (.func 121) #[] #[.pointer (some ⟨w.heap.size,0,none⟩)])/\
   w'=w.alloc (.cells #[.slice a len cap] 22):=by
 refine callsIn_of_wp Tryz.func93 rfl h54 ?_ hro;simp only[Tryz.ntmps93,List.size_toArray,List.length_cons,List.length_nil,Nat.reduceAdd,Nat.reduceSub,Array.replicate_succ,Array.replicate_zero,List.push_toArray,List.append_toArray,List.nil_append,List.cons_append]
 gi_wp2
 go_ret;exact ⟨rfl,rfl⟩
def qP(R:List Nat)(x:Nat):Nat:=(R[R.length - 1-x]?).getD 0
def bkE(R:List Nat)(x:Nat):Array Value:=#[.int .i64 ((R.length:Int) - 1-x),.int .i64 ((qP R x:Nat):Int)]
set_option maxRecDepth 100000 in
theorem Lm(F:Fence)(n:Nat)(h71:F.fn 121)(hro:F.round=none)(hn:1<=n)(l s g f:Nat)(A:Option Addr)(R:List Nat)(len cap:Nat)(hlen:R.length=len)(hl:len<=1000000)(hA:len=0\/A=some ⟨g,f,none⟩)(J Jx:List Nat->World->Prop)
  (hY:∀pre x W,J pre W->pre.length<len->YieldAt F (n - 1) Tryz.prog l (bkE R x) W λe W'=>
   (e=.returned (.bool true)/\J (pre++[x]) W'/\Ik s g W W')\/(e=.returned (.bool false)/\Jx (pre++[x]) W'))
  (W:World) (hs:W.cell? ⟨s,0,none⟩=some (.slice A len cap)) (hc:∀j,j<len->g<W.heap.size/\W.cell? ⟨g,f+j,none⟩=some (.int .i64 (((R[j]?).getD 0:Nat):Int))) (h0:J [] W) :
  CallsIn F n Tryz.prog 121 #[.func (.yield l) #[] #[],.pointer (some ⟨s,0,none⟩)] W λe W'=>(∃v,e=.returned v)/\
   ((∃ys,ys=List.range len/\J ys W')\/(∃pre,(∃k,k<len/\pre=List.range (k+1))/\Jx pre W')):=by
 have DS:s<W.heap.size:=World.block_lt_of_cell? W _ hs;have FR:IntKind.i64.wrap ((len:Int) - 1)=(len:Int) - 1:=IntWalk.i64_in _ Y;refine callsIn_of_wp Tryz.func121 rfl h71 ?_ hro;simp only[Tryz.ntmps121,List.size_toArray,List.length_cons,List.length_nil,Nat.reduceAdd,Nat.reduceSub,Array.replicate_succ,Array.replicate_zero,List.push_toArray,List.append_toArray,List.nil_append,List.cons_append]
 gi_wp2
 gi_loopw [3] (λi wr=>∃k:Nat,k<=len/\i=.int .i64 ((len:Int) - 1-k)/\J (List.range k) wr/\Ik s g W wr)
  (λi _=>(intOf i+1).toNat)
 case atStart=>exact ⟨0,Y,by go_num,h0,Ik.refl _ _ _⟩
 case round=>
  obtain ⟨k,hk,rfl,hJs,tY⟩:=hrel;have qM:wr.cell? ⟨s,0,none⟩=some (.slice A len cap):=(World.cell?_of_block tY.1).trans hs;have ls:s<wr.heap.size:=World.block_lt_of_cell? wr _ qM;by_cases hlt:k<len
  .obtain ⟨j,hj⟩:∃j,j+k+1=len:=⟨len - 1-k,Y⟩;have ej:(len:Int) - 1-k=(j:Int):=Y;obtain rfl:=hA.resolve_left Y;have zS:wr.cell? ⟨g,f+j,none⟩=some (.int .i64 (((R[j]?).getD 0:Nat):Int)):=(χ g (f+j) tY.2).trans (hc j Y).2;have lg:g<wr.heap.size:=World.block_lt_of_cell? wr _ zS;obtain ⟨fn,tmps,assign,body,hy,hR⟩:=hY _ k wr hJs (by rw[List.length_range];omega)
   have Lf:bkE R k=#[.int .i64 (j:Int),.int .i64 (((R[j]?).getD 0:Nat):Int)]:=by unfold bkE qP;rw[hlen,ej,show len - 1-k=j by omega]
   obtain ⟨r,hr⟩:∃r:Nat,(R[j]?).getD 0=r:=⟨_,rfl⟩;rw[hr]at Lf zS;rw[Lf]at hy;rw[ej];have hd:decide ((0:Int)<=(j:Int))=true:=τ;have hdj:decide (j<len)=true:=τ;have hw1:IntKind.i64.wrap ((j:Int) - 1)=(j:Int) - 1:=IntWalk.i64_in _ Y;have HJ:=Z hj;have oh:j<len:=Y;have aqQ:decide ((j:Int)<(len:Int))=true:=τ;clear ej Lf hc FR hj hr hlen
   gi_wp2
   refine hR.mono ?_;rintro e W3 (⟨rfl,hJ3,U6⟩|⟨rfl,ahq⟩)
   .gi_wp2
    go_roundw
    case rel=>exact ⟨k+1,Y,by rw[show (len:Int) - 1 - (k+1:Nat)=(j:Int) - 1 by have:=HJ.out;omega],by rw[List.range_succ];exact hJ3,Ik.trans tY U6⟩
    case measure=>simp[intOf] <;> omega
   .gi_wp2
    refine bodyPost_ret (results_none rfl _ _ _) rfl ?_;exact ⟨⟨_,rfl⟩,.inr ⟨_,⟨k,hlt,by rw[List.range_succ]⟩,ahq⟩⟩
  .obtain rfl:k=len:=Y;rw[show (k:Int) - 1-k=-1 by omega]
   have hd:decide ((0:Int)<=-1)=false:=O
   gi_wp2
   go_end0
   exact ⟨⟨_,rfl⟩,.inl ⟨_,rfl,hJs⟩⟩
theorem DT(F:Fence)(n:Nat)(h71:F.fn 121)(hro:F.round=none)(hn:1<=n)(s g f:Nat)(A:Option Addr)(R:List Nat)(len cap:Nat)(hlen:R.length=len)(hl:len<=1000000)(hA:len=0\/A=some ⟨g,f,none⟩)(w:World)
  (hs:w.cell? ⟨s,0,none⟩=some (.slice A len cap)) (hsw:s<w.heap.size) (hc:∀j,j<len->g<w.heap.size/\w.cell? ⟨g,f+j,none⟩=some (.int .i64 (((R[j]?).getD 0:Nat):Int))) :
  SeqStopsK F n Tryz.prog 121 #[.pointer (some ⟨s,0,none⟩)] (bkE R) (Ik s g) (λys=>ys=List.range len) (λpre=>∃k,k<len/\pre=List.range (k+1)) len w:=λl J Jx W hW _ _ hY h0=>
 Lm F n h71 hro hn l s g f A R len cap hlen hl hA J Jx hY W ((hW.cl s 0 hsw).trans hs) (λj hj=>⟨Nat.lt_of_lt_of_le (hc j hj).1 hW.size,(hW.cl g (f+j) (hc j hj).1).trans (hc j hj).2⟩) h0
end
end Go.Proofs.YtdmoogjddmdmbaaGreatDoor
