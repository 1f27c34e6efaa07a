/- Walks. -/
import Derived.Test.YtdmoogjddmdmbaaGreatDoorX18
import Derived.Great.Walk
import Derived.Laws.Tables
set_option maxRecDepth 100000
set_option maxHeartbeats 16000000
set_option linter.unusedVariables false
set_option linter.unusedSimpArgs false
namespace Go.Proofs.YtdmoogjddmdmbaaGreatDoor
open Go.RowKit
theorem zE(A:Option Addr)(n c:Nat)(bs:List Nat)(w:World)(hb:eZ w (.slice A n c) bs)(hn:bs.length=n)(dV:∀b∈bs,b<256)(kr:n<=900000):Calls Tryz.prog 32 #[.slice A n c] w λe w'=>e=.returned (.int .i64 ((BQ bs:Nat):Int))/\Below w.heap.size w w':=by
 have yx:n<=c/\c<=9223372036854775807:=by
  obtain ⟨A',c',e,h1,-⟩:=hb;injection e with _ e2 e3;omega
 by_cases pX:65536<n
 .have d:decide (65536<(n:Int))=true:=τ;have hz:BQ bs=0:=by
   have hf:∀k,cntF bs k=0:=λk=>by unfold cntF;rw[if_pos Y]
   have hs:∀k i,sP (cntF bs) bs.length k i=0:=λk=>by
    induction k with
    |zero=>exact λi=>rfl
    |succ k ih=>exact λi=>by show lQ _ (cntF bs i)+sP _ _ k (i+1)=0;rw[ih,hf];unfold lQ;rw[if_neg O]
   exact hs _ _
  rw[hz];clear hz hb
  go_enter Tryz.func32,Tryz.ntmps32
  go_wp2_with fail;go_ret;exact ⟨rfl,υ⟩
 have d:decide (65536<(n:Int))=false:=θ;have HC:=Z (CR A n c bs w hb hn dV);rw[if_neg Y]at HC;have Zy:=(zero_of_info iK).1;have rm:=(zero_of_info iK).2;have Ev:∀k,bs.count k=cntF bs k:=λk=>by unfold cntF;rw[if_neg Y]
 have HK:=Z (H Ev hn);obtain ⟨M,hM⟩:=ν (BQ bs);rw[hM];have HM:=Z hM;obtain ⟨C,hC⟩:=acE;have My:=Z hC;clear hC hb dV Ev hM hn
 go_enter Tryz.func32,Tryz.ntmps32
 go_wp2_with fail;refine HC.out.mono ?_;rintro e w1 ⟨rfl,hb1⟩
 rename_i AY
 refine AY _ _ (Go.Great.wpList_allocTo rfl _ rfl (.pointer (some ⟨w1.heap.size,0,none⟩)) (.cells (Array.replicate 256 (.int .i64 0)) 117 (0,0)) ?hal (wpList_store_row rfl 117 (.tmp 3) (.tmp 10) rfl w1.heap.size (cR bs).toArray rfl rfl 117 (Array.replicate 256 (.int .i64 0)) (heap_alloc_new w1 _) (by simp only[List.size_toArray,bA];exact rm) (by simp[bA]) (Array.all_eq_true_iff_forall_mem.2 λv hv=>mC bs v (by simpa using hv)) ?_))
 case hal=>simp[execOp,Instr.alloc,Zy,newVar,newRow,Value.cells,rm,bA]
 have Uo:((w1.alloc (.cells (Array.replicate 256 (.int .i64 0)) 117 (0,0))).setRow w1.heap.size (cR bs).toArray).heap[w1.heap.size]?=some (.cells (cR bs).toArray 117 (0,0)):=setRow_heap _ _ _ _ _ _ (heap_alloc_new w1 _);generalize mK:(w1.alloc (.cells (Array.replicate 256 (.int .i64 0)) 117 (0,0))).setRow w1.heap.size (cR bs).toArray=W3 at Uo|-;have eY:Below w.heap.size w W3:=by
  rw[<-mK];have h1:Below w1.heap.size w1 (w1.alloc (.cells (Array.replicate 256 (.int .i64 0)) 117 (0,0))):=υ.alloc I _;have h2:Below w1.heap.size (w1.alloc (.cells (Array.replicate 256 (.int .i64 0)) 117 (0,0))) ((w1.alloc (.cells (Array.replicate 256 (.int .i64 0)) 117 (0,0))).setRow w1.heap.size (cR bs).toArray):=⟨rfl,rfl,rfl,by rw[setRow_size];exact I,λk hk=>setRow_other _ _ _ _ Y⟩
  exact hb1.trans ((h1.trans h2).mono hb1.size)
 have Az:=hb1.size;obtain ⟨g,hg⟩:=ν w1.heap.size;rw[hg]at Uo Az|-;have XD:=Z (H Uo (H eY Az));clear mK hb1 Uo eY Az hg Zy rm;go_wp2_with fail;go_loopw [4,5] (λsv iv wr=>∃k s:Nat,k<=256/\iv=.int .i64 (k:Int)/\sv=.int .i64 (s:Int)/\Hid (s<=k*C/\s+sP (cntF bs) n (256-k) k=M)/\Hid (Below w.heap.size w wr/\wr.heap[g]?=some (.cells (cR bs).toArray 117 (0,0)))) (λ_ iv _=>256 - (intOf iv).toNat)
 case atStart=>exact ⟨0,0,Y,rfl,rfl,⟨Nat.zero_le _,by rw[Nat.zero_add,<-HK.out.2];exact HM.out⟩,XD.out.2.1,XD.out.1⟩
 case round=>
  obtain ⟨k,s,hk,rfl,rfl,HR,Rp⟩:=hrel;by_cases hlt:k<256
  .have hd:decide ((k:Int)<256)=true:=τ;have cX:decide (k<256)=true:=decide_eq_true hlt;have hki:(k:Int)<256:=Y;have cB:sP (cntF bs) n (256-k) k=lQ n (cntF bs k)+sP (cntF bs) n (256 - (k+1)) (k+1):=by rw[show 256-k=(256 - (k+1))+1 by omega];rfl
   have hle:=My.out.2 n _ (nn bs k).1;have bB:=(nn bs k).2 (by have:=HK.out.2;omega)
   rw[HK.out.2]at bB;have iY:wr.cell? ⟨g,k,none⟩=some (.int .i64 ((cntF bs k:Nat):Int)):=by
    rw[cell_of_row _ _ _ _ _ _ Rp.out.2,List.getElem?_toArray,kL _ k hlt,HK.out.1 k]
   obtain ⟨q,hq⟩:=ν (cntF bs k);have hq6:q<=65536:=by rw[<-hq];exact (nn bs k).1
   rw[hq]at cB hle bB iY;have lg:g<wr.heap.size:=(γ Rp.out.2).1;have zW:=MC HR.out.1 hk My.out.1;by_cases h0:0<q
   .have d0:decide ((0:Int)<(q:Int))=true:=τ;have d0n:decide (0<q)=true:=decide_eq_true h0;have si:=xF h0 bB Y;have FL:=y8 n;have L1:=Z λW=>CQ n W Y;have L2:=Z λW=>CQ q W Y;obtain ⟨a,ha⟩:=ν (fT n);obtain ⟨b,hb⟩:=ν (fT q);have mB:lQ n q=q*(a-b):=by unfold lQ;rw[if_pos h0,ha,hb]
    rw[ha]at L1 si FL;rw[hb]at L2 si;rw[mB]at hle cB;obtain ⟨x,hdd⟩:=ν (a-b);rw[hdd]at hle cB;have hw1:wrap64 ((a:Int) - (b:Int))=(x:Int):=by rw[IntWalk.wrap64_in _ Y];omega
    obtain ⟨y,hy⟩:=ν (q*x);rw[hy]at hle cB;have hyi:(q:Int)*(x:Int)=(y:Int):=by rw[<-hy];push_cast;rfl
    have hyC:y<=1000000000000:=Nat.le_trans hle My.out.1;obtain ⟨ew,yD⟩:=acD zW hyC;have bM:=HR.out.2;rw[cB,<-Nat.add_assoc]at bM;have HF:=Z (H (Gt HR.out.1 hle) bM);clear cB hle bB hq si FL ha hb mB hdd hy bM zW hyC
    go_upto_region 9 with fail
    have ow:∀d:aN wr.heap.size wr,d.val.cell? ⟨g,k,none⟩=some (.int .i64 (q:Int)):=λd=>(d.ah.cl g k lg).trans iY;have Qs:∀d:aN wr.heap.size wr,g<d.val.heap.size:=λd=>Nat.lt_of_lt_of_le lg d.ah.size;refine aq (Below.refl wr wr) κ κ ?_
    repeat (go_big_quiet_step (fail))
    go_big_quiet_step ((go_at_call 65;exact Calls.kq ((L1.out _).mono λ_ _ h=>⟨h.1,h.2.symm⟩)))
    repeat (go_big_quiet_step (fail))
    go_big_quiet_step ((go_at_call 65;exact Calls.kq ((L2.out _).mono λ_ _ h=>⟨h.1,h.2.symm⟩)))
    repeat (go_big_quiet_step (fail))
    refine wpQuiet_nil ?_;intro w9 hw';have oF:Below wr.heap.size wr w9:=by obtain ⟨d9,rfl⟩:=hw';exact d9.ah
    have H9:=Z (H (Rp.out.1.trans (oF.mono Rp.out.1.size)) ((oF.block _ lg).trans Rp.out.2));clear hw' oF ow Qs;go_wp2_with fail;go_roundw
    case rel=>exact ⟨k+1,s+y,Y,by go_num,by go_num,⟨HF.out.1,HF.out.2⟩,H9.out.1,H9.out.2⟩
    case measure=>exact μ
   .obtain rfl:q=0:=Y;have mB:lQ n 0=0:=by unfold lQ;rw[if_neg O]
    have bM:=HR.out.2;rw[cB,mB,Nat.zero_add]at bM;have HF:=Z (H (Gt (y:=0) HR.out.1 (Nat.zero_le _)) bM);clear cB hle bB hq mB bM zW;go_wp2_with fail;go_roundw
    case rel=>exact ⟨k+1,s,Y,by go_num,rfl,⟨HF.out.1,HF.out.2⟩,Rp.out.1,Rp.out.2⟩
    case measure=>exact μ
  .obtain rfl:k=256:=Y;have hR:=HR.out.2;rw[Nat.sub_self,sP,Nat.add_zero]at hR;have HF:=Z hR;clear hR;go_wp2_with fail;go_ret;exact ⟨by rw[<-HF.out];rfl,Rp.out.1⟩
end Go.Proofs.YtdmoogjddmdmbaaGreatDoor
