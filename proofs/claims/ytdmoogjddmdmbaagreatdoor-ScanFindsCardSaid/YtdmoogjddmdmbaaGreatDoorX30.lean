/- Walks. -/
import Derived.Test.YtdmoogjddmdmbaaGreatDoorX29
import Derived.Test.YtdmoogjddmdmbaaGreatDoorX01
import Derived.Test.YtdmoogjddmdmbaaGreatDoorX11
set_option maxRecDepth 100000
set_option maxHeartbeats 16000000
set_option linter.unusedVariables false
set_option linter.unusedSimpArgs false
namespace Go.Proofs.YtdmoogjddmdmbaaGreatDoor
open Go.RowKit
theorem DI(a b:Mt)(w:World):Calls Tryz.prog 10 #[.agg #[.int .i64 (a.k:Int),.int .i64 (a.f:Int),.int .i64 (a.t:Int)],.agg #[.int .i64 (b.k:Int),.int .i64 (b.f:Int),.int .i64 (b.t:Int)]] w λe w'=>e=.returned (.bool (tP a b))/\Below w.heap.size w w':=by
 obtain ⟨R,hR⟩:=ν (tP a b);rw[hR];have HR:=Z hR;obtain ⟨ak,af,at_⟩:=a;obtain ⟨bk,bf,bt⟩:=b;clear hR
 go_enter Tryz.func10,Tryz.ntmps10
 go_upto_region 1 with fail
 refine dD λW0 aP=>?_;have hb0:Below w.heap.size w W0:=by rw[aP];exact (υ.alloc I _).alloc ξ _
 have h1:W0.heap[w.heap.size]?=some (.cells #[.int .i64 (ak:Int),.int .i64 (af:Int),.int .i64 (at_:Int)] 36 (0,0)):=by
  rw[aP];exact (aB _ _ _ ξ).trans (heap_alloc_new w _)
 have h2:W0.heap[w.heap.size+1]?=some (.cells #[.int .i64 (bk:Int),.int .i64 (bf:Int),.int .i64 (bt:Int)] 36 (0,0)):=by
  rw[aP,show w.heap.size+1=(w.alloc (.cells #[.int .i64 (ak:Int),.int .i64 (af:Int),.int .i64 (at_:Int)] 36)).heap.size by simp];exact heap_alloc_new _ _
 obtain ⟨x0,x1,x2⟩:=cells3 h1;obtain ⟨y0,y1,y2⟩:=cells3 h2;have l1:=(γ h1).1;have l2:=(γ h2).1;have HB:=Z hb0;clear aP hb0 h1 h2;by_cases e1:af=bf
 .subst e1;have d1:((af:Int) != (af:Int))=false:=ξ;by_cases e2:at_=bt
  .subst e2;have d2:((at_:Int) != (at_:Int))=false:=ξ;have HD:=Z (show decide ((ak:Int)<(bk:Int))=R from by
    rw[<-HR.out];unfold tP;simp)
   go_wp2_with fail;go_ret;exact ⟨ae (by first|exact HD.out | (rw[<-HD.out];simp)),HB.out⟩
  .have d2:((at_:Int) != (bt:Int))=true:=ψ;have HD:=Z (show decide ((at_:Int)<(bt:Int))=R from by
    rw[<-HR.out];unfold tP;simp[e2])
   clear e2;go_wp2_with fail;go_ret;exact ⟨ae (by first|exact HD.out | (rw[<-HD.out];simp)),HB.out⟩
 .have d1:((af:Int) != (bf:Int))=true:=ψ;have HD:=Z (show decide ((af:Int)<(bf:Int))=R from by
   rw[<-HR.out];unfold tP;simp[e1])
  clear e1;go_wp2_with fail;go_ret;exact ⟨ae (by first|exact HD.out | (rw[<-HD.out];simp)),HB.out⟩
end Go.Proofs.YtdmoogjddmdmbaaGreatDoor
