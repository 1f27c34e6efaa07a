/- Walks: the numbers of a pattern. · Walks: which nodes are right. · Walks of the library's searches through rows of structs (patterns, ranges, edges), for any function value that answers. · Walks: which nodes are right; the whole of Valid; the least number of bytes. · Walks: the least number of bytes of a pattern, its positions, and which patterns are valid. · Walks: pattern.Holds. -/
import Derived.Test.YtdmoogjddmdmbaaGreatDoorY06
import Derived.Deep.RegionHeld3
import Derived.Deep.QuietTactic
import Derived.BigQuiet
import Derived.Test.YtdmoogjddmdmbaaGreatDoorY05
namespace Go.Proofs.YtdmoogjddmdmbaaGreatDoor
set_option linter.unusedVariables false
set_option linter.unusedSimpArgs false
set_option maxRecDepth 100000
open Go.RowKit
theorem kids_le:∀l:List Nd,l.length<=nodesTs l
 | []=>by simp
 | k::r=>by cases k;rw[nodesTs,nodesT,List.length_cons];have:=kids_le r;omega
set_option maxHeartbeats 2000000 in
theorem nodes_any:∀(m:Nat) (nd:Nd) (vs:List Value) (w:World),nodesT nd<=m->NdIn w nd vs->Calls Tryz.prog 118 #[.agg vs.toArray] w λe w'=>e = .returned (.int .i64 ((min (nodesT nd) 201:Nat):Int))/\Below w.heap.size w w':=by
 intro m
 induction m with
 | zero=>intro nd vs w h;cases nd;rw[nodesT]at h;omega
 | succ m ih=>
  rintro ⟨op,rs,kids,mn,mx⟩ vs w h hn;have HN:=Lib.hid hn;obtain ⟨v1,v2,rfl,hr,A,c,rfl,hc,hk⟩:=hn;obtain ⟨A1,c1,rfl,-,-⟩:=hr
  go_enter Tryz.func118,Tryz.ntmps118
  have hb0:Below w.heap.size w (w.alloc (.cells #[.int .i64 op, .slice A1 rs.length c1, .slice A kids.length c, .int .i64 mn, .int .i64 mx] 41)):=(Below.refl _ _).alloc (Nat.le_refl _) _;have hT:nodesT (.mk op rs kids mn mx)=1+nodesTs kids:=by rw[nodesT]
  rw[hT]at h;have hkl:kids.length<=nodesTs kids:=kids_le kids;have HT:=Lib.hid hT;have HM:=Lib.hid h;have hkl2:kids.length<=9223372036854775807:=by omega
  clear hT h;go_wp2_with fail
  go_loopw [3,9] (λov iv wr=>∃(k o:Nat),k<=kids.length/\iv = .int .i64 (k:Int)/\ov = .int .i64 (o:Int)/\o<=200/\Hid (o+nodesTs (kids.drop k)=1+nodesTs kids)/\Below w.heap.size w wr) (λ_ iv _=>kids.length - (intOf iv).toNat)
  case atStart=>exact ⟨0,1,by omega,rfl,rfl,by omega,rfl,hb0⟩
  case round=>
   obtain ⟨k,o,hkk,rfl,rfl,ho,HO,hb⟩:=hrel;by_cases hlt:k<kids.length
   .have hd:decide ((k:Int)<(kids.length:Int))=true:=decide_eq_true (by omega)
    have hdn:decide (k<kids.length)=true:=decide_eq_true hlt;obtain ⟨g,f,rfl,hg,hkd⟩:=hk.resolve_left (by rintro rfl;simp at hlt)
    obtain ⟨vs,hcv,hnd⟩:=hkd.at k hlt;have hmem:=nodesT_kid (List.getElem_mem hlt);have hdr:nodesTs (kids.drop k)=nodesT kids[k]+nodesTs (kids.drop (k+1)):=by rw[List.drop_eq_getElem_cons hlt,nodesTs]
    obtain ⟨kd,hkd2⟩:∃kd,kids[k]=kd:=⟨_,rfl⟩;rw[hkd2]at hnd hmem hdr;obtain ⟨B1,e1,B2,e2,rfl,-,-,-⟩:=hnd.form;have q:∀j,j<5->wr.cell? ⟨g,f+k*5+j,none⟩=([.int .i64 kd.op, .slice B1 kd.rs.length e1, .slice B2 kd.kids.length e2, .int .i64 kd.mn, .int .i64 kd.mx]:List Value)[j]?:=λj hj=>(hb.cell (p:=⟨g,f+k*5+j,none⟩) hg).trans (hcv j hj);have q0:=q 0 (by omega);have q1:=q 1 (by omega);have q2:=q 2 (by omega);have q3:=q 3 (by omega);have q4:=q 4 (by omega)
    simp only[Nat.add_zero,List.getElem?_cons_zero,List.getElem?_cons_succ]at q0 q1 q2 q3 q4;have hIH:=λ(w':World) (hw:Below w.heap.size w w')=>ih kd _ w' (by have:=HM.out;omega) (hnd.later hw)
    have HI:=Lib.hid hIH;have HB:=Lib.hid hb;have HD:=Lib.hid hdr;clear q hcv hnd hkd2 hkd hIH hb hdr hb0;go_wp2_with fail;refine (HI.out _ (HB.out.trans ((Below.refl w.heap.size _).alloc HB.out.size _))).mono ?_;rintro e w1 ⟨rfl,hb1⟩;obtain ⟨x,hx⟩:∃x,min (nodesT kd) 201=x:=⟨_,rfl⟩;rw[hx];have hx2:x<=201:=by omega
    have HX:=Lib.hid hx;have HB1:=Lib.hid (show Below w.heap.size w w1 from HB.out.trans ((((Below.refl w.heap.size _).alloc HB.out.size _)).trans (hb1.mono (by have:=HB.out.size;simp;omega))))
    clear hb1 hx hmem q0 q1 q2 q3 q4;by_cases hbig:200<o+x
    .have hd2:decide (200<(o:Int)+(x:Int))=true:=decide_eq_true (by omega)
     go_wp2_with fail;go_ret;refine ⟨ret_int ?_,HB1.out⟩;have h1:=HO.out;have h2:=HD.out;have h3:=HX.out;rw[HT.out];omega
    .have hd2:decide (200<(o:Int)+(x:Int))=false:=decide_eq_false (by omega)
     go_wp2_with fail;go_roundw
     case rel=>
      refine ⟨k+1,o+x,by omega,by go_num,by go_num,by omega,?_,HB1.out⟩
      have h1:=HO.out;have h2:=HD.out;have h3:=HX.out;exact (by omega:o+x+nodesTs (kids.drop (k+1))=1+nodesTs kids)
     case measure=>simp[intOf];omega
   .obtain rfl:k=kids.length:=by omega
    go_wp2_with fail;go_ret;refine ⟨ret_int ?_,hb⟩;have h1:=HO.out;rw[List.drop_length,nodesTs]at h1;rw[HT.out];omega
set_option maxHeartbeats 2000000 in
theorem depth_any:∀(m:Nat) (nd:Nd) (vs:List Value) (w:World) (left:Nat),left<=1000->nodesT nd<=m->NdIn w nd vs->Calls Tryz.prog 119 #[.agg vs.toArray, .int .i64 (left:Int)] w λe w'=>e = .returned (.int .i64 ((min (depthT nd) (left+1):Nat):Int))/\Below w.heap.size w w':=by
 intro m
 induction m with
 | zero=>intro nd vs w left _ h;cases nd;rw[nodesT]at h;omega
 | succ m ih=>
  rintro ⟨op,rs,kids,mn,mx⟩ vs w left hleft h hn;have HN:=Lib.hid hn;obtain ⟨v1,v2,rfl,hr,A,c,rfl,hc,hk⟩:=hn;obtain ⟨A1,c1,rfl,-,-⟩:=hr;have hb0:Below w.heap.size w (w.alloc (.cells #[.int .i64 op, .slice A1 rs.length c1, .slice A kids.length c, .int .i64 mn, .int .i64 mx] 41)):=(Below.refl _ _).alloc (Nat.le_refl _) _;have hT:nodesT (.mk op rs kids mn mx)=1+nodesTs kids:=by rw[nodesT]
  have hD:depthT (.mk op rs kids mn mx)=1+depthTs kids:=by rw[depthT]
  rw[hT]at h;have hkl2:kids.length<=9223372036854775807:=by omega
  have HT:=Lib.hid hD;have HM:=Lib.hid h;clear hT h hD
  cases left with
  | zero=>
   go_enter Tryz.func119,Tryz.ntmps119
   go_wp2_with fail;go_ret;exact ⟨ret_int (by rw[HT.out];omega),hb0⟩
  | succ left=>
   obtain ⟨L,hL⟩:∃L:Int,L=((left+1:Nat):Int):=⟨_,rfl⟩;rw[<-hL];have hl1:(L == 0)=false:=by simp;omega
   have hl2:L - 1=(left:Int):=by omega
   have hl3:1<=L/\L<=1000:=by omega
   clear hL
   go_enter Tryz.func119,Tryz.ntmps119
   go_wp2_with fail
   go_loopw [5,13] (λov iv wr=>∃(k o:Nat),k<=kids.length/\iv = .int .i64 (k:Int)/\ov = .int .i64 (o:Int)/\o<=1001/\Hid (max o (min (depthTs (kids.drop k)) (left+1))=min (depthTs kids) (left+1))/\Below w.heap.size w wr) (λ_ iv _=>kids.length - (intOf iv).toNat)
   case atStart=>exact ⟨0,0,by omega,rfl,rfl,by omega,by show max 0 _=_;rw[List.drop_zero];omega,hb0⟩
   case round=>
    obtain ⟨k,o,hkk,rfl,rfl,ho,HO,hb⟩:=hrel;by_cases hlt:k<kids.length
    .have hd:decide ((k:Int)<(kids.length:Int))=true:=decide_eq_true (by omega)
     have hdn:decide (k<kids.length)=true:=decide_eq_true hlt;obtain ⟨g,f,rfl,hg,hkd⟩:=hk.resolve_left (by rintro rfl;simp at hlt)
     obtain ⟨vs,hcv,hnd⟩:=hkd.at k hlt;have hmem:=nodesT_kid (List.getElem_mem hlt);have hdr:depthTs (kids.drop k)=max (depthT kids[k]) (depthTs (kids.drop (k+1))):=by rw[List.drop_eq_getElem_cons hlt,depthTs]
     obtain ⟨kd,hkd2⟩:∃kd,kids[k]=kd:=⟨_,rfl⟩;rw[hkd2]at hnd hmem hdr;obtain ⟨B1,e1,B2,e2,rfl,-,-,-⟩:=hnd.form;have q:∀j,j<5->wr.cell? ⟨g,f+k*5+j,none⟩=([.int .i64 kd.op, .slice B1 kd.rs.length e1, .slice B2 kd.kids.length e2, .int .i64 kd.mn, .int .i64 kd.mx]:List Value)[j]?:=λj hj=>(hb.cell (p:=⟨g,f+k*5+j,none⟩) hg).trans (hcv j hj);have q0:=q 0 (by omega);have q1:=q 1 (by omega);have q2:=q 2 (by omega);have q3:=q 3 (by omega);have q4:=q 4 (by omega)
     simp only[Nat.add_zero,List.getElem?_cons_zero,List.getElem?_cons_succ]at q0 q1 q2 q3 q4;have hIH:=λ(w':World) (hw:Below w.heap.size w w')=>ih kd _ w' left (by omega) (by have:=HM.out;omega) (hnd.later hw)
     have HI:=Lib.hid hIH;have HB:=Lib.hid hb;have HD:=Lib.hid hdr;clear q hcv hnd hkd2 hkd hIH hb hdr hb0;go_wp2_with fail;refine (HI.out _ (HB.out.trans ((Below.refl w.heap.size _).alloc HB.out.size _))).mono ?_;rintro e w1 ⟨rfl,hb1⟩;obtain ⟨x,hx⟩:∃x,min (depthT kd) (left+1)=x:=⟨_,rfl⟩;rw[hx];have hx2:x<=1001:=by omega
     have HX:=Lib.hid hx;have HB1:=Lib.hid (show Below w.heap.size w w1 from HB.out.trans ((((Below.refl w.heap.size _).alloc HB.out.size _)).trans (hb1.mono (by have:=HB.out.size;simp;omega))))
     clear hb1 hx hmem q0 q1 q2 q3 q4;obtain ⟨y,hy⟩:∃y:Nat,y=max o x:=⟨_,rfl⟩;have hy2:max (o:Int) (x:Int)=(y:Int):=by omega
     have HY:=Lib.hid hy;have hy3:y<=1001:=by omega
     clear hy;go_wp2_with fail;go_roundw
     case rel=>
      refine ⟨k+1,y,by omega,by go_num,by first | go_num | (simp;omega),by omega,?_,HB1.out⟩
      have h1:=HO.out;have h2:=HD.out;have h3:=HX.out;have h4:=HY.out;exact (by omega:max y (min (depthTs (kids.drop (k+1))) (left+1))=min (depthTs kids) (left+1))
     case measure=>simp[intOf];omega
    .obtain rfl:k=kids.length:=by omega
     go_wp2_with fail;go_ret;refine ⟨ret_int ?_,hb⟩;have h1:=HO.out;rw[List.drop_length,depthTs]at h1;rw[HT.out];omega
theorem rightF_op {op:Int} {rs:List (Nat×Nat)} {kids:List Nd} {mn mx:Int} (h:rightF (.mk op rs kids mn mx)=true):(op=1\/op=2\/op=3\/(op=4/\kids.length=1/\0<=mn/\1<=mx/\mx<=64))/\rightFs kids=true:=by
 rw[rightF,Bool.and_eq_true]at h;refine ⟨?_,h.2⟩;have h1:=h.1
 dsimp only [rightN]at h1
 by_cases e1:op=1
 .exact .inl e1
 .rw[if_neg e1]at h1;by_cases e2:op=2\/op=3
  .rcases e2 with e | e
   .exact .inr (.inl e)
   .exact .inr (.inr (.inl e))
  .rw[if_neg e2]at h1;by_cases e3:op=4
   .rw[if_pos e3]at h1;simp at h1;exact .inr (.inr (.inr ⟨e3,by omega,by omega,by omega,by omega⟩))
   .rw[if_neg e3]at h1;cases h1
theorem rightFs_mem:∀{l:List Nd} {k:Nd},rightFs l=true->k∈l->rightF k=true
 | a::r,k,h,hm=>by
  rw[rightFs,Bool.and_eq_true]at h;rcases List.mem_cons.1 hm with rfl | hm
  .exact h.1
  .exact rightFs_mem h.2 hm
theorem longF_le (n:Nd):longF n<=1025:=by cases n;rw[longF];omega
set_option maxHeartbeats 4000000 in
theorem longest_any:∀(m:Nat) (nd:Nd) (vs:List Value) (w:World),nodesT nd<=m->nodesT nd<=200->rightF nd=true->NdIn w nd vs->Calls Tryz.prog 92 #[.agg vs.toArray] w λe w'=>e = .returned (.int .i64 ((longF nd:Nat):Int))/\Below w.heap.size w w':=by
 intro m
 induction m with
 | zero=>intro nd vs w h;cases nd;rw[nodesT]at h;omega
 | succ m ih=>
  rintro ⟨op,rs,kids,mn,mx⟩ vs w h h200 hR hn;have HN:=Lib.hid hn;obtain ⟨v1,v2,rfl,hr,A,c,rfl,hc,hk⟩:=hn;obtain ⟨A1,c1,rfl,-,-⟩:=hr;have hb0:Below w.heap.size w (w.alloc (.cells #[.int .i64 op, .slice A1 rs.length c1, .slice A kids.length c, .int .i64 mn, .int .i64 mx] 41)):=(Below.refl _ _).alloc (Nat.le_refl _) _;have hT:nodesT (.mk op rs kids mn mx)=1+nodesTs kids:=by rw[nodesT]
  have hL:longF (.mk op rs kids mn mx)=min (if op=1 then 1 else if op=2 then longS kids else if op=3 then longC kids else mx.toNat*longH kids) 1025:=by rw[longF]
  rw[hT]at h h200;have hkl:=kids_le kids;have hkl2:kids.length<=200:=by omega
  obtain ⟨hop,hRs⟩:=rightF_op hR;have HL:=Lib.hid hL;have HM:=Lib.hid h;have HM2:=Lib.hid h200;have HRS:=Lib.hid hRs;clear hT h hL h200 hR hRs hkl;rcases hop with rfl | rfl | rfl | ⟨rfl,hk1,hm0,hm1,hm2⟩
  .go_enter Tryz.func92,Tryz.ntmps92
   go_wp2_with fail;go_ret;exact ⟨ret_int (by rw[HL.out];rfl),hb0⟩
  .go_enter Tryz.func92,Tryz.ntmps92
   go_wp2_with fail
   go_loopw [3,25] (λov iv wr=>∃(k o:Nat),k<=kids.length/\iv = .int .i64 (k:Int)/\ov = .int .i64 (o:Int)/\o<=1025*k/\Hid (o+longS (kids.drop k)=longS kids)/\Below w.heap.size w wr) (λ_ iv _=>kids.length - (intOf iv).toNat)
   case atStart=>exact ⟨0,0,by omega,rfl,rfl,by omega,by show 0+_=_;rw[List.drop_zero,Nat.zero_add],hb0⟩
   case round=>
    obtain ⟨k,o,hkk,rfl,rfl,ho,HO,hb⟩:=hrel;by_cases hlt:k<kids.length
    .have hd:decide ((k:Int)<(kids.length:Int))=true:=decide_eq_true (by omega)
     have hdn:decide (k<kids.length)=true:=decide_eq_true hlt;obtain ⟨g,f,rfl,hg,hkd⟩:=hk.resolve_left (by rintro rfl;simp at hlt)
     obtain ⟨vs,hcv,hnd⟩:=hkd.at k hlt;have hmem:=nodesT_kid (List.getElem_mem hlt);have hrk:=rightFs_mem HRS.out (List.getElem_mem hlt);have hdr:longS (kids.drop k)=longF kids[k]+longS (kids.drop (k+1)):=by rw[List.drop_eq_getElem_cons hlt,longS]
     obtain ⟨kd,hkd2⟩:∃kd,kids[k]=kd:=⟨_,rfl⟩;rw[hkd2]at hnd hmem hdr hrk;obtain ⟨B1,e1,B2,e2,rfl,-,-,-⟩:=hnd.form;have q:∀j,j<5->wr.cell? ⟨g,f+k*5+j,none⟩=([.int .i64 kd.op, .slice B1 kd.rs.length e1, .slice B2 kd.kids.length e2, .int .i64 kd.mn, .int .i64 kd.mx]:List Value)[j]?:=λj hj=>(hb.cell (p:=⟨g,f+k*5+j,none⟩) hg).trans (hcv j hj);have q0:=q 0 (by omega);have q1:=q 1 (by omega);have q2:=q 2 (by omega);have q3:=q 3 (by omega);have q4:=q 4 (by omega)
     simp only[Nat.add_zero,List.getElem?_cons_zero,List.getElem?_cons_succ]at q0 q1 q2 q3 q4;have hIH:=λ(w':World) (hw:Below w.heap.size w w')=>ih kd _ w' (by have:=HM.out;omega) (by have:=HM2.out;omega) hrk (hnd.later hw)
     have HI:=Lib.hid hIH;have HB:=Lib.hid hb;have HD:=Lib.hid hdr;clear q hcv hnd hkd2 hkd hIH hb hdr hb0 hrk;go_wp2_with fail;refine (HI.out _ (HB.out.trans ((Below.refl w.heap.size _).alloc HB.out.size _))).mono ?_;rintro e w1 ⟨rfl,hb1⟩;obtain ⟨x,hx⟩:∃x,longF kd=x:=⟨_,rfl⟩;have hx2:=longF_le kd;rw[hx]at hx2|-;have HX:=Lib.hid hx;have HB1:=Lib.hid (show Below w.heap.size w w1 from HB.out.trans ((((Below.refl w.heap.size _).alloc HB.out.size _)).trans (hb1.mono (by have:=HB.out.size;simp;omega))))
     clear hb1 hx hmem q0 q1 q2 q3 q4;go_wp2_with fail;go_roundw
     case rel=>
      refine ⟨k+1,o+x,by omega,by go_num,by go_num,by omega,?_,HB1.out⟩
      have h1:=HO.out;have h2:=HD.out;have h3:=HX.out;exact (by omega:o+x+longS (kids.drop (k+1))=longS kids)
     case measure=>simp[intOf];omega
    .obtain rfl:k=kids.length:=by omega
     have hfin:=HO.out;rw[List.drop_length,longS,Nat.add_zero]at hfin;have HF:=Lib.hid hfin;obtain ⟨y,hy⟩:∃y:Nat,y=min o 1025:=⟨_,rfl⟩;have hy2:min (o:Int) 1025=(y:Int):=by omega
     have HY:=Lib.hid hy;clear hfin hy;have hL':longF (.mk 2 rs kids mn mx)=min (longS kids) 1025:=by rw[HL.out];simp
     have HL2:=Lib.hid hL';clear hL';go_wp2_with fail
     all_goals
      go_ret;refine ⟨ret_int ?_,hb⟩;have h1:=HY.out;have h2:=HF.out;rw[HL2.out,<-h2];omega
  .go_enter Tryz.func92,Tryz.ntmps92
   go_wp2_with fail
   go_loopw [3,39] (λov iv wr=>∃(k o:Nat),k<=kids.length/\iv = .int .i64 (k:Int)/\ov = .int .i64 (o:Int)/\o<=1025/\Hid (max o (longC (kids.drop k))=longC kids)/\Below w.heap.size w wr) (λ_ iv _=>kids.length - (intOf iv).toNat)
   case atStart=>exact ⟨0,0,by omega,rfl,rfl,by omega,by show max 0 _=_;rw[List.drop_zero,Nat.zero_max],hb0⟩
   case round=>
    obtain ⟨k,o,hkk,rfl,rfl,ho,HO,hb⟩:=hrel;by_cases hlt:k<kids.length
    .have hd:decide ((k:Int)<(kids.length:Int))=true:=decide_eq_true (by omega)
     have hdn:decide (k<kids.length)=true:=decide_eq_true hlt;obtain ⟨g,f,rfl,hg,hkd⟩:=hk.resolve_left (by rintro rfl;simp at hlt)
     obtain ⟨vs,hcv,hnd⟩:=hkd.at k hlt;have hmem:=nodesT_kid (List.getElem_mem hlt);have hrk:=rightFs_mem HRS.out (List.getElem_mem hlt);have hdr:longC (kids.drop k)=max (longF kids[k]) (longC (kids.drop (k+1))):=by rw[List.drop_eq_getElem_cons hlt,longC]
     obtain ⟨kd,hkd2⟩:∃kd,kids[k]=kd:=⟨_,rfl⟩;rw[hkd2]at hnd hmem hdr hrk;obtain ⟨B1,e1,B2,e2,rfl,-,-,-⟩:=hnd.form;have q:∀j,j<5->wr.cell? ⟨g,f+k*5+j,none⟩=([.int .i64 kd.op, .slice B1 kd.rs.length e1, .slice B2 kd.kids.length e2, .int .i64 kd.mn, .int .i64 kd.mx]:List Value)[j]?:=λj hj=>(hb.cell (p:=⟨g,f+k*5+j,none⟩) hg).trans (hcv j hj);have q0:=q 0 (by omega);have q1:=q 1 (by omega);have q2:=q 2 (by omega);have q3:=q 3 (by omega);have q4:=q 4 (by omega)
     simp only[Nat.add_zero,List.getElem?_cons_zero,List.getElem?_cons_succ]at q0 q1 q2 q3 q4;have hIH:=λ(w':World) (hw:Below w.heap.size w w')=>ih kd _ w' (by have:=HM.out;omega) (by have:=HM2.out;omega) hrk (hnd.later hw)
     have HI:=Lib.hid hIH;have HB:=Lib.hid hb;have HD:=Lib.hid hdr;clear q hcv hnd hkd2 hkd hIH hb hdr hb0 hrk;go_wp2_with fail;refine (HI.out _ (HB.out.trans ((Below.refl w.heap.size _).alloc HB.out.size _))).mono ?_;rintro e w1 ⟨rfl,hb1⟩;obtain ⟨x,hx⟩:∃x,longF kd=x:=⟨_,rfl⟩;have hx2:=longF_le kd;rw[hx]at hx2|-;have HX:=Lib.hid hx;have HB1:=Lib.hid (show Below w.heap.size w w1 from HB.out.trans ((((Below.refl w.heap.size _).alloc HB.out.size _)).trans (hb1.mono (by have:=HB.out.size;simp;omega))))
     obtain ⟨y,hy⟩:∃y:Nat,y=max o x:=⟨_,rfl⟩;have hy2:max (o:Int) (x:Int)=(y:Int):=by omega
     have HY:=Lib.hid hy;have hy3:y<=1025:=by omega
     clear hb1 hx hmem q0 q1 q2 q3 q4 hy;go_wp2_with fail;go_roundw
     case rel=>
      refine ⟨k+1,y,by omega,by go_num,by first | go_num | (simp;omega),by omega,?_,HB1.out⟩
      have h4:=HY.out;have h1:=HO.out;have h2:=HD.out;have h3:=HX.out;exact (by omega:max y (longC (kids.drop (k+1)))=longC kids)
     case measure=>simp[intOf];omega
    .obtain rfl:k=kids.length:=by omega
     have hfin:=HO.out;rw[List.drop_length,longC,Nat.max_zero]at hfin;have HF:=Lib.hid hfin;obtain ⟨y,hy⟩:∃y:Nat,y=min o 1025:=⟨_,rfl⟩;have hy2:min (o:Int) 1025=(y:Int):=by omega
     have HY:=Lib.hid hy;clear hfin hy;have hL':longF (.mk 3 rs kids mn mx)=min (longC kids) 1025:=by rw[HL.out];simp
     have HL2:=Lib.hid hL';clear hL';go_wp2_with fail
     all_goals
      go_ret;refine ⟨ret_int ?_,hb⟩;have h1:=HY.out;have h2:=HF.out;rw[HL2.out,<-h2];omega
  .obtain ⟨kd,rfl⟩:∃kd,kids=[kd]:=by
    match kids,hk1 with
    | [a],_=>exact ⟨a,rfl⟩
   obtain ⟨g,f,rfl,hg,hkd⟩:=hk.resolve_left (by simp)
   obtain ⟨vs,hcv,hnd⟩:=hkd.at 0 (by simp)
   have hmem:=nodesT_kid (List.mem_singleton.2 rfl:kd∈[kd]);have hrk:=rightFs_mem HRS.out (List.mem_singleton.2 rfl:kd∈[kd])
   replace hnd:NdIn w kd vs:=hnd
   obtain ⟨B1,e1,B2,e2,rfl,-,-,-⟩:=hnd.form;have hrow:=heap_alloc_new w (.cells #[.int .i64 4, .slice A1 rs.length c1, .slice (some ⟨g,f,none⟩) 1 c, .int .i64 mn, .int .i64 mx] 41);have hS:∀W,Below w.heap.size w W->W.heap[w.heap.size]?=some (.cells #[.int .i64 4, .slice A1 rs.length c1, .slice (some ⟨g,f,none⟩) 1 c, .int .i64 mn, .int .i64 mx] 41 (0,0))->
     (W.cell? ⟨w.heap.size,4,none⟩=some (.int .i64 mx)/\W.cell? ⟨w.heap.size,2,none⟩=some (.slice (some ⟨g,f,none⟩) 1 c))/\
     W.cell? ⟨g,f,none⟩=some (.int .i64 kd.op)/\W.cell? ⟨g,f+1,none⟩=some (.slice B1 kd.rs.length e1)/\W.cell? ⟨g,f+2,none⟩=some (.slice B2 kd.kids.length e2)/\W.cell? ⟨g,f+3,none⟩=some (.int .i64 kd.mn)/\W.cell? ⟨g,f+4,none⟩=some (.int .i64 kd.mx):=by
    intro W hW hr;have q:∀j,j<5->W.cell? ⟨g,f+j,none⟩=([.int .i64 kd.op, .slice B1 kd.rs.length e1, .slice B2 kd.kids.length e2, .int .i64 kd.mn, .int .i64 kd.mx]:List Value)[j]?:=λj hj=>(hW.cell (p:=⟨g,f+j,none⟩) hg).trans (by have:=hcv j hj;rw[Nat.zero_mul,Nat.add_zero]at this;exact this)
    refine ⟨⟨?_,?_⟩,q 0 (by omega),q 1 (by omega),q 2 (by omega),q 3 (by omega),q 4 (by omega)⟩
    .rw[cell_of_row _ _ _ _ _ _ hr];rfl
    .rw[cell_of_row _ _ _ _ _ _ hr];rfl
   have HSS:=Lib.hid hS;have hIH:=λ(w':World) (hw:Below w.heap.size w w')=>ih kd _ w' (by have:=HM.out;omega) (by have:=HM2.out;omega) hrk (hnd.later hw)
   have HI:=Lib.hid hIH;have HB:=Lib.hid hb0;have HR:=Lib.hid hrow;obtain ⟨x,hx⟩:∃x,longF kd=x:=⟨_,rfl⟩;have hx2:=longF_le kd;rw[hx]at hx2 HI;have HX:=Lib.hid hx;obtain ⟨M,rfl⟩:=Int.eq_ofNat_of_zero_le (show 0<=mx by omega)
   obtain ⟨P,hP⟩:∃P:Nat,P=M*x:=⟨_,rfl⟩;have hP1:P<=64*1025:=by rw[hP];exact Nat.mul_le_mul (by omega) hx2
   have hP2:(M:Int)*(x:Int)=(P:Int):=by rw[hP];simp
   have hP3:IntKind.i64.wrap ((M:Int)*(x:Int))=(P:Int):=by rw[hP2];exact IntWalk.i64_in _ (by omega)
   obtain ⟨y,hy⟩:∃y:Nat,y=min P 1025:=⟨_,rfl⟩;have hy2:min (P:Int) 1025=(y:Int):=by omega
   have HY:=Lib.hid (And.intro hP hy);clear hS hcv hnd hkd hIH hb0 hrow hrk hmem hx hP hy hP2;have hz0:=HSS.out _ HB.out HR.out;have hzd:=HSS.out _ HB.out.drew HR.out
   go_enter Tryz.func92,Tryz.ntmps92
   go_wp2_with fail
   go_region_held3 (λw'=>(w'.cell? ⟨w.heap.size,4,none⟩=some (.int .i64 (M:Int))/\w'.cell? ⟨w.heap.size,2,none⟩=some (.slice (some ⟨g,f,none⟩) 1 c))/\w'.cell? ⟨g,f,none⟩=some (.int .i64 kd.op)/\w'.cell? ⟨g,f+1,none⟩=some (.slice B1 kd.rs.length e1)/\w'.cell? ⟨g,f+2,none⟩=some (.slice B2 kd.kids.length e2)/\w'.cell? ⟨g,f+3,none⟩=some (.int .i64 kd.mn)/\w'.cell? ⟨g,f+4,none⟩=some (.int .i64 kd.mx))
    (first | exact hz0 | exact hzd | exact hz1 | go_keep)
    ((go_at_call 92;refine (HI.out _ HB.out.drew).mono ?_;rintro e w1 ⟨rfl,hb1⟩;have hz1:=HSS.out w1 (HB.out.drew.trans (hb1.mono (HB.out.drew).size)) ((hb1.block w.heap.size (by simp)).trans HR.out)))
   all_goals
    have HE:=Lib.hid (HB.out.drew.trans (hb1.mono (HB.out.drew).size));clear hz0 hzd hz1 hb1;go_wp2_with fail
    all_goals
     go_ret;refine ⟨ret_int ?_,HE.out⟩;have h1:=HY.out.1;have h2:=HY.out.2;have h3:=HX.out;rw[HL.out,if_neg (by decide),if_neg (by decide),if_neg (by decide),Int.toNat_natCast,longH,h3,<-h1]
     omega
theorem cells5 {w:World} {b:Nat} {T:TypeId} {a0 a1 a2 a3 a4:Value} (h:w.heap[b]?=some (.cells #[a0,a1,a2,a3,a4] T (0,0))) :
  w.cell? ⟨b,0,none⟩=some a0/\w.cell? ⟨b,1,none⟩=some a1/\w.cell? ⟨b,2,none⟩=some a2/\w.cell? ⟨b,3,none⟩=some a3/\w.cell? ⟨b,4,none⟩=some a4:=by
 refine ⟨?_,?_,?_,?_,?_⟩ <;> (rw[cell_of_row _ _ _ _ _ _ h]; rfl)
def setN (rs:List (Nat×Nat)) (nk:Nat) (mn mx:Int):Bool:=rngF rs && (!rs.isEmpty && (decide (nk=0) && (decide (mn=0) && decide (mx=0))))
def rngAt (rs:List (Nat×Nat)) (k:Nat):Bool:=match k with
 | 0=>rngF rs
 | k+1=>rngF (rs.drop k)
theorem rngF_bad {a:Nat×Nat} {r:List (Nat×Nat)} (h:a.2<a.1):rngF (a::r)=false:=by
 cases r with
 | nil=>simp[rngF];omega
 | cons c r=>simp[rngF];omega
theorem rngAt_step {rs:List (Nat×Nat)} {k:Nat} (hk:k<rs.length) (h:rs[k].1<=rs[k].2) (h2:∀(h0:0<k),(rs[k - 1]'(by omega)).1<=(rs[k - 1]'(by omega)).2/\(rs[k - 1]'(by omega)).2+2<=rs[k].1):rngAt rs (k+1)=rngAt rs k:=by
 cases k with
 | zero=>simp[rngAt]
 | succ k=>
  obtain ⟨q1,q2⟩:=h2 (by omega)
  simp only[Nat.add_sub_cancel]at q1 q2;show rngF (rs.drop (k+1))=rngF (rs.drop k);rw[show rs.drop k=rs[k]::rs[k+1]::rs.drop (k+2) from by rw[List.drop_eq_getElem_cons (by omega),List.drop_eq_getElem_cons hk],show rs.drop (k+1)=rs[k+1]::rs.drop (k+2) from List.drop_eq_getElem_cons hk]
  rw[rngF];simp[q1,q2]
theorem rngAt_bad {rs:List (Nat×Nat)} {k:Nat} (hk:k<rs.length) (h:rs[k].2<rs[k].1\/∃(h0:0<k),rs[k].1<=(rs[k - 1]'(by omega)).2+1):rngAt rs k=false:=by
 cases k with
 | zero=>
  rcases h with h | ⟨h0,-⟩
  .unfold rngAt;rw[show rs=rs[0]::rs.drop 1 from by conv=>lhs;rw[<-List.drop_zero (l:=rs)];rw[List.drop_eq_getElem_cons hk]]
   exact rngF_bad h
  .omega
 | succ k=>
  show rngF (rs.drop k)=false;rw[show rs.drop k=rs[k]::rs[k+1]::rs.drop (k+2) from by rw[List.drop_eq_getElem_cons (by omega),List.drop_eq_getElem_cons hk]]
  rw[rngF];rcases h with h | ⟨h0,h⟩
  .rw[rngF_bad h];simp
  .simp only[Nat.add_sub_cancel]at h;rw[decide_eq_false (show ¬rs[k].2+2<=rs[k+1].1 by omega)];simp
theorem rngAt_end {rs:List (Nat×Nat)} (h:∀(h0:0<rs.length),∃h,(rs[rs.length - 1]'h).1<=(rs[rs.length - 1]'h).2):rngAt rs rs.length=true:=by
 cases hl:rs.length with
 | zero=>rw[List.length_eq_zero_iff.1 hl];rfl
 | succ n=>
  obtain ⟨h1,h2⟩:=h (by omega)
  show rngF (rs.drop n)=true;have hn:n<rs.length:=by omega
  rw[List.drop_eq_getElem_cons hn,List.drop_of_length_le (by omega)]
  simp only[hl,Nat.add_sub_cancel]at h2;simp[rngF,h2]
set_option maxHeartbeats 2000000 in
theorem set_any (nd:Nd) (vs:List Value) (w:World) (h200:nodesT nd<=1000000) (hn:NdIn w nd vs):Calls Tryz.prog 145 #[.agg vs.toArray] w λe w'=>e = .returned (.bool (setN nd.rs nd.kids.length nd.mn nd.mx))/\Below w.heap.size w w':=by
 obtain ⟨A1,c1,A2,c2,rfl,hr,hc2,-⟩:=hn.form;have hb0:Below w.heap.size w (w.alloc (.cells #[.int .i64 nd.op, .slice A1 nd.rs.length c1, .slice A2 nd.kids.length c2, .int .i64 nd.mn, .int .i64 nd.mx] 41)):=(Below.refl _ _).alloc (Nat.le_refl _) _;have hbox:=heap_alloc_new w (.cells #[.int .i64 nd.op, .slice A1 nd.rs.length c1, .slice A2 nd.kids.length c2, .int .i64 nd.mn, .int .i64 nd.mx] 41);clear hn;have HBX:=Lib.hid hbox;clear hbox
 go_enter Tryz.func145,Tryz.ntmps145
 go_wp2_with fail;obtain ⟨A1',c1',hv,hc1,hcell⟩:=hr;injection hv with e1 e2 e3;subst e1 e3
 go_loopw [8] (λiv wr=>∃k:Nat,k<=nd.rs.length/\iv = .int .i64 (k:Int)/\Hid (rngAt nd.rs k=rngF nd.rs)/\(∀(h0:0<k),Hid (∃h,(nd.rs[k - 1]'h).1<=(nd.rs[k - 1]'h).2))/\Hid (wr.heap[w.heap.size]?=some (.cells #[.int .i64 nd.op, .slice A1 nd.rs.length c1, .slice A2 nd.kids.length c2, .int .i64 nd.mn, .int .i64 nd.mx] 41 (0,0)))/\Below w.heap.size w wr) (λiv _=>nd.rs.length - (intOf iv).toNat)
 case atStart=>exact ⟨0,by omega,rfl,rfl,λh=>by omega,HBX,hb0⟩
 case round=>
  obtain ⟨k,hk,rfl,HR,HP,HX,hb⟩:=hrel;by_cases hlt:k<nd.rs.length
  .have hd:decide ((k:Int)<(nd.rs.length:Int))=true:=decide_eq_true (by omega)
   have hdn:decide (k<nd.rs.length)=true:=decide_eq_true hlt;obtain ⟨g,f,rfl,hg,hrow⟩:=hcell.resolve_left (by intro e;rw[e]at hlt;simp at hlt)
   obtain ⟨⟨c0,c1'⟩,hb1,hb2⟩:=hrow k hlt;have q0:=(hb.cell (p:=⟨g,f+k*2,none⟩) hg).trans c0;have q1:=(hb.cell (p:=⟨g,f+k*2+1,none⟩) hg).trans c1';obtain ⟨lo,hlo⟩:∃lo:Int,lo=((nd.rs[k].1:Nat):Int):=⟨_,rfl⟩;obtain ⟨hi,hhi⟩:∃hi:Int,hi=((nd.rs[k].2:Nat):Int):=⟨_,rfl⟩;rw[<-hlo]at q0;rw[<-hhi]at q1;have HLO:=Lib.hid hlo;have HHI:=Lib.hid hhi;have hlo0:0<=lo/\lo<256:=by omega
   have hhi0:0<=hi/\hi<256:=by omega
   clear hlo hhi c0 c1';by_cases hbad:hi<lo
   .have d1:decide (hi<lo)=true:=decide_eq_true hbad;go_wp2_with fail;have hrw:=heap_alloc_new wr (.cells #[.int .u8 lo, .int .u8 hi] 84);have hbw:=(Below.refl wr.heap.size wr).alloc (Nat.le_refl _) (.cells #[.int .u8 lo, .int .u8 hi] 84);generalize wr.alloc (.cells #[.int .u8 lo, .int .u8 hi] 84)=W1 at *;have x0:W1.cell? ⟨wr.heap.size,0,none⟩=some (.int .u8 lo):=by rw[cell_of_row _ _ _ _ _ _ hrw];rfl
    have x1:W1.cell? ⟨wr.heap.size,1,none⟩=some (.int .u8 hi):=by rw[cell_of_row _ _ _ _ _ _ hrw];rfl
    have HW:=Lib.hid (And.intro hrw hbw);clear hrw hbw
    go_quiet (fail)
    go_wp2_with fail;go_ret;refine ⟨ret_bool ?_,below_drewN (hb.trans (HW.out.2.mono hb.size)) _⟩;have h1:=HR.out;rw[rngAt_bad hlt (.inl (by have:=HLO.out;have:=HHI.out;omega))]at h1
    unfold setN;rw[<-h1];rfl
   .have d1:decide (hi<lo)=false:=decide_eq_false hbad;by_cases hk0:k=0
    .have d2:decide (0<(k:Int))=false:=decide_eq_false (by omega)
     have d2n:decide (0<k)=false:=decide_eq_false (by omega)
     have HK0:=Lib.hid hk0;clear hk0;go_wp2_with fail;have hrw:=heap_alloc_new wr (.cells #[.int .u8 lo, .int .u8 hi] 84);have hbw:=(Below.refl wr.heap.size wr).alloc (Nat.le_refl _) (.cells #[.int .u8 lo, .int .u8 hi] 84);generalize wr.alloc (.cells #[.int .u8 lo, .int .u8 hi] 84)=W1 at *;have x0:W1.cell? ⟨wr.heap.size,0,none⟩=some (.int .u8 lo):=by rw[cell_of_row _ _ _ _ _ _ hrw];rfl
     have x1:W1.cell? ⟨wr.heap.size,1,none⟩=some (.int .u8 hi):=by rw[cell_of_row _ _ _ _ _ _ hrw];rfl
     have HW:=Lib.hid (And.intro hrw hbw);clear hrw hbw
     go_quiet (fail)
     go_wp2_with fail;go_roundw
     case rel=>
      refine ⟨k+1,by omega,by go_num,?_,λh0=>⟨by simpa using hlt,by simp only[Nat.add_sub_cancel];have:=HLO.out;have:=HHI.out;omega⟩,(HW.out.2.block _ (Array.getElem?_eq_some_iff.1 HX.out).1).trans HX.out,below_drewN (hb.trans (HW.out.2.mono hb.size)) _⟩
      have h1:=HR.out;have h2:=rngAt_step hlt (by have:=HLO.out;have:=HHI.out;omega) (λh0=>by have:=HK0.out;omega)
      exact h2.trans h1
     case measure=>simp[intOf];omega
    .have d2:decide (0<(k:Int))=true:=decide_eq_true (by omega)
     have d2n:decide (0<k)=true:=decide_eq_true (by omega)
     obtain ⟨⟨-,p1'⟩,-,hpb⟩:=hrow (k - 1) (by omega)
     have p1:=(hb.cell (p:=⟨g,f+(k - 1)*2+1,none⟩) hg).trans p1';obtain ⟨ph,hph⟩:∃ph:Int,ph=((nd.rs[k - 1].2:Nat):Int):=⟨_,rfl⟩;rw[<-hph]at p1;have hph0:0<=ph/\ph<256:=by omega
     have hw1:IntKind.i64.wrap ((k:Int) - 1)=(k:Int) - 1:=IntWalk.i64_in _ (by omega)
     have hw2:((k:Int) - 1).toNat=k - 1:=by omega
     have hw3:0<=(k:Int) - 1:=by omega
     have hw4:(k:Int) - 1<nd.rs.length:=by omega
     have hw5:IntKind.i64.wrap (ph+1)=ph+1:=IntWalk.i64_in _ (by omega)
     have HPH:=Lib.hid hph;clear hph p1';by_cases hlow:lo<=ph+1
     .have d3:decide (lo<=ph+1)=true:=decide_eq_true hlow;go_wp2_with fail;have hrw:=heap_alloc_new wr (.cells #[.int .u8 lo, .int .u8 hi] 84);have hbw:=(Below.refl wr.heap.size wr).alloc (Nat.le_refl _) (.cells #[.int .u8 lo, .int .u8 hi] 84);have y1:=(hbw.cell (p:=⟨g,f+(k - 1)*2+1,none⟩) (Nat.lt_of_lt_of_le hg hb.size)).trans p1;have hbx:=(hbw.block _ (Array.getElem?_eq_some_iff.1 HX.out).1).trans HX.out;generalize wr.alloc (.cells #[.int .u8 lo, .int .u8 hi] 84)=W1 at *;have x0:W1.cell? ⟨wr.heap.size,0,none⟩=some (.int .u8 lo):=by rw[cell_of_row _ _ _ _ _ _ hrw];rfl
      have x1:W1.cell? ⟨wr.heap.size,1,none⟩=some (.int .u8 hi):=by rw[cell_of_row _ _ _ _ _ _ hrw];rfl
      have x2:W1.cell? ⟨w.heap.size,1,none⟩=some (.slice (some ⟨g,f,none⟩) nd.rs.length c1):=by rw[cell_of_row _ _ _ _ _ _ hbx];rfl
      have HW:=Lib.hid (And.intro hrw (And.intro hbw hbx));clear hrw hbw hbx
      go_quiet (fail)
      go_wp2_with fail;go_ret;refine ⟨ret_bool ?_,below_drewN (hb.trans (HW.out.2.1.mono hb.size)) _⟩;have h1:=HR.out;rw[rngAt_bad hlt (.inr ⟨by omega,by have:=HLO.out;have:=HPH.out;omega⟩)]at h1
      unfold setN;rw[<-h1];rfl
     .have d3:decide (lo<=ph+1)=false:=decide_eq_false hlow;go_wp2_with fail;have hrw:=heap_alloc_new wr (.cells #[.int .u8 lo, .int .u8 hi] 84);have hbw:=(Below.refl wr.heap.size wr).alloc (Nat.le_refl _) (.cells #[.int .u8 lo, .int .u8 hi] 84);have y1:=(hbw.cell (p:=⟨g,f+(k - 1)*2+1,none⟩) (Nat.lt_of_lt_of_le hg hb.size)).trans p1;have hbx:=(hbw.block _ (Array.getElem?_eq_some_iff.1 HX.out).1).trans HX.out;generalize wr.alloc (.cells #[.int .u8 lo, .int .u8 hi] 84)=W1 at *;have x0:W1.cell? ⟨wr.heap.size,0,none⟩=some (.int .u8 lo):=by rw[cell_of_row _ _ _ _ _ _ hrw];rfl
      have x1:W1.cell? ⟨wr.heap.size,1,none⟩=some (.int .u8 hi):=by rw[cell_of_row _ _ _ _ _ _ hrw];rfl
      have x2:W1.cell? ⟨w.heap.size,1,none⟩=some (.slice (some ⟨g,f,none⟩) nd.rs.length c1):=by rw[cell_of_row _ _ _ _ _ _ hbx];rfl
      have HW:=Lib.hid (And.intro hrw (And.intro hbw hbx));clear hrw hbw hbx
      go_quiet (fail)
      go_wp2_with fail;go_roundw
      case rel=>
       refine ⟨k+1,by omega,by go_num,?_,λh0=>⟨by simpa using hlt,by simp only[Nat.add_sub_cancel];have:=HLO.out;have:=HHI.out;omega⟩,HW.out.2.2,below_drewN (hb.trans (HW.out.2.1.mono hb.size)) _⟩
       have h1:=HR.out;obtain ⟨hh,hle⟩:=(HP (by omega)).out
       have h2:=rngAt_step hlt (by have:=HLO.out;have:=HHI.out;omega) (λh0=>⟨hle,by have:=HLO.out;have:=HPH.out;omega⟩)
       exact h2.trans h1
      case measure=>simp[intOf];omega
  .obtain rfl:k=nd.rs.length:=by omega
   obtain ⟨b0,b1,b2,b3,b4⟩:=cells5 HX.out;go_wp2_with fail
   all_goals
    go_ret;refine ⟨ret_bool ?_,hb⟩;have hR:rngF nd.rs=true:=HR.out.symm.trans (rngAt_end λh0=>(HP h0).out)
    first
     | (have h1:0<nd.rs.length:=by assumption
        have h2:¬nd.rs=[]:=by rintro h;rw[h]at h1;simp at h1
        have h3:nd.rs.isEmpty=false:=by simpa using h2
        first | (simp[setN,hR,h3, *];done) | (simp[setN,hR,h3, *];rfl))
     | (have h1:¬0<nd.rs.length:=by assumption
        have h2:nd.rs=[]:=List.length_eq_zero_iff.1 (by omega)
        simp[setN,h2])
def RowsV (sz:Nat) (w:World) (v:Value) (rows:List (List Value)):Prop:=∃A c,v = .slice A rows.length c/\(rows.length<=c/\c<=9223372036854775807)/\(rows=[]\/∃g f,A=some ⟨g,f,none⟩/\g<w.heap.size/\
 ∀i (h:i<rows.length),rows[i].length=sz/\∀j,j<sz->w.cell? ⟨g,f+i*sz+j,none⟩=rows[i][j]?)
theorem RowsV.later {sz:Nat} {w w':World} {v:Value} {rows:List (List Value)} (h:RowsV sz w v rows) (hb:Below w.heap.size w w'):RowsV sz w' v rows:=by
 obtain ⟨A,c,e,hc,h⟩:=h;refine ⟨A,c,e,hc,h.imp id ?_⟩;rintro ⟨g,f,h1,h2,h3⟩;refine ⟨g,f,h1,Nat.lt_of_lt_of_le h2 hb.size,λi hi=>⟨(h3 i hi).1,λj hj=>?_⟩⟩;exact (hb.cell (p:=⟨g,f+i*sz+j,none⟩) h2).trans ((h3 i hi).2 j hj)
def AskR (gi:Nat) (caps:Array Value) (rows:List (List Value)) (ps:List Bool) (w:World):Prop:=(∀args w',(callFunc gi args).run Tryz.prog w' = .ok (.enter gi args) w')/\ps.length=rows.length/\
 ∀i (h:i<rows.length) (b:Bool),ps[i]?=some b->∀w',Below w.heap.size w w'->Calls Tryz.prog gi (#[.agg rows[i].toArray]++caps) w' λe w''=>e = .returned (.bool b)/\Below w'.heap.size w' w''
def ixP:List Bool->Nat
 | []=>0
 | b::r=>if b=true then 0 else ixP r+1
def anyP:List Bool->Bool
 | []=>false
 | b::r=>b || anyP r
def ixJ (ps:List Bool):Int:=if anyP ps=true then (ixP ps:Int) else -1
theorem ixJ_ge (ps:List Bool):decide (0<=ixJ ps)=anyP ps:=by
 unfold ixJ
 cases h:anyP ps
 .rfl
 .rw[if_pos rfl];exact decide_eq_true (by omega)
theorem anyP_map {α:Type} (f:α->Bool):∀l:List α,anyP (l.map f)=l.any f
 | []=>rfl
 | a::r=>by simp[anyP,anyP_map f r]
theorem row5 {l:List Value} (h:l.length=5):∃x0 x1 x2 x3 x4,l=[x0,x1,x2,x3,x4]:=by
 match l,h with
 | [x0,x1,x2,x3,x4],_=>exact ⟨x0,x1,x2,x3,x4,rfl⟩
set_option maxHeartbeats 1000000 in
theorem indexN (gi:Nat) (caps:Array Value) (rows:List (List Value)) (ps:List Bool) (v:Value) (w:World) (h:RowsV 5 w v rows) (ha:AskR gi caps rows ps w) :
  Calls Tryz.prog 176 #[v, .func (.func gi) #[] caps] w λe w'=>e = .returned (.int .i64 (ixJ ps))/\Below w.heap.size w w':=by
 obtain ⟨A,c,rfl,hc,hcell⟩:=h;obtain ⟨ei,hlen,hp⟩:=ha;have HL:=Lib.hid hlen;have hmx:rows.length<=9223372036854775807:=by omega
 have HC:=Lib.hid hcell;have HP:=Lib.hid hp;clear hcell hp hlen
 go_enter Tryz.func176,Tryz.ntmps176
 go_wp2
 go_loopw [8] (λv wr=>∃k:Nat,k<=rows.length/\v = .int .i64 (k:Int)/\Below w.heap.size w wr/\Hid (anyP (ps.drop k)=anyP ps/\ixP (ps.drop k)+k=ixP ps)) (λv _=>rows.length - (intOf v).toNat)
 case atStart=>exact ⟨0,by omega,rfl,Below.refl _ _,rfl,rfl⟩
 case round=>
  obtain ⟨k,hk,rfl,hbel,HR⟩:=hrel;by_cases hlt:k<rows.length
  .have hd:decide ((k:Int)<(rows.length:Int))=true:=decide_eq_true (by omega)
   have hdn:decide (k<rows.length)=true:=decide_eq_true hlt;obtain ⟨g,ff,rfl,hg,hcs⟩:=HC.out.resolve_left (by intro e;rw[e]at hlt;simp at hlt)
   have hkp:k<ps.length:=by have:=HL.out;omega
   have HDR:=Lib.hid (show anyP (ps[k]::ps.drop (k+1))=anyP ps/\ixP (ps[k]::ps.drop (k+1))+k=ixP ps by rw[<-List.drop_eq_getElem_cons hkp];exact HR.out)
   have I:=λw'=>HP.out k hlt ps[k] (List.getElem?_eq_getElem hkp) w';obtain ⟨hl5,hcj⟩:=hcs k hlt;obtain ⟨x0,x1,x2,x3,x4,hrow⟩:=row5 hl5;rw[hrow]at hcj I;have q:∀j,j<5->wr.cell? ⟨g,ff+k*5+j,none⟩=([x0,x1,x2,x3,x4]:List Value)[j]?:=λj hj=>(hbel.cell (p:=⟨g,ff+k*5+j,none⟩) hg).trans (hcj j hj);have q0:=q 0 (by omega);have q1:=q 1 (by omega);have q2:=q 2 (by omega);have q3:=q 3 (by omega);have q4:=q 4 (by omega)
   simp only[Nat.add_zero,List.getElem?_cons_zero,List.getElem?_cons_succ]at q0 q1 q2 q3 q4;clear q hcs hcj hrow hl5;have hbw:Below w.heap.size w wr:=hbel;have HI:=Lib.hid I;clear I;obtain ⟨pb,hpb⟩:∃pb,ps[k]=pb:=⟨_,rfl⟩;rw[hpb]at HI HDR;clear hpb hkp;have HBW:=Lib.hid hbw;clear hbw hbel
   cases pb with
   | true=>
    have HT:=Lib.hid (show (k:Int)=ixJ ps by unfold ixJ;rw[<-HDR.out.1,<-HDR.out.2,anyP,ixP,if_pos rfl];simp)
    go_wp2_with fail;refine (HI.out _ HBW.out).mono ?_;rintro e w1 ⟨rfl,hb1⟩;go_wp2_with fail;go_ret;exact ⟨ret_int HT.out,HBW.out.trans (hb1.mono HBW.out.size)⟩
   | false=>
    have HT:=Lib.hid (show anyP (ps.drop (k+1))=anyP ps/\ixP (ps.drop (k+1))+(k+1)=ixP ps from ⟨by rw[<-HDR.out.1,anyP];rfl,by rw[<-HDR.out.2,ixP,if_neg (by decide)];omega⟩)
    go_wp2_with fail;refine (HI.out _ HBW.out).mono ?_;rintro e w1 ⟨rfl,hb1⟩;go_wp2_with fail;go_roundw
    case rel=>exact ⟨k+1,by omega,by go_num,HBW.out.trans (hb1.mono HBW.out.size),HT⟩
    case measure=>simp[intOf];omega
  .obtain rfl:k=rows.length:=by omega
   have hd:decide ((rows.length:Int)<(rows.length:Int))=false:=decide_eq_false (by omega)
   have hdn:decide (rows.length<rows.length)=false:=decide_eq_false (by omega)
   have HT:=Lib.hid (show (-1:Int)=ixJ ps by unfold ixJ;rw[<-HR.out.1,<-HL.out,List.drop_length];rfl)
   go_wp2_with fail;go_ret;exact ⟨ret_int HT.out,hbel⟩
theorem containsN (gi:Nat) (caps:Array Value) (rows:List (List Value)) (ps:List Bool) (v:Value) (w:World) (h:RowsV 5 w v rows) (ha:AskR gi caps rows ps w) :
  Calls Tryz.prog 148 #[v, .func (.func gi) #[] caps] w λe w'=>e = .returned (.bool (anyP ps))/\Below w.heap.size w w':=by
 have I:=Lib.hid (indexN gi caps rows ps v w h ha);clear h ha
 go_enter Tryz.func148,Tryz.ntmps148
 go_wp2_with fail;refine I.out.mono ?_;rintro e w1 ⟨rfl,hb⟩;have HR:=Lib.hid (ixJ_ge ps);generalize ixJ ps=r at *;go_wp2_with fail;go_ret;exact ⟨ret_bool HR.out,hb⟩
theorem row2 {l:List Value} (h:l.length=2):∃x0 x1,l=[x0,x1]:=by
 match l,h with
 | [x0,x1],_=>exact ⟨x0,x1,rfl⟩
set_option maxHeartbeats 1000000 in
theorem indexR (gi:Nat) (caps:Array Value) (rows:List (List Value)) (ps:List Bool) (v:Value) (w:World) (h:RowsV 2 w v rows) (ha:AskR gi caps rows ps w) :
  Calls Tryz.prog 205 #[v, .func (.func gi) #[] caps] w λe w'=>e = .returned (.int .i64 (ixJ ps))/\Below w.heap.size w w':=by
 obtain ⟨A,c,rfl,hc,hcell⟩:=h;obtain ⟨ei,hlen,hp⟩:=ha;have HL:=Lib.hid hlen;have hmx:rows.length<=9223372036854775807:=by omega
 have HC:=Lib.hid hcell;have HP:=Lib.hid hp;clear hcell hp hlen
 go_enter Tryz.func205,Tryz.ntmps205
 go_wp2
 go_loopw [8] (λv wr=>∃k:Nat,k<=rows.length/\v = .int .i64 (k:Int)/\Below w.heap.size w wr/\Hid (anyP (ps.drop k)=anyP ps/\ixP (ps.drop k)+k=ixP ps)) (λv _=>rows.length - (intOf v).toNat)
 case atStart=>exact ⟨0,by omega,rfl,Below.refl _ _,rfl,rfl⟩
 case round=>
  obtain ⟨k,hk,rfl,hbel,HR⟩:=hrel;by_cases hlt:k<rows.length
  .have hd:decide ((k:Int)<(rows.length:Int))=true:=decide_eq_true (by omega)
   have hdn:decide (k<rows.length)=true:=decide_eq_true hlt;obtain ⟨g,ff,rfl,hg,hcs⟩:=HC.out.resolve_left (by intro e;rw[e]at hlt;simp at hlt)
   have hkp:k<ps.length:=by have:=HL.out;omega
   have HDR:=Lib.hid (show anyP (ps[k]::ps.drop (k+1))=anyP ps/\ixP (ps[k]::ps.drop (k+1))+k=ixP ps by rw[<-List.drop_eq_getElem_cons hkp];exact HR.out)
   have I:=λw'=>HP.out k hlt ps[k] (List.getElem?_eq_getElem hkp) w';obtain ⟨hl5,hcj⟩:=hcs k hlt;obtain ⟨x0,x1,hrow⟩:=row2 hl5;rw[hrow]at hcj I;have q:∀j,j<2->wr.cell? ⟨g,ff+k*2+j,none⟩=([x0,x1]:List Value)[j]?:=λj hj=>(hbel.cell (p:=⟨g,ff+k*2+j,none⟩) hg).trans (hcj j hj);have q0:=q 0 (by omega);have q1:=q 1 (by omega)
   simp only[Nat.add_zero,List.getElem?_cons_zero,List.getElem?_cons_succ]at q0 q1;clear q hcs hcj hrow hl5;have hbw:Below w.heap.size w wr:=hbel;have HI:=Lib.hid I;clear I;obtain ⟨pb,hpb⟩:∃pb,ps[k]=pb:=⟨_,rfl⟩;rw[hpb]at HI HDR;clear hpb hkp;have HBW:=Lib.hid hbw;clear hbw hbel
   cases pb with
   | true=>
    have HT:=Lib.hid (show (k:Int)=ixJ ps by unfold ixJ;rw[<-HDR.out.1,<-HDR.out.2,anyP,ixP,if_pos rfl];simp)
    go_wp2_with fail;refine (HI.out _ HBW.out).mono ?_;rintro e w1 ⟨rfl,hb1⟩;go_wp2_with fail;go_ret;exact ⟨ret_int HT.out,HBW.out.trans (hb1.mono HBW.out.size)⟩
   | false=>
    have HT:=Lib.hid (show anyP (ps.drop (k+1))=anyP ps/\ixP (ps.drop (k+1))+(k+1)=ixP ps from ⟨by rw[<-HDR.out.1,anyP];rfl,by rw[<-HDR.out.2,ixP,if_neg (by decide)];omega⟩)
    go_wp2_with fail;refine (HI.out _ HBW.out).mono ?_;rintro e w1 ⟨rfl,hb1⟩;go_wp2_with fail;go_roundw
    case rel=>exact ⟨k+1,by omega,by go_num,HBW.out.trans (hb1.mono HBW.out.size),HT⟩
    case measure=>simp[intOf];omega
  .obtain rfl:k=rows.length:=by omega
   have hd:decide ((rows.length:Int)<(rows.length:Int))=false:=decide_eq_false (by omega)
   have hdn:decide (rows.length<rows.length)=false:=decide_eq_false (by omega)
   have HT:=Lib.hid (show (-1:Int)=ixJ ps by unfold ixJ;rw[<-HR.out.1,<-HL.out,List.drop_length];rfl)
   go_wp2_with fail;go_ret;exact ⟨ret_int HT.out,hbel⟩
theorem containsR (gi:Nat) (caps:Array Value) (rows:List (List Value)) (ps:List Bool) (v:Value) (w:World) (h:RowsV 2 w v rows) (ha:AskR gi caps rows ps w) :
  Calls Tryz.prog 191 #[v, .func (.func gi) #[] caps] w λe w'=>e = .returned (.bool (anyP ps))/\Below w.heap.size w w':=by
 have I:=Lib.hid (indexR gi caps rows ps v w h ha);clear h ha
 go_enter Tryz.func191,Tryz.ntmps191
 go_wp2_with fail;refine I.out.mono ?_;rintro e w1 ⟨rfl,hb⟩;have HR:=Lib.hid (ixJ_ge ps);generalize ixJ ps=r at *;go_wp2_with fail;go_ret;exact ⟨ret_bool HR.out,hb⟩
theorem row3 {l:List Value} (h:l.length=3):∃x0 x1 x2,l=[x0,x1,x2]:=by
 match l,h with
 | [x0,x1,x2],_=>exact ⟨x0,x1,x2,rfl⟩
set_option maxHeartbeats 1000000 in
theorem indexE (gi:Nat) (caps:Array Value) (rows:List (List Value)) (ps:List Bool) (v:Value) (w:World) (h:RowsV 3 w v rows) (ha:AskR gi caps rows ps w) :
  Calls Tryz.prog 226 #[v, .func (.func gi) #[] caps] w λe w'=>e = .returned (.int .i64 (ixJ ps))/\Below w.heap.size w w':=by
 obtain ⟨A,c,rfl,hc,hcell⟩:=h;obtain ⟨ei,hlen,hp⟩:=ha;have HL:=Lib.hid hlen;have hmx:rows.length<=9223372036854775807:=by omega
 have HC:=Lib.hid hcell;have HP:=Lib.hid hp;clear hcell hp hlen
 go_enter Tryz.func226,Tryz.ntmps226
 go_wp2
 go_loopw [8] (λv wr=>∃k:Nat,k<=rows.length/\v = .int .i64 (k:Int)/\Below w.heap.size w wr/\Hid (anyP (ps.drop k)=anyP ps/\ixP (ps.drop k)+k=ixP ps)) (λv _=>rows.length - (intOf v).toNat)
 case atStart=>exact ⟨0,by omega,rfl,Below.refl _ _,rfl,rfl⟩
 case round=>
  obtain ⟨k,hk,rfl,hbel,HR⟩:=hrel;by_cases hlt:k<rows.length
  .have hd:decide ((k:Int)<(rows.length:Int))=true:=decide_eq_true (by omega)
   have hdn:decide (k<rows.length)=true:=decide_eq_true hlt;obtain ⟨g,ff,rfl,hg,hcs⟩:=HC.out.resolve_left (by intro e;rw[e]at hlt;simp at hlt)
   have hkp:k<ps.length:=by have:=HL.out;omega
   have HDR:=Lib.hid (show anyP (ps[k]::ps.drop (k+1))=anyP ps/\ixP (ps[k]::ps.drop (k+1))+k=ixP ps by rw[<-List.drop_eq_getElem_cons hkp];exact HR.out)
   have I:=λw'=>HP.out k hlt ps[k] (List.getElem?_eq_getElem hkp) w';obtain ⟨hl5,hcj⟩:=hcs k hlt;obtain ⟨x0,x1,x2,hrow⟩:=row3 hl5;rw[hrow]at hcj I;have q:∀j,j<3->wr.cell? ⟨g,ff+k*3+j,none⟩=([x0,x1,x2]:List Value)[j]?:=λj hj=>(hbel.cell (p:=⟨g,ff+k*3+j,none⟩) hg).trans (hcj j hj);have q0:=q 0 (by omega);have q1:=q 1 (by omega);have q2:=q 2 (by omega)
   simp only[Nat.add_zero,List.getElem?_cons_zero,List.getElem?_cons_succ]at q0 q1 q2;clear q hcs hcj hrow hl5;have hbw:Below w.heap.size w wr:=hbel;have HI:=Lib.hid I;clear I;obtain ⟨pb,hpb⟩:∃pb,ps[k]=pb:=⟨_,rfl⟩;rw[hpb]at HI HDR;clear hpb hkp;have HBW:=Lib.hid hbw;clear hbw hbel
   cases pb with
   | true=>
    have HT:=Lib.hid (show (k:Int)=ixJ ps by unfold ixJ;rw[<-HDR.out.1,<-HDR.out.2,anyP,ixP,if_pos rfl];simp)
    go_wp2_with fail;refine (HI.out _ HBW.out).mono ?_;rintro e w1 ⟨rfl,hb1⟩;go_wp2_with fail;go_ret;exact ⟨ret_int HT.out,HBW.out.trans (hb1.mono HBW.out.size)⟩
   | false=>
    have HT:=Lib.hid (show anyP (ps.drop (k+1))=anyP ps/\ixP (ps.drop (k+1))+(k+1)=ixP ps from ⟨by rw[<-HDR.out.1,anyP];rfl,by rw[<-HDR.out.2,ixP,if_neg (by decide)];omega⟩)
    go_wp2_with fail;refine (HI.out _ HBW.out).mono ?_;rintro e w1 ⟨rfl,hb1⟩;go_wp2_with fail;go_roundw
    case rel=>exact ⟨k+1,by omega,by go_num,HBW.out.trans (hb1.mono HBW.out.size),HT⟩
    case measure=>simp[intOf];omega
  .obtain rfl:k=rows.length:=by omega
   have hd:decide ((rows.length:Int)<(rows.length:Int))=false:=decide_eq_false (by omega)
   have hdn:decide (rows.length<rows.length)=false:=decide_eq_false (by omega)
   have HT:=Lib.hid (show (-1:Int)=ixJ ps by unfold ixJ;rw[<-HR.out.1,<-HL.out,List.drop_length];rfl)
   go_wp2_with fail;go_ret;exact ⟨ret_int HT.out,hbel⟩
theorem containsE (gi:Nat) (caps:Array Value) (rows:List (List Value)) (ps:List Bool) (v:Value) (w:World) (h:RowsV 3 w v rows) (ha:AskR gi caps rows ps w) :
  Calls Tryz.prog 216 #[v, .func (.func gi) #[] caps] w λe w'=>e = .returned (.bool (anyP ps))/\Below w.heap.size w w':=by
 have I:=Lib.hid (indexE gi caps rows ps v w h ha);clear h ha
 go_enter Tryz.func216,Tryz.ntmps216
 go_wp2_with fail;refine I.out.mono ?_;rintro e w1 ⟨rfl,hb⟩;have HR:=Lib.hid (ixJ_ge ps);generalize ixJ ps=r at *;go_wp2_with fail;go_ret;exact ⟨ret_bool HR.out,hb⟩
theorem KdsIn.rows {w:World}:∀{l:List Nd} {g f:Nat},KdsIn w l g f->∃rows:List (List Value),rows.length=l.length/\∀i (h:i<l.length) (h':i<rows.length),NdIn w l[i] rows[i]/\∀j,j<5->w.cell? ⟨g,f+i*5+j,none⟩=rows[i][j]?
 | [],_,_,_=>⟨[],rfl,λi h=>by cases h⟩
 | k::r,g,f,⟨⟨vs,h1,h2⟩,h3⟩=>by
  obtain ⟨rows,hl,h4⟩:=KdsIn.rows h3;refine ⟨vs::rows,by simp[hl],λi h h'=>?_⟩
  cases i with
  | zero=>exact ⟨h2,λj hj=>by rw[Nat.zero_mul,Nat.add_zero];exact h1 j hj⟩
  | succ i=>
   obtain ⟨h5,h6⟩:=h4 i (by simpa using h) (by simpa using h')
   refine ⟨h5,λj hj=>?_⟩;have:=h6 j hj;rw[show f+5+i*5+j=f+(i+1)*5+j by omega]at this
   exact this
theorem NdIn.len {w:World} {n:Nd} {vs:List Value} (h:NdIn w n vs):vs.length=5:=by
 obtain ⟨A1,c1,A2,c2,rfl,-⟩:=h.form
 rfl
theorem kidsRows {w:World} {l:List Nd} {A:Option Addr} {c:Nat} (hc:l.length<=c/\c<=9223372036854775807) (h:l=[]\/∃g f,A=some ⟨g,f,none⟩/\g<w.heap.size/\KdsIn w l g f) :
  ∃rows:List (List Value),rows.length=l.length/\RowsV 5 w (.slice A l.length c) rows/\∀i (h:i<l.length) (h':i<rows.length),NdIn w l[i] rows[i]:=by
 rcases h with rfl | ⟨g,f,rfl,hg,hk⟩
 .exact ⟨[],rfl,⟨A,c,rfl,hc, .inl rfl⟩,λi h=>by cases h⟩
 .obtain ⟨rows,hl,hr⟩:=hk.rows;refine ⟨rows,hl,⟨some ⟨g,f,none⟩,c,by rw[hl],by rw[hl];exact hc, .inr ⟨g,f,rfl,hg,λi hi=>⟨(hr i (by omega) hi).1.len,(hr i (by omega) hi).2⟩⟩⟩,λi h h'=>(hr i h h').1⟩
theorem sevk_any (kd:Nd) (vs:List Value) (op:Int) (b:Nat) (w:World) (hn:NdIn w kd vs) (hb:w.cell? ⟨b,0,none⟩=some (.int .i64 op)):Calls Tryz.prog 175 #[.agg vs.toArray, .pointer (some ⟨b,0,none⟩)] w λe w'=>e = .returned (.bool (kd.op == op))/\Below w.heap.size w w':=by
 obtain ⟨A1,c1,A2,c2,rfl,-⟩:=hn.form;have hbs:b<w.heap.size:=by
  by_cases h:b<w.heap.size
  .exact h
  .simp[World.cell?,Array.getElem?_eq_none (Nat.le_of_not_lt h)]at hb
 have hne:b≠w.heap.size:=by omega
 have hB:Below w.heap.size w (w.alloc (.cells #[.int .i64 kd.op, .slice A1 kd.rs.length c1, .slice A2 kd.kids.length c2, .int .i64 kd.mn, .int .i64 kd.mx] 41)):=(Below.refl _ _).alloc (Nat.le_refl _) _;have hb2:=(hB.cell (p:=⟨b,0,none⟩) hbs).trans hb
 go_enter Tryz.func175,Tryz.ntmps175
 go_wp2_with fail;go_ret;exact ⟨rfl,hB⟩
theorem callSev (args:Array Value) (w:World):(callFunc 175 args).run Tryz.prog w = .ok (.enter 175 args) w:=by rfl
def sevN (nd:Nd):Bool:=decide (2<=nd.kids.length) && (nd.rs.isEmpty && (decide (nd.mn=0) && (decide (nd.mx=0) && !(nd.kids.any λk=>k.op == nd.op))))
set_option maxHeartbeats 1000000 in
theorem several_any (nd:Nd) (vs:List Value) (w:World) (hn:NdIn w nd vs):Calls Tryz.prog 146 #[.agg vs.toArray] w λe w'=>e = .returned (.bool (sevN nd))/\Below w.heap.size w w':=by
 obtain ⟨A1,c1,A2,c2,rfl,hr,hc2,hk⟩:=hn.form;have hB:Below w.heap.size w (w.alloc (.cells #[.int .i64 nd.op, .slice A1 nd.rs.length c1, .slice A2 nd.kids.length c2, .int .i64 nd.mn, .int .i64 nd.mx] 41)):=(Below.refl _ _).alloc (Nat.le_refl _) _;have hbox:=heap_alloc_new w (.cells #[.int .i64 nd.op, .slice A1 nd.rs.length c1, .slice A2 nd.kids.length c2, .int .i64 nd.mn, .int .i64 nd.mx] 41);obtain ⟨rows,hl,hrows,hnd⟩:=kidsRows hc2 hk;have hA:∀W,Below w.heap.size w W->w.heap.size<W.heap.size->W.cell? ⟨w.heap.size,0,none⟩=some (.int .i64 nd.op)->
   AskR 175 #[.pointer (some ⟨w.heap.size,0,none⟩)] rows (nd.kids.map λk=>k.op == nd.op) W:=by
  intro W hW hsz hx1;refine ⟨callSev,by rw[List.length_map,hl],λi hi b hb w' hw'=>?_⟩
  have hik:i<nd.kids.length:=by omega
  rw[List.getElem?_map,List.getElem?_eq_getElem hik]at hb;simp only[Option.map_some,Option.some.injEq]at hb;subst hb;refine sevk_any nd.kids[i] rows[i] nd.op w.heap.size w' ?_ ((hw'.cell (p:=⟨w.heap.size,0,none⟩) hsz).trans hx1);exact ((hnd i hik hi).later hW).later hw'
 have HC:=Lib.hid (λW h1 h2 h3=>containsN 175 #[.pointer (some ⟨w.heap.size,0,none⟩)] rows _ (.slice A2 nd.kids.length c2) W (hrows.later h1) (hA W h1 h2 h3));have HAN:=Lib.hid (anyP_map (λk:Nd=>k.op == nd.op) nd.kids);have HB:=Lib.hid hB;have HX:=Lib.hid hbox;have hkl:nd.kids.length<=9223372036854775807:=by omega
 have hrl:nd.rs.length<=9223372036854775807:=by obtain ⟨A,c,e,h,-⟩:=hr;omega
 clear hA hrows hnd hl hbox hB hk hr hn
 go_enter Tryz.func146,Tryz.ntmps146
 go_wp2_with (go_at_call 148;refine (HC.out _ ((Below.refl _ _).alloc (Nat.le_refl _) _) (by simp) (by rw[cell_of_row _ _ _ _ _ _ (heap_alloc_new _ _)];rfl)).mono ?_;rintro e w1 ⟨rfl,hb1⟩)
 all_goals
  go_ret;refine ⟨ret_bool ?_,?_⟩
  .first
    | (rw[HAN.out];unfold sevN;simp[*];omega)
    | (unfold sevN;simp[*];done)
    | (unfold sevN;simp[*];omega)
    | (have h1:(nd.kids.length:Int)<2:=by assumption
       unfold sevN;rw[decide_eq_false (show ¬2<=nd.kids.length by omega)];rfl)
  .first
    | exact (Below.refl _ _).alloc (Nat.le_refl _) _
    | exact ((Below.refl w.heap.size w).alloc (Nat.le_refl _) _).trans (hb1.mono (by simp))
def repN (nd:Nd):Bool:=decide (nd.kids.length=1) && (nd.rs.isEmpty && (decide (0<=nd.mn) && (decide (1<=nd.mx) && (decide (nd.mn<=nd.mx) && (decide (nd.mx<=64) && !(decide (nd.mn=1) && decide (nd.mx=1)))))))
set_option maxHeartbeats 1000000 in
theorem repeat_any (nd:Nd) (vs:List Value) (w:World) (hn:NdIn w nd vs):Calls Tryz.prog 147 #[.agg vs.toArray] w λe w'=>e = .returned (.bool (repN nd))/\Below w.heap.size w w':=by
 obtain ⟨A1,c1,A2,c2,rfl,hr,hc2,hk⟩:=hn.form;have hkl:nd.kids.length<=9223372036854775807:=by omega
 have hrl:nd.rs.length<=9223372036854775807:=by obtain ⟨A,c,e,h,-⟩:=hr;omega
 clear hk hr hn
 go_enter Tryz.func147,Tryz.ntmps147
 go_wp2_with fail
 all_goals
  go_ret;refine ⟨ret_bool ?_,?_⟩
  .by_cases he:nd.rs=[]
   .rw[Bool.eq_iff_iff];have he2:nd.rs.isEmpty=true:=by rw[he];rfl
    simp only[repN,he2,Bool.and_eq_true,Bool.not_eq_true',Bool.and_eq_false_iff,decide_eq_true_eq,decide_eq_false_iff_not,bne_iff_ne,true_and,true_iff,ne_eq] <;>
    first | omega | (simp only[Bool.false_eq_true,false_iff];omega) | contradiction
   .have he2:nd.rs.isEmpty=false:=by simpa using he
    simp only[repN,he2,Bool.false_and,Bool.and_false] <;>
    first | rfl | contradiction
  .exact (Below.refl _ _).alloc (Nat.le_refl _) _
theorem rightN_1 {nd:Nd} (h:nd.op=1):rightN nd=setN nd.rs nd.kids.length nd.mn nd.mx:=by
 obtain ⟨op,rs,kids,mn,mx⟩:=nd;simp only[Nd.op]at h;subst h;simp only[rightN,setN,Nd.rs,Nd.kids,Nd.mn,Nd.mx,if_true]
 cases kids <;> cases rngF rs <;> cases rs.isEmpty <;> simp <;> rfl
theorem rightN_2 {nd:Nd} (h:nd.op=2\/nd.op=3):rightN nd=sevN nd:=by
 obtain ⟨op,rs,kids,mn,mx⟩:=nd;simp only[Nd.op]at h;simp only[rightN,sevN,Nd.rs,Nd.kids,Nd.mn,Nd.mx,Nd.op];rw[if_neg (by omega),if_pos h]
 rfl
theorem rightN_4 {nd:Nd} (h:nd.op=4):rightN nd=repN nd:=by
 obtain ⟨op,rs,kids,mn,mx⟩:=nd;simp only[Nd.op]at h;simp only[rightN,repN,Nd.rs,Nd.kids,Nd.mn,Nd.mx,Nd.op];rw[if_neg (by omega),if_neg (by omega),if_pos h]
 rfl
theorem rightN_0 {nd:Nd} (h1:¬nd.op=1) (h2:¬nd.op=2) (h3:¬nd.op=3) (h4:¬nd.op=4):rightN nd=false:=by
 obtain ⟨op,rs,kids,mn,mx⟩:=nd;simp only[Nd.op]at h1 h2 h3 h4;simp only[rightN];rw[if_neg h1,if_neg (by omega),if_neg h4]
theorem rightFs_all:∀l:List Nd,rightFs l=!(l.any λk=>!rightF k)
 | []=>rfl
 | k::r=>by rw[rightFs,rightFs_all r];simp
theorem rightF_eq (nd:Nd):rightF nd=(rightN nd && !(nd.kids.any λk=>!rightF k)):=by
 obtain ⟨op,rs,kids,mn,mx⟩:=nd;rw[rightF,rightFs_all];rfl
theorem callRight (args:Array Value) (w:World):(callFunc 149 args).run Tryz.prog w = .ok (.enter 149 args) w:=by rfl
theorem rightk_any (kd:Nd) (vs:List Value) (w:World) (hn:NdIn w kd vs) (hr:∀w',Below w.heap.size w w'->Calls Tryz.prog 120 #[.agg vs.toArray] w' λe w''=>e = .returned (.bool (rightF kd))/\Below w'.heap.size w' w'') :
  Calls Tryz.prog 149 #[.agg vs.toArray] w λe w'=>e = .returned (.bool (!rightF kd))/\Below w.heap.size w w':=by
 obtain ⟨A1,c1,A2,c2,rfl,-⟩:=hn.form;obtain ⟨x,hx⟩:∃x,rightF kd=x:=⟨_,rfl⟩;rw[hx]at hr|-;have HR:=Lib.hid hr;clear hr hx
 go_enter Tryz.func149,Tryz.ntmps149
 go_wp2_with fail;refine (HR.out _ ((Below.refl _ _).alloc (Nat.le_refl _) _)).mono ?_;rintro e w1 ⟨rfl,hb1⟩;have HB:=Lib.hid (((Below.refl w.heap.size w).alloc (Nat.le_refl _) _).trans (hb1.mono (by simp)))
 clear hb1
 cases x
 all_goals
  go_wp2_with fail;go_ret;exact ⟨rfl,HB.out⟩
set_option maxHeartbeats 4000000 in
theorem right_any:∀(m:Nat) (nd:Nd) (vs:List Value) (w:World),nodesT nd<=m->m<=1000000->NdIn w nd vs->Calls Tryz.prog 120 #[.agg vs.toArray] w λe w'=>e = .returned (.bool (rightF nd))/\Below w.heap.size w w':=by
 intro m
 induction m with
 | zero=>intro nd vs w h;cases nd;rw[nodesT]at h;omega
 | succ m ih=>
  intro nd vs w h hm hn;have hsub:∀k∈nd.kids,nodesT k<=m:=λk hk=>by
   obtain ⟨op,rs,kids,mn,mx⟩:=nd;have:=nodesT_kid hk;rw[nodesT]at h;simp only[Nd.kids]at this;omega
  have hset:=λW (hW:Below w.heap.size w W)=>set_any nd vs W (by omega) (hn.later hW)
  have hsev:=λW (hW:Below w.heap.size w W)=>several_any nd vs W (hn.later hW);have hrep:=λW (hW:Below w.heap.size w W)=>repeat_any nd vs W (hn.later hW);obtain ⟨A1,c1,A2,c2,rfl,hr,hc2,hk⟩:=hn.form;obtain ⟨rows,hl,hrows,hnd⟩:=kidsRows hc2 hk;have hA:∀W,Below w.heap.size w W->AskR 149 #[] rows (nd.kids.map λk=>!rightF k) W:=by
   intro W hW;refine ⟨callRight,by rw[List.length_map,hl],λi hi b hb w' hw'=>?_⟩
   have hik:i<nd.kids.length:=by omega
   rw[List.getElem?_map,List.getElem?_eq_getElem hik]at hb;simp only[Option.map_some,Option.some.injEq]at hb;subst hb;have hn1:=((hnd i hik hi).later hW).later hw';exact rightk_any nd.kids[i] rows[i] w' hn1 λw'' hw''=>ih _ _ _ (hsub _ (List.getElem_mem hik)) (by omega) (hn1.later hw'')
  have HC:=Lib.hid (λW h1=>containsN 149 #[] rows _ (.slice A2 nd.kids.length c2) W (hrows.later h1) (hA W h1));have HAN:=Lib.hid (anyP_map (λk:Nd=>!rightF k) nd.kids);have hB:Below w.heap.size w (w.alloc (.cells #[.int .i64 nd.op, .slice A1 nd.rs.length c1, .slice A2 nd.kids.length c2, .int .i64 nd.mn, .int .i64 nd.mx] 41)):=(Below.refl _ _).alloc (Nat.le_refl _) _;have hbox:=heap_alloc_new w (.cells #[.int .i64 nd.op, .slice A1 nd.rs.length c1, .slice A2 nd.kids.length c2, .int .i64 nd.mn, .int .i64 nd.mx] 41);have HB:=Lib.hid hB;have HX:=Lib.hid hbox;have HSET:=Lib.hid hset;have HSEV:=Lib.hid hsev;have HREP:=Lib.hid hrep;have HEQ:=Lib.hid (rightF_eq nd);have HN1:=Lib.hid (@rightN_1 nd);have HN2:=Lib.hid (@rightN_2 nd);have HN4:=Lib.hid (@rightN_4 nd);have HN0:=Lib.hid (@rightN_0 nd);obtain ⟨O,hO⟩:∃O,nd.op=O:=⟨_,rfl⟩;rw[hO]at HN1 HN2 HN4 HN0 HB HX HSET HSEV HREP|-;clear hA hrows hnd hl hbox hB hk hr hn hset hsev hrep hsub ih hO;by_cases h1:O=1
  .have HV:=Lib.hid (HN1.out h1);subst h1
   go_enter Tryz.func120,Tryz.ntmps120
   go_wp2_with fail;refine (HSET.out _ HB.out).mono ?_;rintro e w1 ⟨rfl,hb1⟩;rw[<-HV.out];have HB1:=Lib.hid (HB.out.trans (hb1.mono HB.out.size));have hx1:=(hb1.block w.heap.size (by simp)).trans HX.out
   obtain ⟨b0,b1,b2,b3,b4⟩:=cells5 hx1;clear hb1 hx1
   cases hx:rightN nd with
   | false=>
    have HE2:=Lib.hid (show false=rightF nd by rw[HEQ.out,hx];rfl)
    clear hx;go_wp2_with fail;go_ret;exact ⟨ret_bool HE2.out,HB1.out⟩
   | true=>
    have HE2:=Lib.hid (show (!anyP (nd.kids.map λk=>!rightF k))=rightF nd by rw[HAN.out,HEQ.out,hx];rfl)
    clear hx;go_wp2_with fail;refine (HC.out _ HB1.out).mono ?_;rintro e w2 ⟨rfl,hb2⟩;generalize anyP (nd.kids.map λk=>!rightF k)=y at *
    cases y
    all_goals
     go_wp2_with fail;go_ret;exact ⟨ret_bool HE2.out,HB1.out.trans (hb2.mono HB1.out.size)⟩
  by_cases h2:O=2
  .have HV:=Lib.hid (HN2.out (.inl h2));subst h2
   go_enter Tryz.func120,Tryz.ntmps120
   go_wp2_with fail;refine (HSEV.out _ HB.out).mono ?_;rintro e w1 ⟨rfl,hb1⟩;rw[<-HV.out];have HB1:=Lib.hid (HB.out.trans (hb1.mono HB.out.size));have hx1:=(hb1.block w.heap.size (by simp)).trans HX.out
   obtain ⟨b0,b1,b2,b3,b4⟩:=cells5 hx1;clear hb1 hx1
   cases hx:rightN nd with
   | false=>
    have HE2:=Lib.hid (show false=rightF nd by rw[HEQ.out,hx];rfl)
    clear hx;go_wp2_with fail;go_ret;exact ⟨ret_bool HE2.out,HB1.out⟩
   | true=>
    have HE2:=Lib.hid (show (!anyP (nd.kids.map λk=>!rightF k))=rightF nd by rw[HAN.out,HEQ.out,hx];rfl)
    clear hx;go_wp2_with fail;refine (HC.out _ HB1.out).mono ?_;rintro e w2 ⟨rfl,hb2⟩;generalize anyP (nd.kids.map λk=>!rightF k)=y at *
    cases y
    all_goals
     go_wp2_with fail;go_ret;exact ⟨ret_bool HE2.out,HB1.out.trans (hb2.mono HB1.out.size)⟩
  by_cases h3:O=3
  .have HV:=Lib.hid (HN2.out (.inr h3));subst h3
   go_enter Tryz.func120,Tryz.ntmps120
   go_wp2_with fail;refine (HSEV.out _ HB.out).mono ?_;rintro e w1 ⟨rfl,hb1⟩;rw[<-HV.out];have HB1:=Lib.hid (HB.out.trans (hb1.mono HB.out.size));have hx1:=(hb1.block w.heap.size (by simp)).trans HX.out
   obtain ⟨b0,b1,b2,b3,b4⟩:=cells5 hx1;clear hb1 hx1
   cases hx:rightN nd with
   | false=>
    have HE2:=Lib.hid (show false=rightF nd by rw[HEQ.out,hx];rfl)
    clear hx;go_wp2_with fail;go_ret;exact ⟨ret_bool HE2.out,HB1.out⟩
   | true=>
    have HE2:=Lib.hid (show (!anyP (nd.kids.map λk=>!rightF k))=rightF nd by rw[HAN.out,HEQ.out,hx];rfl)
    clear hx;go_wp2_with fail;refine (HC.out _ HB1.out).mono ?_;rintro e w2 ⟨rfl,hb2⟩;generalize anyP (nd.kids.map λk=>!rightF k)=y at *
    cases y
    all_goals
     go_wp2_with fail;go_ret;exact ⟨ret_bool HE2.out,HB1.out.trans (hb2.mono HB1.out.size)⟩
  by_cases h4:O=4
  .have HV:=Lib.hid (HN4.out h4);subst h4
   go_enter Tryz.func120,Tryz.ntmps120
   go_wp2_with fail;refine (HREP.out _ HB.out).mono ?_;rintro e w1 ⟨rfl,hb1⟩;rw[<-HV.out];have HB1:=Lib.hid (HB.out.trans (hb1.mono HB.out.size));have hx1:=(hb1.block w.heap.size (by simp)).trans HX.out
   obtain ⟨b0,b1,b2,b3,b4⟩:=cells5 hx1;clear hb1 hx1
   cases hx:rightN nd with
   | false=>
    have HE2:=Lib.hid (show false=rightF nd by rw[HEQ.out,hx];rfl)
    clear hx;go_wp2_with fail;go_ret;exact ⟨ret_bool HE2.out,HB1.out⟩
   | true=>
    have HE2:=Lib.hid (show (!anyP (nd.kids.map λk=>!rightF k))=rightF nd by rw[HAN.out,HEQ.out,hx];rfl)
    clear hx;go_wp2_with fail;refine (HC.out _ HB1.out).mono ?_;rintro e w2 ⟨rfl,hb2⟩;generalize anyP (nd.kids.map λk=>!rightF k)=y at *
    cases y
    all_goals
     go_wp2_with fail;go_ret;exact ⟨ret_bool HE2.out,HB1.out.trans (hb2.mono HB1.out.size)⟩
  .have HV:=Lib.hid (show false=rightF nd by rw[HEQ.out,HN0.out h1 h2 h3 h4];rfl)
   have e1:(O == 1)=false:=by simpa using h1
   have e2:(O == 2)=false:=by simpa using h2
   have e3:(O == 3)=false:=by simpa using h3
   have e4:(O == 4)=false:=by simpa using h4
   clear h1 h2 h3 h4
   go_enter Tryz.func120,Tryz.ntmps120
   go_wp2_with fail;go_ret;exact ⟨ret_bool HV.out,HB.out⟩
theorem posF_le (n:Nd):posF n<=601:=by cases n;rw[posF];omega
-- The least number of bytes.
mutual
def shortF:Nd->Nat
 | .mk op _ kids mn _=>if op=1 then 1 else if op=2 then shortS kids else if op=3 then shortC kids else mn.toNat*shortH kids
def shortS:List Nd->Nat
 | []=>0
 | k::r=>shortF k+shortS r
def shortC:List Nd->Nat
 | []=>1000000
 | k::r=>min (shortF k) (shortC r)
def shortH:List Nd->Nat
 | []=>0
 | k::_=>shortF k
end
theorem longS_mem:∀{l:List Nd} {k:Nd},k∈l->longF k<=longS l
 | a::r,k,h=>by
  rw[longS];rcases List.mem_cons.1 h with rfl | h
  .omega
  .have:=longS_mem h;omega
theorem longC_mem:∀{l:List Nd} {k:Nd},k∈l->longF k<=longC l
 | a::r,k,h=>by
  rw[longC];rcases List.mem_cons.1 h with rfl | h
  .omega
  .have:=longC_mem h;omega
theorem kids_two {rs:List (Nat×Nat)} {kids:List Nd} {op mn mx:Int} (hR:rightF (.mk op rs kids mn mx)=true):op=3->2<=kids.length:=by
 rintro rfl;have h:=((rightF_iff _).1 hR).1;simp only[rightN]at h;rw[if_neg (by decide),if_pos (by decide)]at h
 simp at h;exact h.1
theorem kids_long {rs:List (Nat×Nat)} {kids:List Nd} {op mn mx:Int} (hR:rightF (.mk op rs kids mn mx)=true) (hl:longF (.mk op rs kids mn mx)<=1024):∀k∈kids,longF k<=1024:=by
 intro k hk;obtain ⟨hop,-⟩:=rightF_op hR;rw[longF]at hl;rcases hop with rfl | rfl | rfl | ⟨rfl,hk1,hm0,hm1,hm2⟩
 .have h:=((rightF_iff _).1 hR).1;simp only[rightN]at h;simp at h;rw[h.2.2.1]at hk
  cases hk
 .have:=longS_mem hk;simp at hl;omega
 .have:=longC_mem hk;simp at hl;omega
 .match kids,hk1 with
  | [a],_=>
   rw[List.mem_singleton]at hk;subst hk;rw[if_neg (by decide),if_neg (by decide),if_neg (by decide),longH]at hl
   have h2:1*longF k<=mx.toNat*longF k:=Nat.mul_le_mul_right _ (by omega)
   omega
theorem rep_le {rs:List (Nat×Nat)} {kids:List Nd} {op mn mx:Int} (hR:rightF (.mk op rs kids mn mx)=true):op=4->mn<=mx:=by
 rintro rfl;have h:=((rightF_iff _).1 hR).1;rw[rightN_4 rfl]at h;simp only[repN,Bool.and_eq_true,decide_eq_true_eq,Nd.mn,Nd.mx]at h;exact of_decide_eq_true h.2.2.2.2.1
theorem short_bd:∀(m:Nat),(∀n:Nd,nodesT n<=m->rightF n=true->longF n<=1024->shortF n<=longF n):=by
 intro m
 induction m with
 | zero=>intro n h;cases n;rw[nodesT]at h;omega
 | succ m ih=>
  rintro ⟨op,rs,kids,mn,mx⟩ h hR hl;have hk:=kids_long hR hl;have h2:=kids_two hR;have hle:=rep_le hR;obtain ⟨hop,hRs⟩:=rightF_op hR;rw[nodesT]at h;have hkid:∀k∈kids,shortF k<=longF k:=λk hkm=>ih k (by have:=nodesT_kid hkm;omega) (rightFs_mem hRs hkm) (hk k hkm)
  rw[longF]at hl|-;rw[shortF];rcases hop with rfl | rfl | rfl | ⟨rfl,hk1,hm0,hm1,hm2⟩
  .simp
  .have:∀l:List Nd,(∀k∈l,shortF k<=longF k)->shortS l<=longS l:=by
    intro l
    induction l with
    | nil=>intro _;exact Nat.le_refl _
    | cons a r ih=>
     intro h;rw[shortS,longS];have:=h a (by simp)
     have:=ih λk hk=>h k (by simp[hk])
     omega
   have:=this kids hkid;simp at hl|-;omega
  .match kids,h2 rfl with
   | a::r,_=>
    have h3:=hkid a (by simp)
    have h4:=longC_mem (show a∈a::r by simp)
    simp at hl|-;rw[shortC];omega
  .match kids,hk1 with
   | [a],_=>
    have h3:=hkid a (by simp)
    rw[if_neg (by decide),if_neg (by decide),if_neg (by decide),longH]at hl|-
    rw[if_neg (by decide),if_neg (by decide),if_neg (by decide),shortH]
    have h6:=hle rfl;have h5:mn.toNat*shortF a<=mx.toNat*longF a:=Nat.mul_le_mul (by omega) h3
    omega
theorem shortC_first:∀{l:List Nd} (h:0<l.length),min (shortF l[0]) (shortC l)=shortC l
 | a::r,_=>by show min (shortF a) (min (shortF a) (shortC r))=min (shortF a) (shortC r);omega
theorem shortF_le (n:Nd) (hR:rightF n=true) (hl:longF n<=1024):shortF n<=1024:=Nat.le_trans (short_bd _ n (Nat.le_refl _) hR hl) hl
set_option maxHeartbeats 4000000 in
theorem positions_any:∀(m:Nat) (nd:Nd) (vs:List Value) (w:World),nodesT nd<=m->nodesT nd<=200->rightF nd=true->NdIn w nd vs->Calls Tryz.prog 134 #[.agg vs.toArray] w λe w'=>e = .returned (.int .i64 ((posF nd:Nat):Int))/\Below w.heap.size w w':=by
 intro m
 induction m with
 | zero=>intro nd vs w h;cases nd;rw[nodesT]at h;omega
 | succ m ih=>
  rintro ⟨op,rs,kids,mn,mx⟩ vs w h h200 hR hn;have HN:=Lib.hid hn;obtain ⟨v1,v2,rfl,hr,A,c,rfl,hc,hk⟩:=hn;obtain ⟨A1,c1,rfl,-,-⟩:=hr;have hb0:Below w.heap.size w (w.alloc (.cells #[.int .i64 op, .slice A1 rs.length c1, .slice A kids.length c, .int .i64 mn, .int .i64 mx] 41)):=(Below.refl _ _).alloc (Nat.le_refl _) _;have hT:nodesT (.mk op rs kids mn mx)=1+nodesTs kids:=by rw[nodesT]
  have hL:posF (.mk op rs kids mn mx)=min (if op=1 then 1 else if op=4 then mx.toNat*posH kids else posS kids) 601:=by rw[posF]
  rw[hT]at h h200;have hkl:=kids_le kids;have hkl2:kids.length<=200:=by omega
  obtain ⟨hop,hRs⟩:=rightF_op hR;have HL:=Lib.hid hL;have HM:=Lib.hid h;have HM2:=Lib.hid h200;have HRS:=Lib.hid hRs;clear hT h hL h200 hR hRs hkl;rcases hop with rfl | rfl | rfl | ⟨rfl,hk1,hm0,hm1,hm2⟩
  .go_enter Tryz.func134,Tryz.ntmps134
   go_wp2_with fail;go_ret;exact ⟨ret_int (by rw[HL.out];rfl),hb0⟩
  .go_enter Tryz.func134,Tryz.ntmps134
   go_wp2_with fail
   go_loopw [3,11] (λov iv wr=>∃(k o:Nat),k<=kids.length/\iv = .int .i64 (k:Int)/\ov = .int .i64 (o:Int)/\o<=601*k/\Hid (o+posS (kids.drop k)=posS kids)/\Below w.heap.size w wr) (λ_ iv _=>kids.length - (intOf iv).toNat)
   case atStart=>exact ⟨0,0,by omega,rfl,rfl,by omega,by show 0+_=_;rw[List.drop_zero,Nat.zero_add],hb0⟩
   case round=>
    obtain ⟨k,o,hkk,rfl,rfl,ho,HO,hb⟩:=hrel;by_cases hlt:k<kids.length
    .have hd:decide ((k:Int)<(kids.length:Int))=true:=decide_eq_true (by omega)
     have hdn:decide (k<kids.length)=true:=decide_eq_true hlt;obtain ⟨g,f,rfl,hg,hkd⟩:=hk.resolve_left (by rintro rfl;simp at hlt)
     obtain ⟨vs,hcv,hnd⟩:=hkd.at k hlt;have hmem:=nodesT_kid (List.getElem_mem hlt);have hrk:=rightFs_mem HRS.out (List.getElem_mem hlt);have hdr:posS (kids.drop k)=posF kids[k]+posS (kids.drop (k+1)):=by rw[List.drop_eq_getElem_cons hlt,posS]
     obtain ⟨kd,hkd2⟩:∃kd,kids[k]=kd:=⟨_,rfl⟩;rw[hkd2]at hnd hmem hdr hrk;obtain ⟨B1,e1,B2,e2,rfl,-,-,-⟩:=hnd.form;have q:∀j,j<5->wr.cell? ⟨g,f+k*5+j,none⟩=([.int .i64 kd.op, .slice B1 kd.rs.length e1, .slice B2 kd.kids.length e2, .int .i64 kd.mn, .int .i64 kd.mx]:List Value)[j]?:=λj hj=>(hb.cell (p:=⟨g,f+k*5+j,none⟩) hg).trans (hcv j hj);have q0:=q 0 (by omega);have q1:=q 1 (by omega);have q2:=q 2 (by omega);have q3:=q 3 (by omega);have q4:=q 4 (by omega)
     simp only[Nat.add_zero,List.getElem?_cons_zero,List.getElem?_cons_succ]at q0 q1 q2 q3 q4;have hIH:=λ(w':World) (hw:Below w.heap.size w w')=>ih kd _ w' (by have:=HM.out;omega) (by have:=HM2.out;omega) hrk (hnd.later hw)
     have HI:=Lib.hid hIH;have HB:=Lib.hid hb;have HD:=Lib.hid hdr;clear q hcv hnd hkd2 hkd hIH hb hdr hb0 hrk;go_wp2_with fail;refine (HI.out _ (HB.out.trans ((Below.refl w.heap.size _).alloc HB.out.size _))).mono ?_;rintro e w1 ⟨rfl,hb1⟩;obtain ⟨x,hx⟩:∃x,posF kd=x:=⟨_,rfl⟩;have hx2:=posF_le kd;rw[hx]at hx2|-;have HX:=Lib.hid hx;have HB1:=Lib.hid (show Below w.heap.size w w1 from HB.out.trans ((((Below.refl w.heap.size _).alloc HB.out.size _)).trans (hb1.mono (by have:=HB.out.size;simp;omega))))
     clear hb1 hx hmem q0 q1 q2 q3 q4;go_wp2_with fail;go_roundw
     case rel=>
      refine ⟨k+1,o+x,by omega,by go_num,by go_num,by omega,?_,HB1.out⟩
      have h1:=HO.out;have h2:=HD.out;have h3:=HX.out;exact (by omega:o+x+posS (kids.drop (k+1))=posS kids)
     case measure=>simp[intOf];omega
    .obtain rfl:k=kids.length:=by omega
     have hfin:=HO.out;rw[List.drop_length,posS,Nat.add_zero]at hfin;have HF:=Lib.hid hfin;obtain ⟨y,hy⟩:∃y:Nat,y=min o 601:=⟨_,rfl⟩;have hy2:min (o:Int) 601=(y:Int):=by omega
     have HY:=Lib.hid hy;clear hfin hy;have hL':posF (.mk 2 rs kids mn mx)=min (posS kids) 601:=by rw[HL.out];simp
     have HL2:=Lib.hid hL';clear hL';go_wp2_with fail
     all_goals
      go_ret;refine ⟨ret_int ?_,hb⟩;have h1:=HY.out;have h2:=HF.out;rw[HL2.out,<-h2];omega
  .go_enter Tryz.func134,Tryz.ntmps134
   go_wp2_with fail
   go_loopw [3,11] (λov iv wr=>∃(k o:Nat),k<=kids.length/\iv = .int .i64 (k:Int)/\ov = .int .i64 (o:Int)/\o<=601*k/\Hid (o+posS (kids.drop k)=posS kids)/\Below w.heap.size w wr) (λ_ iv _=>kids.length - (intOf iv).toNat)
   case atStart=>exact ⟨0,0,by omega,rfl,rfl,by omega,by show 0+_=_;rw[List.drop_zero,Nat.zero_add],hb0⟩
   case round=>
    obtain ⟨k,o,hkk,rfl,rfl,ho,HO,hb⟩:=hrel;by_cases hlt:k<kids.length
    .have hd:decide ((k:Int)<(kids.length:Int))=true:=decide_eq_true (by omega)
     have hdn:decide (k<kids.length)=true:=decide_eq_true hlt;obtain ⟨g,f,rfl,hg,hkd⟩:=hk.resolve_left (by rintro rfl;simp at hlt)
     obtain ⟨vs,hcv,hnd⟩:=hkd.at k hlt;have hmem:=nodesT_kid (List.getElem_mem hlt);have hrk:=rightFs_mem HRS.out (List.getElem_mem hlt);have hdr:posS (kids.drop k)=posF kids[k]+posS (kids.drop (k+1)):=by rw[List.drop_eq_getElem_cons hlt,posS]
     obtain ⟨kd,hkd2⟩:∃kd,kids[k]=kd:=⟨_,rfl⟩;rw[hkd2]at hnd hmem hdr hrk;obtain ⟨B1,e1,B2,e2,rfl,-,-,-⟩:=hnd.form;have q:∀j,j<5->wr.cell? ⟨g,f+k*5+j,none⟩=([.int .i64 kd.op, .slice B1 kd.rs.length e1, .slice B2 kd.kids.length e2, .int .i64 kd.mn, .int .i64 kd.mx]:List Value)[j]?:=λj hj=>(hb.cell (p:=⟨g,f+k*5+j,none⟩) hg).trans (hcv j hj);have q0:=q 0 (by omega);have q1:=q 1 (by omega);have q2:=q 2 (by omega);have q3:=q 3 (by omega);have q4:=q 4 (by omega)
     simp only[Nat.add_zero,List.getElem?_cons_zero,List.getElem?_cons_succ]at q0 q1 q2 q3 q4;have hIH:=λ(w':World) (hw:Below w.heap.size w w')=>ih kd _ w' (by have:=HM.out;omega) (by have:=HM2.out;omega) hrk (hnd.later hw)
     have HI:=Lib.hid hIH;have HB:=Lib.hid hb;have HD:=Lib.hid hdr;clear q hcv hnd hkd2 hkd hIH hb hdr hb0 hrk;go_wp2_with fail;refine (HI.out _ (HB.out.trans ((Below.refl w.heap.size _).alloc HB.out.size _))).mono ?_;rintro e w1 ⟨rfl,hb1⟩;obtain ⟨x,hx⟩:∃x,posF kd=x:=⟨_,rfl⟩;have hx2:=posF_le kd;rw[hx]at hx2|-;have HX:=Lib.hid hx;have HB1:=Lib.hid (show Below w.heap.size w w1 from HB.out.trans ((((Below.refl w.heap.size _).alloc HB.out.size _)).trans (hb1.mono (by have:=HB.out.size;simp;omega))))
     clear hb1 hx hmem q0 q1 q2 q3 q4;go_wp2_with fail;go_roundw
     case rel=>
      refine ⟨k+1,o+x,by omega,by go_num,by go_num,by omega,?_,HB1.out⟩
      have h1:=HO.out;have h2:=HD.out;have h3:=HX.out;exact (by omega:o+x+posS (kids.drop (k+1))=posS kids)
     case measure=>simp[intOf];omega
    .obtain rfl:k=kids.length:=by omega
     have hfin:=HO.out;rw[List.drop_length,posS,Nat.add_zero]at hfin;have HF:=Lib.hid hfin;obtain ⟨y,hy⟩:∃y:Nat,y=min o 601:=⟨_,rfl⟩;have hy2:min (o:Int) 601=(y:Int):=by omega
     have HY:=Lib.hid hy;clear hfin hy;have hL':posF (.mk 3 rs kids mn mx)=min (posS kids) 601:=by rw[HL.out];simp
     have HL2:=Lib.hid hL';clear hL';go_wp2_with fail
     all_goals
      go_ret;refine ⟨ret_int ?_,hb⟩;have h1:=HY.out;have h2:=HF.out;rw[HL2.out,<-h2];omega
  .obtain ⟨kd,rfl⟩:∃kd,kids=[kd]:=by
    match kids,hk1 with
    | [a],_=>exact ⟨a,rfl⟩
   obtain ⟨g,f,rfl,hg,hkd⟩:=hk.resolve_left (by simp)
   obtain ⟨vs,hcv,hnd⟩:=hkd.at 0 (by simp)
   have hmem:=nodesT_kid (List.mem_singleton.2 rfl:kd∈[kd]);have hrk:=rightFs_mem HRS.out (List.mem_singleton.2 rfl:kd∈[kd])
   replace hnd:NdIn w kd vs:=hnd
   obtain ⟨B1,e1,B2,e2,rfl,-,-,-⟩:=hnd.form;have hrow:=heap_alloc_new w (.cells #[.int .i64 4, .slice A1 rs.length c1, .slice (some ⟨g,f,none⟩) 1 c, .int .i64 mn, .int .i64 mx] 41);have hS:∀W,Below w.heap.size w W->W.heap[w.heap.size]?=some (.cells #[.int .i64 4, .slice A1 rs.length c1, .slice (some ⟨g,f,none⟩) 1 c, .int .i64 mn, .int .i64 mx] 41 (0,0))->
     (W.cell? ⟨w.heap.size,4,none⟩=some (.int .i64 mx)/\W.cell? ⟨w.heap.size,2,none⟩=some (.slice (some ⟨g,f,none⟩) 1 c))/\
     W.cell? ⟨g,f,none⟩=some (.int .i64 kd.op)/\W.cell? ⟨g,f+1,none⟩=some (.slice B1 kd.rs.length e1)/\W.cell? ⟨g,f+2,none⟩=some (.slice B2 kd.kids.length e2)/\W.cell? ⟨g,f+3,none⟩=some (.int .i64 kd.mn)/\W.cell? ⟨g,f+4,none⟩=some (.int .i64 kd.mx):=by
    intro W hW hr;have q:∀j,j<5->W.cell? ⟨g,f+j,none⟩=([.int .i64 kd.op, .slice B1 kd.rs.length e1, .slice B2 kd.kids.length e2, .int .i64 kd.mn, .int .i64 kd.mx]:List Value)[j]?:=λj hj=>(hW.cell (p:=⟨g,f+j,none⟩) hg).trans (by have:=hcv j hj;rw[Nat.zero_mul,Nat.add_zero]at this;exact this)
    refine ⟨⟨?_,?_⟩,q 0 (by omega),q 1 (by omega),q 2 (by omega),q 3 (by omega),q 4 (by omega)⟩
    .rw[cell_of_row _ _ _ _ _ _ hr];rfl
    .rw[cell_of_row _ _ _ _ _ _ hr];rfl
   have HSS:=Lib.hid hS;have hIH:=λ(w':World) (hw:Below w.heap.size w w')=>ih kd _ w' (by have:=HM.out;omega) (by have:=HM2.out;omega) hrk (hnd.later hw)
   have HI:=Lib.hid hIH;have HB:=Lib.hid hb0;have HR:=Lib.hid hrow;obtain ⟨x,hx⟩:∃x,posF kd=x:=⟨_,rfl⟩;have hx2:=posF_le kd;rw[hx]at hx2 HI;have HX:=Lib.hid hx;obtain ⟨M,rfl⟩:=Int.eq_ofNat_of_zero_le (show 0<=mx by omega)
   obtain ⟨P,hP⟩:∃P:Nat,P=M*x:=⟨_,rfl⟩;have hP1:P<=64*601:=by rw[hP];exact Nat.mul_le_mul (by omega) hx2
   have hP2:(M:Int)*(x:Int)=(P:Int):=by rw[hP];simp
   have hP3:IntKind.i64.wrap ((M:Int)*(x:Int))=(P:Int):=by rw[hP2];exact IntWalk.i64_in _ (by omega)
   obtain ⟨y,hy⟩:∃y:Nat,y=min P 601:=⟨_,rfl⟩;have hy2:min (P:Int) 601=(y:Int):=by omega
   have HY:=Lib.hid (And.intro hP hy);clear hS hcv hnd hkd hIH hb0 hrow hrk hmem hx hP hy hP2;have hz0:=HSS.out _ HB.out HR.out;have hzd:=HSS.out _ HB.out.drew HR.out
   go_enter Tryz.func134,Tryz.ntmps134
   go_wp2_with fail
   go_region_held3 (λw'=>(w'.cell? ⟨w.heap.size,4,none⟩=some (.int .i64 (M:Int))/\w'.cell? ⟨w.heap.size,2,none⟩=some (.slice (some ⟨g,f,none⟩) 1 c))/\w'.cell? ⟨g,f,none⟩=some (.int .i64 kd.op)/\w'.cell? ⟨g,f+1,none⟩=some (.slice B1 kd.rs.length e1)/\w'.cell? ⟨g,f+2,none⟩=some (.slice B2 kd.kids.length e2)/\w'.cell? ⟨g,f+3,none⟩=some (.int .i64 kd.mn)/\w'.cell? ⟨g,f+4,none⟩=some (.int .i64 kd.mx))
    (first | exact hz0 | exact hzd | exact hz1 | go_keep)
    ((go_at_call 134;refine (HI.out _ HB.out.drew).mono ?_;rintro e w1 ⟨rfl,hb1⟩;have hz1:=HSS.out w1 (HB.out.drew.trans (hb1.mono (HB.out.drew).size)) ((hb1.block w.heap.size (by simp)).trans HR.out)))
   all_goals
    have HE:=Lib.hid (HB.out.drew.trans (hb1.mono (HB.out.drew).size));clear hz0 hzd hz1 hb1;go_wp2_with fail
    all_goals
     go_ret;refine ⟨ret_int ?_,HE.out⟩;have h1:=HY.out.1;have h2:=HY.out.2;have h3:=HX.out;rw[HL.out,if_neg (by decide)]
     simp only[if_true,Int.toNat_natCast,posH];rw[h3,<-h1];omega
set_option maxHeartbeats 4000000 in
theorem shortest_any:∀(m:Nat) (nd:Nd) (vs:List Value) (w:World),nodesT nd<=m->nodesT nd<=200->rightF nd=true->longF nd<=1024->NdIn w nd vs->Calls Tryz.prog 140 #[.agg vs.toArray] w λe w'=>e = .returned (.int .i64 ((shortF nd:Nat):Int))/\Below w.heap.size w w':=by
 intro m
 induction m with
 | zero=>intro nd vs w h;cases nd;rw[nodesT]at h;omega
 | succ m ih=>
  rintro ⟨op,rs,kids,mn,mx⟩ vs w h h200 hR hlg hn;have HN:=Lib.hid hn;obtain ⟨v1,v2,rfl,hr,A,c,rfl,hc,hk⟩:=hn;obtain ⟨A1,c1,rfl,-,-⟩:=hr;have hb0:Below w.heap.size w (w.alloc (.cells #[.int .i64 op, .slice A1 rs.length c1, .slice A kids.length c, .int .i64 mn, .int .i64 mx] 41)):=(Below.refl _ _).alloc (Nat.le_refl _) _;have hT:nodesT (.mk op rs kids mn mx)=1+nodesTs kids:=by rw[nodesT]
  have hL:shortF (.mk op rs kids mn mx)=(if op=1 then 1 else if op=2 then shortS kids else if op=3 then shortC kids else mn.toNat*shortH kids):=by rw[shortF]
  rw[hT]at h h200;have hkl:=kids_le kids;have hkl2:kids.length<=200:=by omega
  have HKL:=Lib.hid (kids_long hR hlg);have HK2:=Lib.hid (kids_two hR);have HLE:=Lib.hid (rep_le hR);obtain ⟨hop,hRs⟩:=rightF_op hR;have HL:=Lib.hid hL;have HM:=Lib.hid h;have HM2:=Lib.hid h200;have HRS:=Lib.hid hRs;clear hT h hL h200 hR hRs hkl hlg;rcases hop with rfl | rfl | rfl | ⟨rfl,hk1,hm0,hm1,hm2⟩
  .go_enter Tryz.func140,Tryz.ntmps140
   go_wp2_with fail;go_ret;exact ⟨ret_int (by rw[HL.out];rfl),hb0⟩
  .go_enter Tryz.func140,Tryz.ntmps140
   go_wp2_with fail
   go_loopw [3,25] (λov iv wr=>∃(k o:Nat),k<=kids.length/\iv = .int .i64 (k:Int)/\ov = .int .i64 (o:Int)/\o<=1024*k/\Hid (o+shortS (kids.drop k)=shortS kids)/\Below w.heap.size w wr) (λ_ iv _=>kids.length - (intOf iv).toNat)
   case atStart=>exact ⟨0,0,by omega,rfl,rfl,by omega,by show 0+_=_;rw[List.drop_zero,Nat.zero_add],hb0⟩
   case round=>
    obtain ⟨k,o,hkk,rfl,rfl,ho,HO,hb⟩:=hrel;by_cases hlt:k<kids.length
    .have hd:decide ((k:Int)<(kids.length:Int))=true:=decide_eq_true (by omega)
     have hdn:decide (k<kids.length)=true:=decide_eq_true hlt;obtain ⟨g,f,rfl,hg,hkd⟩:=hk.resolve_left (by rintro rfl;simp at hlt)
     obtain ⟨vs,hcv,hnd⟩:=hkd.at k hlt;have hmem:=nodesT_kid (List.getElem_mem hlt);have hrk:=rightFs_mem HRS.out (List.getElem_mem hlt);have hlk:=HKL.out _ (List.getElem_mem hlt);have hdr:shortS (kids.drop k)=shortF kids[k]+shortS (kids.drop (k+1)):=by rw[List.drop_eq_getElem_cons hlt,shortS]
     obtain ⟨kd,hkd2⟩:∃kd,kids[k]=kd:=⟨_,rfl⟩;rw[hkd2]at hnd hmem hdr hrk hlk;have hx2:=shortF_le kd hrk hlk;obtain ⟨B1,e1,B2,e2,rfl,-,-,-⟩:=hnd.form;have q:∀j,j<5->wr.cell? ⟨g,f+k*5+j,none⟩=([.int .i64 kd.op, .slice B1 kd.rs.length e1, .slice B2 kd.kids.length e2, .int .i64 kd.mn, .int .i64 kd.mx]:List Value)[j]?:=λj hj=>(hb.cell (p:=⟨g,f+k*5+j,none⟩) hg).trans (hcv j hj);have q0:=q 0 (by omega);have q1:=q 1 (by omega);have q2:=q 2 (by omega);have q3:=q 3 (by omega);have q4:=q 4 (by omega)
     simp only[Nat.add_zero,List.getElem?_cons_zero,List.getElem?_cons_succ]at q0 q1 q2 q3 q4;have hIH:=λ(w':World) (hw:Below w.heap.size w w')=>ih kd _ w' (by have:=HM.out;omega) (by have:=HM2.out;omega) hrk hlk (hnd.later hw)
     have HI:=Lib.hid hIH;have HB:=Lib.hid hb;have HD:=Lib.hid hdr;clear q hcv hnd hkd2 hkd hIH hb hdr hb0 hrk;go_wp2_with fail;refine (HI.out _ (HB.out.trans ((Below.refl w.heap.size _).alloc HB.out.size _))).mono ?_;rintro e w1 ⟨rfl,hb1⟩;obtain ⟨x,hx⟩:∃x,shortF kd=x:=⟨_,rfl⟩;rw[hx]at hx2|-;have HX:=Lib.hid hx;have HB1:=Lib.hid (show Below w.heap.size w w1 from HB.out.trans ((((Below.refl w.heap.size _).alloc HB.out.size _)).trans (hb1.mono (by have:=HB.out.size;simp;omega))))
     clear hb1 hx hmem hlk q0 q1 q2 q3 q4;go_wp2_with fail;go_roundw
     case rel=>
      refine ⟨k+1,o+x,by omega,by go_num,by go_num,by omega,?_,HB1.out⟩
      have h1:=HO.out;have h2:=HD.out;have h3:=HX.out;exact (by omega:o+x+shortS (kids.drop (k+1))=shortS kids)
     case measure=>simp[intOf];omega
    .obtain rfl:k=kids.length:=by omega
     have hfin:=HO.out;rw[List.drop_length,shortS,Nat.add_zero]at hfin;have HF:=Lib.hid hfin;have hL':shortF (.mk 2 rs kids mn mx)=shortS kids:=by rw[HL.out];simp
     have HL2:=Lib.hid hL';clear hL' hfin;go_wp2_with fail;go_ret;exact ⟨ret_int (by have h2:=HF.out;rw[HL2.out,<-h2]),hb⟩
  .have hk2:=HK2.out rfl;obtain ⟨g,f,rfl,hg,hkd⟩:=hk.resolve_left (by rintro rfl;simp at hk2)
   obtain ⟨vs,hcv,hnd⟩:=hkd.at 0 (by omega)
   have hm0:kids[0]∈kids:=List.getElem_mem _;have hmem:=nodesT_kid hm0;have hrk:=rightFs_mem HRS.out hm0;have hlk:=HKL.out _ hm0;obtain ⟨k0,hkd2⟩:∃k0,kids[0]=k0:=⟨_,rfl⟩;have hst:min (shortF k0) (shortC kids)=shortC kids:=by
    rw[<-hkd2];exact shortC_first _
   have HST:=Lib.hid hst;rw[hkd2]at hnd hmem hrk hlk;have hx2:=shortF_le k0 hrk hlk;obtain ⟨B1,e1,B2,e2,rfl,-,-,-⟩:=hnd.form;have q:∀j,j<5->w.cell? ⟨g,f+j,none⟩=([.int .i64 k0.op, .slice B1 k0.rs.length e1, .slice B2 k0.kids.length e2, .int .i64 k0.mn, .int .i64 k0.mx]:List Value)[j]?:=λj hj=>(by have:=hcv j hj;rw[Nat.zero_mul,Nat.add_zero]at this;exact this)
   have hgn:g≠w.heap.size:=by omega
   have q0:=q 0 (by omega);have q1:=q 1 (by omega);have q2:=q 2 (by omega);have q3:=q 3 (by omega);have q4:=q 4 (by omega)
   simp only[Nat.add_zero,List.getElem?_cons_zero,List.getElem?_cons_succ]at q0 q1 q2 q3 q4;have hIH:=λ(w':World) (hw:Below w.heap.size w w')=>ih k0 _ w' (by have:=HM.out;omega) (by have:=HM2.out;omega) hrk hlk (hnd.later hw)
   have HI:=Lib.hid hIH;have HB0:=Lib.hid hb0;have HKD:=Lib.hid hkd;have HX:=Lib.hid (heap_alloc_new w (.cells #[.int .i64 3, .slice A1 rs.length c1, .slice (some ⟨g,f,none⟩) kids.length c, .int .i64 mn, .int .i64 mx] 41));have hk0:0<kids.length:=by omega
   clear q hcv hnd hkd2 hkd hIH hrk hst hm0 hk
   go_enter Tryz.func140,Tryz.ntmps140
   go_wp2_with fail;refine (HI.out _ HB0.out).mono ?_;rintro e w1 ⟨rfl,hb1⟩;have HE1:=Lib.hid (HB0.out.trans (hb1.mono (HB0.out).size));have hx1:=(hb1.block w.heap.size (by simp)).trans HX.out
   obtain ⟨b0,b1,b2,b3,b4⟩:=cells5 hx1;obtain ⟨x,hx⟩:∃x,shortF k0=x:=⟨_,rfl⟩;rw[hx]at hx2 HST|-;have hkx:x<=1024:=by omega
   clear hb1 hx1 hx hmem hlk q0 q1 q2 q3 q4 hx2 HI;go_wp2_with fail
   go_loopw [3,44] (λov iv wr=>∃(k o:Nat),k<=kids.length/\iv = .int .i64 (k:Int)/\ov = .int .i64 (o:Int)/\o<=1024/\Hid (min o (shortC (kids.drop k))=shortC kids)/\Below w.heap.size w wr) (λ_ iv _=>kids.length - (intOf iv).toNat)
   case atStart=>exact ⟨0,x,by omega,rfl,rfl,by omega,by show min x _=_;rw[List.drop_zero];exact HST.out,HE1.out⟩
   case round=>
    obtain ⟨k,o,hkk,rfl,rfl,ho,HO,hb⟩:=hrel;by_cases hlt:k<kids.length
    .have hd:decide ((k:Int)<(kids.length:Int))=true:=decide_eq_true (by omega)
     have hdn:decide (k<kids.length)=true:=decide_eq_true hlt;obtain ⟨vs,hcv,hnd⟩:=HKD.out.at k hlt;have hmem:=nodesT_kid (List.getElem_mem hlt);have hrk:=rightFs_mem HRS.out (List.getElem_mem hlt);have hlk:=HKL.out _ (List.getElem_mem hlt);have hdr:shortC (kids.drop k)=min (shortF kids[k]) (shortC (kids.drop (k+1))):=by rw[List.drop_eq_getElem_cons hlt,shortC]
     obtain ⟨kd,hkd2⟩:∃kd,kids[k]=kd:=⟨_,rfl⟩;rw[hkd2]at hnd hmem hdr hrk hlk;have hx2:=shortF_le kd hrk hlk;obtain ⟨B1,e1,B2,e2,rfl,-,-,-⟩:=hnd.form;have q:∀j,j<5->wr.cell? ⟨g,f+k*5+j,none⟩=([.int .i64 kd.op, .slice B1 kd.rs.length e1, .slice B2 kd.kids.length e2, .int .i64 kd.mn, .int .i64 kd.mx]:List Value)[j]?:=λj hj=>(hb.cell (p:=⟨g,f+k*5+j,none⟩) hg).trans (hcv j hj);have q0:=q 0 (by omega);have q1:=q 1 (by omega);have q2:=q 2 (by omega);have q3:=q 3 (by omega);have q4:=q 4 (by omega)
     simp only[Nat.add_zero,List.getElem?_cons_zero,List.getElem?_cons_succ]at q0 q1 q2 q3 q4;have hIH:=λ(w':World) (hw:Below w.heap.size w w')=>ih kd _ w' (by have:=HM.out;omega) (by have:=HM2.out;omega) hrk hlk (hnd.later hw)
     have HI:=Lib.hid hIH;have HB:=Lib.hid hb;have HD:=Lib.hid hdr;clear q hcv hnd hkd2 hIH hb hdr hrk;go_wp2_with fail;refine (HI.out _ (HB.out.trans ((Below.refl w.heap.size _).alloc HB.out.size _))).mono ?_;rintro e w1 ⟨rfl,hb1⟩;obtain ⟨x,hx⟩:∃x,shortF kd=x:=⟨_,rfl⟩;rw[hx]at hx2|-;have HX:=Lib.hid hx;have HB1:=Lib.hid (show Below w.heap.size w w1 from HB.out.trans ((((Below.refl w.heap.size _).alloc HB.out.size _)).trans (hb1.mono (by have:=HB.out.size;simp;omega))))
     obtain ⟨y,hy⟩:∃y:Nat,y=min o x:=⟨_,rfl⟩;have hy2:min (o:Int) (x:Int)=(y:Int):=by omega
     have HY:=Lib.hid hy;have hy3:y<=1024:=by omega
     clear hb1 hx hmem hlk q0 q1 q2 q3 q4 hy;go_wp2_with fail;go_roundw
     case rel=>
      refine ⟨k+1,y,by omega,by go_num,by first | go_num | (simp;omega),by omega,?_,HB1.out⟩
      have h4:=HY.out;have h1:=HO.out;have h2:=HD.out;have h3:=HX.out;exact (by omega:min y (shortC (kids.drop (k+1)))=shortC kids)
     case measure=>simp[intOf];omega
    .obtain rfl:k=kids.length:=by omega
     have hfin:=HO.out;rw[List.drop_length,shortC]at hfin;have HF:=Lib.hid hfin;have hL':shortF (.mk 3 rs kids mn mx)=shortC kids:=by rw[HL.out];simp
     have HL2:=Lib.hid hL';clear hL' hfin;go_wp2_with fail;go_ret;exact ⟨ret_int (by have h2:=HF.out;rw[HL2.out,<-h2];omega),hb⟩
  .obtain ⟨kd,rfl⟩:∃kd,kids=[kd]:=by
    match kids,hk1 with
    | [a],_=>exact ⟨a,rfl⟩
   obtain ⟨g,f,rfl,hg,hkd⟩:=hk.resolve_left (by simp)
   obtain ⟨vs,hcv,hnd⟩:=hkd.at 0 (by simp)
   have hmem:=nodesT_kid (List.mem_singleton.2 rfl:kd∈[kd]);have hrk:=rightFs_mem HRS.out (List.mem_singleton.2 rfl:kd∈[kd]);have hlk:=HKL.out _ (List.mem_singleton.2 rfl:kd∈[kd])
   replace hnd:NdIn w kd vs:=hnd
   obtain ⟨B1,e1,B2,e2,rfl,-,-,-⟩:=hnd.form;have hrow:=heap_alloc_new w (.cells #[.int .i64 4, .slice A1 rs.length c1, .slice (some ⟨g,f,none⟩) 1 c, .int .i64 mn, .int .i64 mx] 41);have hS:∀W,Below w.heap.size w W->W.heap[w.heap.size]?=some (.cells #[.int .i64 4, .slice A1 rs.length c1, .slice (some ⟨g,f,none⟩) 1 c, .int .i64 mn, .int .i64 mx] 41 (0,0))->
     (W.cell? ⟨w.heap.size,3,none⟩=some (.int .i64 mn)/\W.cell? ⟨w.heap.size,2,none⟩=some (.slice (some ⟨g,f,none⟩) 1 c))/\
     W.cell? ⟨g,f,none⟩=some (.int .i64 kd.op)/\W.cell? ⟨g,f+1,none⟩=some (.slice B1 kd.rs.length e1)/\W.cell? ⟨g,f+2,none⟩=some (.slice B2 kd.kids.length e2)/\W.cell? ⟨g,f+3,none⟩=some (.int .i64 kd.mn)/\W.cell? ⟨g,f+4,none⟩=some (.int .i64 kd.mx):=by
    intro W hW hr;have q:∀j,j<5->W.cell? ⟨g,f+j,none⟩=([.int .i64 kd.op, .slice B1 kd.rs.length e1, .slice B2 kd.kids.length e2, .int .i64 kd.mn, .int .i64 kd.mx]:List Value)[j]?:=λj hj=>(hW.cell (p:=⟨g,f+j,none⟩) hg).trans (by have:=hcv j hj;rw[Nat.zero_mul,Nat.add_zero]at this;exact this)
    refine ⟨⟨?_,?_⟩,q 0 (by omega),q 1 (by omega),q 2 (by omega),q 3 (by omega),q 4 (by omega)⟩
    .rw[cell_of_row _ _ _ _ _ _ hr];rfl
    .rw[cell_of_row _ _ _ _ _ _ hr];rfl
   have HSS:=Lib.hid hS;have hIH:=λ(w':World) (hw:Below w.heap.size w w')=>ih kd _ w' (by have:=HM.out;omega) (by have:=HM2.out;omega) hrk hlk (hnd.later hw)
   have HI:=Lib.hid hIH;have HB:=Lib.hid hb0;have HR:=Lib.hid hrow;obtain ⟨x,hx⟩:∃x,shortF kd=x:=⟨_,rfl⟩;have hx2:=shortF_le kd hrk hlk;rw[hx]at hx2 HI;have HX:=Lib.hid hx;have hmle:=HLE.out rfl;obtain ⟨M,rfl⟩:=Int.eq_ofNat_of_zero_le (show 0<=mn by omega)
   obtain ⟨P,hP⟩:∃P:Nat,P=M*x:=⟨_,rfl⟩;have hP1:P<=64*1024:=by rw[hP];exact Nat.mul_le_mul (by omega) hx2
   have hP2:(M:Int)*(x:Int)=(P:Int):=by rw[hP];simp
   have hP3:IntKind.i64.wrap ((M:Int)*(x:Int))=(P:Int):=by rw[hP2];exact IntWalk.i64_in _ (by omega)
   have HY:=Lib.hid hP;clear hS hcv hnd hkd hIH hb0 hrow hrk hmem hx hP hP2 hlk;have hz0:=HSS.out _ HB.out HR.out;have hzd:=HSS.out _ HB.out.drew HR.out
   go_enter Tryz.func140,Tryz.ntmps140
   go_wp2_with fail
   go_region_held3 (λw'=>(w'.cell? ⟨w.heap.size,3,none⟩=some (.int .i64 (M:Int))/\w'.cell? ⟨w.heap.size,2,none⟩=some (.slice (some ⟨g,f,none⟩) 1 c))/\w'.cell? ⟨g,f,none⟩=some (.int .i64 kd.op)/\w'.cell? ⟨g,f+1,none⟩=some (.slice B1 kd.rs.length e1)/\w'.cell? ⟨g,f+2,none⟩=some (.slice B2 kd.kids.length e2)/\w'.cell? ⟨g,f+3,none⟩=some (.int .i64 kd.mn)/\w'.cell? ⟨g,f+4,none⟩=some (.int .i64 kd.mx))
    (first | exact hz0 | exact hzd | exact hz1 | go_keep)
    ((go_at_call 140;refine (HI.out _ HB.out.drew).mono ?_;rintro e w1 ⟨rfl,hb1⟩;have hz1:=HSS.out w1 (HB.out.drew.trans (hb1.mono (HB.out.drew).size)) ((hb1.block w.heap.size (by simp)).trans HR.out)))
   all_goals
    have HE:=Lib.hid (HB.out.drew.trans (hb1.mono (HB.out.drew).size));clear hz0 hzd hz1 hb1;go_wp2_with fail;go_ret;refine ⟨ret_int ?_,HE.out⟩;have h1:=HY.out;have h3:=HX.out;rw[HL.out,if_neg (by decide),if_neg (by decide),if_neg (by decide),Int.toNat_natCast,shortH,h3,<-h1]
def validF (nd:Nd):Int:=if 200<nodesT nd then 3 else if 20<depthT nd then 9 else if rightF nd=false then 1 else if 1024<longF nd then 3 else 0
theorem valid_zero {nd:Nd} (h:validF nd=0):nodesT nd<=200/\depthT nd<=20/\rightF nd=true/\longF nd<=1024:=by
 unfold validF at h;by_cases h1:200<nodesT nd
 .rw[if_pos h1]at h;cases h
 .rw[if_neg h1]at h;by_cases h2:20<depthT nd
  .rw[if_pos h2]at h;cases h
  .rw[if_neg h2]at h
   cases h3:rightF nd with
   | false=>rw[if_pos h3]at h;cases h
   | true=>
    rw[if_neg (by rw[h3];decide)]at h
    by_cases h4:1024<longF nd
    .rw[if_pos h4]at h;cases h
    .exact ⟨by omega,by omega,rfl,by omega⟩
set_option maxHeartbeats 2000000 in
theorem valid_any (nd:Nd) (vs:List Value) (w:World) (hn:NdIn w nd vs):Calls Tryz.prog 91 #[.agg vs.toArray] w λe w'=>e = .returned (.int .i64 (validF nd))/\Below w.heap.size w w':=by
 have HN:=Lib.hid (λW (hW:Below w.heap.size w W)=>nodes_any _ nd vs W (Nat.le_refl _) (hn.later hW));have HD:=Lib.hid (λW (hW:Below w.heap.size w W)=>depth_any _ nd vs W 20 (by omega) (Nat.le_refl _) (hn.later hW))
 have HR:=Lib.hid (λW (hW:Below w.heap.size w W) (h:nodesT nd<=200)=>right_any _ nd vs W (Nat.le_refl _) (by omega) (hn.later hW))
 have HL:=Lib.hid (λW (hW:Below w.heap.size w W) (h:nodesT nd<=200) (hr:rightF nd=true)=>longest_any _ nd vs W (Nat.le_refl _) h hr (hn.later hW));obtain ⟨A1,c1,A2,c2,rfl,hr,hc2,hk⟩:=hn.form;have HB:=Lib.hid (show Below w.heap.size w (w.alloc (.cells #[.int .i64 nd.op, .slice A1 nd.rs.length c1, .slice A2 nd.kids.length c2, .int .i64 nd.mn, .int .i64 nd.mx] 41)) from (Below.refl _ _).alloc (Nat.le_refl _) _);have HX:=Lib.hid (heap_alloc_new w (.cells #[.int .i64 nd.op, .slice A1 nd.rs.length c1, .slice A2 nd.kids.length c2, .int .i64 nd.mn, .int .i64 nd.mx] 41));clear hr hk hn
 go_enter Tryz.func91,Tryz.ntmps91
 go_wp2_with fail;refine (HN.out _ HB.out).mono ?_;rintro e w1 ⟨rfl,hb1⟩;obtain ⟨x,hx⟩:∃x,min (nodesT nd) 201=x:=⟨_,rfl⟩;rw[hx];have HW1:=Lib.hid (show Below w.heap.size w w1 from HB.out.trans (hb1.mono HB.out.size));have hx1:=(hb1.block w.heap.size (by simp)).trans HX.out
 obtain ⟨b0,b1,b2,b3,b4⟩:=cells5 hx1;have HX1:=Lib.hid hx1;clear hx1 hb1;by_cases h1:200<nodesT nd
 .have d1:decide (200<(x:Int))=true:=decide_eq_true (by omega)
  have HV:=Lib.hid (show (3:Int)=validF nd by unfold validF;rw[if_pos h1])
  clear h1 hx;go_wp2_with fail;go_ret;exact ⟨ret_int HV.out,HW1.out⟩
 have d1:decide (200<(x:Int))=false:=decide_eq_false (by omega)
 have H200:=Lib.hid (show nodesT nd<=200 by omega)
 have HV1:=Lib.hid (show validF nd=_ by unfold validF;rw[if_neg h1])
 clear h1 hx;go_wp2_with fail;refine (HD.out _ HW1.out).mono ?_;rintro e w2 ⟨rfl,hb2⟩;obtain ⟨x2,hx2⟩:∃x2,min (depthT nd) (20+1)=x2:=⟨_,rfl⟩;rw[hx2];have HW2:=Lib.hid (show Below w.heap.size w w2 from HW1.out.trans (hb2.mono HW1.out.size));have hx3:=(hb2.block w.heap.size (Array.getElem?_eq_some_iff.1 HX1.out).1).trans HX1.out;clear b0 b1 b2 b3 b4;obtain ⟨b0,b1,b2,b3,b4⟩:=cells5 hx3;have HX2:=Lib.hid hx3;clear hx3 hb2 HX1;by_cases h2:20<depthT nd
 .have d2:decide (20<(x2:Int))=true:=decide_eq_true (by omega)
  have HV:=Lib.hid (show (9:Int)=validF nd by rw[HV1.out,if_pos h2])
  clear h2 hx2;go_wp2_with fail;go_ret;exact ⟨ret_int HV.out,HW2.out⟩
 have d2:decide (20<(x2:Int))=false:=decide_eq_false (by omega)
 have HV2:=Lib.hid (show validF nd=_ by rw[HV1.out,if_neg h2])
 clear h2 hx2;go_wp2_with fail;refine (HR.out _ HW2.out H200.out).mono ?_;rintro e w3 ⟨rfl,hb3⟩;have HW3:=Lib.hid (show Below w.heap.size w w3 from HW2.out.trans (hb3.mono HW2.out.size));have hx4:=(hb3.block w.heap.size (Array.getElem?_eq_some_iff.1 HX2.out).1).trans HX2.out;clear b0 b1 b2 b3 b4;obtain ⟨b0,b1,b2,b3,b4⟩:=cells5 hx4;have HX3:=Lib.hid hx4;clear hx4 hb3 HX2
 cases h3:rightF nd with
 | false=>
  have HV:=Lib.hid (show (1:Int)=validF nd by rw[HV2.out,if_pos h3])
  clear h3;go_wp2_with fail;go_ret;exact ⟨ret_int HV.out,HW3.out⟩
 | true=>
  have HV3:=Lib.hid (show validF nd=_ by rw[HV2.out,if_neg (by rw[h3];decide)])
  have H3:=Lib.hid h3;clear h3;go_wp2_with fail;refine (HL.out _ HW3.out H200.out H3.out).mono ?_;rintro e w4 ⟨rfl,hb4⟩;have HW4:=Lib.hid (show Below w.heap.size w w4 from HW3.out.trans (hb4.mono HW3.out.size));have hle:=longF_le nd;generalize longF nd=y at *;clear hb4;by_cases h4:1024<y
  .have d4:decide (1024<(y:Int))=true:=decide_eq_true (by omega)
   have HV:=Lib.hid (show (3:Int)=validF nd by rw[HV3.out,if_pos h4])
   clear h4;go_wp2_with fail;go_ret;exact ⟨ret_int HV.out,HW4.out⟩
  .have d4:decide (1024<(y:Int))=false:=decide_eq_false (by omega)
   have HV:=Lib.hid (show (0:Int)=validF nd by rw[HV3.out,if_neg h4])
   clear h4;go_wp2_with fail;go_ret;exact ⟨ret_int HV.out,HW4.out⟩
def ShortF (nd:Nd):Nat:=if validF nd=0 then shortF nd else 0
def LongF (nd:Nd):Nat:=if validF nd=0 then longF nd else 0
theorem RgIn.rows {w:World} {v:Value} {rs:List (Nat×Nat)} (h:RgIn w v rs):RowsV 2 w v (rs.map λr=>[Value.int .u8 (r.1:Int),Value.int .u8 (r.2:Int)]):=by
 obtain ⟨A,c,rfl,hc,h⟩:=h;refine ⟨A,c,by simp,by simpa using hc,?_⟩
 rcases h with rfl | ⟨g,f,h1,h2,h3⟩
 .exact .inl rfl
 .refine .inr ⟨g,f,h1,h2,λi hi=>?_⟩;have hi':i<rs.length:=by simpa using hi
  obtain ⟨⟨q1,q2⟩,-,-⟩:=h3 i hi';refine ⟨by simp,λj hj=>?_⟩
  match j,hj with
  | 0,_=>rw[Nat.add_zero,q1];simp
  | 1,_=>rw[q2];simp
theorem holdk_any (a b:Nat) (c:Int) (bx:Nat) (w:World) (hb:w.cell? ⟨bx,0,none⟩=some (.int .u8 c)) :
  Calls Tryz.prog 192 #[.agg #[.int .u8 (a:Int), .int .u8 (b:Int)], .pointer (some ⟨bx,0,none⟩)] w λe w'=>e = .returned (.bool (decide ((a:Int)<=c) && decide (c<=(b:Int))))/\Below w.heap.size w w':=by
 have hbs:bx<w.heap.size:=by
  by_cases h:bx<w.heap.size
  .exact h
  .simp[World.cell?,Array.getElem?_eq_none (Nat.le_of_not_lt h)]at hb
 have hne:bx≠w.heap.size:=by omega
 have hB:Below w.heap.size w (w.alloc (.cells #[.int .u8 (a:Int), .int .u8 (b:Int)] 84)):=(Below.refl _ _).alloc (Nat.le_refl _) _;have hb2:=(hB.cell (p:=⟨bx,0,none⟩) hbs).trans hb;have HB:=Lib.hid hB;clear hB
 go_enter Tryz.func192,Tryz.ntmps192
 by_cases h1:(a:Int)<=c
 .have hd1:decide ((a:Int)<=c)=true:=decide_eq_true h1;rw[hd1];clear h1;go_wp2_with fail;go_ret;exact ⟨by rw[Bool.true_and];rfl,HB.out⟩
 .have hd1:decide ((a:Int)<=c)=false:=decide_eq_false h1;rw[hd1];clear h1;go_wp2_with fail;go_ret;exact ⟨rfl,HB.out⟩
theorem callHold (args:Array Value) (w:World):(callFunc 192 args).run Tryz.prog w = .ok (.enter 192 args) w:=by rfl
theorem holds_any (v:Value) (rs:List (Nat×Nat)) (c:Nat) (w:World) (h:RgIn w v rs):Calls Tryz.prog 167 #[v, .int .u8 (c:Int)] w λe w'=>e = .returned (.bool (inR rs c))/\Below w.heap.size w w':=by
 have hB:Below w.heap.size w (w.alloc (.cells #[.int .u8 (c:Int)] 5)):=(Below.refl _ _).alloc (Nat.le_refl _) _;have hx:(w.alloc (.cells #[.int .u8 (c:Int)] 5)).cell? ⟨w.heap.size,0,none⟩=some (.int .u8 (c:Int)):=by rw[cell_of_row _ _ _ _ _ _ (heap_alloc_new w _)];rfl
 have hrows:=(h.later hB).rows;have hask:AskR 192 #[.pointer (some ⟨w.heap.size,0,none⟩)] (rs.map λr=>[Value.int .u8 (r.1:Int),Value.int .u8 (r.2:Int)]) (rs.map λr=>decide (r.1<=c) && decide (c<=r.2)) (w.alloc (.cells #[.int .u8 (c:Int)] 5)):=by
  refine ⟨callHold,by simp,λi hi b hb w' hw'=>?_⟩
  have hi':i<rs.length:=by simpa using hi
  rw[List.getElem?_map,List.getElem?_eq_getElem hi']at hb;simp only[Option.map_some,Option.some.injEq]at hb;have h1:=holdk_any rs[i].1 rs[i].2 (c:Int) w.heap.size w' ((hw'.cell (p:=⟨w.heap.size,0,none⟩) (by simp)).trans hx)
  rw[show (decide ((rs[i].1:Int)<=(c:Int)) && decide ((c:Int)<=(rs[i].2:Int)))=b by rw[<-hb]; congr 1 <;> simp]at h1
  simpa using h1
 have hany:anyP (rs.map λr=>decide (r.1<=c) && decide (c<=r.2))=inR rs c:=anyP_map _ rs;have HC:=Lib.hid (containsR 192 #[.pointer (some ⟨w.heap.size,0,none⟩)] _ _ v _ hrows hask);rw[hany]at HC;have HB:=Lib.hid hB;obtain ⟨A,c',rfl,hc',-⟩:=h;clear hask hrows hany hB
 go_enter Tryz.func167,Tryz.ntmps167
 go_wp2_with fail;refine HC.out.mono ?_;rintro e w1 ⟨rfl,hb⟩;go_wp2_with fail;go_ret;exact ⟨rfl,HB.out.trans (hb.mono (by simp))⟩
end Go.Proofs.YtdmoogjddmdmbaaGreatDoor
