/- Walks. -/
import Derived.Test.YtdmoogjddmdmbaaGreatDoorV06
import Derived.Deep.RegionHeld3
import Derived.Deep.QuietTactic
import Derived.BigQuiet
import Derived.Test.YtdmoogjddmdmbaaGreatDoorV05
set_option maxRecDepth 100000
set_option maxHeartbeats 16000000
set_option linter.unusedVariables false
set_option linter.unusedSimpArgs false
namespace Go.Proofs.YtdmoogjddmdmbaaGreatDoor
open Go.RowKit
section
set_option linter.unusedVariables false
set_option linter.unusedSimpArgs false
open Go.RowKit
theorem qy:∀l:List Nd,l.length<=bF l
 | []=>by simp
 | k::r=>by cases k;rw[bF,aC,List.length_cons];have:=qy r;omega
set_option maxHeartbeats 2000000 in
theorem JY:∀(m:Nat) (nd:Nd) (vs:List Value) (w:World),aC nd<=m->bX w nd vs->Calls Tryz.prog 118 #[.agg vs.toArray] w λe w'=>e = .returned (.int .i64 ((min (aC nd) 201:Nat):Int))/\Below w.heap.size w w':=by
 intro m
 induction m with
 | zero=>intro nd vs w h;cases nd;rw[aC]at h;omega
 | succ m ih=>
  rintro ⟨op,rs,kids,mn,mx⟩ vs w h hn;have HN:=Lib.hid hn;obtain ⟨v1,v2,rfl,hr,A,c,rfl,hc,hk⟩:=hn;obtain ⟨A1,c1,rfl,-,-⟩:=hr
  go_enter Tryz.func118,Tryz.ntmps118
  have hb0:Below w.heap.size w (w.alloc (.cells #[.int .i64 op, .slice A1 rs.length c1, .slice A kids.length c, .int .i64 mn, .int .i64 mx] 41)):=(Below.refl _ _).alloc (Nat.le_refl _) _;have hT:aC (.mk op rs kids mn mx)=1+bF kids:=by rw[aC]
  rw[hT]at h;have di:kids.length<=bF kids:=qy kids;have HT:=Lib.hid hT;have HM:=Lib.hid h;have R6:kids.length<=9223372036854775807:=by omega
  clear hT h;go_wp2_with fail
  go_loopw [3,9] (λov iv wr=>∃(k o:Nat),k<=kids.length/\iv = .int .i64 (k:Int)/\ov = .int .i64 (o:Int)/\o<=200/\Hid (o+bF (kids.drop k)=1+bF kids)/\Below w.heap.size w wr) (λ_ iv _=>kids.length - (intOf iv).toNat)
  case atStart=>exact ⟨0,1,by omega,rfl,rfl,by omega,rfl,hb0⟩
  case round=>
   obtain ⟨k,o,hkk,rfl,rfl,ho,HO,hb⟩:=hrel;by_cases hlt:k<kids.length
   .have hd:decide ((k:Int)<(kids.length:Int))=true:=decide_eq_true (by omega)
    have iI:decide (k<kids.length)=true:=decide_eq_true hlt;obtain ⟨g,f,rfl,hg,cR⟩:=hk.resolve_left (by rintro rfl;simp at hlt)
    obtain ⟨vs,hcv,bL⟩:=cR.at k hlt;have bW:=aX (List.getElem_mem hlt);have hdr:bF (kids.drop k)=aC kids[k]+bF (kids.drop (k+1)):=by rw[List.drop_eq_getElem_cons hlt,bF]
    obtain ⟨kd,fY⟩:∃kd,kids[k]=kd:=⟨_,rfl⟩;rw[fY]at bL bW hdr;obtain ⟨B1,e1,B2,e2,rfl,-,-,-⟩:=bL.form;have q:∀j,j<5->wr.cell? ⟨g,f+k*5+j,none⟩=([.int .i64 kd.op, .slice B1 kd.rs.length e1, .slice B2 kd.kids.length e2, .int .i64 kd.mn, .int .i64 kd.mx]:List Value)[j]?:=λj hj=>(hb.cell (p:=⟨g,f+k*5+j,none⟩) hg).trans (hcv j hj);have q0:=q 0 (by omega);have q1:=q 1 (by omega);have q2:=q 2 (by omega);have q3:=q 3 (by omega);have q4:=q 4 (by omega)
    simp only[Nat.add_zero,List.getElem?_cons_zero,List.getElem?_cons_succ]at q0 q1 q2 q3 q4;have jy:=λ(w':World) (hw:Below w.heap.size w w')=>ih kd _ w' (by have:=HM.out;omega) (bL.later hw)
    have HI:=Lib.hid jy;have HB:=Lib.hid hb;have HD:=Lib.hid hdr;clear q hcv bL fY cR jy hb hdr hb0;go_wp2_with fail;refine (HI.out _ (HB.out.trans ((Below.refl w.heap.size _).alloc HB.out.size _))).mono ?_;rintro e w1 ⟨rfl,hb1⟩;obtain ⟨x,hx⟩:∃x,min (aC kd) 201=x:=⟨_,rfl⟩;rw[hx];have iK:x<=201:=by omega
    have HX:=Lib.hid hx;have bH:=Lib.hid (show Below w.heap.size w w1 from HB.out.trans ((((Below.refl w.heap.size _).alloc HB.out.size _)).trans (hb1.mono (by have:=HB.out.size;simp;omega))))
    clear hb1 hx bW q0 q1 q2 q3 q4;by_cases wO:200<o+x
    .have jO:decide (200<(o:Int)+(x:Int))=true:=decide_eq_true (by omega)
     go_wp2_with fail;go_ret;refine ⟨aH ?_,bH.out⟩;have h1:=HO.out;have h2:=HD.out;have h3:=HX.out;rw[HT.out];omega
    .have jO:decide (200<(o:Int)+(x:Int))=false:=decide_eq_false (by omega)
     go_wp2_with fail;go_roundw
     case rel=>
      refine ⟨k+1,o+x,by omega,by go_num,by go_num,by omega,?_,bH.out⟩
      have h1:=HO.out;have h2:=HD.out;have h3:=HX.out;exact (by omega:o+x+bF (kids.drop (k+1))=1+bF kids)
     case measure=>simp[intOf];omega
   .obtain rfl:k=kids.length:=by omega
    go_wp2_with fail;go_ret;refine ⟨aH ?_,hb⟩;have h1:=HO.out;rw[List.drop_length,bF]at h1;rw[HT.out];omega
set_option maxHeartbeats 2000000 in
theorem JZ:∀(m:Nat) (nd:Nd) (vs:List Value) (w:World) (left:Nat),left<=1000->aC nd<=m->bX w nd vs->Calls Tryz.prog 119 #[.agg vs.toArray, .int .i64 (left:Int)] w λe w'=>e = .returned (.int .i64 ((min (cC nd) (left+1):Nat):Int))/\Below w.heap.size w w':=by
 intro m
 induction m with
 | zero=>intro nd vs w left _ h;cases nd;rw[aC]at h;omega
 | succ m ih=>
  rintro ⟨op,rs,kids,mn,mx⟩ vs w left aoW h hn;have HN:=Lib.hid hn;obtain ⟨v1,v2,rfl,hr,A,c,rfl,hc,hk⟩:=hn;obtain ⟨A1,c1,rfl,-,-⟩:=hr;have hb0:Below w.heap.size w (w.alloc (.cells #[.int .i64 op, .slice A1 rs.length c1, .slice A kids.length c, .int .i64 mn, .int .i64 mx] 41)):=(Below.refl _ _).alloc (Nat.le_refl _) _;have hT:aC (.mk op rs kids mn mx)=1+bF kids:=by rw[aC]
  have hD:cC (.mk op rs kids mn mx)=1+dJ kids:=by rw[cC]
  rw[hT]at h;have R6:kids.length<=9223372036854775807:=by omega
  have HT:=Lib.hid hD;have HM:=Lib.hid h;clear hT h hD
  cases left with
  | zero=>
   go_enter Tryz.func119,Tryz.ntmps119
   go_wp2_with fail;go_ret;exact ⟨aH (by rw[HT.out];omega),hb0⟩
  | succ left=>
   obtain ⟨L,hL⟩:∃L:Int,L=((left+1:Nat):Int):=⟨_,rfl⟩;rw[<-hL];have D6:(L == 0)=false:=by simp;omega
   have kA:L - 1=(left:Int):=by omega
   have Ry:1<=L/\L<=1000:=by omega
   clear hL
   go_enter Tryz.func119,Tryz.ntmps119
   go_wp2_with fail
   go_loopw [5,13] (λov iv wr=>∃(k o:Nat),k<=kids.length/\iv = .int .i64 (k:Int)/\ov = .int .i64 (o:Int)/\o<=1001/\Hid (max o (min (dJ (kids.drop k)) (left+1))=min (dJ kids) (left+1))/\Below w.heap.size w wr) (λ_ iv _=>kids.length - (intOf iv).toNat)
   case atStart=>exact ⟨0,0,by omega,rfl,rfl,by omega,by show max 0 _=_;rw[List.drop_zero];omega,hb0⟩
   case round=>
    obtain ⟨k,o,hkk,rfl,rfl,ho,HO,hb⟩:=hrel;by_cases hlt:k<kids.length
    .have hd:decide ((k:Int)<(kids.length:Int))=true:=decide_eq_true (by omega)
     have iI:decide (k<kids.length)=true:=decide_eq_true hlt;obtain ⟨g,f,rfl,hg,cR⟩:=hk.resolve_left (by rintro rfl;simp at hlt)
     obtain ⟨vs,hcv,bL⟩:=cR.at k hlt;have bW:=aX (List.getElem_mem hlt);have hdr:dJ (kids.drop k)=max (cC kids[k]) (dJ (kids.drop (k+1))):=by rw[List.drop_eq_getElem_cons hlt,dJ]
     obtain ⟨kd,fY⟩:∃kd,kids[k]=kd:=⟨_,rfl⟩;rw[fY]at bL bW hdr;obtain ⟨B1,e1,B2,e2,rfl,-,-,-⟩:=bL.form;have q:∀j,j<5->wr.cell? ⟨g,f+k*5+j,none⟩=([.int .i64 kd.op, .slice B1 kd.rs.length e1, .slice B2 kd.kids.length e2, .int .i64 kd.mn, .int .i64 kd.mx]:List Value)[j]?:=λj hj=>(hb.cell (p:=⟨g,f+k*5+j,none⟩) hg).trans (hcv j hj);have q0:=q 0 (by omega);have q1:=q 1 (by omega);have q2:=q 2 (by omega);have q3:=q 3 (by omega);have q4:=q 4 (by omega)
     simp only[Nat.add_zero,List.getElem?_cons_zero,List.getElem?_cons_succ]at q0 q1 q2 q3 q4;have jy:=λ(w':World) (hw:Below w.heap.size w w')=>ih kd _ w' left (by omega) (by have:=HM.out;omega) (bL.later hw)
     have HI:=Lib.hid jy;have HB:=Lib.hid hb;have HD:=Lib.hid hdr;clear q hcv bL fY cR jy hb hdr hb0;go_wp2_with fail;refine (HI.out _ (HB.out.trans ((Below.refl w.heap.size _).alloc HB.out.size _))).mono ?_;rintro e w1 ⟨rfl,hb1⟩;obtain ⟨x,hx⟩:∃x,min (cC kd) (left+1)=x:=⟨_,rfl⟩;rw[hx];have iK:x<=1001:=by omega
     have HX:=Lib.hid hx;have bH:=Lib.hid (show Below w.heap.size w w1 from HB.out.trans ((((Below.refl w.heap.size _).alloc HB.out.size _)).trans (hb1.mono (by have:=HB.out.size;simp;omega))))
     clear hb1 hx bW q0 q1 q2 q3 q4;obtain ⟨y,hy⟩:∃y:Nat,y=max o x:=⟨_,rfl⟩;have DW:max (o:Int) (x:Int)=(y:Int):=by omega
     have HY:=Lib.hid hy;have hy3:y<=1001:=by omega
     clear hy;go_wp2_with fail;go_roundw
     case rel=>
      refine ⟨k+1,y,by omega,by go_num,by first | go_num | (simp;omega),by omega,?_,bH.out⟩
      have h1:=HO.out;have h2:=HD.out;have h3:=HX.out;have h4:=HY.out;exact (by omega:max y (min (dJ (kids.drop (k+1))) (left+1))=min (dJ kids) (left+1))
     case measure=>simp[intOf];omega
    .obtain rfl:k=kids.length:=by omega
     go_wp2_with fail;go_ret;refine ⟨aH ?_,hb⟩;have h1:=HO.out;rw[List.drop_length,dJ]at h1;rw[HT.out];omega
theorem dW {op:Int} {rs:List (Nat×Nat)} {kids:List Nd} {mn mx:Int} (h:aE (.mk op rs kids mn mx)=true):(op=1\/op=2\/op=3\/(op=4/\kids.length=1/\0<=mn/\1<=mx/\mx<=64))/\gm kids=true:=by
 rw[aE,Bool.and_eq_true]at h;refine ⟨?_,h.2⟩;have h1:=h.1
 dsimp only [dr]at h1
 by_cases e1:op=1
 .exact .inl e1
 .rw[if_neg e1]at h1;by_cases e2:op=2\/op=3
  .rcases e2 with e | e
   .exact .inr (.inl e)
   .exact .inr (.inr (.inl e))
  .rw[if_neg e2]at h1;by_cases e3:op=4
   .rw[if_pos e3]at h1;simp at h1;exact .inr (.inr (.inr ⟨e3,by omega,by omega,by omega,by omega⟩))
   .rw[if_neg e3]at h1;cases h1
theorem aU:∀{l:List Nd} {k:Nd},gm l=true->k∈l->aE k=true
 | a::r,k,h,hm=>by
  rw[gm,Bool.and_eq_true]at h;rcases List.mem_cons.1 hm with rfl | hm
  .exact h.1
  .exact aU h.2 hm
theorem qz (n:Nd):aN n<=1025:=by cases n;rw[aN];omega
set_option maxHeartbeats 4000000 in
theorem rX:∀(m:Nat) (nd:Nd) (vs:List Value) (w:World),aC nd<=m->aC nd<=200->aE nd=true->bX w nd vs->Calls Tryz.prog 92 #[.agg vs.toArray] w λe w'=>e = .returned (.int .i64 ((aN nd:Nat):Int))/\Below w.heap.size w w':=by
 intro m
 induction m with
 | zero=>intro nd vs w h;cases nd;rw[aC]at h;omega
 | succ m ih=>
  rintro ⟨op,rs,kids,mn,mx⟩ vs w h oI hR hn;have HN:=Lib.hid hn;obtain ⟨v1,v2,rfl,hr,A,c,rfl,hc,hk⟩:=hn;obtain ⟨A1,c1,rfl,-,-⟩:=hr;have hb0:Below w.heap.size w (w.alloc (.cells #[.int .i64 op, .slice A1 rs.length c1, .slice A kids.length c, .int .i64 mn, .int .i64 mx] 41)):=(Below.refl _ _).alloc (Nat.le_refl _) _;have hT:aC (.mk op rs kids mn mx)=1+bF kids:=by rw[aC]
  have hL:aN (.mk op rs kids mn mx)=min (if op=1 then 1 else if op=2 then fI kids else if op=3 then gD kids else mx.toNat*mD kids) 1025:=by rw[aN]
  rw[hT]at h oI;have di:=qy kids;have R6:kids.length<=200:=by omega
  obtain ⟨pD,xO⟩:=dW hR;have HL:=Lib.hid hL;have HM:=Lib.hid h;have Bk:=Lib.hid oI;have Cz:=Lib.hid xO;clear hT h hL oI hR xO di;rcases pD with rfl | rfl | rfl | ⟨rfl,gY,GQ,tY,zu⟩
  .go_enter Tryz.func92,Tryz.ntmps92
   go_wp2_with fail;go_ret;exact ⟨aH (by rw[HL.out];rfl),hb0⟩
  .go_enter Tryz.func92,Tryz.ntmps92
   go_wp2_with fail
   go_loopw [3,25] (λov iv wr=>∃(k o:Nat),k<=kids.length/\iv = .int .i64 (k:Int)/\ov = .int .i64 (o:Int)/\o<=1025*k/\Hid (o+fI (kids.drop k)=fI kids)/\Below w.heap.size w wr) (λ_ iv _=>kids.length - (intOf iv).toNat)
   case atStart=>exact ⟨0,0,by omega,rfl,rfl,by omega,by show 0+_=_;rw[List.drop_zero,Nat.zero_add],hb0⟩
   case round=>
    obtain ⟨k,o,hkk,rfl,rfl,ho,HO,hb⟩:=hrel;by_cases hlt:k<kids.length
    .have hd:decide ((k:Int)<(kids.length:Int))=true:=decide_eq_true (by omega)
     have iI:decide (k<kids.length)=true:=decide_eq_true hlt;obtain ⟨g,f,rfl,hg,cR⟩:=hk.resolve_left (by rintro rfl;simp at hlt)
     obtain ⟨vs,hcv,bL⟩:=cR.at k hlt;have bW:=aX (List.getElem_mem hlt);have kt:=aU Cz.out (List.getElem_mem hlt);have hdr:fI (kids.drop k)=aN kids[k]+fI (kids.drop (k+1)):=by rw[List.drop_eq_getElem_cons hlt,fI]
     obtain ⟨kd,fY⟩:∃kd,kids[k]=kd:=⟨_,rfl⟩;rw[fY]at bL bW hdr kt;obtain ⟨B1,e1,B2,e2,rfl,-,-,-⟩:=bL.form;have q:∀j,j<5->wr.cell? ⟨g,f+k*5+j,none⟩=([.int .i64 kd.op, .slice B1 kd.rs.length e1, .slice B2 kd.kids.length e2, .int .i64 kd.mn, .int .i64 kd.mx]:List Value)[j]?:=λj hj=>(hb.cell (p:=⟨g,f+k*5+j,none⟩) hg).trans (hcv j hj);have q0:=q 0 (by omega);have q1:=q 1 (by omega);have q2:=q 2 (by omega);have q3:=q 3 (by omega);have q4:=q 4 (by omega)
     simp only[Nat.add_zero,List.getElem?_cons_zero,List.getElem?_cons_succ]at q0 q1 q2 q3 q4;have jy:=λ(w':World) (hw:Below w.heap.size w w')=>ih kd _ w' (by have:=HM.out;omega) (by have:=Bk.out;omega) kt (bL.later hw)
     have HI:=Lib.hid jy;have HB:=Lib.hid hb;have HD:=Lib.hid hdr;clear q hcv bL fY cR jy hb hdr hb0 kt;go_wp2_with fail;refine (HI.out _ (HB.out.trans ((Below.refl w.heap.size _).alloc HB.out.size _))).mono ?_;rintro e w1 ⟨rfl,hb1⟩;obtain ⟨x,hx⟩:∃x,aN kd=x:=⟨_,rfl⟩;have iK:=qz kd;rw[hx]at iK|-;have HX:=Lib.hid hx;have bH:=Lib.hid (show Below w.heap.size w w1 from HB.out.trans ((((Below.refl w.heap.size _).alloc HB.out.size _)).trans (hb1.mono (by have:=HB.out.size;simp;omega))))
     clear hb1 hx bW q0 q1 q2 q3 q4;go_wp2_with fail;go_roundw
     case rel=>
      refine ⟨k+1,o+x,by omega,by go_num,by go_num,by omega,?_,bH.out⟩
      have h1:=HO.out;have h2:=HD.out;have h3:=HX.out;exact (by omega:o+x+fI (kids.drop (k+1))=fI kids)
     case measure=>simp[intOf];omega
    .obtain rfl:k=kids.length:=by omega
     have bO:=HO.out;rw[List.drop_length,fI,Nat.add_zero]at bO;have HF:=Lib.hid bO;obtain ⟨y,hy⟩:∃y:Nat,y=min o 1025:=⟨_,rfl⟩;have DW:min (o:Int) 1025=(y:Int):=by omega
     have HY:=Lib.hid hy;clear bO hy;have Df:aN (.mk 2 rs kids mn mx)=min (fI kids) 1025:=by rw[HL.out];simp
     have GY:=Lib.hid Df;clear Df;go_wp2_with fail
     all_goals
      go_ret;refine ⟨aH ?_,hb⟩;have h1:=HY.out;have h2:=HF.out;rw[GY.out,<-h2];omega
  .go_enter Tryz.func92,Tryz.ntmps92
   go_wp2_with fail
   go_loopw [3,39] (λov iv wr=>∃(k o:Nat),k<=kids.length/\iv = .int .i64 (k:Int)/\ov = .int .i64 (o:Int)/\o<=1025/\Hid (max o (gD (kids.drop k))=gD kids)/\Below w.heap.size w wr) (λ_ iv _=>kids.length - (intOf iv).toNat)
   case atStart=>exact ⟨0,0,by omega,rfl,rfl,by omega,by show max 0 _=_;rw[List.drop_zero,Nat.zero_max],hb0⟩
   case round=>
    obtain ⟨k,o,hkk,rfl,rfl,ho,HO,hb⟩:=hrel;by_cases hlt:k<kids.length
    .have hd:decide ((k:Int)<(kids.length:Int))=true:=decide_eq_true (by omega)
     have iI:decide (k<kids.length)=true:=decide_eq_true hlt;obtain ⟨g,f,rfl,hg,cR⟩:=hk.resolve_left (by rintro rfl;simp at hlt)
     obtain ⟨vs,hcv,bL⟩:=cR.at k hlt;have bW:=aX (List.getElem_mem hlt);have kt:=aU Cz.out (List.getElem_mem hlt);have hdr:gD (kids.drop k)=max (aN kids[k]) (gD (kids.drop (k+1))):=by rw[List.drop_eq_getElem_cons hlt,gD]
     obtain ⟨kd,fY⟩:∃kd,kids[k]=kd:=⟨_,rfl⟩;rw[fY]at bL bW hdr kt;obtain ⟨B1,e1,B2,e2,rfl,-,-,-⟩:=bL.form;have q:∀j,j<5->wr.cell? ⟨g,f+k*5+j,none⟩=([.int .i64 kd.op, .slice B1 kd.rs.length e1, .slice B2 kd.kids.length e2, .int .i64 kd.mn, .int .i64 kd.mx]:List Value)[j]?:=λj hj=>(hb.cell (p:=⟨g,f+k*5+j,none⟩) hg).trans (hcv j hj);have q0:=q 0 (by omega);have q1:=q 1 (by omega);have q2:=q 2 (by omega);have q3:=q 3 (by omega);have q4:=q 4 (by omega)
     simp only[Nat.add_zero,List.getElem?_cons_zero,List.getElem?_cons_succ]at q0 q1 q2 q3 q4;have jy:=λ(w':World) (hw:Below w.heap.size w w')=>ih kd _ w' (by have:=HM.out;omega) (by have:=Bk.out;omega) kt (bL.later hw)
     have HI:=Lib.hid jy;have HB:=Lib.hid hb;have HD:=Lib.hid hdr;clear q hcv bL fY cR jy hb hdr hb0 kt;go_wp2_with fail;refine (HI.out _ (HB.out.trans ((Below.refl w.heap.size _).alloc HB.out.size _))).mono ?_;rintro e w1 ⟨rfl,hb1⟩;obtain ⟨x,hx⟩:∃x,aN kd=x:=⟨_,rfl⟩;have iK:=qz kd;rw[hx]at iK|-;have HX:=Lib.hid hx;have bH:=Lib.hid (show Below w.heap.size w w1 from HB.out.trans ((((Below.refl w.heap.size _).alloc HB.out.size _)).trans (hb1.mono (by have:=HB.out.size;simp;omega))))
     obtain ⟨y,hy⟩:∃y:Nat,y=max o x:=⟨_,rfl⟩;have DW:max (o:Int) (x:Int)=(y:Int):=by omega
     have HY:=Lib.hid hy;have hy3:y<=1025:=by omega
     clear hb1 hx bW q0 q1 q2 q3 q4 hy;go_wp2_with fail;go_roundw
     case rel=>
      refine ⟨k+1,y,by omega,by go_num,by first | go_num | (simp;omega),by omega,?_,bH.out⟩
      have h4:=HY.out;have h1:=HO.out;have h2:=HD.out;have h3:=HX.out;exact (by omega:max y (gD (kids.drop (k+1)))=gD kids)
     case measure=>simp[intOf];omega
    .obtain rfl:k=kids.length:=by omega
     have bO:=HO.out;rw[List.drop_length,gD,Nat.max_zero]at bO;have HF:=Lib.hid bO;obtain ⟨y,hy⟩:∃y:Nat,y=min o 1025:=⟨_,rfl⟩;have DW:min (o:Int) 1025=(y:Int):=by omega
     have HY:=Lib.hid hy;clear bO hy;have Df:aN (.mk 3 rs kids mn mx)=min (gD kids) 1025:=by rw[HL.out];simp
     have GY:=Lib.hid Df;clear Df;go_wp2_with fail
     all_goals
      go_ret;refine ⟨aH ?_,hb⟩;have h1:=HY.out;have h2:=HF.out;rw[GY.out,<-h2];omega
  .obtain ⟨kd,rfl⟩:∃kd,kids=[kd]:=by
    match kids,gY with
    | [a],_=>exact ⟨a,rfl⟩
   obtain ⟨g,f,rfl,hg,cR⟩:=hk.resolve_left (by simp)
   obtain ⟨vs,hcv,bL⟩:=cR.at 0 (by simp)
   have bW:=aX (List.mem_singleton.2 rfl:kd∈[kd]);have kt:=aU Cz.out (List.mem_singleton.2 rfl:kd∈[kd])
   replace bL:bX w kd vs:=bL
   obtain ⟨B1,e1,B2,e2,rfl,-,-,-⟩:=bL.form;have hrow:=heap_alloc_new w (.cells #[.int .i64 4, .slice A1 rs.length c1, .slice (some ⟨g,f,none⟩) 1 c, .int .i64 mn, .int .i64 mx] 41);have hS:∀W,Below w.heap.size w W->W.heap[w.heap.size]?=some (.cells #[.int .i64 4, .slice A1 rs.length c1, .slice (some ⟨g,f,none⟩) 1 c, .int .i64 mn, .int .i64 mx] 41 (0,0))->
     (W.cell? ⟨w.heap.size,4,none⟩=some (.int .i64 mx)/\W.cell? ⟨w.heap.size,2,none⟩=some (.slice (some ⟨g,f,none⟩) 1 c))/\
     W.cell? ⟨g,f,none⟩=some (.int .i64 kd.op)/\W.cell? ⟨g,f+1,none⟩=some (.slice B1 kd.rs.length e1)/\W.cell? ⟨g,f+2,none⟩=some (.slice B2 kd.kids.length e2)/\W.cell? ⟨g,f+3,none⟩=some (.int .i64 kd.mn)/\W.cell? ⟨g,f+4,none⟩=some (.int .i64 kd.mx):=by
    intro W hW hr;have q:∀j,j<5->W.cell? ⟨g,f+j,none⟩=([.int .i64 kd.op, .slice B1 kd.rs.length e1, .slice B2 kd.kids.length e2, .int .i64 kd.mn, .int .i64 kd.mx]:List Value)[j]?:=λj hj=>(hW.cell (p:=⟨g,f+j,none⟩) hg).trans (by have:=hcv j hj;rw[Nat.zero_mul,Nat.add_zero]at this;exact this)
    refine ⟨⟨?_,?_⟩,q 0 (by omega),q 1 (by omega),q 2 (by omega),q 3 (by omega),q 4 (by omega)⟩
    .rw[cell_of_row _ _ _ _ _ _ hr];rfl
    .rw[cell_of_row _ _ _ _ _ _ hr];rfl
   have Eb:=Lib.hid hS;have jy:=λ(w':World) (hw:Below w.heap.size w w')=>ih kd _ w' (by have:=HM.out;omega) (by have:=Bk.out;omega) kt (bL.later hw)
   have HI:=Lib.hid jy;have HB:=Lib.hid hb0;have HR:=Lib.hid hrow;obtain ⟨x,hx⟩:∃x,aN kd=x:=⟨_,rfl⟩;have iK:=qz kd;rw[hx]at iK HI;have HX:=Lib.hid hx;obtain ⟨M,rfl⟩:=Int.eq_ofNat_of_zero_le (show 0<=mx by omega)
   obtain ⟨P,hP⟩:∃P:Nat,P=M*x:=⟨_,rfl⟩;have hP1:P<=64*1025:=by rw[hP];exact Nat.mul_le_mul (by omega) iK
   have Ub:(M:Int)*(x:Int)=(P:Int):=by rw[hP];simp
   have hP3:IntKind.i64.wrap ((M:Int)*(x:Int))=(P:Int):=by rw[Ub];exact IntWalk.i64_in _ (by omega)
   obtain ⟨y,hy⟩:∃y:Nat,y=min P 1025:=⟨_,rfl⟩;have DW:min (P:Int) 1025=(y:Int):=by omega
   have HY:=Lib.hid (And.intro hP hy);clear hS hcv bL cR jy hb0 hrow kt bW hx hP hy Ub;have hz0:=Eb.out _ HB.out HR.out;have R7:=Eb.out _ HB.out.drew HR.out
   go_enter Tryz.func92,Tryz.ntmps92
   go_wp2_with fail
   go_region_held3 (λw'=>(w'.cell? ⟨w.heap.size,4,none⟩=some (.int .i64 (M:Int))/\w'.cell? ⟨w.heap.size,2,none⟩=some (.slice (some ⟨g,f,none⟩) 1 c))/\w'.cell? ⟨g,f,none⟩=some (.int .i64 kd.op)/\w'.cell? ⟨g,f+1,none⟩=some (.slice B1 kd.rs.length e1)/\w'.cell? ⟨g,f+2,none⟩=some (.slice B2 kd.kids.length e2)/\w'.cell? ⟨g,f+3,none⟩=some (.int .i64 kd.mn)/\w'.cell? ⟨g,f+4,none⟩=some (.int .i64 kd.mx))
    (first | exact hz0 | exact R7 | exact hz1 | go_keep)
    ((go_at_call 92;refine (HI.out _ HB.out.drew).mono ?_;rintro e w1 ⟨rfl,hb1⟩;have hz1:=Eb.out w1 (HB.out.drew.trans (hb1.mono (HB.out.drew).size)) ((hb1.block w.heap.size (by simp)).trans HR.out)))
   all_goals
    have HE:=Lib.hid (HB.out.drew.trans (hb1.mono (HB.out.drew).size));clear hz0 R7 hz1 hb1;go_wp2_with fail
    all_goals
     go_ret;refine ⟨aH ?_,HE.out⟩;have h1:=HY.out.1;have h2:=HY.out.2;have h3:=HX.out;rw[HL.out,if_neg (by decide),if_neg (by decide),if_neg (by decide),Int.toNat_natCast,mD,h3,<-h1]
     omega
end
section
set_option linter.unusedVariables false
set_option linter.unusedSimpArgs false
open Go.RowKit
theorem aJ {w:World} {b:Nat} {T:TypeId} {a0 a1 a2 a3 a4:Value} (h:w.heap[b]?=some (.cells #[a0,a1,a2,a3,a4] T (0,0))) :
  w.cell? ⟨b,0,none⟩=some a0/\w.cell? ⟨b,1,none⟩=some a1/\w.cell? ⟨b,2,none⟩=some a2/\w.cell? ⟨b,3,none⟩=some a3/\w.cell? ⟨b,4,none⟩=some a4:=by
 refine ⟨?_,?_,?_,?_,?_⟩ <;> (rw[cell_of_row _ _ _ _ _ _ h]; rfl)
def sL (rs:List (Nat×Nat)) (nk:Nat) (mn mx:Int):Bool:=fN rs && (!rs.isEmpty && (decide (nk=0) && (decide (mn=0) && decide (mx=0))))
def vl (rs:List (Nat×Nat)) (k:Nat):Bool:=match k with
 | 0=>fN rs
 | k+1=>fN (rs.drop k)
theorem Dg {a:Nat×Nat} {r:List (Nat×Nat)} (h:a.2<a.1):fN (a::r)=false:=by
 cases r with
 | nil=>simp[fN];omega
 | cons c r=>simp[fN];omega
theorem vo {rs:List (Nat×Nat)} {k:Nat} (hk:k<rs.length) (h:rs[k].1<=rs[k].2) (h2:∀(h0:0<k),(rs[k - 1]'(by omega)).1<=(rs[k - 1]'(by omega)).2/\(rs[k - 1]'(by omega)).2+2<=rs[k].1):vl rs (k+1)=vl rs k:=by
 cases k with
 | zero=>simp[vl]
 | succ k=>
  obtain ⟨q1,q2⟩:=h2 (by omega)
  simp only[Nat.add_sub_cancel]at q1 q2;show fN (rs.drop (k+1))=fN (rs.drop k);rw[show rs.drop k=rs[k]::rs[k+1]::rs.drop (k+2) from by rw[List.drop_eq_getElem_cons (by omega),List.drop_eq_getElem_cons hk],show rs.drop (k+1)=rs[k+1]::rs.drop (k+2) from List.drop_eq_getElem_cons hk]
  rw[fN];simp[q1,q2]
theorem yr {rs:List (Nat×Nat)} {k:Nat} (hk:k<rs.length) (h:rs[k].2<rs[k].1\/∃(h0:0<k),rs[k].1<=(rs[k - 1]'(by omega)).2+1):vl rs k=false:=by
 cases k with
 | zero=>
  rcases h with h | ⟨h0,-⟩
  .unfold vl;rw[show rs=rs[0]::rs.drop 1 from by conv=>lhs;rw[<-List.drop_zero (l:=rs)];rw[List.drop_eq_getElem_cons hk]]
   exact Dg h
  .omega
 | succ k=>
  show fN (rs.drop k)=false;rw[show rs.drop k=rs[k]::rs[k+1]::rs.drop (k+2) from by rw[List.drop_eq_getElem_cons (by omega),List.drop_eq_getElem_cons hk]]
  rw[fN];rcases h with h | ⟨h0,h⟩
  .rw[Dg h];simp
  .simp only[Nat.add_sub_cancel]at h;rw[decide_eq_false (show ¬rs[k].2+2<=rs[k+1].1 by omega)];simp
theorem J0 {rs:List (Nat×Nat)} (h:∀(h0:0<rs.length),∃h,(rs[rs.length - 1]'h).1<=(rs[rs.length - 1]'h).2):vl rs rs.length=true:=by
 cases hl:rs.length with
 | zero=>rw[List.length_eq_zero_iff.1 hl];rfl
 | succ n=>
  obtain ⟨h1,h2⟩:=h (by omega)
  show fN (rs.drop n)=true;have hn:n<rs.length:=by omega
  rw[List.drop_eq_getElem_cons hn,List.drop_of_length_le (by omega)]
  simp only[hl,Nat.add_sub_cancel]at h2;simp[fN,h2]
set_option maxHeartbeats 2000000 in
theorem Sa (nd:Nd) (vs:List Value) (w:World) (oI:aC nd<=1000000) (hn:bX w nd vs):Calls Tryz.prog 145 #[.agg vs.toArray] w λe w'=>e = .returned (.bool (sL nd.rs nd.kids.length nd.mn nd.mx))/\Below w.heap.size w w':=by
 obtain ⟨A1,c1,A2,c2,rfl,hr,sV,-⟩:=hn.form;have hb0:Below w.heap.size w (w.alloc (.cells #[.int .i64 nd.op, .slice A1 nd.rs.length c1, .slice A2 nd.kids.length c2, .int .i64 nd.mn, .int .i64 nd.mx] 41)):=(Below.refl _ _).alloc (Nat.le_refl _) _;have wY:=heap_alloc_new w (.cells #[.int .i64 nd.op, .slice A1 nd.rs.length c1, .slice A2 nd.kids.length c2, .int .i64 nd.mn, .int .i64 nd.mx] 41);clear hn;have vT:=Lib.hid wY;clear wY
 go_enter Tryz.func145,Tryz.ntmps145
 go_wp2_with fail;obtain ⟨A1',c1',hv,tG,hcell⟩:=hr;injection hv with e1 e2 e3;subst e1 e3
 go_loopw [8] (λiv wr=>∃k:Nat,k<=nd.rs.length/\iv = .int .i64 (k:Int)/\Hid (vl nd.rs k=fN nd.rs)/\(∀(h0:0<k),Hid (∃h,(nd.rs[k - 1]'h).1<=(nd.rs[k - 1]'h).2))/\Hid (wr.heap[w.heap.size]?=some (.cells #[.int .i64 nd.op, .slice A1 nd.rs.length c1, .slice A2 nd.kids.length c2, .int .i64 nd.mn, .int .i64 nd.mx] 41 (0,0)))/\Below w.heap.size w wr) (λiv _=>nd.rs.length - (intOf iv).toNat)
 case atStart=>exact ⟨0,by omega,rfl,rfl,λh=>by omega,vT,hb0⟩
 case round=>
  obtain ⟨k,hk,rfl,HR,HP,HX,hb⟩:=hrel;by_cases hlt:k<nd.rs.length
  .have hd:decide ((k:Int)<(nd.rs.length:Int))=true:=decide_eq_true (by omega)
   have iI:decide (k<nd.rs.length)=true:=decide_eq_true hlt;obtain ⟨g,f,rfl,hg,hrow⟩:=hcell.resolve_left (by intro e;rw[e]at hlt;simp at hlt)
   obtain ⟨⟨c0,c1'⟩,hb1,aL⟩:=hrow k hlt;have q0:=(hb.cell (p:=⟨g,f+k*2,none⟩) hg).trans c0;have q1:=(hb.cell (p:=⟨g,f+k*2+1,none⟩) hg).trans c1';obtain ⟨lo,aD⟩:∃lo:Int,lo=((nd.rs[k].1:Nat):Int):=⟨_,rfl⟩;obtain ⟨hi,Lc⟩:∃hi:Int,hi=((nd.rs[k].2:Nat):Int):=⟨_,rfl⟩;rw[<-aD]at q0;rw[<-Lc]at q1;have xP:=Lib.hid aD;have xb:=Lib.hid Lc;have atN:0<=lo/\lo<256:=by omega
   have atO:0<=hi/\hi<256:=by omega
   clear aD Lc c0 c1';by_cases adC:hi<lo
   .have d1:decide (hi<lo)=true:=decide_eq_true adC;go_wp2_with fail;have uI:=heap_alloc_new wr (.cells #[.int .u8 lo, .int .u8 hi] 84);have aP:=(Below.refl wr.heap.size wr).alloc (Nat.le_refl _) (.cells #[.int .u8 lo, .int .u8 hi] 84);generalize wr.alloc (.cells #[.int .u8 lo, .int .u8 hi] 84)=W1 at *;have x0:W1.cell? ⟨wr.heap.size,0,none⟩=some (.int .u8 lo):=by rw[cell_of_row _ _ _ _ _ _ uI];rfl
    have x1:W1.cell? ⟨wr.heap.size,1,none⟩=some (.int .u8 hi):=by rw[cell_of_row _ _ _ _ _ _ uI];rfl
    have HW:=Lib.hid (And.intro uI aP);clear uI aP
    go_quiet (fail)
    go_wp2_with fail;go_ret;refine ⟨aj ?_,below_drewN (hb.trans (HW.out.2.mono hb.size)) _⟩;have h1:=HR.out;rw[yr hlt (.inl (by have:=xP.out;have:=xb.out;omega))]at h1
    unfold sL;rw[<-h1];rfl
   .have d1:decide (hi<lo)=false:=decide_eq_false adC;by_cases oq:k=0
    .have d2:decide (0<(k:Int))=false:=decide_eq_false (by omega)
     have d2n:decide (0<k)=false:=decide_eq_false (by omega)
     have Zx:=Lib.hid oq;clear oq;go_wp2_with fail;have uI:=heap_alloc_new wr (.cells #[.int .u8 lo, .int .u8 hi] 84);have aP:=(Below.refl wr.heap.size wr).alloc (Nat.le_refl _) (.cells #[.int .u8 lo, .int .u8 hi] 84);generalize wr.alloc (.cells #[.int .u8 lo, .int .u8 hi] 84)=W1 at *;have x0:W1.cell? ⟨wr.heap.size,0,none⟩=some (.int .u8 lo):=by rw[cell_of_row _ _ _ _ _ _ uI];rfl
     have x1:W1.cell? ⟨wr.heap.size,1,none⟩=some (.int .u8 hi):=by rw[cell_of_row _ _ _ _ _ _ uI];rfl
     have HW:=Lib.hid (And.intro uI aP);clear uI aP
     go_quiet (fail)
     go_wp2_with fail;go_roundw
     case rel=>
      refine ⟨k+1,by omega,by go_num,?_,λh0=>⟨by simpa using hlt,by simp only[Nat.add_sub_cancel];have:=xP.out;have:=xb.out;omega⟩,(HW.out.2.block _ (Array.getElem?_eq_some_iff.1 HX.out).1).trans HX.out,below_drewN (hb.trans (HW.out.2.mono hb.size)) _⟩
      have h1:=HR.out;have h2:=vo hlt (by have:=xP.out;have:=xb.out;omega) (λh0=>by have:=Zx.out;omega)
      exact h2.trans h1
     case measure=>simp[intOf];omega
    .have d2:decide (0<(k:Int))=true:=decide_eq_true (by omega)
     have d2n:decide (0<k)=true:=decide_eq_true (by omega)
     obtain ⟨⟨-,YV⟩,-,sF⟩:=hrow (k - 1) (by omega)
     have p1:=(hb.cell (p:=⟨g,f+(k - 1)*2+1,none⟩) hg).trans YV;obtain ⟨ph,hph⟩:∃ph:Int,ph=((nd.rs[k - 1].2:Nat):Int):=⟨_,rfl⟩;rw[<-hph]at p1;have atP:0<=ph/\ph<256:=by omega
     have hw1:IntKind.i64.wrap ((k:Int) - 1)=(k:Int) - 1:=IntWalk.i64_in _ (by omega)
     have pq:((k:Int) - 1).toNat=k - 1:=by omega
     have Ma:0<=(k:Int) - 1:=by omega
     have PJ:(k:Int) - 1<nd.rs.length:=by omega
     have hw5:IntKind.i64.wrap (ph+1)=ph+1:=IntWalk.i64_in _ (by omega)
     have HPH:=Lib.hid hph;clear hph YV;by_cases fV:lo<=ph+1
     .have d3:decide (lo<=ph+1)=true:=decide_eq_true fV;go_wp2_with fail;have uI:=heap_alloc_new wr (.cells #[.int .u8 lo, .int .u8 hi] 84);have aP:=(Below.refl wr.heap.size wr).alloc (Nat.le_refl _) (.cells #[.int .u8 lo, .int .u8 hi] 84);have y1:=(aP.cell (p:=⟨g,f+(k - 1)*2+1,none⟩) (Nat.lt_of_lt_of_le hg hb.size)).trans p1;have gU:=(aP.block _ (Array.getElem?_eq_some_iff.1 HX.out).1).trans HX.out;generalize wr.alloc (.cells #[.int .u8 lo, .int .u8 hi] 84)=W1 at *;have x0:W1.cell? ⟨wr.heap.size,0,none⟩=some (.int .u8 lo):=by rw[cell_of_row _ _ _ _ _ _ uI];rfl
      have x1:W1.cell? ⟨wr.heap.size,1,none⟩=some (.int .u8 hi):=by rw[cell_of_row _ _ _ _ _ _ uI];rfl
      have x2:W1.cell? ⟨w.heap.size,1,none⟩=some (.slice (some ⟨g,f,none⟩) nd.rs.length c1):=by rw[cell_of_row _ _ _ _ _ _ gU];rfl
      have HW:=Lib.hid (And.intro uI (And.intro aP gU));clear uI aP gU
      go_quiet (fail)
      go_wp2_with fail;go_ret;refine ⟨aj ?_,below_drewN (hb.trans (HW.out.2.1.mono hb.size)) _⟩;have h1:=HR.out;rw[yr hlt (.inr ⟨by omega,by have:=xP.out;have:=HPH.out;omega⟩)]at h1
      unfold sL;rw[<-h1];rfl
     .have d3:decide (lo<=ph+1)=false:=decide_eq_false fV;go_wp2_with fail;have uI:=heap_alloc_new wr (.cells #[.int .u8 lo, .int .u8 hi] 84);have aP:=(Below.refl wr.heap.size wr).alloc (Nat.le_refl _) (.cells #[.int .u8 lo, .int .u8 hi] 84);have y1:=(aP.cell (p:=⟨g,f+(k - 1)*2+1,none⟩) (Nat.lt_of_lt_of_le hg hb.size)).trans p1;have gU:=(aP.block _ (Array.getElem?_eq_some_iff.1 HX.out).1).trans HX.out;generalize wr.alloc (.cells #[.int .u8 lo, .int .u8 hi] 84)=W1 at *;have x0:W1.cell? ⟨wr.heap.size,0,none⟩=some (.int .u8 lo):=by rw[cell_of_row _ _ _ _ _ _ uI];rfl
      have x1:W1.cell? ⟨wr.heap.size,1,none⟩=some (.int .u8 hi):=by rw[cell_of_row _ _ _ _ _ _ uI];rfl
      have x2:W1.cell? ⟨w.heap.size,1,none⟩=some (.slice (some ⟨g,f,none⟩) nd.rs.length c1):=by rw[cell_of_row _ _ _ _ _ _ gU];rfl
      have HW:=Lib.hid (And.intro uI (And.intro aP gU));clear uI aP gU
      go_quiet (fail)
      go_wp2_with fail;go_roundw
      case rel=>
       refine ⟨k+1,by omega,by go_num,?_,λh0=>⟨by simpa using hlt,by simp only[Nat.add_sub_cancel];have:=xP.out;have:=xb.out;omega⟩,HW.out.2.2,below_drewN (hb.trans (HW.out.2.1.mono hb.size)) _⟩
       have h1:=HR.out;obtain ⟨hh,hle⟩:=(HP (by omega)).out
       have h2:=vo hlt (by have:=xP.out;have:=xb.out;omega) (λh0=>⟨hle,by have:=xP.out;have:=HPH.out;omega⟩)
       exact h2.trans h1
      case measure=>simp[intOf];omega
  .obtain rfl:k=nd.rs.length:=by omega
   obtain ⟨b0,b1,b2,b3,b4⟩:=aJ HX.out;go_wp2_with fail
   all_goals
    go_ret;refine ⟨aj ?_,hb⟩;have hR:fN nd.rs=true:=HR.out.symm.trans (J0 λh0=>(HP h0).out)
    first
     | (have h1:0<nd.rs.length:=by assumption
        have h2:¬nd.rs=[]:=by rintro h;rw[h]at h1;simp at h1
        have h3:nd.rs.isEmpty=false:=by simpa using h2
        first | (simp[sL,hR,h3, *];done) | (simp[sL,hR,h3, *];rfl))
     | (have h1:¬0<nd.rs.length:=by assumption
        have h2:nd.rs=[]:=List.length_eq_zero_iff.1 (by omega)
        simp[sL,h2])
end
section
set_option linter.unusedVariables false
set_option linter.unusedSimpArgs false
open Go.RowKit
def jo (sz:Nat) (w:World) (v:Value) (rows:List (List Value)):Prop:=∃A c,v = .slice A rows.length c/\(rows.length<=c/\c<=9223372036854775807)/\(rows=[]\/∃g f,A=some ⟨g,f,none⟩/\g<w.heap.size/\
 ∀i (h:i<rows.length),rows[i].length=sz/\∀j,j<sz->w.cell? ⟨g,f+i*sz+j,none⟩=rows[i][j]?)
theorem jo.later {sz:Nat} {w w':World} {v:Value} {rows:List (List Value)} (h:jo sz w v rows) (hb:Below w.heap.size w w'):jo sz w' v rows:=by
 obtain ⟨A,c,e,hc,h⟩:=h;refine ⟨A,c,e,hc,h.imp id ?_⟩;rintro ⟨g,f,h1,h2,h3⟩;refine ⟨g,f,h1,Nat.lt_of_lt_of_le h2 hb.size,λi hi=>⟨(h3 i hi).1,λj hj=>?_⟩⟩;exact (hb.cell (p:=⟨g,f+i*sz+j,none⟩) h2).trans ((h3 i hi).2 j hj)
def sj (gi:Nat) (bQ:Array Value) (rows:List (List Value)) (ps:List Bool) (w:World):Prop:=(∀args w',(callFunc gi args).run Tryz.prog w' = .ok (.enter gi args) w')/\ps.length=rows.length/\
 ∀i (h:i<rows.length) (b:Bool),ps[i]?=some b->∀w',Below w.heap.size w w'->Calls Tryz.prog gi (#[.agg rows[i].toArray]++bQ) w' λe w''=>e = .returned (.bool b)/\Below w'.heap.size w' w''
def gZ:List Bool->Nat
 | []=>0
 | b::r=>if b=true then 0 else gZ r+1
def bo:List Bool->Bool
 | []=>false
 | b::r=>b || bo r
def lG (ps:List Bool):Int:=if bo ps=true then (gZ ps:Int) else -1
theorem rr (ps:List Bool):decide (0<=lG ps)=bo ps:=by
 unfold lG
 cases h:bo ps
 .rfl
 .rw[if_pos rfl];exact decide_eq_true (by omega)
theorem eD {α:Type} (f:α->Bool):∀l:List α,bo (l.map f)=l.any f
 | []=>rfl
 | a::r=>by simp[bo,eD f r]
theorem ajr {l:List Value} (h:l.length=5):∃x0 x1 x2 x3 x4,l=[x0,x1,x2,x3,x4]:=by
 match l,h with
 | [x0,x1,x2,x3,x4],_=>exact ⟨x0,x1,x2,x3,x4,rfl⟩
set_option maxHeartbeats 1000000 in
theorem WL (gi:Nat) (bQ:Array Value) (rows:List (List Value)) (ps:List Bool) (v:Value) (w:World) (h:jo 5 w v rows) (ha:sj gi bQ rows ps w) :
  Calls Tryz.prog 176 #[v, .func (.func gi) #[] bQ] w λe w'=>e = .returned (.int .i64 (lG ps))/\Below w.heap.size w w':=by
 obtain ⟨A,c,rfl,hc,hcell⟩:=h;obtain ⟨ei,hlen,hp⟩:=ha;have HL:=Lib.hid hlen;have hmx:rows.length<=9223372036854775807:=by omega
 have HC:=Lib.hid hcell;have HP:=Lib.hid hp;clear hcell hp hlen
 go_enter Tryz.func176,Tryz.ntmps176
 go_wp2
 go_loopw [8] (λv wr=>∃k:Nat,k<=rows.length/\v = .int .i64 (k:Int)/\Below w.heap.size w wr/\Hid (bo (ps.drop k)=bo ps/\gZ (ps.drop k)+k=gZ ps)) (λv _=>rows.length - (intOf v).toNat)
 case atStart=>exact ⟨0,by omega,rfl,Below.refl _ _,rfl,rfl⟩
 case round=>
  obtain ⟨k,hk,rfl,aI,HR⟩:=hrel;by_cases hlt:k<rows.length
  .have hd:decide ((k:Int)<(rows.length:Int))=true:=decide_eq_true (by omega)
   have iI:decide (k<rows.length)=true:=decide_eq_true hlt;obtain ⟨g,ff,rfl,hg,hcs⟩:=HC.out.resolve_left (by intro e;rw[e]at hlt;simp at hlt)
   have qT:k<ps.length:=by have:=HL.out;omega
   have mC:=Lib.hid (show bo (ps[k]::ps.drop (k+1))=bo ps/\gZ (ps[k]::ps.drop (k+1))+k=gZ ps by rw[<-List.drop_eq_getElem_cons qT];exact HR.out)
   have I:=λw'=>HP.out k hlt ps[k] (List.getElem?_eq_getElem qT) w';obtain ⟨TW,Bc⟩:=hcs k hlt;obtain ⟨x0,x1,x2,x3,x4,hrow⟩:=ajr TW;rw[hrow]at Bc I;have q:∀j,j<5->wr.cell? ⟨g,ff+k*5+j,none⟩=([x0,x1,x2,x3,x4]:List Value)[j]?:=λj hj=>(aI.cell (p:=⟨g,ff+k*5+j,none⟩) hg).trans (Bc j hj);have q0:=q 0 (by omega);have q1:=q 1 (by omega);have q2:=q 2 (by omega);have q3:=q 3 (by omega);have q4:=q 4 (by omega)
   simp only[Nat.add_zero,List.getElem?_cons_zero,List.getElem?_cons_succ]at q0 q1 q2 q3 q4;clear q hcs Bc hrow TW;have aP:Below w.heap.size w wr:=aI;have HI:=Lib.hid I;clear I;obtain ⟨pb,sF⟩:∃pb,ps[k]=pb:=⟨_,rfl⟩;rw[sF]at HI mC;clear sF qT;have bI:=Lib.hid aP;clear aP aI
   cases pb with
   | true=>
    have HT:=Lib.hid (show (k:Int)=lG ps by unfold lG;rw[<-mC.out.1,<-mC.out.2,bo,gZ,if_pos rfl];simp)
    go_wp2_with fail;refine (HI.out _ bI.out).mono ?_;rintro e w1 ⟨rfl,hb1⟩;go_wp2_with fail;go_ret;exact ⟨aH HT.out,bI.out.trans (hb1.mono bI.out.size)⟩
   | false=>
    have HT:=Lib.hid (show bo (ps.drop (k+1))=bo ps/\gZ (ps.drop (k+1))+(k+1)=gZ ps from ⟨by rw[<-mC.out.1,bo];rfl,by rw[<-mC.out.2,gZ,if_neg (by decide)];omega⟩)
    go_wp2_with fail;refine (HI.out _ bI.out).mono ?_;rintro e w1 ⟨rfl,hb1⟩;go_wp2_with fail;go_roundw
    case rel=>exact ⟨k+1,by omega,by go_num,bI.out.trans (hb1.mono bI.out.size),HT⟩
    case measure=>simp[intOf];omega
  .obtain rfl:k=rows.length:=by omega
   have hd:decide ((rows.length:Int)<(rows.length:Int))=false:=decide_eq_false (by omega)
   have iI:decide (rows.length<rows.length)=false:=decide_eq_false (by omega)
   have HT:=Lib.hid (show (-1:Int)=lG ps by unfold lG;rw[<-HR.out.1,<-HL.out,List.drop_length];rfl)
   go_wp2_with fail;go_ret;exact ⟨aH HT.out,aI⟩
theorem yd (gi:Nat) (bQ:Array Value) (rows:List (List Value)) (ps:List Bool) (v:Value) (w:World) (h:jo 5 w v rows) (ha:sj gi bQ rows ps w) :
  Calls Tryz.prog 148 #[v, .func (.func gi) #[] bQ] w λe w'=>e = .returned (.bool (bo ps))/\Below w.heap.size w w':=by
 have I:=Lib.hid (WL gi bQ rows ps v w h ha);clear h ha
 go_enter Tryz.func148,Tryz.ntmps148
 go_wp2_with fail;refine I.out.mono ?_;rintro e w1 ⟨rfl,hb⟩;have HR:=Lib.hid (rr ps);generalize lG ps=r at *;go_wp2_with fail;go_ret;exact ⟨aj HR.out,hb⟩
theorem ajs {l:List Value} (h:l.length=2):∃x0 x1,l=[x0,x1]:=by
 match l,h with
 | [x0,x1],_=>exact ⟨x0,x1,rfl⟩
set_option maxHeartbeats 1000000 in
theorem WM (gi:Nat) (bQ:Array Value) (rows:List (List Value)) (ps:List Bool) (v:Value) (w:World) (h:jo 2 w v rows) (ha:sj gi bQ rows ps w) :
  Calls Tryz.prog 205 #[v, .func (.func gi) #[] bQ] w λe w'=>e = .returned (.int .i64 (lG ps))/\Below w.heap.size w w':=by
 obtain ⟨A,c,rfl,hc,hcell⟩:=h;obtain ⟨ei,hlen,hp⟩:=ha;have HL:=Lib.hid hlen;have hmx:rows.length<=9223372036854775807:=by omega
 have HC:=Lib.hid hcell;have HP:=Lib.hid hp;clear hcell hp hlen
 go_enter Tryz.func205,Tryz.ntmps205
 go_wp2
 go_loopw [8] (λv wr=>∃k:Nat,k<=rows.length/\v = .int .i64 (k:Int)/\Below w.heap.size w wr/\Hid (bo (ps.drop k)=bo ps/\gZ (ps.drop k)+k=gZ ps)) (λv _=>rows.length - (intOf v).toNat)
 case atStart=>exact ⟨0,by omega,rfl,Below.refl _ _,rfl,rfl⟩
 case round=>
  obtain ⟨k,hk,rfl,aI,HR⟩:=hrel;by_cases hlt:k<rows.length
  .have hd:decide ((k:Int)<(rows.length:Int))=true:=decide_eq_true (by omega)
   have iI:decide (k<rows.length)=true:=decide_eq_true hlt;obtain ⟨g,ff,rfl,hg,hcs⟩:=HC.out.resolve_left (by intro e;rw[e]at hlt;simp at hlt)
   have qT:k<ps.length:=by have:=HL.out;omega
   have mC:=Lib.hid (show bo (ps[k]::ps.drop (k+1))=bo ps/\gZ (ps[k]::ps.drop (k+1))+k=gZ ps by rw[<-List.drop_eq_getElem_cons qT];exact HR.out)
   have I:=λw'=>HP.out k hlt ps[k] (List.getElem?_eq_getElem qT) w';obtain ⟨TW,Bc⟩:=hcs k hlt;obtain ⟨x0,x1,hrow⟩:=ajs TW;rw[hrow]at Bc I;have q:∀j,j<2->wr.cell? ⟨g,ff+k*2+j,none⟩=([x0,x1]:List Value)[j]?:=λj hj=>(aI.cell (p:=⟨g,ff+k*2+j,none⟩) hg).trans (Bc j hj);have q0:=q 0 (by omega);have q1:=q 1 (by omega)
   simp only[Nat.add_zero,List.getElem?_cons_zero,List.getElem?_cons_succ]at q0 q1;clear q hcs Bc hrow TW;have aP:Below w.heap.size w wr:=aI;have HI:=Lib.hid I;clear I;obtain ⟨pb,sF⟩:∃pb,ps[k]=pb:=⟨_,rfl⟩;rw[sF]at HI mC;clear sF qT;have bI:=Lib.hid aP;clear aP aI
   cases pb with
   | true=>
    have HT:=Lib.hid (show (k:Int)=lG ps by unfold lG;rw[<-mC.out.1,<-mC.out.2,bo,gZ,if_pos rfl];simp)
    go_wp2_with fail;refine (HI.out _ bI.out).mono ?_;rintro e w1 ⟨rfl,hb1⟩;go_wp2_with fail;go_ret;exact ⟨aH HT.out,bI.out.trans (hb1.mono bI.out.size)⟩
   | false=>
    have HT:=Lib.hid (show bo (ps.drop (k+1))=bo ps/\gZ (ps.drop (k+1))+(k+1)=gZ ps from ⟨by rw[<-mC.out.1,bo];rfl,by rw[<-mC.out.2,gZ,if_neg (by decide)];omega⟩)
    go_wp2_with fail;refine (HI.out _ bI.out).mono ?_;rintro e w1 ⟨rfl,hb1⟩;go_wp2_with fail;go_roundw
    case rel=>exact ⟨k+1,by omega,by go_num,bI.out.trans (hb1.mono bI.out.size),HT⟩
    case measure=>simp[intOf];omega
  .obtain rfl:k=rows.length:=by omega
   have hd:decide ((rows.length:Int)<(rows.length:Int))=false:=decide_eq_false (by omega)
   have iI:decide (rows.length<rows.length)=false:=decide_eq_false (by omega)
   have HT:=Lib.hid (show (-1:Int)=lG ps by unfold lG;rw[<-HR.out.1,<-HL.out,List.drop_length];rfl)
   go_wp2_with fail;go_ret;exact ⟨aH HT.out,aI⟩
theorem JH (gi:Nat) (bQ:Array Value) (rows:List (List Value)) (ps:List Bool) (v:Value) (w:World) (h:jo 2 w v rows) (ha:sj gi bQ rows ps w) :
  Calls Tryz.prog 191 #[v, .func (.func gi) #[] bQ] w λe w'=>e = .returned (.bool (bo ps))/\Below w.heap.size w w':=by
 have I:=Lib.hid (WM gi bQ rows ps v w h ha);clear h ha
 go_enter Tryz.func191,Tryz.ntmps191
 go_wp2_with fail;refine I.out.mono ?_;rintro e w1 ⟨rfl,hb⟩;have HR:=Lib.hid (rr ps);generalize lG ps=r at *;go_wp2_with fail;go_ret;exact ⟨aj HR.out,hb⟩
theorem ajt {l:List Value} (h:l.length=3):∃x0 x1 x2,l=[x0,x1,x2]:=by
 match l,h with
 | [x0,x1,x2],_=>exact ⟨x0,x1,x2,rfl⟩
set_option maxHeartbeats 1000000 in
theorem WN (gi:Nat) (bQ:Array Value) (rows:List (List Value)) (ps:List Bool) (v:Value) (w:World) (h:jo 3 w v rows) (ha:sj gi bQ rows ps w) :
  Calls Tryz.prog 226 #[v, .func (.func gi) #[] bQ] w λe w'=>e = .returned (.int .i64 (lG ps))/\Below w.heap.size w w':=by
 obtain ⟨A,c,rfl,hc,hcell⟩:=h;obtain ⟨ei,hlen,hp⟩:=ha;have HL:=Lib.hid hlen;have hmx:rows.length<=9223372036854775807:=by omega
 have HC:=Lib.hid hcell;have HP:=Lib.hid hp;clear hcell hp hlen
 go_enter Tryz.func226,Tryz.ntmps226
 go_wp2
 go_loopw [8] (λv wr=>∃k:Nat,k<=rows.length/\v = .int .i64 (k:Int)/\Below w.heap.size w wr/\Hid (bo (ps.drop k)=bo ps/\gZ (ps.drop k)+k=gZ ps)) (λv _=>rows.length - (intOf v).toNat)
 case atStart=>exact ⟨0,by omega,rfl,Below.refl _ _,rfl,rfl⟩
 case round=>
  obtain ⟨k,hk,rfl,aI,HR⟩:=hrel;by_cases hlt:k<rows.length
  .have hd:decide ((k:Int)<(rows.length:Int))=true:=decide_eq_true (by omega)
   have iI:decide (k<rows.length)=true:=decide_eq_true hlt;obtain ⟨g,ff,rfl,hg,hcs⟩:=HC.out.resolve_left (by intro e;rw[e]at hlt;simp at hlt)
   have qT:k<ps.length:=by have:=HL.out;omega
   have mC:=Lib.hid (show bo (ps[k]::ps.drop (k+1))=bo ps/\gZ (ps[k]::ps.drop (k+1))+k=gZ ps by rw[<-List.drop_eq_getElem_cons qT];exact HR.out)
   have I:=λw'=>HP.out k hlt ps[k] (List.getElem?_eq_getElem qT) w';obtain ⟨TW,Bc⟩:=hcs k hlt;obtain ⟨x0,x1,x2,hrow⟩:=ajt TW;rw[hrow]at Bc I;have q:∀j,j<3->wr.cell? ⟨g,ff+k*3+j,none⟩=([x0,x1,x2]:List Value)[j]?:=λj hj=>(aI.cell (p:=⟨g,ff+k*3+j,none⟩) hg).trans (Bc j hj);have q0:=q 0 (by omega);have q1:=q 1 (by omega);have q2:=q 2 (by omega)
   simp only[Nat.add_zero,List.getElem?_cons_zero,List.getElem?_cons_succ]at q0 q1 q2;clear q hcs Bc hrow TW;have aP:Below w.heap.size w wr:=aI;have HI:=Lib.hid I;clear I;obtain ⟨pb,sF⟩:∃pb,ps[k]=pb:=⟨_,rfl⟩;rw[sF]at HI mC;clear sF qT;have bI:=Lib.hid aP;clear aP aI
   cases pb with
   | true=>
    have HT:=Lib.hid (show (k:Int)=lG ps by unfold lG;rw[<-mC.out.1,<-mC.out.2,bo,gZ,if_pos rfl];simp)
    go_wp2_with fail;refine (HI.out _ bI.out).mono ?_;rintro e w1 ⟨rfl,hb1⟩;go_wp2_with fail;go_ret;exact ⟨aH HT.out,bI.out.trans (hb1.mono bI.out.size)⟩
   | false=>
    have HT:=Lib.hid (show bo (ps.drop (k+1))=bo ps/\gZ (ps.drop (k+1))+(k+1)=gZ ps from ⟨by rw[<-mC.out.1,bo];rfl,by rw[<-mC.out.2,gZ,if_neg (by decide)];omega⟩)
    go_wp2_with fail;refine (HI.out _ bI.out).mono ?_;rintro e w1 ⟨rfl,hb1⟩;go_wp2_with fail;go_roundw
    case rel=>exact ⟨k+1,by omega,by go_num,bI.out.trans (hb1.mono bI.out.size),HT⟩
    case measure=>simp[intOf];omega
  .obtain rfl:k=rows.length:=by omega
   have hd:decide ((rows.length:Int)<(rows.length:Int))=false:=decide_eq_false (by omega)
   have iI:decide (rows.length<rows.length)=false:=decide_eq_false (by omega)
   have HT:=Lib.hid (show (-1:Int)=lG ps by unfold lG;rw[<-HR.out.1,<-HL.out,List.drop_length];rfl)
   go_wp2_with fail;go_ret;exact ⟨aH HT.out,aI⟩
theorem IB (gi:Nat) (bQ:Array Value) (rows:List (List Value)) (ps:List Bool) (v:Value) (w:World) (h:jo 3 w v rows) (ha:sj gi bQ rows ps w) :
  Calls Tryz.prog 216 #[v, .func (.func gi) #[] bQ] w λe w'=>e = .returned (.bool (bo ps))/\Below w.heap.size w w':=by
 have I:=Lib.hid (WN gi bQ rows ps v w h ha);clear h ha
 go_enter Tryz.func216,Tryz.ntmps216
 go_wp2_with fail;refine I.out.mono ?_;rintro e w1 ⟨rfl,hb⟩;have HR:=Lib.hid (rr ps);generalize lG ps=r at *;go_wp2_with fail;go_ret;exact ⟨aj HR.out,hb⟩
end
section
set_option linter.unusedVariables false
set_option linter.unusedSimpArgs false
open Go.RowKit
theorem fH.rows {w:World}:∀{l:List Nd} {g f:Nat},fH w l g f->∃rows:List (List Value),rows.length=l.length/\∀i (h:i<l.length) (h':i<rows.length),bX w l[i] rows[i]/\∀j,j<5->w.cell? ⟨g,f+i*5+j,none⟩=rows[i][j]?
 | [],_,_,_=>⟨[],rfl,λi h=>by cases h⟩
 | k::r,g,f,⟨⟨vs,h1,h2⟩,h3⟩=>by
  obtain ⟨rows,hl,h4⟩:=fH.rows h3;refine ⟨vs::rows,by simp[hl],λi h h'=>?_⟩
  cases i with
  | zero=>exact ⟨h2,λj hj=>by rw[Nat.zero_mul,Nat.add_zero];exact h1 j hj⟩
  | succ i=>
   obtain ⟨h5,h6⟩:=h4 i (by simpa using h) (by simpa using h')
   refine ⟨h5,λj hj=>?_⟩;have:=h6 j hj;rw[show f+5+i*5+j=f+(i+1)*5+j by omega]at this
   exact this
theorem bX.len {w:World} {n:Nd} {vs:List Value} (h:bX w n vs):vs.length=5:=by
 obtain ⟨A1,c1,A2,c2,rfl,-⟩:=h.form
 rfl
theorem Dh {w:World} {l:List Nd} {A:Option Addr} {c:Nat} (hc:l.length<=c/\c<=9223372036854775807) (h:l=[]\/∃g f,A=some ⟨g,f,none⟩/\g<w.heap.size/\fH w l g f) :
  ∃rows:List (List Value),rows.length=l.length/\jo 5 w (.slice A l.length c) rows/\∀i (h:i<l.length) (h':i<rows.length),bX w l[i] rows[i]:=by
 rcases h with rfl | ⟨g,f,rfl,hg,hk⟩
 .exact ⟨[],rfl,⟨A,c,rfl,hc, .inl rfl⟩,λi h=>by cases h⟩
 .obtain ⟨rows,hl,hr⟩:=hk.rows;refine ⟨rows,hl,⟨some ⟨g,f,none⟩,c,by rw[hl],by rw[hl];exact hc, .inr ⟨g,f,rfl,hg,λi hi=>⟨(hr i (by omega) hi).1.len,(hr i (by omega) hi).2⟩⟩⟩,λi h h'=>(hr i h h').1⟩
theorem N4 (kd:Nd) (vs:List Value) (op:Int) (b:Nat) (w:World) (hn:bX w kd vs) (hb:w.cell? ⟨b,0,none⟩=some (.int .i64 op)):Calls Tryz.prog 175 #[.agg vs.toArray, .pointer (some ⟨b,0,none⟩)] w λe w'=>e = .returned (.bool (kd.op == op))/\Below w.heap.size w w':=by
 obtain ⟨A1,c1,A2,c2,rfl,-⟩:=hn.form;have dK:b<w.heap.size:=by
  by_cases h:b<w.heap.size
  .exact h
  .simp[World.cell?,Array.getElem?_eq_none (Nat.le_of_not_lt h)]at hb
 have hne:b≠w.heap.size:=by omega
 have hB:Below w.heap.size w (w.alloc (.cells #[.int .i64 kd.op, .slice A1 kd.rs.length c1, .slice A2 kd.kids.length c2, .int .i64 kd.mn, .int .i64 kd.mx] 41)):=(Below.refl _ _).alloc (Nat.le_refl _) _;have aL:=(hB.cell (p:=⟨b,0,none⟩) dK).trans hb
 go_enter Tryz.func175,Tryz.ntmps175
 go_wp2_with fail;go_ret;exact ⟨rfl,hB⟩
theorem Sb (args:Array Value) (w:World):(callFunc 175 args).run Tryz.prog w = .ok (.enter 175 args) w:=by rfl
def Di (nd:Nd):Bool:=decide (2<=nd.kids.length) && (nd.rs.isEmpty && (decide (nd.mn=0) && (decide (nd.mx=0) && !(nd.kids.any λk=>k.op == nd.op))))
set_option maxHeartbeats 1000000 in
theorem Dj (nd:Nd) (vs:List Value) (w:World) (hn:bX w nd vs):Calls Tryz.prog 146 #[.agg vs.toArray] w λe w'=>e = .returned (.bool (Di nd))/\Below w.heap.size w w':=by
 obtain ⟨A1,c1,A2,c2,rfl,hr,sV,hk⟩:=hn.form;have hB:Below w.heap.size w (w.alloc (.cells #[.int .i64 nd.op, .slice A1 nd.rs.length c1, .slice A2 nd.kids.length c2, .int .i64 nd.mn, .int .i64 nd.mx] 41)):=(Below.refl _ _).alloc (Nat.le_refl _) _;have wY:=heap_alloc_new w (.cells #[.int .i64 nd.op, .slice A1 nd.rs.length c1, .slice A2 nd.kids.length c2, .int .i64 nd.mn, .int .i64 nd.mx] 41);obtain ⟨rows,hl,lB,bL⟩:=Dh sV hk;have hA:∀W,Below w.heap.size w W->w.heap.size<W.heap.size->W.cell? ⟨w.heap.size,0,none⟩=some (.int .i64 nd.op)->
   sj 175 #[.pointer (some ⟨w.heap.size,0,none⟩)] rows (nd.kids.map λk=>k.op == nd.op) W:=by
  intro W hW hsz jB;refine ⟨Sb,by rw[List.length_map,hl],λi hi b hb w' hw'=>?_⟩
  have Z0:i<nd.kids.length:=by omega
  rw[List.getElem?_map,List.getElem?_eq_getElem Z0]at hb;simp only[Option.map_some,Option.some.injEq]at hb;subst hb;refine N4 nd.kids[i] rows[i] nd.op w.heap.size w' ?_ ((hw'.cell (p:=⟨w.heap.size,0,none⟩) hsz).trans jB);exact ((bL i Z0 hi).later hW).later hw'
 have HC:=Lib.hid (λW h1 h2 h3=>yd 175 #[.pointer (some ⟨w.heap.size,0,none⟩)] rows _ (.slice A2 nd.kids.length c2) W (lB.later h1) (hA W h1 h2 h3));have PU:=Lib.hid (eD (λk:Nd=>k.op == nd.op) nd.kids);have HB:=Lib.hid hB;have HX:=Lib.hid wY;have di:nd.kids.length<=9223372036854775807:=by omega
 have rJ:nd.rs.length<=9223372036854775807:=by obtain ⟨A,c,e,h,-⟩:=hr;omega
 clear hA lB bL hl wY hB hk hr hn
 go_enter Tryz.func146,Tryz.ntmps146
 go_wp2_with (go_at_call 148;refine (HC.out _ ((Below.refl _ _).alloc (Nat.le_refl _) _) (by simp) (by rw[cell_of_row _ _ _ _ _ _ (heap_alloc_new _ _)];rfl)).mono ?_;rintro e w1 ⟨rfl,hb1⟩)
 all_goals
  go_ret;refine ⟨aj ?_,?_⟩
  .first
    | (rw[PU.out];unfold Di;simp[*];omega)
    | (unfold Di;simp[*];done)
    | (unfold Di;simp[*];omega)
    | (have h1:(nd.kids.length:Int)<2:=by assumption
       unfold Di;rw[decide_eq_false (show ¬2<=nd.kids.length by omega)];rfl)
  .first
    | exact (Below.refl _ _).alloc (Nat.le_refl _) _
    | exact ((Below.refl w.heap.size w).alloc (Nat.le_refl _) _).trans (hb1.mono (by simp))
def J3 (nd:Nd):Bool:=decide (nd.kids.length=1) && (nd.rs.isEmpty && (decide (0<=nd.mn) && (decide (1<=nd.mx) && (decide (nd.mn<=nd.mx) && (decide (nd.mx<=64) && !(decide (nd.mn=1) && decide (nd.mx=1)))))))
set_option maxHeartbeats 1000000 in
theorem FG (nd:Nd) (vs:List Value) (w:World) (hn:bX w nd vs):Calls Tryz.prog 147 #[.agg vs.toArray] w λe w'=>e = .returned (.bool (J3 nd))/\Below w.heap.size w w':=by
 obtain ⟨A1,c1,A2,c2,rfl,hr,sV,hk⟩:=hn.form;have di:nd.kids.length<=9223372036854775807:=by omega
 have rJ:nd.rs.length<=9223372036854775807:=by obtain ⟨A,c,e,h,-⟩:=hr;omega
 clear hk hr hn
 go_enter Tryz.func147,Tryz.ntmps147
 go_wp2_with fail
 all_goals
  go_ret;refine ⟨aj ?_,?_⟩
  .by_cases he:nd.rs=[]
   .rw[Bool.eq_iff_iff];have TD:nd.rs.isEmpty=true:=by rw[he];rfl
    simp only[J3,TD,Bool.and_eq_true,Bool.not_eq_true',Bool.and_eq_false_iff,decide_eq_true_eq,decide_eq_false_iff_not,bne_iff_ne,true_and,true_iff,ne_eq] <;>
    first | omega | (simp only[Bool.false_eq_true,false_iff];omega) | contradiction
   .have TD:nd.rs.isEmpty=false:=by simpa using he
    simp only[J3,TD,Bool.false_and,Bool.and_false] <;>
    first | rfl | contradiction
  .exact (Below.refl _ _).alloc (Nat.le_refl _) _
theorem N5 {nd:Nd} (h:nd.op=1):dr nd=sL nd.rs nd.kids.length nd.mn nd.mx:=by
 obtain ⟨op,rs,kids,mn,mx⟩:=nd;simp only[Nd.op]at h;subst h;simp only[dr,sL,Nd.rs,Nd.kids,Nd.mn,Nd.mx,if_true]
 cases kids <;> cases fN rs <;> cases rs.isEmpty <;> simp <;> rfl
theorem Dk {nd:Nd} (h:nd.op=2\/nd.op=3):dr nd=Di nd:=by
 obtain ⟨op,rs,kids,mn,mx⟩:=nd;simp only[Nd.op]at h;simp only[dr,Di,Nd.rs,Nd.kids,Nd.mn,Nd.mx,Nd.op];rw[if_neg (by omega),if_pos h]
 rfl
theorem Dl {nd:Nd} (h:nd.op=4):dr nd=J3 nd:=by
 obtain ⟨op,rs,kids,mn,mx⟩:=nd;simp only[Nd.op]at h;simp only[dr,J3,Nd.rs,Nd.kids,Nd.mn,Nd.mx,Nd.op];rw[if_neg (by omega),if_neg (by omega),if_pos h]
 rfl
theorem N6 {nd:Nd} (h1:¬nd.op=1) (h2:¬nd.op=2) (h3:¬nd.op=3) (h4:¬nd.op=4):dr nd=false:=by
 obtain ⟨op,rs,kids,mn,mx⟩:=nd;simp only[Nd.op]at h1 h2 h3 h4;simp only[dr];rw[if_neg h1,if_neg (by omega),if_neg h4]
theorem r5:∀l:List Nd,gm l=!(l.any λk=>!aE k)
 | []=>rfl
 | k::r=>by rw[gm,r5 r];simp
theorem J4 (nd:Nd):aE nd=(dr nd && !(nd.kids.any λk=>!aE k)):=by
 obtain ⟨op,rs,kids,mn,mx⟩:=nd;rw[aE,r5];rfl
theorem J5 (args:Array Value) (w:World):(callFunc 149 args).run Tryz.prog w = .ok (.enter 149 args) w:=by rfl
theorem FH (kd:Nd) (vs:List Value) (w:World) (hn:bX w kd vs) (hr:∀w',Below w.heap.size w w'->Calls Tryz.prog 120 #[.agg vs.toArray] w' λe w''=>e = .returned (.bool (aE kd))/\Below w'.heap.size w' w'') :
  Calls Tryz.prog 149 #[.agg vs.toArray] w λe w'=>e = .returned (.bool (!aE kd))/\Below w.heap.size w w':=by
 obtain ⟨A1,c1,A2,c2,rfl,-⟩:=hn.form;obtain ⟨x,hx⟩:∃x,aE kd=x:=⟨_,rfl⟩;rw[hx]at hr|-;have HR:=Lib.hid hr;clear hr hx
 go_enter Tryz.func149,Tryz.ntmps149
 go_wp2_with fail;refine (HR.out _ ((Below.refl _ _).alloc (Nat.le_refl _) _)).mono ?_;rintro e w1 ⟨rfl,hb1⟩;have HB:=Lib.hid (((Below.refl w.heap.size w).alloc (Nat.le_refl _) _).trans (hb1.mono (by simp)))
 clear hb1
 cases x
 all_goals
  go_wp2_with fail;go_ret;exact ⟨rfl,HB.out⟩
set_option maxHeartbeats 4000000 in
theorem J6:∀(m:Nat) (nd:Nd) (vs:List Value) (w:World),aC nd<=m->m<=1000000->bX w nd vs->Calls Tryz.prog 120 #[.agg vs.toArray] w λe w'=>e = .returned (.bool (aE nd))/\Below w.heap.size w w':=by
 intro m
 induction m with
 | zero=>intro nd vs w h;cases nd;rw[aC]at h;omega
 | succ m ih=>
  intro nd vs w h hm hn;have Fh:∀k∈nd.kids,aC k<=m:=λk hk=>by
   obtain ⟨op,rs,kids,mn,mx⟩:=nd;have:=aX hk;rw[aC]at h;simp only[Nd.kids]at this;omega
  have bg:=λW (hW:Below w.heap.size w W)=>Sa nd vs W (by omega) (hn.later hW)
  have adD:=λW (hW:Below w.heap.size w W)=>Dj nd vs W (hn.later hW);have adE:=λW (hW:Below w.heap.size w W)=>FG nd vs W (hn.later hW);obtain ⟨A1,c1,A2,c2,rfl,hr,sV,hk⟩:=hn.form;obtain ⟨rows,hl,lB,bL⟩:=Dh sV hk;have hA:∀W,Below w.heap.size w W->sj 149 #[] rows (nd.kids.map λk=>!aE k) W:=by
   intro W hW;refine ⟨J5,by rw[List.length_map,hl],λi hi b hb w' hw'=>?_⟩
   have Z0:i<nd.kids.length:=by omega
   rw[List.getElem?_map,List.getElem?_eq_getElem Z0]at hb;simp only[Option.map_some,Option.some.injEq]at hb;subst hb;have pE:=((bL i Z0 hi).later hW).later hw';exact FH nd.kids[i] rows[i] w' pE λw'' hw''=>ih _ _ _ (Fh _ (List.getElem_mem Z0)) (by omega) (pE.later hw'')
  have HC:=Lib.hid (λW h1=>yd 149 #[] rows _ (.slice A2 nd.kids.length c2) W (lB.later h1) (hA W h1));have PU:=Lib.hid (eD (λk:Nd=>!aE k) nd.kids);have hB:Below w.heap.size w (w.alloc (.cells #[.int .i64 nd.op, .slice A1 nd.rs.length c1, .slice A2 nd.kids.length c2, .int .i64 nd.mn, .int .i64 nd.mx] 41)):=(Below.refl _ _).alloc (Nat.le_refl _) _;have wY:=heap_alloc_new w (.cells #[.int .i64 nd.op, .slice A1 nd.rs.length c1, .slice A2 nd.kids.length c2, .int .i64 nd.mn, .int .i64 nd.mx] 41);have HB:=Lib.hid hB;have HX:=Lib.hid wY;have adF:=Lib.hid bg;have XH:=Lib.hid adD;have adG:=Lib.hid adE;have Mz:=Lib.hid (J4 nd);have mN:=Lib.hid (@N5 nd);have Tm:=Lib.hid (@Dk nd);have HN4:=Lib.hid (@Dl nd);have HN0:=Lib.hid (@N6 nd);obtain ⟨O,hO⟩:∃O,nd.op=O:=⟨_,rfl⟩;rw[hO]at mN Tm HN4 HN0 HB HX adF XH adG|-;clear hA lB bL hl wY hB hk hr hn bg adD adE Fh ih hO;by_cases h1:O=1
  .have HV:=Lib.hid (mN.out h1);subst h1
   go_enter Tryz.func120,Tryz.ntmps120
   go_wp2_with fail;refine (adF.out _ HB.out).mono ?_;rintro e w1 ⟨rfl,hb1⟩;rw[<-HV.out];have bH:=Lib.hid (HB.out.trans (hb1.mono HB.out.size));have jB:=(hb1.block w.heap.size (by simp)).trans HX.out
   obtain ⟨b0,b1,b2,b3,b4⟩:=aJ jB;clear hb1 jB
   cases hx:dr nd with
   | false=>
    have FI:=Lib.hid (show false=aE nd by rw[Mz.out,hx];rfl)
    clear hx;go_wp2_with fail;go_ret;exact ⟨aj FI.out,bH.out⟩
   | true=>
    have FI:=Lib.hid (show (!bo (nd.kids.map λk=>!aE k))=aE nd by rw[PU.out,Mz.out,hx];rfl)
    clear hx;go_wp2_with fail;refine (HC.out _ bH.out).mono ?_;rintro e w2 ⟨rfl,aL⟩;generalize bo (nd.kids.map λk=>!aE k)=y at *
    cases y
    all_goals
     go_wp2_with fail;go_ret;exact ⟨aj FI.out,bH.out.trans (aL.mono bH.out.size)⟩
  by_cases h2:O=2
  .have HV:=Lib.hid (Tm.out (.inl h2));subst h2
   go_enter Tryz.func120,Tryz.ntmps120
   go_wp2_with fail;refine (XH.out _ HB.out).mono ?_;rintro e w1 ⟨rfl,hb1⟩;rw[<-HV.out];have bH:=Lib.hid (HB.out.trans (hb1.mono HB.out.size));have jB:=(hb1.block w.heap.size (by simp)).trans HX.out
   obtain ⟨b0,b1,b2,b3,b4⟩:=aJ jB;clear hb1 jB
   cases hx:dr nd with
   | false=>
    have FI:=Lib.hid (show false=aE nd by rw[Mz.out,hx];rfl)
    clear hx;go_wp2_with fail;go_ret;exact ⟨aj FI.out,bH.out⟩
   | true=>
    have FI:=Lib.hid (show (!bo (nd.kids.map λk=>!aE k))=aE nd by rw[PU.out,Mz.out,hx];rfl)
    clear hx;go_wp2_with fail;refine (HC.out _ bH.out).mono ?_;rintro e w2 ⟨rfl,aL⟩;generalize bo (nd.kids.map λk=>!aE k)=y at *
    cases y
    all_goals
     go_wp2_with fail;go_ret;exact ⟨aj FI.out,bH.out.trans (aL.mono bH.out.size)⟩
  by_cases h3:O=3
  .have HV:=Lib.hid (Tm.out (.inr h3));subst h3
   go_enter Tryz.func120,Tryz.ntmps120
   go_wp2_with fail;refine (XH.out _ HB.out).mono ?_;rintro e w1 ⟨rfl,hb1⟩;rw[<-HV.out];have bH:=Lib.hid (HB.out.trans (hb1.mono HB.out.size));have jB:=(hb1.block w.heap.size (by simp)).trans HX.out
   obtain ⟨b0,b1,b2,b3,b4⟩:=aJ jB;clear hb1 jB
   cases hx:dr nd with
   | false=>
    have FI:=Lib.hid (show false=aE nd by rw[Mz.out,hx];rfl)
    clear hx;go_wp2_with fail;go_ret;exact ⟨aj FI.out,bH.out⟩
   | true=>
    have FI:=Lib.hid (show (!bo (nd.kids.map λk=>!aE k))=aE nd by rw[PU.out,Mz.out,hx];rfl)
    clear hx;go_wp2_with fail;refine (HC.out _ bH.out).mono ?_;rintro e w2 ⟨rfl,aL⟩;generalize bo (nd.kids.map λk=>!aE k)=y at *
    cases y
    all_goals
     go_wp2_with fail;go_ret;exact ⟨aj FI.out,bH.out.trans (aL.mono bH.out.size)⟩
  by_cases h4:O=4
  .have HV:=Lib.hid (HN4.out h4);subst h4
   go_enter Tryz.func120,Tryz.ntmps120
   go_wp2_with fail;refine (adG.out _ HB.out).mono ?_;rintro e w1 ⟨rfl,hb1⟩;rw[<-HV.out];have bH:=Lib.hid (HB.out.trans (hb1.mono HB.out.size));have jB:=(hb1.block w.heap.size (by simp)).trans HX.out
   obtain ⟨b0,b1,b2,b3,b4⟩:=aJ jB;clear hb1 jB
   cases hx:dr nd with
   | false=>
    have FI:=Lib.hid (show false=aE nd by rw[Mz.out,hx];rfl)
    clear hx;go_wp2_with fail;go_ret;exact ⟨aj FI.out,bH.out⟩
   | true=>
    have FI:=Lib.hid (show (!bo (nd.kids.map λk=>!aE k))=aE nd by rw[PU.out,Mz.out,hx];rfl)
    clear hx;go_wp2_with fail;refine (HC.out _ bH.out).mono ?_;rintro e w2 ⟨rfl,aL⟩;generalize bo (nd.kids.map λk=>!aE k)=y at *
    cases y
    all_goals
     go_wp2_with fail;go_ret;exact ⟨aj FI.out,bH.out.trans (aL.mono bH.out.size)⟩
  .have HV:=Lib.hid (show false=aE nd by rw[Mz.out,HN0.out h1 h2 h3 h4];rfl)
   have e1:(O == 1)=false:=by simpa using h1
   have e2:(O == 2)=false:=by simpa using h2
   have e3:(O == 3)=false:=by simpa using h3
   have e4:(O == 4)=false:=by simpa using h4
   clear h1 h2 h3 h4
   go_enter Tryz.func120,Tryz.ntmps120
   go_wp2_with fail;go_ret;exact ⟨aj HV.out,HB.out⟩
end
section
set_option linter.unusedVariables false
set_option linter.unusedSimpArgs false
open Go.RowKit
theorem zR (n:Nd):aK n<=601:=by cases n;rw[aK];omega
-- The least number of bytes.
mutual
def bw:Nd->Nat
 | .mk op _ kids mn _=>if op=1 then 1 else if op=2 then fJ kids else if op=3 then dt kids else mn.toNat*zS kids
def fJ:List Nd->Nat
 | []=>0
 | k::r=>bw k+fJ r
def dt:List Nd->Nat
 | []=>1000000
 | k::r=>min (bw k) (dt r)
def zS:List Nd->Nat
 | []=>0
 | k::_=>bw k
end
theorem yu:∀{l:List Nd} {k:Nd},k∈l->aN k<=fI l
 | a::r,k,h=>by
  rw[fI];rcases List.mem_cons.1 h with rfl | h
  .omega
  .have:=yu h;omega
theorem rC:∀{l:List Nd} {k:Nd},k∈l->aN k<=gD l
 | a::r,k,h=>by
  rw[gD];rcases List.mem_cons.1 h with rfl | h
  .omega
  .have:=rC h;omega
theorem Dm {rs:List (Nat×Nat)} {kids:List Nd} {op mn mx:Int} (hR:aE (.mk op rs kids mn mx)=true):op=3->2<=kids.length:=by
 rintro rfl;have h:=((iY _).1 hR).1;simp only[dr]at h;rw[if_neg (by decide),if_pos (by decide)]at h
 simp at h;exact h.1
theorem yw {rs:List (Nat×Nat)} {kids:List Nd} {op mn mx:Int} (hR:aE (.mk op rs kids mn mx)=true) (hl:aN (.mk op rs kids mn mx)<=1024):∀k∈kids,aN k<=1024:=by
 intro k hk;obtain ⟨pD,-⟩:=dW hR;rw[aN]at hl;rcases pD with rfl | rfl | rfl | ⟨rfl,gY,GQ,tY,zu⟩
 .have h:=((iY _).1 hR).1;simp only[dr]at h;simp at h;rw[h.2.2.1]at hk
  cases hk
 .have:=yu hk;simp at hl;omega
 .have:=rC hk;simp at hl;omega
 .match kids,gY with
  | [a],_=>
   rw[List.mem_singleton]at hk;subst hk;rw[if_neg (by decide),if_neg (by decide),if_neg (by decide),mD]at hl
   have h2:1*aN k<=mx.toNat*aN k:=Nat.mul_le_mul_right _ (by omega)
   omega
theorem EW {rs:List (Nat×Nat)} {kids:List Nd} {op mn mx:Int} (hR:aE (.mk op rs kids mn mx)=true):op=4->mn<=mx:=by
 rintro rfl;have h:=((iY _).1 hR).1;rw[Dl rfl]at h;simp only[J3,Bool.and_eq_true,decide_eq_true_eq,Nd.mn,Nd.mx]at h;exact of_decide_eq_true h.2.2.2.2.1
theorem N7:∀(m:Nat),(∀n:Nd,aC n<=m->aE n=true->aN n<=1024->bw n<=aN n):=by
 intro m
 induction m with
 | zero=>intro n h;cases n;rw[aC]at h;omega
 | succ m ih=>
  rintro ⟨op,rs,kids,mn,mx⟩ h hR hl;have hk:=yw hR hl;have h2:=Dm hR;have hle:=EW hR;obtain ⟨pD,xO⟩:=dW hR;rw[aC]at h;have xd:∀k∈kids,bw k<=aN k:=λk tN=>ih k (by have:=aX tN;omega) (aU xO tN) (hk k tN)
  rw[aN]at hl|-;rw[bw];rcases pD with rfl | rfl | rfl | ⟨rfl,gY,GQ,tY,zu⟩
  .simp
  .have:∀l:List Nd,(∀k∈l,bw k<=aN k)->fJ l<=fI l:=by
    intro l
    induction l with
    | nil=>intro _;exact Nat.le_refl _
    | cons a r ih=>
     intro h;rw[fJ,fI];have:=h a (by simp)
     have:=ih λk hk=>h k (by simp[hk])
     omega
   have:=this kids xd;simp at hl|-;omega
  .match kids,h2 rfl with
   | a::r,_=>
    have h3:=xd a (by simp)
    have h4:=rC (show a∈a::r by simp)
    simp at hl|-;rw[dt];omega
  .match kids,gY with
   | [a],_=>
    have h3:=xd a (by simp)
    rw[if_neg (by decide),if_neg (by decide),if_neg (by decide),mD]at hl|-
    rw[if_neg (by decide),if_neg (by decide),if_neg (by decide),zS]
    have h6:=hle rfl;have h5:mn.toNat*bw a<=mx.toNat*aN a:=Nat.mul_le_mul (by omega) h3
    omega
theorem zT:∀{l:List Nd} (h:0<l.length),min (bw l[0]) (dt l)=dt l
 | a::r,_=>by show min (bw a) (min (bw a) (dt r))=min (bw a) (dt r);omega
theorem nA (n:Nd) (hR:aE n=true) (hl:aN n<=1024):bw n<=1024:=Nat.le_trans (N7 _ n (Nat.le_refl _) hR hl) hl
set_option maxHeartbeats 4000000 in
theorem wI:∀(m:Nat) (nd:Nd) (vs:List Value) (w:World),aC nd<=m->aC nd<=200->aE nd=true->bX w nd vs->Calls Tryz.prog 134 #[.agg vs.toArray] w λe w'=>e = .returned (.int .i64 ((aK nd:Nat):Int))/\Below w.heap.size w w':=by
 intro m
 induction m with
 | zero=>intro nd vs w h;cases nd;rw[aC]at h;omega
 | succ m ih=>
  rintro ⟨op,rs,kids,mn,mx⟩ vs w h oI hR hn;have HN:=Lib.hid hn;obtain ⟨v1,v2,rfl,hr,A,c,rfl,hc,hk⟩:=hn;obtain ⟨A1,c1,rfl,-,-⟩:=hr;have hb0:Below w.heap.size w (w.alloc (.cells #[.int .i64 op, .slice A1 rs.length c1, .slice A kids.length c, .int .i64 mn, .int .i64 mx] 41)):=(Below.refl _ _).alloc (Nat.le_refl _) _;have hT:aC (.mk op rs kids mn mx)=1+bF kids:=by rw[aC]
  have hL:aK (.mk op rs kids mn mx)=min (if op=1 then 1 else if op=4 then mx.toNat*zv kids else bK kids) 601:=by rw[aK]
  rw[hT]at h oI;have di:=qy kids;have R6:kids.length<=200:=by omega
  obtain ⟨pD,xO⟩:=dW hR;have HL:=Lib.hid hL;have HM:=Lib.hid h;have Bk:=Lib.hid oI;have Cz:=Lib.hid xO;clear hT h hL oI hR xO di;rcases pD with rfl | rfl | rfl | ⟨rfl,gY,GQ,tY,zu⟩
  .go_enter Tryz.func134,Tryz.ntmps134
   go_wp2_with fail;go_ret;exact ⟨aH (by rw[HL.out];rfl),hb0⟩
  .go_enter Tryz.func134,Tryz.ntmps134
   go_wp2_with fail
   go_loopw [3,11] (λov iv wr=>∃(k o:Nat),k<=kids.length/\iv = .int .i64 (k:Int)/\ov = .int .i64 (o:Int)/\o<=601*k/\Hid (o+bK (kids.drop k)=bK kids)/\Below w.heap.size w wr) (λ_ iv _=>kids.length - (intOf iv).toNat)
   case atStart=>exact ⟨0,0,by omega,rfl,rfl,by omega,by show 0+_=_;rw[List.drop_zero,Nat.zero_add],hb0⟩
   case round=>
    obtain ⟨k,o,hkk,rfl,rfl,ho,HO,hb⟩:=hrel;by_cases hlt:k<kids.length
    .have hd:decide ((k:Int)<(kids.length:Int))=true:=decide_eq_true (by omega)
     have iI:decide (k<kids.length)=true:=decide_eq_true hlt;obtain ⟨g,f,rfl,hg,cR⟩:=hk.resolve_left (by rintro rfl;simp at hlt)
     obtain ⟨vs,hcv,bL⟩:=cR.at k hlt;have bW:=aX (List.getElem_mem hlt);have kt:=aU Cz.out (List.getElem_mem hlt);have hdr:bK (kids.drop k)=aK kids[k]+bK (kids.drop (k+1)):=by rw[List.drop_eq_getElem_cons hlt,bK]
     obtain ⟨kd,fY⟩:∃kd,kids[k]=kd:=⟨_,rfl⟩;rw[fY]at bL bW hdr kt;obtain ⟨B1,e1,B2,e2,rfl,-,-,-⟩:=bL.form;have q:∀j,j<5->wr.cell? ⟨g,f+k*5+j,none⟩=([.int .i64 kd.op, .slice B1 kd.rs.length e1, .slice B2 kd.kids.length e2, .int .i64 kd.mn, .int .i64 kd.mx]:List Value)[j]?:=λj hj=>(hb.cell (p:=⟨g,f+k*5+j,none⟩) hg).trans (hcv j hj);have q0:=q 0 (by omega);have q1:=q 1 (by omega);have q2:=q 2 (by omega);have q3:=q 3 (by omega);have q4:=q 4 (by omega)
     simp only[Nat.add_zero,List.getElem?_cons_zero,List.getElem?_cons_succ]at q0 q1 q2 q3 q4;have jy:=λ(w':World) (hw:Below w.heap.size w w')=>ih kd _ w' (by have:=HM.out;omega) (by have:=Bk.out;omega) kt (bL.later hw)
     have HI:=Lib.hid jy;have HB:=Lib.hid hb;have HD:=Lib.hid hdr;clear q hcv bL fY cR jy hb hdr hb0 kt;go_wp2_with fail;refine (HI.out _ (HB.out.trans ((Below.refl w.heap.size _).alloc HB.out.size _))).mono ?_;rintro e w1 ⟨rfl,hb1⟩;obtain ⟨x,hx⟩:∃x,aK kd=x:=⟨_,rfl⟩;have iK:=zR kd;rw[hx]at iK|-;have HX:=Lib.hid hx;have bH:=Lib.hid (show Below w.heap.size w w1 from HB.out.trans ((((Below.refl w.heap.size _).alloc HB.out.size _)).trans (hb1.mono (by have:=HB.out.size;simp;omega))))
     clear hb1 hx bW q0 q1 q2 q3 q4;go_wp2_with fail;go_roundw
     case rel=>
      refine ⟨k+1,o+x,by omega,by go_num,by go_num,by omega,?_,bH.out⟩
      have h1:=HO.out;have h2:=HD.out;have h3:=HX.out;exact (by omega:o+x+bK (kids.drop (k+1))=bK kids)
     case measure=>simp[intOf];omega
    .obtain rfl:k=kids.length:=by omega
     have bO:=HO.out;rw[List.drop_length,bK,Nat.add_zero]at bO;have HF:=Lib.hid bO;obtain ⟨y,hy⟩:∃y:Nat,y=min o 601:=⟨_,rfl⟩;have DW:min (o:Int) 601=(y:Int):=by omega
     have HY:=Lib.hid hy;clear bO hy;have Df:aK (.mk 2 rs kids mn mx)=min (bK kids) 601:=by rw[HL.out];simp
     have GY:=Lib.hid Df;clear Df;go_wp2_with fail
     all_goals
      go_ret;refine ⟨aH ?_,hb⟩;have h1:=HY.out;have h2:=HF.out;rw[GY.out,<-h2];omega
  .go_enter Tryz.func134,Tryz.ntmps134
   go_wp2_with fail
   go_loopw [3,11] (λov iv wr=>∃(k o:Nat),k<=kids.length/\iv = .int .i64 (k:Int)/\ov = .int .i64 (o:Int)/\o<=601*k/\Hid (o+bK (kids.drop k)=bK kids)/\Below w.heap.size w wr) (λ_ iv _=>kids.length - (intOf iv).toNat)
   case atStart=>exact ⟨0,0,by omega,rfl,rfl,by omega,by show 0+_=_;rw[List.drop_zero,Nat.zero_add],hb0⟩
   case round=>
    obtain ⟨k,o,hkk,rfl,rfl,ho,HO,hb⟩:=hrel;by_cases hlt:k<kids.length
    .have hd:decide ((k:Int)<(kids.length:Int))=true:=decide_eq_true (by omega)
     have iI:decide (k<kids.length)=true:=decide_eq_true hlt;obtain ⟨g,f,rfl,hg,cR⟩:=hk.resolve_left (by rintro rfl;simp at hlt)
     obtain ⟨vs,hcv,bL⟩:=cR.at k hlt;have bW:=aX (List.getElem_mem hlt);have kt:=aU Cz.out (List.getElem_mem hlt);have hdr:bK (kids.drop k)=aK kids[k]+bK (kids.drop (k+1)):=by rw[List.drop_eq_getElem_cons hlt,bK]
     obtain ⟨kd,fY⟩:∃kd,kids[k]=kd:=⟨_,rfl⟩;rw[fY]at bL bW hdr kt;obtain ⟨B1,e1,B2,e2,rfl,-,-,-⟩:=bL.form;have q:∀j,j<5->wr.cell? ⟨g,f+k*5+j,none⟩=([.int .i64 kd.op, .slice B1 kd.rs.length e1, .slice B2 kd.kids.length e2, .int .i64 kd.mn, .int .i64 kd.mx]:List Value)[j]?:=λj hj=>(hb.cell (p:=⟨g,f+k*5+j,none⟩) hg).trans (hcv j hj);have q0:=q 0 (by omega);have q1:=q 1 (by omega);have q2:=q 2 (by omega);have q3:=q 3 (by omega);have q4:=q 4 (by omega)
     simp only[Nat.add_zero,List.getElem?_cons_zero,List.getElem?_cons_succ]at q0 q1 q2 q3 q4;have jy:=λ(w':World) (hw:Below w.heap.size w w')=>ih kd _ w' (by have:=HM.out;omega) (by have:=Bk.out;omega) kt (bL.later hw)
     have HI:=Lib.hid jy;have HB:=Lib.hid hb;have HD:=Lib.hid hdr;clear q hcv bL fY cR jy hb hdr hb0 kt;go_wp2_with fail;refine (HI.out _ (HB.out.trans ((Below.refl w.heap.size _).alloc HB.out.size _))).mono ?_;rintro e w1 ⟨rfl,hb1⟩;obtain ⟨x,hx⟩:∃x,aK kd=x:=⟨_,rfl⟩;have iK:=zR kd;rw[hx]at iK|-;have HX:=Lib.hid hx;have bH:=Lib.hid (show Below w.heap.size w w1 from HB.out.trans ((((Below.refl w.heap.size _).alloc HB.out.size _)).trans (hb1.mono (by have:=HB.out.size;simp;omega))))
     clear hb1 hx bW q0 q1 q2 q3 q4;go_wp2_with fail;go_roundw
     case rel=>
      refine ⟨k+1,o+x,by omega,by go_num,by go_num,by omega,?_,bH.out⟩
      have h1:=HO.out;have h2:=HD.out;have h3:=HX.out;exact (by omega:o+x+bK (kids.drop (k+1))=bK kids)
     case measure=>simp[intOf];omega
    .obtain rfl:k=kids.length:=by omega
     have bO:=HO.out;rw[List.drop_length,bK,Nat.add_zero]at bO;have HF:=Lib.hid bO;obtain ⟨y,hy⟩:∃y:Nat,y=min o 601:=⟨_,rfl⟩;have DW:min (o:Int) 601=(y:Int):=by omega
     have HY:=Lib.hid hy;clear bO hy;have Df:aK (.mk 3 rs kids mn mx)=min (bK kids) 601:=by rw[HL.out];simp
     have GY:=Lib.hid Df;clear Df;go_wp2_with fail
     all_goals
      go_ret;refine ⟨aH ?_,hb⟩;have h1:=HY.out;have h2:=HF.out;rw[GY.out,<-h2];omega
  .obtain ⟨kd,rfl⟩:∃kd,kids=[kd]:=by
    match kids,gY with
    | [a],_=>exact ⟨a,rfl⟩
   obtain ⟨g,f,rfl,hg,cR⟩:=hk.resolve_left (by simp)
   obtain ⟨vs,hcv,bL⟩:=cR.at 0 (by simp)
   have bW:=aX (List.mem_singleton.2 rfl:kd∈[kd]);have kt:=aU Cz.out (List.mem_singleton.2 rfl:kd∈[kd])
   replace bL:bX w kd vs:=bL
   obtain ⟨B1,e1,B2,e2,rfl,-,-,-⟩:=bL.form;have hrow:=heap_alloc_new w (.cells #[.int .i64 4, .slice A1 rs.length c1, .slice (some ⟨g,f,none⟩) 1 c, .int .i64 mn, .int .i64 mx] 41);have hS:∀W,Below w.heap.size w W->W.heap[w.heap.size]?=some (.cells #[.int .i64 4, .slice A1 rs.length c1, .slice (some ⟨g,f,none⟩) 1 c, .int .i64 mn, .int .i64 mx] 41 (0,0))->
     (W.cell? ⟨w.heap.size,4,none⟩=some (.int .i64 mx)/\W.cell? ⟨w.heap.size,2,none⟩=some (.slice (some ⟨g,f,none⟩) 1 c))/\
     W.cell? ⟨g,f,none⟩=some (.int .i64 kd.op)/\W.cell? ⟨g,f+1,none⟩=some (.slice B1 kd.rs.length e1)/\W.cell? ⟨g,f+2,none⟩=some (.slice B2 kd.kids.length e2)/\W.cell? ⟨g,f+3,none⟩=some (.int .i64 kd.mn)/\W.cell? ⟨g,f+4,none⟩=some (.int .i64 kd.mx):=by
    intro W hW hr;have q:∀j,j<5->W.cell? ⟨g,f+j,none⟩=([.int .i64 kd.op, .slice B1 kd.rs.length e1, .slice B2 kd.kids.length e2, .int .i64 kd.mn, .int .i64 kd.mx]:List Value)[j]?:=λj hj=>(hW.cell (p:=⟨g,f+j,none⟩) hg).trans (by have:=hcv j hj;rw[Nat.zero_mul,Nat.add_zero]at this;exact this)
    refine ⟨⟨?_,?_⟩,q 0 (by omega),q 1 (by omega),q 2 (by omega),q 3 (by omega),q 4 (by omega)⟩
    .rw[cell_of_row _ _ _ _ _ _ hr];rfl
    .rw[cell_of_row _ _ _ _ _ _ hr];rfl
   have Eb:=Lib.hid hS;have jy:=λ(w':World) (hw:Below w.heap.size w w')=>ih kd _ w' (by have:=HM.out;omega) (by have:=Bk.out;omega) kt (bL.later hw)
   have HI:=Lib.hid jy;have HB:=Lib.hid hb0;have HR:=Lib.hid hrow;obtain ⟨x,hx⟩:∃x,aK kd=x:=⟨_,rfl⟩;have iK:=zR kd;rw[hx]at iK HI;have HX:=Lib.hid hx;obtain ⟨M,rfl⟩:=Int.eq_ofNat_of_zero_le (show 0<=mx by omega)
   obtain ⟨P,hP⟩:∃P:Nat,P=M*x:=⟨_,rfl⟩;have hP1:P<=64*601:=by rw[hP];exact Nat.mul_le_mul (by omega) iK
   have Ub:(M:Int)*(x:Int)=(P:Int):=by rw[hP];simp
   have hP3:IntKind.i64.wrap ((M:Int)*(x:Int))=(P:Int):=by rw[Ub];exact IntWalk.i64_in _ (by omega)
   obtain ⟨y,hy⟩:∃y:Nat,y=min P 601:=⟨_,rfl⟩;have DW:min (P:Int) 601=(y:Int):=by omega
   have HY:=Lib.hid (And.intro hP hy);clear hS hcv bL cR jy hb0 hrow kt bW hx hP hy Ub;have hz0:=Eb.out _ HB.out HR.out;have R7:=Eb.out _ HB.out.drew HR.out
   go_enter Tryz.func134,Tryz.ntmps134
   go_wp2_with fail
   go_region_held3 (λw'=>(w'.cell? ⟨w.heap.size,4,none⟩=some (.int .i64 (M:Int))/\w'.cell? ⟨w.heap.size,2,none⟩=some (.slice (some ⟨g,f,none⟩) 1 c))/\w'.cell? ⟨g,f,none⟩=some (.int .i64 kd.op)/\w'.cell? ⟨g,f+1,none⟩=some (.slice B1 kd.rs.length e1)/\w'.cell? ⟨g,f+2,none⟩=some (.slice B2 kd.kids.length e2)/\w'.cell? ⟨g,f+3,none⟩=some (.int .i64 kd.mn)/\w'.cell? ⟨g,f+4,none⟩=some (.int .i64 kd.mx))
    (first | exact hz0 | exact R7 | exact hz1 | go_keep)
    ((go_at_call 134;refine (HI.out _ HB.out.drew).mono ?_;rintro e w1 ⟨rfl,hb1⟩;have hz1:=Eb.out w1 (HB.out.drew.trans (hb1.mono (HB.out.drew).size)) ((hb1.block w.heap.size (by simp)).trans HR.out)))
   all_goals
    have HE:=Lib.hid (HB.out.drew.trans (hb1.mono (HB.out.drew).size));clear hz0 R7 hz1 hb1;go_wp2_with fail
    all_goals
     go_ret;refine ⟨aH ?_,HE.out⟩;have h1:=HY.out.1;have h2:=HY.out.2;have h3:=HX.out;rw[HL.out,if_neg (by decide)]
     simp only[if_true,Int.toNat_natCast,zv];rw[h3,<-h1];omega
set_option maxHeartbeats 4000000 in
theorem zM:∀(m:Nat) (nd:Nd) (vs:List Value) (w:World),aC nd<=m->aC nd<=200->aE nd=true->aN nd<=1024->bX w nd vs->Calls Tryz.prog 140 #[.agg vs.toArray] w λe w'=>e = .returned (.int .i64 ((bw nd:Nat):Int))/\Below w.heap.size w w':=by
 intro m
 induction m with
 | zero=>intro nd vs w h;cases nd;rw[aC]at h;omega
 | succ m ih=>
  rintro ⟨op,rs,kids,mn,mx⟩ vs w h oI hR hlg hn;have HN:=Lib.hid hn;obtain ⟨v1,v2,rfl,hr,A,c,rfl,hc,hk⟩:=hn;obtain ⟨A1,c1,rfl,-,-⟩:=hr;have hb0:Below w.heap.size w (w.alloc (.cells #[.int .i64 op, .slice A1 rs.length c1, .slice A kids.length c, .int .i64 mn, .int .i64 mx] 41)):=(Below.refl _ _).alloc (Nat.le_refl _) _;have hT:aC (.mk op rs kids mn mx)=1+bF kids:=by rw[aC]
  have hL:bw (.mk op rs kids mn mx)=(if op=1 then 1 else if op=2 then fJ kids else if op=3 then dt kids else mn.toNat*zS kids):=by rw[bw]
  rw[hT]at h oI;have di:=qy kids;have R6:kids.length<=200:=by omega
  have HKL:=Lib.hid (yw hR hlg);have PA:=Lib.hid (Dm hR);have TM:=Lib.hid (EW hR);obtain ⟨pD,xO⟩:=dW hR;have HL:=Lib.hid hL;have HM:=Lib.hid h;have Bk:=Lib.hid oI;have Cz:=Lib.hid xO;clear hT h hL oI hR xO di hlg;rcases pD with rfl | rfl | rfl | ⟨rfl,gY,GQ,tY,zu⟩
  .go_enter Tryz.func140,Tryz.ntmps140
   go_wp2_with fail;go_ret;exact ⟨aH (by rw[HL.out];rfl),hb0⟩
  .go_enter Tryz.func140,Tryz.ntmps140
   go_wp2_with fail
   go_loopw [3,25] (λov iv wr=>∃(k o:Nat),k<=kids.length/\iv = .int .i64 (k:Int)/\ov = .int .i64 (o:Int)/\o<=1024*k/\Hid (o+fJ (kids.drop k)=fJ kids)/\Below w.heap.size w wr) (λ_ iv _=>kids.length - (intOf iv).toNat)
   case atStart=>exact ⟨0,0,by omega,rfl,rfl,by omega,by show 0+_=_;rw[List.drop_zero,Nat.zero_add],hb0⟩
   case round=>
    obtain ⟨k,o,hkk,rfl,rfl,ho,HO,hb⟩:=hrel;by_cases hlt:k<kids.length
    .have hd:decide ((k:Int)<(kids.length:Int))=true:=decide_eq_true (by omega)
     have iI:decide (k<kids.length)=true:=decide_eq_true hlt;obtain ⟨g,f,rfl,hg,cR⟩:=hk.resolve_left (by rintro rfl;simp at hlt)
     obtain ⟨vs,hcv,bL⟩:=cR.at k hlt;have bW:=aX (List.getElem_mem hlt);have kt:=aU Cz.out (List.getElem_mem hlt);have hlk:=HKL.out _ (List.getElem_mem hlt);have hdr:fJ (kids.drop k)=bw kids[k]+fJ (kids.drop (k+1)):=by rw[List.drop_eq_getElem_cons hlt,fJ]
     obtain ⟨kd,fY⟩:∃kd,kids[k]=kd:=⟨_,rfl⟩;rw[fY]at bL bW hdr kt hlk;have iK:=nA kd kt hlk;obtain ⟨B1,e1,B2,e2,rfl,-,-,-⟩:=bL.form;have q:∀j,j<5->wr.cell? ⟨g,f+k*5+j,none⟩=([.int .i64 kd.op, .slice B1 kd.rs.length e1, .slice B2 kd.kids.length e2, .int .i64 kd.mn, .int .i64 kd.mx]:List Value)[j]?:=λj hj=>(hb.cell (p:=⟨g,f+k*5+j,none⟩) hg).trans (hcv j hj);have q0:=q 0 (by omega);have q1:=q 1 (by omega);have q2:=q 2 (by omega);have q3:=q 3 (by omega);have q4:=q 4 (by omega)
     simp only[Nat.add_zero,List.getElem?_cons_zero,List.getElem?_cons_succ]at q0 q1 q2 q3 q4;have jy:=λ(w':World) (hw:Below w.heap.size w w')=>ih kd _ w' (by have:=HM.out;omega) (by have:=Bk.out;omega) kt hlk (bL.later hw)
     have HI:=Lib.hid jy;have HB:=Lib.hid hb;have HD:=Lib.hid hdr;clear q hcv bL fY cR jy hb hdr hb0 kt;go_wp2_with fail;refine (HI.out _ (HB.out.trans ((Below.refl w.heap.size _).alloc HB.out.size _))).mono ?_;rintro e w1 ⟨rfl,hb1⟩;obtain ⟨x,hx⟩:∃x,bw kd=x:=⟨_,rfl⟩;rw[hx]at iK|-;have HX:=Lib.hid hx;have bH:=Lib.hid (show Below w.heap.size w w1 from HB.out.trans ((((Below.refl w.heap.size _).alloc HB.out.size _)).trans (hb1.mono (by have:=HB.out.size;simp;omega))))
     clear hb1 hx bW hlk q0 q1 q2 q3 q4;go_wp2_with fail;go_roundw
     case rel=>
      refine ⟨k+1,o+x,by omega,by go_num,by go_num,by omega,?_,bH.out⟩
      have h1:=HO.out;have h2:=HD.out;have h3:=HX.out;exact (by omega:o+x+fJ (kids.drop (k+1))=fJ kids)
     case measure=>simp[intOf];omega
    .obtain rfl:k=kids.length:=by omega
     have bO:=HO.out;rw[List.drop_length,fJ,Nat.add_zero]at bO;have HF:=Lib.hid bO;have Df:bw (.mk 2 rs kids mn mx)=fJ kids:=by rw[HL.out];simp
     have GY:=Lib.hid Df;clear Df bO;go_wp2_with fail;go_ret;exact ⟨aH (by have h2:=HF.out;rw[GY.out,<-h2]),hb⟩
  .have bM:=PA.out rfl;obtain ⟨g,f,rfl,hg,cR⟩:=hk.resolve_left (by rintro rfl;simp at bM)
   obtain ⟨vs,hcv,bL⟩:=cR.at 0 (by omega)
   have GQ:kids[0]∈kids:=List.getElem_mem _;have bW:=aX GQ;have kt:=aU Cz.out GQ;have hlk:=HKL.out _ GQ;obtain ⟨k0,fY⟩:∃k0,kids[0]=k0:=⟨_,rfl⟩;have bT:min (bw k0) (dt kids)=dt kids:=by
    rw[<-fY];exact zT _
   have lY:=Lib.hid bT;rw[fY]at bL bW kt hlk;have iK:=nA k0 kt hlk;obtain ⟨B1,e1,B2,e2,rfl,-,-,-⟩:=bL.form;have q:∀j,j<5->w.cell? ⟨g,f+j,none⟩=([.int .i64 k0.op, .slice B1 k0.rs.length e1, .slice B2 k0.kids.length e2, .int .i64 k0.mn, .int .i64 k0.mx]:List Value)[j]?:=λj hj=>(by have:=hcv j hj;rw[Nat.zero_mul,Nat.add_zero]at this;exact this)
   have hgn:g≠w.heap.size:=by omega
   have q0:=q 0 (by omega);have q1:=q 1 (by omega);have q2:=q 2 (by omega);have q3:=q 3 (by omega);have q4:=q 4 (by omega)
   simp only[Nat.add_zero,List.getElem?_cons_zero,List.getElem?_cons_succ]at q0 q1 q2 q3 q4;have jy:=λ(w':World) (hw:Below w.heap.size w w')=>ih k0 _ w' (by have:=HM.out;omega) (by have:=Bk.out;omega) kt hlk (bL.later hw)
   have HI:=Lib.hid jy;have nO:=Lib.hid hb0;have HKD:=Lib.hid cR;have HX:=Lib.hid (heap_alloc_new w (.cells #[.int .i64 3, .slice A1 rs.length c1, .slice (some ⟨g,f,none⟩) kids.length c, .int .i64 mn, .int .i64 mx] 41));have oq:0<kids.length:=by omega
   clear q hcv bL fY cR jy kt bT GQ hk
   go_enter Tryz.func140,Tryz.ntmps140
   go_wp2_with fail;refine (HI.out _ nO.out).mono ?_;rintro e w1 ⟨rfl,hb1⟩;have K9:=Lib.hid (nO.out.trans (hb1.mono (nO.out).size));have jB:=(hb1.block w.heap.size (by simp)).trans HX.out
   obtain ⟨b0,b1,b2,b3,b4⟩:=aJ jB;obtain ⟨x,hx⟩:∃x,bw k0=x:=⟨_,rfl⟩;rw[hx]at iK lY|-;have hkx:x<=1024:=by omega
   clear hb1 jB hx bW hlk q0 q1 q2 q3 q4 iK HI;go_wp2_with fail
   go_loopw [3,44] (λov iv wr=>∃(k o:Nat),k<=kids.length/\iv = .int .i64 (k:Int)/\ov = .int .i64 (o:Int)/\o<=1024/\Hid (min o (dt (kids.drop k))=dt kids)/\Below w.heap.size w wr) (λ_ iv _=>kids.length - (intOf iv).toNat)
   case atStart=>exact ⟨0,x,by omega,rfl,rfl,by omega,by show min x _=_;rw[List.drop_zero];exact lY.out,K9.out⟩
   case round=>
    obtain ⟨k,o,hkk,rfl,rfl,ho,HO,hb⟩:=hrel;by_cases hlt:k<kids.length
    .have hd:decide ((k:Int)<(kids.length:Int))=true:=decide_eq_true (by omega)
     have iI:decide (k<kids.length)=true:=decide_eq_true hlt;obtain ⟨vs,hcv,bL⟩:=HKD.out.at k hlt;have bW:=aX (List.getElem_mem hlt);have kt:=aU Cz.out (List.getElem_mem hlt);have hlk:=HKL.out _ (List.getElem_mem hlt);have hdr:dt (kids.drop k)=min (bw kids[k]) (dt (kids.drop (k+1))):=by rw[List.drop_eq_getElem_cons hlt,dt]
     obtain ⟨kd,fY⟩:∃kd,kids[k]=kd:=⟨_,rfl⟩;rw[fY]at bL bW hdr kt hlk;have iK:=nA kd kt hlk;obtain ⟨B1,e1,B2,e2,rfl,-,-,-⟩:=bL.form;have q:∀j,j<5->wr.cell? ⟨g,f+k*5+j,none⟩=([.int .i64 kd.op, .slice B1 kd.rs.length e1, .slice B2 kd.kids.length e2, .int .i64 kd.mn, .int .i64 kd.mx]:List Value)[j]?:=λj hj=>(hb.cell (p:=⟨g,f+k*5+j,none⟩) hg).trans (hcv j hj);have q0:=q 0 (by omega);have q1:=q 1 (by omega);have q2:=q 2 (by omega);have q3:=q 3 (by omega);have q4:=q 4 (by omega)
     simp only[Nat.add_zero,List.getElem?_cons_zero,List.getElem?_cons_succ]at q0 q1 q2 q3 q4;have jy:=λ(w':World) (hw:Below w.heap.size w w')=>ih kd _ w' (by have:=HM.out;omega) (by have:=Bk.out;omega) kt hlk (bL.later hw)
     have HI:=Lib.hid jy;have HB:=Lib.hid hb;have HD:=Lib.hid hdr;clear q hcv bL fY jy hb hdr kt;go_wp2_with fail;refine (HI.out _ (HB.out.trans ((Below.refl w.heap.size _).alloc HB.out.size _))).mono ?_;rintro e w1 ⟨rfl,hb1⟩;obtain ⟨x,hx⟩:∃x,bw kd=x:=⟨_,rfl⟩;rw[hx]at iK|-;have HX:=Lib.hid hx;have bH:=Lib.hid (show Below w.heap.size w w1 from HB.out.trans ((((Below.refl w.heap.size _).alloc HB.out.size _)).trans (hb1.mono (by have:=HB.out.size;simp;omega))))
     obtain ⟨y,hy⟩:∃y:Nat,y=min o x:=⟨_,rfl⟩;have DW:min (o:Int) (x:Int)=(y:Int):=by omega
     have HY:=Lib.hid hy;have hy3:y<=1024:=by omega
     clear hb1 hx bW hlk q0 q1 q2 q3 q4 hy;go_wp2_with fail;go_roundw
     case rel=>
      refine ⟨k+1,y,by omega,by go_num,by first | go_num | (simp;omega),by omega,?_,bH.out⟩
      have h4:=HY.out;have h1:=HO.out;have h2:=HD.out;have h3:=HX.out;exact (by omega:min y (dt (kids.drop (k+1)))=dt kids)
     case measure=>simp[intOf];omega
    .obtain rfl:k=kids.length:=by omega
     have bO:=HO.out;rw[List.drop_length,dt]at bO;have HF:=Lib.hid bO;have Df:bw (.mk 3 rs kids mn mx)=dt kids:=by rw[HL.out];simp
     have GY:=Lib.hid Df;clear Df bO;go_wp2_with fail;go_ret;exact ⟨aH (by have h2:=HF.out;rw[GY.out,<-h2];omega),hb⟩
  .obtain ⟨kd,rfl⟩:∃kd,kids=[kd]:=by
    match kids,gY with
    | [a],_=>exact ⟨a,rfl⟩
   obtain ⟨g,f,rfl,hg,cR⟩:=hk.resolve_left (by simp)
   obtain ⟨vs,hcv,bL⟩:=cR.at 0 (by simp)
   have bW:=aX (List.mem_singleton.2 rfl:kd∈[kd]);have kt:=aU Cz.out (List.mem_singleton.2 rfl:kd∈[kd]);have hlk:=HKL.out _ (List.mem_singleton.2 rfl:kd∈[kd])
   replace bL:bX w kd vs:=bL
   obtain ⟨B1,e1,B2,e2,rfl,-,-,-⟩:=bL.form;have hrow:=heap_alloc_new w (.cells #[.int .i64 4, .slice A1 rs.length c1, .slice (some ⟨g,f,none⟩) 1 c, .int .i64 mn, .int .i64 mx] 41);have hS:∀W,Below w.heap.size w W->W.heap[w.heap.size]?=some (.cells #[.int .i64 4, .slice A1 rs.length c1, .slice (some ⟨g,f,none⟩) 1 c, .int .i64 mn, .int .i64 mx] 41 (0,0))->
     (W.cell? ⟨w.heap.size,3,none⟩=some (.int .i64 mn)/\W.cell? ⟨w.heap.size,2,none⟩=some (.slice (some ⟨g,f,none⟩) 1 c))/\
     W.cell? ⟨g,f,none⟩=some (.int .i64 kd.op)/\W.cell? ⟨g,f+1,none⟩=some (.slice B1 kd.rs.length e1)/\W.cell? ⟨g,f+2,none⟩=some (.slice B2 kd.kids.length e2)/\W.cell? ⟨g,f+3,none⟩=some (.int .i64 kd.mn)/\W.cell? ⟨g,f+4,none⟩=some (.int .i64 kd.mx):=by
    intro W hW hr;have q:∀j,j<5->W.cell? ⟨g,f+j,none⟩=([.int .i64 kd.op, .slice B1 kd.rs.length e1, .slice B2 kd.kids.length e2, .int .i64 kd.mn, .int .i64 kd.mx]:List Value)[j]?:=λj hj=>(hW.cell (p:=⟨g,f+j,none⟩) hg).trans (by have:=hcv j hj;rw[Nat.zero_mul,Nat.add_zero]at this;exact this)
    refine ⟨⟨?_,?_⟩,q 0 (by omega),q 1 (by omega),q 2 (by omega),q 3 (by omega),q 4 (by omega)⟩
    .rw[cell_of_row _ _ _ _ _ _ hr];rfl
    .rw[cell_of_row _ _ _ _ _ _ hr];rfl
   have Eb:=Lib.hid hS;have jy:=λ(w':World) (hw:Below w.heap.size w w')=>ih kd _ w' (by have:=HM.out;omega) (by have:=Bk.out;omega) kt hlk (bL.later hw)
   have HI:=Lib.hid jy;have HB:=Lib.hid hb0;have HR:=Lib.hid hrow;obtain ⟨x,hx⟩:∃x,bw kd=x:=⟨_,rfl⟩;have iK:=nA kd kt hlk;rw[hx]at iK HI;have HX:=Lib.hid hx;have atQ:=TM.out rfl;obtain ⟨M,rfl⟩:=Int.eq_ofNat_of_zero_le (show 0<=mn by omega)
   obtain ⟨P,hP⟩:∃P:Nat,P=M*x:=⟨_,rfl⟩;have hP1:P<=64*1024:=by rw[hP];exact Nat.mul_le_mul (by omega) iK
   have Ub:(M:Int)*(x:Int)=(P:Int):=by rw[hP];simp
   have hP3:IntKind.i64.wrap ((M:Int)*(x:Int))=(P:Int):=by rw[Ub];exact IntWalk.i64_in _ (by omega)
   have HY:=Lib.hid hP;clear hS hcv bL cR jy hb0 hrow kt bW hx hP Ub hlk;have hz0:=Eb.out _ HB.out HR.out;have R7:=Eb.out _ HB.out.drew HR.out
   go_enter Tryz.func140,Tryz.ntmps140
   go_wp2_with fail
   go_region_held3 (λw'=>(w'.cell? ⟨w.heap.size,3,none⟩=some (.int .i64 (M:Int))/\w'.cell? ⟨w.heap.size,2,none⟩=some (.slice (some ⟨g,f,none⟩) 1 c))/\w'.cell? ⟨g,f,none⟩=some (.int .i64 kd.op)/\w'.cell? ⟨g,f+1,none⟩=some (.slice B1 kd.rs.length e1)/\w'.cell? ⟨g,f+2,none⟩=some (.slice B2 kd.kids.length e2)/\w'.cell? ⟨g,f+3,none⟩=some (.int .i64 kd.mn)/\w'.cell? ⟨g,f+4,none⟩=some (.int .i64 kd.mx))
    (first | exact hz0 | exact R7 | exact hz1 | go_keep)
    ((go_at_call 140;refine (HI.out _ HB.out.drew).mono ?_;rintro e w1 ⟨rfl,hb1⟩;have hz1:=Eb.out w1 (HB.out.drew.trans (hb1.mono (HB.out.drew).size)) ((hb1.block w.heap.size (by simp)).trans HR.out)))
   all_goals
    have HE:=Lib.hid (HB.out.drew.trans (hb1.mono (HB.out.drew).size));clear hz0 R7 hz1 hb1;go_wp2_with fail;go_ret;refine ⟨aH ?_,HE.out⟩;have h1:=HY.out;have h3:=HX.out;rw[HL.out,if_neg (by decide),if_neg (by decide),if_neg (by decide),Int.toNat_natCast,zS,h3,<-h1]
def bk (nd:Nd):Int:=if 200<aC nd then 3 else if 20<cC nd then 9 else if aE nd=false then 1 else if 1024<aN nd then 3 else 0
theorem kE {nd:Nd} (h:bk nd=0):aC nd<=200/\cC nd<=20/\aE nd=true/\aN nd<=1024:=by
 unfold bk at h;by_cases h1:200<aC nd
 .rw[if_pos h1]at h;cases h
 .rw[if_neg h1]at h;by_cases h2:20<cC nd
  .rw[if_pos h2]at h;cases h
  .rw[if_neg h2]at h
   cases h3:aE nd with
   | false=>rw[if_pos h3]at h;cases h
   | true=>
    rw[if_neg (by rw[h3];decide)]at h
    by_cases h4:1024<aN nd
    .rw[if_pos h4]at h;cases h
    .exact ⟨by omega,by omega,rfl,by omega⟩
set_option maxHeartbeats 2000000 in
theorem re (nd:Nd) (vs:List Value) (w:World) (hn:bX w nd vs):Calls Tryz.prog 91 #[.agg vs.toArray] w λe w'=>e = .returned (.int .i64 (bk nd))/\Below w.heap.size w w':=by
 have HN:=Lib.hid (λW (hW:Below w.heap.size w W)=>JY _ nd vs W (Nat.le_refl _) (hn.later hW));have HD:=Lib.hid (λW (hW:Below w.heap.size w W)=>JZ _ nd vs W 20 (by omega) (Nat.le_refl _) (hn.later hW))
 have HR:=Lib.hid (λW (hW:Below w.heap.size w W) (h:aC nd<=200)=>J6 _ nd vs W (Nat.le_refl _) (by omega) (hn.later hW))
 have HL:=Lib.hid (λW (hW:Below w.heap.size w W) (h:aC nd<=200) (hr:aE nd=true)=>rX _ nd vs W (Nat.le_refl _) h hr (hn.later hW));obtain ⟨A1,c1,A2,c2,rfl,hr,sV,hk⟩:=hn.form;have HB:=Lib.hid (show Below w.heap.size w (w.alloc (.cells #[.int .i64 nd.op, .slice A1 nd.rs.length c1, .slice A2 nd.kids.length c2, .int .i64 nd.mn, .int .i64 nd.mx] 41)) from (Below.refl _ _).alloc (Nat.le_refl _) _);have HX:=Lib.hid (heap_alloc_new w (.cells #[.int .i64 nd.op, .slice A1 nd.rs.length c1, .slice A2 nd.kids.length c2, .int .i64 nd.mn, .int .i64 nd.mx] 41));clear hr hk hn
 go_enter Tryz.func91,Tryz.ntmps91
 go_wp2_with fail;refine (HN.out _ HB.out).mono ?_;rintro e w1 ⟨rfl,hb1⟩;obtain ⟨x,hx⟩:∃x,min (aC nd) 201=x:=⟨_,rfl⟩;rw[hx];have lq:=Lib.hid (show Below w.heap.size w w1 from HB.out.trans (hb1.mono HB.out.size));have jB:=(hb1.block w.heap.size (by simp)).trans HX.out
 obtain ⟨b0,b1,b2,b3,b4⟩:=aJ jB;have Vo:=Lib.hid jB;clear jB hb1;by_cases h1:200<aC nd
 .have d1:decide (200<(x:Int))=true:=decide_eq_true (by omega)
  have HV:=Lib.hid (show (3:Int)=bk nd by unfold bk;rw[if_pos h1])
  clear h1 hx;go_wp2_with fail;go_ret;exact ⟨aH HV.out,lq.out⟩
 have d1:decide (200<(x:Int))=false:=decide_eq_false (by omega)
 have adI:=Lib.hid (show aC nd<=200 by omega)
 have T8:=Lib.hid (show bk nd=_ by unfold bk;rw[if_neg h1])
 clear h1 hx;go_wp2_with fail;refine (HD.out _ lq.out).mono ?_;rintro e w2 ⟨rfl,aL⟩;obtain ⟨x2,iK⟩:∃x2,min (cC nd) (20+1)=x2:=⟨_,rfl⟩;rw[iK];have wJ:=Lib.hid (show Below w.heap.size w w2 from lq.out.trans (aL.mono lq.out.size));have Xl:=(aL.block w.heap.size (Array.getElem?_eq_some_iff.1 Vo.out).1).trans Vo.out;clear b0 b1 b2 b3 b4;obtain ⟨b0,b1,b2,b3,b4⟩:=aJ Xl;have HX2:=Lib.hid Xl;clear Xl aL Vo;by_cases h2:20<cC nd
 .have d2:decide (20<(x2:Int))=true:=decide_eq_true (by omega)
  have HV:=Lib.hid (show (9:Int)=bk nd by rw[T8.out,if_pos h2])
  clear h2 iK;go_wp2_with fail;go_ret;exact ⟨aH HV.out,wJ.out⟩
 have d2:decide (20<(x2:Int))=false:=decide_eq_false (by omega)
 have HV2:=Lib.hid (show bk nd=_ by rw[T8.out,if_neg h2])
 clear h2 iK;go_wp2_with fail;refine (HR.out _ wJ.out adI.out).mono ?_;rintro e w3 ⟨rfl,dc⟩;have HW3:=Lib.hid (show Below w.heap.size w w3 from wJ.out.trans (dc.mono wJ.out.size));have ZV:=(dc.block w.heap.size (Array.getElem?_eq_some_iff.1 HX2.out).1).trans HX2.out;clear b0 b1 b2 b3 b4;obtain ⟨b0,b1,b2,b3,b4⟩:=aJ ZV;have HX3:=Lib.hid ZV;clear ZV dc HX2
 cases h3:aE nd with
 | false=>
  have HV:=Lib.hid (show (1:Int)=bk nd by rw[HV2.out,if_pos h3])
  clear h3;go_wp2_with fail;go_ret;exact ⟨aH HV.out,HW3.out⟩
 | true=>
  have HV3:=Lib.hid (show bk nd=_ by rw[HV2.out,if_neg (by rw[h3];decide)])
  have H3:=Lib.hid h3;clear h3;go_wp2_with fail;refine (HL.out _ HW3.out adI.out H3.out).mono ?_;rintro e w4 ⟨rfl,ox⟩;have XI:=Lib.hid (show Below w.heap.size w w4 from HW3.out.trans (ox.mono HW3.out.size));have hle:=qz nd;generalize aN nd=y at *;clear ox;by_cases h4:1024<y
  .have d4:decide (1024<(y:Int))=true:=decide_eq_true (by omega)
   have HV:=Lib.hid (show (3:Int)=bk nd by rw[HV3.out,if_pos h4])
   clear h4;go_wp2_with fail;go_ret;exact ⟨aH HV.out,XI.out⟩
  .have d4:decide (1024<(y:Int))=false:=decide_eq_false (by omega)
   have HV:=Lib.hid (show (0:Int)=bk nd by rw[HV3.out,if_neg h4])
   clear h4;go_wp2_with fail;go_ret;exact ⟨aH HV.out,XI.out⟩
def aki (nd:Nd):Nat:=if bk nd=0 then bw nd else 0
def ao5 (nd:Nd):Nat:=if bk nd=0 then aN nd else 0
end
section
set_option linter.unusedVariables false
set_option linter.unusedSimpArgs false
open Go.RowKit
theorem oB.rows {w:World} {v:Value} {rs:List (Nat×Nat)} (h:oB w v rs):jo 2 w v (rs.map λr=>[Value.int .u8 (r.1:Int),Value.int .u8 (r.2:Int)]):=by
 obtain ⟨A,c,rfl,hc,h⟩:=h;refine ⟨A,c,by simp,by simpa using hc,?_⟩
 rcases h with rfl | ⟨g,f,h1,h2,h3⟩
 .exact .inl rfl
 .refine .inr ⟨g,f,h1,h2,λi hi=>?_⟩;have hi':i<rs.length:=by simpa using hi
  obtain ⟨⟨q1,q2⟩,-,-⟩:=h3 i hi';refine ⟨by simp,λj hj=>?_⟩
  match j,hj with
  | 0,_=>rw[Nat.add_zero,q1];simp
  | 1,_=>rw[q2];simp
theorem JG (a b:Nat) (c:Int) (bx:Nat) (w:World) (hb:w.cell? ⟨bx,0,none⟩=some (.int .u8 c)) :
  Calls Tryz.prog 192 #[.agg #[.int .u8 (a:Int), .int .u8 (b:Int)], .pointer (some ⟨bx,0,none⟩)] w λe w'=>e = .returned (.bool (decide ((a:Int)<=c) && decide (c<=(b:Int))))/\Below w.heap.size w w':=by
 have dK:bx<w.heap.size:=by
  by_cases h:bx<w.heap.size
  .exact h
  .simp[World.cell?,Array.getElem?_eq_none (Nat.le_of_not_lt h)]at hb
 have hne:bx≠w.heap.size:=by omega
 have hB:Below w.heap.size w (w.alloc (.cells #[.int .u8 (a:Int), .int .u8 (b:Int)] 84)):=(Below.refl _ _).alloc (Nat.le_refl _) _;have aL:=(hB.cell (p:=⟨bx,0,none⟩) dK).trans hb;have HB:=Lib.hid hB;clear hB
 go_enter Tryz.func192,Tryz.ntmps192
 by_cases h1:(a:Int)<=c
 .have hd1:decide ((a:Int)<=c)=true:=decide_eq_true h1;rw[hd1];clear h1;go_wp2_with fail;go_ret;exact ⟨by rw[Bool.true_and];rfl,HB.out⟩
 .have hd1:decide ((a:Int)<=c)=false:=decide_eq_false h1;rw[hd1];clear h1;go_wp2_with fail;go_ret;exact ⟨rfl,HB.out⟩
theorem Nu (args:Array Value) (w:World):(callFunc 192 args).run Tryz.prog w = .ok (.enter 192 args) w:=by rfl
theorem Jv (v:Value) (rs:List (Nat×Nat)) (c:Nat) (w:World) (h:oB w v rs):Calls Tryz.prog 167 #[v, .int .u8 (c:Int)] w λe w'=>e = .returned (.bool (yR rs c))/\Below w.heap.size w w':=by
 have hB:Below w.heap.size w (w.alloc (.cells #[.int .u8 (c:Int)] 5)):=(Below.refl _ _).alloc (Nat.le_refl _) _;have hx:(w.alloc (.cells #[.int .u8 (c:Int)] 5)).cell? ⟨w.heap.size,0,none⟩=some (.int .u8 (c:Int)):=by rw[cell_of_row _ _ _ _ _ _ (heap_alloc_new w _)];rfl
 have lB:=(h.later hB).rows;have LJ:sj 192 #[.pointer (some ⟨w.heap.size,0,none⟩)] (rs.map λr=>[Value.int .u8 (r.1:Int),Value.int .u8 (r.2:Int)]) (rs.map λr=>decide (r.1<=c) && decide (c<=r.2)) (w.alloc (.cells #[.int .u8 (c:Int)] 5)):=by
  refine ⟨Nu,by simp,λi hi b hb w' hw'=>?_⟩
  have hi':i<rs.length:=by simpa using hi
  rw[List.getElem?_map,List.getElem?_eq_getElem hi']at hb;simp only[Option.map_some,Option.some.injEq]at hb;have h1:=JG rs[i].1 rs[i].2 (c:Int) w.heap.size w' ((hw'.cell (p:=⟨w.heap.size,0,none⟩) (by simp)).trans hx)
  rw[show (decide ((rs[i].1:Int)<=(c:Int)) && decide ((c:Int)<=(rs[i].2:Int)))=b by rw[<-hb]; congr 1 <;> simp]at h1
  simpa using h1
 have pM:bo (rs.map λr=>decide (r.1<=c) && decide (c<=r.2))=yR rs c:=eD _ rs;have HC:=Lib.hid (JH 192 #[.pointer (some ⟨w.heap.size,0,none⟩)] _ _ v _ lB LJ);rw[pM]at HC;have HB:=Lib.hid hB;obtain ⟨A,c',rfl,YR,-⟩:=h;clear LJ lB pM hB
 go_enter Tryz.func167,Tryz.ntmps167
 go_wp2_with fail;refine HC.out.mono ?_;rintro e w1 ⟨rfl,hb⟩;go_wp2_with fail;go_ret;exact ⟨rfl,HB.out.trans (hb.mono (by simp))⟩
end
end Go.Proofs.YtdmoogjddmdmbaaGreatDoor
