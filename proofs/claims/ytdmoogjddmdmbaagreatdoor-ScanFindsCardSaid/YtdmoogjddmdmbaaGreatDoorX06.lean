/- Walks. -/
import Derived.Test.YtdmoogjddmdmbaaGreatDoorX05
import Derived.Deep.RegionHeld3
import Derived.Deep.QuietTactic
import Derived.BigQuiet
import Derived.Test.YtdmoogjddmdmbaaGreatDoorX01
set_option maxRecDepth 100000
set_option maxHeartbeats 16000000
set_option linter.unusedVariables false
set_option linter.unusedSimpArgs false
namespace Go.Proofs.YtdmoogjddmdmbaaGreatDoor
open Go.RowKit
theorem kW:∀l:List Nd,l.length<=aV l
 | []=>ξ
 |k::r=>by cases k;rw[aV,au,List.length_cons];have:=kW r;omega
theorem Jy:∀(m:Nat) (nd:Nd) (vs:List Value) (w:World),au nd<=m->bT w nd vs->Calls Tryz.prog 118 #[.agg vs.toArray] w λe w'=>e=.returned (.int .i64 ((min (au nd) 201:Nat):Int))/\Below w.heap.size w w':=by
 intro m
 induction m with
 |zero=>intro nd vs w h;cases nd;rw[au]at h;omega
 |succ m ih=>
  rintro ⟨op,rs,kids,mn,mx⟩ vs w h hn;have HN:=Z hn;obtain ⟨v1,v2,rfl,hr,A,c,rfl,hc,hk⟩:=hn;obtain ⟨A1,c1,rfl,-,-⟩:=hr
  go_enter Tryz.func118,Tryz.ntmps118
  have hb0:Below w.heap.size w (w.alloc (.cells #[.int .i64 op,.slice A1 rs.length c1,.slice A kids.length c,.int .i64 mn,.int .i64 mx] 41)):=υ.alloc I _;have hT:au (.mk op rs kids mn mx)=1+aV kids:=by rw[au]
  rw[hT]at h;have aU:kids.length<=aV kids:=kW kids;have HT:=Z hT;have HM:=Z h;have Jz:kids.length<=9223372036854775807:=Y;clear hT h;go_wp2_with fail;go_loopw [3,9] (λov iv wr=>∃(k o:Nat),k<=kids.length/\iv=.int .i64 (k:Int)/\ov=.int .i64 (o:Int)/\o<=200/\Hid (o+aV (kids.drop k)=1+aV kids)/\Below w.heap.size w wr) (λ_ iv _=>kids.length - (intOf iv).toNat)
  case atStart=>exact ⟨0,1,Y,rfl,rfl,Y,rfl,hb0⟩
  case round=>
   obtain ⟨k,o,hkk,rfl,rfl,ho,HO,hb⟩:=hrel;by_cases hlt:k<kids.length
   .have hd:decide ((k:Int)<(kids.length:Int))=true:=τ;have cX:decide (k<kids.length)=true:=decide_eq_true hlt;obtain ⟨g,f,rfl,hg,bS⟩:=hk.resolve_left (by rintro rfl;simp at hlt)
    obtain ⟨vs,hcv,bc⟩:=bS.at k hlt;have aZ:=aF (List.getElem_mem hlt);have hdr:aV (kids.drop k)=au kids[k]+aV (kids.drop (k+1)):=by rw[List.drop_eq_getElem_cons hlt,aV]
    obtain ⟨kd,bK⟩:=ν (kids[k]);rw[bK]at bc aZ hdr;obtain ⟨B1,e1,B2,e2,rfl,-,-,-⟩:=bc.form;have q:∀j,j<5->wr.cell? ⟨g,f+k*5+j,none⟩=([.int .i64 kd.op,.slice B1 kd.rs.length e1,.slice B2 kd.kids.length e2,.int .i64 kd.mn,.int .i64 kd.mx]:List Value)[j]?:=λj hj=>(hb.cl g (f+k*5+j) hg).trans (hcv j hj);have q0:=q 0 Y;have q1:=q 1 Y;have q2:=q 2 Y;have q3:=q 3 Y;have q4:=q 4 Y;simp only[Nat.add_zero,List.getElem?_cons_zero,List.getElem?_cons_succ]at q0 q1 q2 q3 q4;have jk:=λ(w':World) (hw:Below w.heap.size w w')=>ih kd _ w' (by have:=HM.out;omega) (bc.later hw)
    have HI:=Z jk;have HB:=Z hb;have HD:=Z hdr;clear q hcv bc bK bS jk hb hdr hb0;go_wp2_with fail;refine (HI.out _ (HB.out.trans ((Below.refl w.heap.size _).alloc HB.out.size _))).mono ?_;rintro e w1 ⟨rfl,hb1⟩;obtain ⟨x,hx⟩:=ν (min (au kd) 201);rw[hx];have fZ:x<=201:=Y;have HX:=Z hx;have aX:=Z (show Below w.heap.size w w1 from HB.out.trans ((((Below.refl w.heap.size _).alloc HB.out.size _)).trans (hb1.mono (by have:=HB.out.size;simp;omega))))
    clear hb1 hx aZ q0 q1 q2 q3 q4;by_cases pX:200<o+x
    .have kc:decide (200<(o:Int)+(x:Int))=true:=τ;go_wp2_with fail;go_ret;refine ⟨aC ?_,aX.out⟩;have h1:=HO.out;have h2:=HD.out;have h3:=HX.out;rw[HT.out];omega
    .have kc:decide (200<(o:Int)+(x:Int))=false:=θ;go_wp2_with fail;go_roundw
     case rel=>
      refine ⟨k+1,o+x,Y,by go_num,by go_num,Y,?_,aX.out⟩
      have h1:=HO.out;have h2:=HD.out;have h3:=HX.out;exact (by omega:o+x+aV (kids.drop (k+1))=1+aV kids)
     case measure=>exact μ
   .obtain rfl:k=kids.length:=Y;go_wp2_with fail;go_ret;refine ⟨aC ?_,hb⟩;have h1:=HO.out;rw[List.drop_length,aV]at h1;rw[HT.out];omega
theorem JA:∀(m:Nat) (nd:Nd) (vs:List Value) (w:World) (left:Nat),left<=1000->au nd<=m->bT w nd vs->Calls Tryz.prog 119 #[.agg vs.toArray,.int .i64 (left:Int)] w λe w'=>e=.returned (.int .i64 ((min (bP nd) (left+1):Nat):Int))/\Below w.heap.size w w':=by
 intro m
 induction m with
 |zero=>intro nd vs w left _ h;cases nd;rw[au]at h;omega
 |succ m ih=>
  rintro ⟨op,rs,kids,mn,mx⟩ vs w left ao2 h hn;have HN:=Z hn;obtain ⟨v1,v2,rfl,hr,A,c,rfl,hc,hk⟩:=hn;obtain ⟨A1,c1,rfl,-,-⟩:=hr;have hb0:Below w.heap.size w (w.alloc (.cells #[.int .i64 op,.slice A1 rs.length c1,.slice A kids.length c,.int .i64 mn,.int .i64 mx] 41)):=υ.alloc I _;have hT:au (.mk op rs kids mn mx)=1+aV kids:=by rw[au]
  have hD:bP (.mk op rs kids mn mx)=1+bG kids:=by rw[bP]
  rw[hT]at h;have Jz:kids.length<=9223372036854775807:=Y;have HT:=Z hD;have HM:=Z h;clear hT h hD
  cases left with
  |zero=>
   go_enter Tryz.func119,Tryz.ntmps119
   go_wp2_with fail;go_ret;exact ⟨aC (by rw[HT.out];omega),hb0⟩
  |succ left=>
   obtain ⟨L,hL⟩:∃L:Int,L=((left+1:Nat):Int):=⟨_,rfl⟩;rw[<-hL];have Dp:(L == 0)=false:=ψ;have vO:L - 1=(left:Int):=Y;have Rk:1<=L/\L<=1000:=Y;clear hL
   go_enter Tryz.func119,Tryz.ntmps119
   go_wp2_with fail;go_loopw [5,13] (λov iv wr=>∃(k o:Nat),k<=kids.length/\iv=.int .i64 (k:Int)/\ov=.int .i64 (o:Int)/\o<=1001/\Hid (max o (min (bG (kids.drop k)) (left+1))=min (bG kids) (left+1))/\Below w.heap.size w wr) (λ_ iv _=>kids.length - (intOf iv).toNat)
   case atStart=>exact ⟨0,0,Y,rfl,rfl,Y,by show max 0 _=_;rw[List.drop_zero];omega,hb0⟩
   case round=>
    obtain ⟨k,o,hkk,rfl,rfl,ho,HO,hb⟩:=hrel;by_cases hlt:k<kids.length
    .have hd:decide ((k:Int)<(kids.length:Int))=true:=τ;have cX:decide (k<kids.length)=true:=decide_eq_true hlt;obtain ⟨g,f,rfl,hg,bS⟩:=hk.resolve_left (by rintro rfl;simp at hlt)
     obtain ⟨vs,hcv,bc⟩:=bS.at k hlt;have aZ:=aF (List.getElem_mem hlt);have hdr:bG (kids.drop k)=max (bP kids[k]) (bG (kids.drop (k+1))):=by rw[List.drop_eq_getElem_cons hlt,bG]
     obtain ⟨kd,bK⟩:=ν (kids[k]);rw[bK]at bc aZ hdr;obtain ⟨B1,e1,B2,e2,rfl,-,-,-⟩:=bc.form;have q:∀j,j<5->wr.cell? ⟨g,f+k*5+j,none⟩=([.int .i64 kd.op,.slice B1 kd.rs.length e1,.slice B2 kd.kids.length e2,.int .i64 kd.mn,.int .i64 kd.mx]:List Value)[j]?:=λj hj=>(hb.cl g (f+k*5+j) hg).trans (hcv j hj);have q0:=q 0 Y;have q1:=q 1 Y;have q2:=q 2 Y;have q3:=q 3 Y;have q4:=q 4 Y;simp only[Nat.add_zero,List.getElem?_cons_zero,List.getElem?_cons_succ]at q0 q1 q2 q3 q4;have jk:=λ(w':World) (hw:Below w.heap.size w w')=>ih kd _ w' left Y (by have:=HM.out;omega) (bc.later hw)
     have HI:=Z jk;have HB:=Z hb;have HD:=Z hdr;clear q hcv bc bK bS jk hb hdr hb0;go_wp2_with fail;refine (HI.out _ (HB.out.trans ((Below.refl w.heap.size _).alloc HB.out.size _))).mono ?_;rintro e w1 ⟨rfl,hb1⟩;obtain ⟨x,hx⟩:=ν (min (bP kd) (left+1));rw[hx];have fZ:x<=1001:=Y;have HX:=Z hx;have aX:=Z (show Below w.heap.size w w1 from HB.out.trans ((((Below.refl w.heap.size _).alloc HB.out.size _)).trans (hb1.mono (by have:=HB.out.size;simp;omega))))
     clear hb1 hx aZ q0 q1 q2 q3 q4;obtain ⟨y,hy⟩:∃y:Nat,y=max o x:=⟨_,rfl⟩;have AX:max (o:Int) (x:Int)=(y:Int):=Y;have HY:=Z hy;have hy3:y<=1001:=Y;clear hy;go_wp2_with fail;go_roundw
     case rel=>
      refine ⟨k+1,y,Y,by go_num,by first|go_num | (simp;omega),Y,?_,aX.out⟩
      have h1:=HO.out;have h2:=HD.out;have h3:=HX.out;have h4:=HY.out;exact (by omega:max y (min (bG (kids.drop (k+1))) (left+1))=min (bG kids) (left+1))
     case measure=>exact μ
    .obtain rfl:k=kids.length:=Y;go_wp2_with fail;go_ret;refine ⟨aC ?_,hb⟩;have h1:=HO.out;rw[List.drop_length,bG]at h1;rw[HT.out];omega
theorem dm{op:Int}{rs:List (Nat×Nat)}{kids:List Nd}{mn mx:Int}(h:aA (.mk op rs kids mn mx)=true):(op=1\/op=2\/op=3\/(op=4/\kids.length=1/\0<=mn/\1<=mx/\mx<=64))/\aO kids=true:=by
 rw[aA,Bool.and_eq_true]at h;refine ⟨?_,h.2⟩;have h1:=h.1
 dsimp only [cU]at h1
 by_cases e1:op=1
 .exact .inl e1
 .rw[if_neg e1]at h1;by_cases e2:op=2\/op=3
  .rcases e2 with e|e
   .exact .inr (.inl e)
   .exact .inr (.inr (.inl e))
  .rw[if_neg e2]at h1;by_cases e3:op=4
   .rw[if_pos e3]at h1;simp at h1;exact .inr (.inr (.inr ⟨e3,Y,Y,Y,Y⟩))
   .rw[if_neg e3]at h1;cases h1
theorem aM:∀{l:List Nd} {k:Nd},aO l=true->k∈l->aA k=true
 |a::r,k,h,hm=>by
  rw[aO,Bool.and_eq_true]at h;rcases List.mem_cons.1 hm with rfl|hm
  .exact h.1
  .exact aM h.2 hm
theorem eG(n:Nd):bj n<=1025:=by cases n;rw[bj];omega
theorem mD:∀(m:Nat) (nd:Nd) (vs:List Value) (w:World),au nd<=m->au nd<=200->aA nd=true->bT w nd vs->Calls Tryz.prog 92 #[.agg vs.toArray] w λe w'=>e=.returned (.int .i64 ((bj nd:Nat):Int))/\Below w.heap.size w w':=by
 intro m
 induction m with
 |zero=>intro nd vs w h;cases nd;rw[au]at h;omega
 |succ m ih=>
  rintro ⟨op,rs,kids,mn,mx⟩ vs w h kB hR hn;have HN:=Z hn;obtain ⟨v1,v2,rfl,hr,A,c,rfl,hc,hk⟩:=hn;obtain ⟨A1,c1,rfl,-,-⟩:=hr;have hb0:Below w.heap.size w (w.alloc (.cells #[.int .i64 op,.slice A1 rs.length c1,.slice A kids.length c,.int .i64 mn,.int .i64 mx] 41)):=υ.alloc I _;have hT:au (.mk op rs kids mn mx)=1+aV kids:=by rw[au]
  have hL:bj (.mk op rs kids mn mx)=min (if op=1 then 1 else if op=2 then cP kids else if op=3 then cW kids else mx.toNat*qq kids) 1025:=by rw[bj]
  rw[hT]at h kB;have aU:=kW kids;have Jz:kids.length<=200:=Y;obtain ⟨ke,uB⟩:=dm hR;have HL:=Z hL;have HM:=Z h;have z8:=Z kB;have sQ:=Z uB;clear hT h hL kB hR uB aU;rcases ke with rfl|rfl|rfl|⟨rfl,dS,Du,mo,zY⟩
  .go_enter Tryz.func92,Tryz.ntmps92
   go_wp2_with fail;go_ret;exact ⟨aC (by rw[HL.out];rfl),hb0⟩
  .go_enter Tryz.func92,Tryz.ntmps92
   go_wp2_with fail;go_loopw [3,25] (λov iv wr=>∃(k o:Nat),k<=kids.length/\iv=.int .i64 (k:Int)/\ov=.int .i64 (o:Int)/\o<=1025*k/\Hid (o+cP (kids.drop k)=cP kids)/\Below w.heap.size w wr) (λ_ iv _=>kids.length - (intOf iv).toNat)
   case atStart=>exact ⟨0,0,Y,rfl,rfl,Y,by show 0+_=_;rw[List.drop_zero,Nat.zero_add],hb0⟩
   case round=>
    obtain ⟨k,o,hkk,rfl,rfl,ho,HO,hb⟩:=hrel;by_cases hlt:k<kids.length
    .have hd:decide ((k:Int)<(kids.length:Int))=true:=τ;have cX:decide (k<kids.length)=true:=decide_eq_true hlt;obtain ⟨g,f,rfl,hg,bS⟩:=hk.resolve_left (by rintro rfl;simp at hlt)
     obtain ⟨vs,hcv,bc⟩:=bS.at k hlt;have aZ:=aF (List.getElem_mem hlt);have et:=aM sQ.out (List.getElem_mem hlt);have hdr:cP (kids.drop k)=bj kids[k]+cP (kids.drop (k+1)):=by rw[List.drop_eq_getElem_cons hlt,cP]
     obtain ⟨kd,bK⟩:=ν (kids[k]);rw[bK]at bc aZ hdr et;obtain ⟨B1,e1,B2,e2,rfl,-,-,-⟩:=bc.form;have q:∀j,j<5->wr.cell? ⟨g,f+k*5+j,none⟩=([.int .i64 kd.op,.slice B1 kd.rs.length e1,.slice B2 kd.kids.length e2,.int .i64 kd.mn,.int .i64 kd.mx]:List Value)[j]?:=λj hj=>(hb.cl g (f+k*5+j) hg).trans (hcv j hj);have q0:=q 0 Y;have q1:=q 1 Y;have q2:=q 2 Y;have q3:=q 3 Y;have q4:=q 4 Y;simp only[Nat.add_zero,List.getElem?_cons_zero,List.getElem?_cons_succ]at q0 q1 q2 q3 q4;have jk:=λ(w':World) (hw:Below w.heap.size w w')=>ih kd _ w' (by have:=HM.out;omega) (by have:=z8.out;omega) et (bc.later hw)
     have HI:=Z jk;have HB:=Z hb;have HD:=Z hdr;clear q hcv bc bK bS jk hb hdr hb0 et;go_wp2_with fail;refine (HI.out _ (HB.out.trans ((Below.refl w.heap.size _).alloc HB.out.size _))).mono ?_;rintro e w1 ⟨rfl,hb1⟩;obtain ⟨x,hx⟩:=ν (bj kd);have fZ:=eG kd;rw[hx]at fZ|-;have HX:=Z hx;have aX:=Z (show Below w.heap.size w w1 from HB.out.trans ((((Below.refl w.heap.size _).alloc HB.out.size _)).trans (hb1.mono (by have:=HB.out.size;simp;omega))))
     clear hb1 hx aZ q0 q1 q2 q3 q4;go_wp2_with fail;go_roundw
     case rel=>
      refine ⟨k+1,o+x,Y,by go_num,by go_num,Y,?_,aX.out⟩
      have h1:=HO.out;have h2:=HD.out;have h3:=HX.out;exact (by omega:o+x+cP (kids.drop (k+1))=cP kids)
     case measure=>exact μ
    .obtain rfl:k=kids.length:=Y;have bM:=HO.out;rw[List.drop_length,cP,Nat.add_zero]at bM;have HF:=Z bM;obtain ⟨y,hy⟩:∃y:Nat,y=min o 1025:=⟨_,rfl⟩;have AX:min (o:Int) 1025=(y:Int):=Y;have HY:=Z hy;clear bM hy;have Cz:bj (.mk 2 rs kids mn mx)=min (cP kids) 1025:=by rw[HL.out];simp
     have Gr:=Z Cz;clear Cz;go_wp2_with fail
     all_goals
      go_ret;refine ⟨aC ?_,hb⟩;have h1:=HY.out;have h2:=HF.out;rw[Gr.out,<-h2];omega
  .go_enter Tryz.func92,Tryz.ntmps92
   go_wp2_with fail;go_loopw [3,39] (λov iv wr=>∃(k o:Nat),k<=kids.length/\iv=.int .i64 (k:Int)/\ov=.int .i64 (o:Int)/\o<=1025/\Hid (max o (cW (kids.drop k))=cW kids)/\Below w.heap.size w wr) (λ_ iv _=>kids.length - (intOf iv).toNat)
   case atStart=>exact ⟨0,0,Y,rfl,rfl,Y,by show max 0 _=_;rw[List.drop_zero,Nat.zero_max],hb0⟩
   case round=>
    obtain ⟨k,o,hkk,rfl,rfl,ho,HO,hb⟩:=hrel;by_cases hlt:k<kids.length
    .have hd:decide ((k:Int)<(kids.length:Int))=true:=τ;have cX:decide (k<kids.length)=true:=decide_eq_true hlt;obtain ⟨g,f,rfl,hg,bS⟩:=hk.resolve_left (by rintro rfl;simp at hlt)
     obtain ⟨vs,hcv,bc⟩:=bS.at k hlt;have aZ:=aF (List.getElem_mem hlt);have et:=aM sQ.out (List.getElem_mem hlt);have hdr:cW (kids.drop k)=max (bj kids[k]) (cW (kids.drop (k+1))):=by rw[List.drop_eq_getElem_cons hlt,cW]
     obtain ⟨kd,bK⟩:=ν (kids[k]);rw[bK]at bc aZ hdr et;obtain ⟨B1,e1,B2,e2,rfl,-,-,-⟩:=bc.form;have q:∀j,j<5->wr.cell? ⟨g,f+k*5+j,none⟩=([.int .i64 kd.op,.slice B1 kd.rs.length e1,.slice B2 kd.kids.length e2,.int .i64 kd.mn,.int .i64 kd.mx]:List Value)[j]?:=λj hj=>(hb.cl g (f+k*5+j) hg).trans (hcv j hj);have q0:=q 0 Y;have q1:=q 1 Y;have q2:=q 2 Y;have q3:=q 3 Y;have q4:=q 4 Y;simp only[Nat.add_zero,List.getElem?_cons_zero,List.getElem?_cons_succ]at q0 q1 q2 q3 q4;have jk:=λ(w':World) (hw:Below w.heap.size w w')=>ih kd _ w' (by have:=HM.out;omega) (by have:=z8.out;omega) et (bc.later hw)
     have HI:=Z jk;have HB:=Z hb;have HD:=Z hdr;clear q hcv bc bK bS jk hb hdr hb0 et;go_wp2_with fail;refine (HI.out _ (HB.out.trans ((Below.refl w.heap.size _).alloc HB.out.size _))).mono ?_;rintro e w1 ⟨rfl,hb1⟩;obtain ⟨x,hx⟩:=ν (bj kd);have fZ:=eG kd;rw[hx]at fZ|-;have HX:=Z hx;have aX:=Z (show Below w.heap.size w w1 from HB.out.trans ((((Below.refl w.heap.size _).alloc HB.out.size _)).trans (hb1.mono (by have:=HB.out.size;simp;omega))))
     obtain ⟨y,hy⟩:∃y:Nat,y=max o x:=⟨_,rfl⟩;have AX:max (o:Int) (x:Int)=(y:Int):=Y;have HY:=Z hy;have hy3:y<=1025:=Y;clear hb1 hx aZ q0 q1 q2 q3 q4 hy;go_wp2_with fail;go_roundw
     case rel=>
      refine ⟨k+1,y,Y,by go_num,by first|go_num | (simp;omega),Y,?_,aX.out⟩
      have h4:=HY.out;have h1:=HO.out;have h2:=HD.out;have h3:=HX.out;exact (by omega:max y (cW (kids.drop (k+1)))=cW kids)
     case measure=>exact μ
    .obtain rfl:k=kids.length:=Y;have bM:=HO.out;rw[List.drop_length,cW,Nat.max_zero]at bM;have HF:=Z bM;obtain ⟨y,hy⟩:∃y:Nat,y=min o 1025:=⟨_,rfl⟩;have AX:min (o:Int) 1025=(y:Int):=Y;have HY:=Z hy;clear bM hy;have Cz:bj (.mk 3 rs kids mn mx)=min (cW kids) 1025:=by rw[HL.out];simp
     have Gr:=Z Cz;clear Cz;go_wp2_with fail
     all_goals
      go_ret;refine ⟨aC ?_,hb⟩;have h1:=HY.out;have h2:=HF.out;rw[Gr.out,<-h2];omega
  .obtain ⟨kd,rfl⟩:∃kd,kids=[kd]:=by
    match kids,dS with
    | [a],_=>exact ⟨a,rfl⟩
   obtain ⟨g,f,rfl,hg,bS⟩:=hk.resolve_left ξ;obtain ⟨vs,hcv,bc⟩:=bS.at 0 ξ;have aZ:=aF (List.mem_singleton.2 rfl:kd∈[kd]);have et:=aM sQ.out (List.mem_singleton.2 rfl:kd∈[kd])
   replace bc:bT w kd vs:=bc
   obtain ⟨B1,e1,B2,e2,rfl,-,-,-⟩:=bc.form;have hrow:=heap_alloc_new w (.cells #[.int .i64 4,.slice A1 rs.length c1,.slice (some ⟨g,f,none⟩) 1 c,.int .i64 mn,.int .i64 mx] 41);have hS:∀W,Below w.heap.size w W->W.heap[w.heap.size]?=some (.cells #[.int .i64 4,.slice A1 rs.length c1,.slice (some ⟨g,f,none⟩) 1 c,.int .i64 mn,.int .i64 mx] 41 (0,0))->
     (W.cell? ⟨w.heap.size,4,none⟩=some (.int .i64 mx)/\W.cell? ⟨w.heap.size,2,none⟩=some (.slice (some ⟨g,f,none⟩) 1 c))/\
     W.cell? ⟨g,f,none⟩=some (.int .i64 kd.op)/\W.cell? ⟨g,f+1,none⟩=some (.slice B1 kd.rs.length e1)/\W.cell? ⟨g,f+2,none⟩=some (.slice B2 kd.kids.length e2)/\W.cell? ⟨g,f+3,none⟩=some (.int .i64 kd.mn)/\W.cell? ⟨g,f+4,none⟩=some (.int .i64 kd.mx):=by
    intro W hW hr;have q:∀j,j<5->W.cell? ⟨g,f+j,none⟩=([.int .i64 kd.op,.slice B1 kd.rs.length e1,.slice B2 kd.kids.length e2,.int .i64 kd.mn,.int .i64 kd.mx]:List Value)[j]?:=λj hj=>(hW.cl g (f+j) hg).trans (by have:=hcv j hj;rw[Nat.zero_mul,Nat.add_zero]at this;exact this)
    refine ⟨⟨?_,?_⟩,q 0 Y,q 1 Y,q 2 Y,q 3 Y,q 4 Y⟩
    .rw[cell_of_row _ _ _ _ _ _ hr];rfl
    .rw[cell_of_row _ _ _ _ _ _ hr];rfl
   have Dv:=Z hS;have jk:=λ(w':World) (hw:Below w.heap.size w w')=>ih kd _ w' (by have:=HM.out;omega) (by have:=z8.out;omega) et (bc.later hw)
   have HI:=Z jk;have HB:=Z hb0;have HR:=Z hrow;obtain ⟨x,hx⟩:=ν (bj kd);have fZ:=eG kd;rw[hx]at fZ HI;have HX:=Z hx;obtain ⟨M,rfl⟩:=Int.eq_ofNat_of_zero_le (show 0<=mx by omega)
   obtain ⟨P,hP⟩:∃P:Nat,P=M*x:=⟨_,rfl⟩;have hP1:P<=64*1025:=by rw[hP];exact Nat.mul_le_mul Y fZ
   have RT:(M:Int)*(x:Int)=(P:Int):=by rw[hP];simp
   have hP3:IntKind.i64.wrap ((M:Int)*(x:Int))=(P:Int):=by rw[RT];exact IntWalk.i64_in _ Y
   obtain ⟨y,hy⟩:∃y:Nat,y=min P 1025:=⟨_,rfl⟩;have AX:min (P:Int) 1025=(y:Int):=Y;have HY:=Z (H hP hy);clear hS hcv bc bS jk hb0 hrow et aZ hx hP hy RT;have hz0:=Dv.out _ HB.out HR.out;have RU:=Dv.out _ HB.out.drew HR.out
   go_enter Tryz.func92,Tryz.ntmps92
   go_wp2_with fail;go_region_held3 (λw'=>(w'.cell? ⟨w.heap.size,4,none⟩=some (.int .i64 (M:Int))/\w'.cell? ⟨w.heap.size,2,none⟩=some (.slice (some ⟨g,f,none⟩) 1 c))/\w'.cell? ⟨g,f,none⟩=some (.int .i64 kd.op)/\w'.cell? ⟨g,f+1,none⟩=some (.slice B1 kd.rs.length e1)/\w'.cell? ⟨g,f+2,none⟩=some (.slice B2 kd.kids.length e2)/\w'.cell? ⟨g,f+3,none⟩=some (.int .i64 kd.mn)/\w'.cell? ⟨g,f+4,none⟩=some (.int .i64 kd.mx))
    (first|exact hz0|exact RU|exact hz1|go_keep)
    ((go_at_call 92;refine (HI.out _ HB.out.drew).mono ?_;rintro e w1 ⟨rfl,hb1⟩;have hz1:=Dv.out w1 (HB.out.drew.trans (hb1.mono (HB.out.drew).size)) ((hb1.block w.heap.size ξ).trans HR.out)))
   all_goals
    have HE:=Z (HB.out.drew.trans (hb1.mono (HB.out.drew).size));clear hz0 RU hz1 hb1;go_wp2_with fail
    all_goals
     go_ret;refine ⟨aC ?_,HE.out⟩;have h1:=HY.out.1;have h2:=HY.out.2;have h3:=HX.out;rw[HL.out,if_neg O,if_neg O,if_neg O,Int.toNat_natCast,qq,h3,<-h1];omega
theorem aw{w:World}{b:Nat}{T:TypeId}{a0 a1 a2 a3 a4:Value}(h:w.heap[b]?=some (.cells #[a0,a1,a2,a3,a4] T (0,0))):
  w.cell? ⟨b,0,none⟩=some a0/\w.cell? ⟨b,1,none⟩=some a1/\w.cell? ⟨b,2,none⟩=some a2/\w.cell? ⟨b,3,none⟩=some a3/\w.cell? ⟨b,4,none⟩=some a4:=by
 refine ⟨?_,?_,?_,?_,?_⟩ <;> (rw[cell_of_row _ _ _ _ _ _ h]; rfl)
def zt(rs:List (Nat×Nat))(nk:Nat)(mn mx:Int):Bool:=dU rs && (!rs.isEmpty && (decide (nk=0) && (decide (mn=0) && decide (mx=0))))
def sA(rs:List (Nat×Nat))(k:Nat):Bool:=match k with
 |0=>dU rs
 |k+1=>dU (rs.drop k)
theorem CA{a:Nat×Nat}{r:List (Nat×Nat)}(h:a.2<a.1):dU (a::r)=false:=by
 cases r with
 |nil=>simp[dU];omega
 |cons c r=>simp[dU];omega
theorem kX{rs:List (Nat×Nat)}{k:Nat}(hk:k<rs.length)(h:rs[k].1<=rs[k].2)(h2:∀(h0:0<k),(rs[k - 1]'Y).1<=(rs[k - 1]'Y).2/\(rs[k - 1]'Y).2+2<=rs[k].1):sA rs (k+1)=sA rs k:=by
 cases k with
 |zero=>simp[sA]
 |succ k=>
  obtain ⟨q1,q2⟩:=h2 Y;simp only[Nat.add_sub_cancel]at q1 q2;show dU (rs.drop (k+1))=dU (rs.drop k);rw[show rs.drop k=rs[k]::rs[k+1]::rs.drop (k+2) from by rw[List.drop_eq_getElem_cons Y,List.drop_eq_getElem_cons hk],show rs.drop (k+1)=rs[k+1]::rs.drop (k+2) from List.drop_eq_getElem_cons hk]
  rw[dU];simp[q1,q2]
theorem nC{rs:List (Nat×Nat)}{k:Nat}(hk:k<rs.length)(h:rs[k].2<rs[k].1\/∃(h0:0<k),rs[k].1<=(rs[k - 1]'Y).2+1):sA rs k=false:=by
 cases k with
 |zero=>
  rcases h with h|⟨h0,-⟩
  .unfold sA;rw[show rs=rs[0]::rs.drop 1 from by conv=>lhs;rw[<-List.drop_zero (l:=rs)];rw[List.drop_eq_getElem_cons hk]]
   exact CA h
  .omega
 |succ k=>
  show dU (rs.drop k)=false;rw[show rs.drop k=rs[k]::rs[k+1]::rs.drop (k+2) from by rw[List.drop_eq_getElem_cons Y,List.drop_eq_getElem_cons hk]]
  rw[dU];rcases h with h|⟨h0,h⟩
  .rw[CA h];simp
  .simp only[Nat.add_sub_cancel]at h;rw[decide_eq_false (show ¬rs[k].2+2<=rs[k+1].1 by omega)];simp
theorem xZ{rs:List (Nat×Nat)}(h:∀(h0:0<rs.length),∃h,(rs[rs.length - 1]'h).1<=(rs[rs.length - 1]'h).2):sA rs rs.length=true:=by
 cases hl:rs.length with
 |zero=>rw[List.length_eq_zero_iff.1 hl];rfl
 |succ n=>
  obtain ⟨h1,h2⟩:=h Y;show dU (rs.drop n)=true;have hn:n<rs.length:=Y;rw[List.drop_eq_getElem_cons hn,List.drop_of_length_le Y];simp only[hl,Nat.add_sub_cancel]at h2;simp[dU,h2]
theorem RV(nd:Nd)(vs:List Value)(w:World)(kB:au nd<=1000000)(hn:bT w nd vs):Calls Tryz.prog 145 #[.agg vs.toArray] w λe w'=>e=.returned (.bool (zt nd.rs nd.kids.length nd.mn nd.mx))/\Below w.heap.size w w':=by
 obtain ⟨A1,c1,A2,c2,rfl,hr,qD,-⟩:=hn.form;have hb0:Below w.heap.size w (w.alloc (.cells #[.int .i64 nd.op,.slice A1 nd.rs.length c1,.slice A2 nd.kids.length c2,.int .i64 nd.mn,.int .i64 nd.mx] 41)):=υ.alloc I _;have CB:=heap_alloc_new w (.cells #[.int .i64 nd.op,.slice A1 nd.rs.length c1,.slice A2 nd.kids.length c2,.int .i64 nd.mn,.int .i64 nd.mx] 41);clear hn;have Tk:=Z CB;clear CB
 go_enter Tryz.func145,Tryz.ntmps145
 go_wp2_with fail;obtain ⟨A1',c1',hv,lY,hcell⟩:=hr;injection hv with e1 e2 e3;subst e1 e3;go_loopw [8] (λiv wr=>∃k:Nat,k<=nd.rs.length/\iv=.int .i64 (k:Int)/\Hid (sA nd.rs k=dU nd.rs)/\(∀(h0:0<k),Hid (∃h,(nd.rs[k - 1]'h).1<=(nd.rs[k - 1]'h).2))/\Hid (wr.heap[w.heap.size]?=some (.cells #[.int .i64 nd.op,.slice A1 nd.rs.length c1,.slice A2 nd.kids.length c2,.int .i64 nd.mn,.int .i64 nd.mx] 41 (0,0)))/\Below w.heap.size w wr) (λiv _=>nd.rs.length - (intOf iv).toNat)
 case atStart=>exact ⟨0,Y,rfl,rfl,λh=>Y,Tk,hb0⟩
 case round=>
  obtain ⟨k,hk,rfl,HR,HP,HX,hb⟩:=hrel;by_cases hlt:k<nd.rs.length
  .have hd:decide ((k:Int)<(nd.rs.length:Int))=true:=τ;have cX:decide (k<nd.rs.length)=true:=decide_eq_true hlt;obtain ⟨g,f,rfl,hg,hrow⟩:=hcell.resolve_left (by intro e;rw[e]at hlt;simp at hlt)
   obtain ⟨⟨c0,c1'⟩,hb1,aJ⟩:=hrow k hlt;have q0:=(hb.cl g (f+k*2) hg).trans c0;have q1:=(hb.cl g (f+k*2+1) hg).trans c1';obtain ⟨lo,dy⟩:∃lo:Int,lo=((nd.rs[k].1:Nat):Int):=⟨_,rfl⟩;obtain ⟨hi,uL⟩:∃hi:Int,hi=((nd.rs[k].2:Nat):Int):=⟨_,rfl⟩;rw[<-dy]at q0;rw[<-uL]at q1;have zZ:=Z dy;have HHI:=Z uL;have atG:0<=lo/\lo<256:=Y;have atH:0<=hi/\hi<256:=Y;clear dy uL c0 c1';by_cases NG:hi<lo
   .have d1:decide (hi<lo)=true:=decide_eq_true NG;go_wp2_with fail;have sf:=heap_alloc_new wr (.cells #[.int .u8 lo,.int .u8 hi] 84);have aY:=(Below.refl wr wr).alloc I (.cells #[.int .u8 lo,.int .u8 hi] 84);generalize wr.alloc (.cells #[.int .u8 lo,.int .u8 hi] 84)=W1 at *;have x0:W1.cell? ⟨wr.heap.size,0,none⟩=some (.int .u8 lo):=by rw[cell_of_row _ _ _ _ _ _ sf];rfl
    have x1:W1.cell? ⟨wr.heap.size,1,none⟩=some (.int .u8 hi):=by rw[cell_of_row _ _ _ _ _ _ sf];rfl
    have HW:=Z (H sf aY);clear sf aY
    go_quiet (fail)
    go_wp2_with fail;go_ret;refine ⟨ae ?_,below_drewN (hb.trans (HW.out.2.mono hb.size)) _⟩;have h1:=HR.out;rw[nC hlt (.inl (by have:=zZ.out;have:=HHI.out;omega))]at h1
    unfold zt;rw[<-h1];rfl
   .have d1:decide (hi<lo)=false:=decide_eq_false NG;by_cases hZ:k=0
    .have d2:decide (0<(k:Int))=false:=θ;have Vg:decide (0<k)=false:=θ;have I5:=Z hZ;clear hZ;go_wp2_with fail;have sf:=heap_alloc_new wr (.cells #[.int .u8 lo,.int .u8 hi] 84);have aY:=(Below.refl wr wr).alloc I (.cells #[.int .u8 lo,.int .u8 hi] 84);generalize wr.alloc (.cells #[.int .u8 lo,.int .u8 hi] 84)=W1 at *;have x0:W1.cell? ⟨wr.heap.size,0,none⟩=some (.int .u8 lo):=by rw[cell_of_row _ _ _ _ _ _ sf];rfl
     have x1:W1.cell? ⟨wr.heap.size,1,none⟩=some (.int .u8 hi):=by rw[cell_of_row _ _ _ _ _ _ sf];rfl
     have HW:=Z (H sf aY);clear sf aY
     go_quiet (fail)
     go_wp2_with fail;go_roundw
     case rel=>
      refine ⟨k+1,Y,by go_num,?_,λh0=>⟨by simpa using hlt,by simp only[Nat.add_sub_cancel];have:=zZ.out;have:=HHI.out;omega⟩,(HW.out.2.block _ (γ HX.out).1).trans HX.out,below_drewN (hb.trans (HW.out.2.mono hb.size)) _⟩
      have h1:=HR.out;have h2:=kX hlt (by have:=zZ.out;have:=HHI.out;omega) (λh0=>by have:=I5.out;omega)
      exact h2.trans h1
     case measure=>exact μ
    .have d2:decide (0<(k:Int))=true:=τ;have Vg:decide (0<k)=true:=τ;obtain ⟨⟨-,YP⟩,-,xL⟩:=hrow (k - 1) Y;have p1:=(hb.cl g (f+(k - 1)*2+1) hg).trans YP;obtain ⟨ph,XB⟩:∃ph:Int,ph=((nd.rs[k - 1].2:Nat):Int):=⟨_,rfl⟩;rw[<-XB]at p1;have atI:0<=ph/\ph<256:=Y;have hw1:IntKind.i64.wrap ((k:Int) - 1)=(k:Int) - 1:=IntWalk.i64_in _ Y;have ew:((k:Int) - 1).toNat=k - 1:=Y;have yD:0<=(k:Int) - 1:=Y;have Pv:(k:Int) - 1<nd.rs.length:=Y;have hw5:IntKind.i64.wrap (ph+1)=ph+1:=IntWalk.i64_in _ Y;have Ug:=Z XB;clear XB YP;by_cases fS:lo<=ph+1
     .have d3:decide (lo<=ph+1)=true:=decide_eq_true fS;go_wp2_with fail;have sf:=heap_alloc_new wr (.cells #[.int .u8 lo,.int .u8 hi] 84);have aY:=(Below.refl wr wr).alloc I (.cells #[.int .u8 lo,.int .u8 hi] 84);have y1:=(aY.cl g (f+(k - 1)*2+1) (Nat.lt_of_lt_of_le hg hb.size)).trans p1;have qK:=(aY.block _ (γ HX.out).1).trans HX.out;generalize wr.alloc (.cells #[.int .u8 lo,.int .u8 hi] 84)=W1 at *;have x0:W1.cell? ⟨wr.heap.size,0,none⟩=some (.int .u8 lo):=by rw[cell_of_row _ _ _ _ _ _ sf];rfl
      have x1:W1.cell? ⟨wr.heap.size,1,none⟩=some (.int .u8 hi):=by rw[cell_of_row _ _ _ _ _ _ sf];rfl
      have x2:W1.cell? ⟨w.heap.size,1,none⟩=some (.slice (some ⟨g,f,none⟩) nd.rs.length c1):=by rw[cell_of_row _ _ _ _ _ _ qK];rfl
      have HW:=Z (H sf (H aY qK));clear sf aY qK
      go_quiet (fail)
      go_wp2_with fail;go_ret;refine ⟨ae ?_,below_drewN (hb.trans (HW.out.2.1.mono hb.size)) _⟩;have h1:=HR.out;rw[nC hlt (.inr ⟨Y,by have:=zZ.out;have:=Ug.out;omega⟩)]at h1
      unfold zt;rw[<-h1];rfl
     .have d3:decide (lo<=ph+1)=false:=decide_eq_false fS;go_wp2_with fail;have sf:=heap_alloc_new wr (.cells #[.int .u8 lo,.int .u8 hi] 84);have aY:=(Below.refl wr wr).alloc I (.cells #[.int .u8 lo,.int .u8 hi] 84);have y1:=(aY.cl g (f+(k - 1)*2+1) (Nat.lt_of_lt_of_le hg hb.size)).trans p1;have qK:=(aY.block _ (γ HX.out).1).trans HX.out;generalize wr.alloc (.cells #[.int .u8 lo,.int .u8 hi] 84)=W1 at *;have x0:W1.cell? ⟨wr.heap.size,0,none⟩=some (.int .u8 lo):=by rw[cell_of_row _ _ _ _ _ _ sf];rfl
      have x1:W1.cell? ⟨wr.heap.size,1,none⟩=some (.int .u8 hi):=by rw[cell_of_row _ _ _ _ _ _ sf];rfl
      have x2:W1.cell? ⟨w.heap.size,1,none⟩=some (.slice (some ⟨g,f,none⟩) nd.rs.length c1):=by rw[cell_of_row _ _ _ _ _ _ qK];rfl
      have HW:=Z (H sf (H aY qK));clear sf aY qK
      go_quiet (fail)
      go_wp2_with fail;go_roundw
      case rel=>
       refine ⟨k+1,Y,by go_num,?_,λh0=>⟨by simpa using hlt,by simp only[Nat.add_sub_cancel];have:=zZ.out;have:=HHI.out;omega⟩,HW.out.2.2,below_drewN (hb.trans (HW.out.2.1.mono hb.size)) _⟩
       have h1:=HR.out;obtain ⟨hh,hle⟩:=(HP Y).out;have h2:=kX hlt (by have:=zZ.out;have:=HHI.out;omega) (λh0=>⟨hle,by have:=zZ.out;have:=Ug.out;omega⟩)
       exact h2.trans h1
      case measure=>exact μ
  .obtain rfl:k=nd.rs.length:=Y;obtain ⟨b0,b1,b2,b3,b4⟩:=aw HX.out;go_wp2_with fail
   all_goals
    go_ret;refine ⟨ae ?_,hb⟩;have hR:dU nd.rs=true:=HR.out.symm.trans (xZ λh0=>(HP h0).out)
    first
     | (have h1:0<nd.rs.length:=by assumption
        have h2:¬nd.rs=[]:=by rintro h;rw[h]at h1;simp at h1
        have h3:nd.rs.isEmpty=false:=by simpa using h2
        first | (simp[zt,hR,h3, *];done) | (simp[zt,hR,h3, *];rfl))
     | (have h1:¬0<nd.rs.length:=by assumption
        have h2:nd.rs=[]:=List.length_eq_zero_iff.1 Y;simp[zt,h2])
def je(sz:Nat)(w:World)(v:Value)(rows:List (List Value)):Prop:=∃A c,v=.slice A rows.length c/\(rows.length<=c/\c<=9223372036854775807)/\(rows=[]\/∃g f,A=some ⟨g,f,none⟩/\g<w.heap.size/\
 ∀i (h:i<rows.length),rows[i].length=sz/\∀j,j<sz->w.cell? ⟨g,f+i*sz+j,none⟩=rows[i][j]?)
theorem je.later{sz:Nat}{w w':World}{v:Value}{rows:List (List Value)}(h:je sz w v rows)(hb:Below w.heap.size w w'):je sz w' v rows:=by
 obtain ⟨A,c,e,hc,h⟩:=h;refine ⟨A,c,e,hc,h.imp id ?_⟩;rintro ⟨g,f,h1,h2,h3⟩;refine ⟨g,f,h1,Nat.lt_of_lt_of_le h2 hb.size,λi hi=>⟨(h3 i hi).1,λj hj=>?_⟩⟩;exact (hb.cl g (f+i*sz+j) h2).trans ((h3 i hi).2 j hj)
def sG(gi:Nat)(cV:Array Value)(rows:List (List Value))(ps:List Bool)(w:World):Prop:=(∀args w',(callFunc gi args).run Tryz.prog w'=.ok (.enter gi args) w')/\ps.length=rows.length/\
 ∀i (h:i<rows.length) (b:Bool),ps[i]?=some b->∀w',Below w.heap.size w w'->Calls Tryz.prog gi (#[.agg rows[i].toArray]++cV) w' λe w''=>e=.returned (.bool b)/\Below w'.heap.size w' w''
def jI:List Bool->Nat
 | []=>0
 |b::r=>if b=true then 0 else jI r+1
def bR:List Bool->Bool
 | []=>false
 | b::r=>b || bR r
def oB(ps:List Bool):Int:=if bR ps=true then (jI ps:Int) else -1
theorem uV(ps:List Bool):decide (0<=oB ps)=bR ps:=by
 unfold oB
 cases h:bR ps
 .rfl
 .rw[if_pos rfl];exact τ
theorem fg{α:Type}(f:α->Bool):∀l:List α,bR (l.map f)=l.any f
 | []=>rfl
 |a::r=>by simp[bR,fg f r]
theorem ajK{l:List Value}(h:l.length=5):∃x0 x1 x2 x3 x4,l=[x0,x1,x2,x3,x4]:=by
 match l,h with
 | [x0,x1,x2,x3,x4],_=>exact ⟨x0,x1,x2,x3,x4,rfl⟩
theorem Wy(gi:Nat)(cV:Array Value)(rows:List (List Value))(ps:List Bool)(v:Value)(w:World)(h:je 5 w v rows)(ha:sG gi cV rows ps w):
  Calls Tryz.prog 176 #[v,.func (.func gi) #[] cV] w λe w'=>e=.returned (.int .i64 (oB ps))/\Below w.heap.size w w':=by
 obtain ⟨A,c,rfl,hc,hcell⟩:=h;obtain ⟨ei,hlen,hp⟩:=ha;have HL:=Z hlen;have hmx:rows.length<=9223372036854775807:=Y;have HC:=Z hcell;have HP:=Z hp;clear hcell hp hlen
 go_enter Tryz.func176,Tryz.ntmps176
 go_wp2
 go_loopw [8] (λv wr=>∃k:Nat,k<=rows.length/\v=.int .i64 (k:Int)/\Below w.heap.size w wr/\Hid (bR (ps.drop k)=bR ps/\jI (ps.drop k)+k=jI ps)) (λv _=>rows.length - (intOf v).toNat)
 case atStart=>exact ⟨0,Y,rfl,υ,rfl,rfl⟩
 case round=>
  obtain ⟨k,hk,rfl,aT,HR⟩:=hrel;by_cases hlt:k<rows.length
  .have hd:decide ((k:Int)<(rows.length:Int))=true:=τ;have cX:decide (k<rows.length)=true:=decide_eq_true hlt;obtain ⟨g,ff,rfl,hg,hcs⟩:=HC.out.resolve_left (by intro e;rw[e]at hlt;simp at hlt)
   have tY:k<ps.length:=by have:=HL.out;omega
   have qf:=Z (show bR (ps[k]::ps.drop (k+1))=bR ps/\jI (ps[k]::ps.drop (k+1))+k=jI ps by rw[<-List.drop_eq_getElem_cons tY];exact HR.out)
   have axJ:=λw'=>HP.out k hlt ps[k] (List.getElem?_eq_getElem tY) w';obtain ⟨T4,zS⟩:=hcs k hlt;obtain ⟨x0,x1,x2,x3,x4,hrow⟩:=ajK T4;rw[hrow]at zS axJ;have q:∀j,j<5->wr.cell? ⟨g,ff+k*5+j,none⟩=([x0,x1,x2,x3,x4]:List Value)[j]?:=λj hj=>(aT.cl g (ff+k*5+j) hg).trans (zS j hj);have q0:=q 0 Y;have q1:=q 1 Y;have q2:=q 2 Y;have q3:=q 3 Y;have q4:=q 4 Y;simp only[Nat.add_zero,List.getElem?_cons_zero,List.getElem?_cons_succ]at q0 q1 q2 q3 q4;clear q hcs zS hrow T4;have aY:Below w.heap.size w wr:=aT;have HI:=Z axJ;clear axJ;obtain ⟨pb,xL⟩:=ν (ps[k]);rw[xL]at HI qf;clear xL tY;have b8:=Z aY;clear aY aT
   cases pb with
   |true=>
    have HT:=Z (show (k:Int)=oB ps by unfold oB;rw[<-qf.out.1,<-qf.out.2,bR,jI,if_pos rfl];simp)
    go_wp2_with fail;refine (HI.out _ b8.out).mono ?_;rintro e w1 ⟨rfl,hb1⟩;go_wp2_with fail;go_ret;exact ⟨aC HT.out,b8.out.trans (hb1.mono b8.out.size)⟩
   |false=>
    have HT:=Z (show bR (ps.drop (k+1))=bR ps/\jI (ps.drop (k+1))+(k+1)=jI ps from ⟨by rw[<-qf.out.1,bR];rfl,by rw[<-qf.out.2,jI,if_neg O];omega⟩)
    go_wp2_with fail;refine (HI.out _ b8.out).mono ?_;rintro e w1 ⟨rfl,hb1⟩;go_wp2_with fail;go_roundw
    case rel=>exact ⟨k+1,Y,by go_num,b8.out.trans (hb1.mono b8.out.size),HT⟩
    case measure=>exact μ
  .obtain rfl:k=rows.length:=Y;have hd:decide ((rows.length:Int)<(rows.length:Int))=false:=θ;have cX:decide (rows.length<rows.length)=false:=θ;have HT:=Z (show (-1:Int)=oB ps by unfold oB;rw[<-HR.out.1,<-HL.out,List.drop_length];rfl)
   go_wp2_with fail;go_ret;exact ⟨aC HT.out,aT⟩
theorem xM(gi:Nat)(cV:Array Value)(rows:List (List Value))(ps:List Bool)(v:Value)(w:World)(h:je 5 w v rows)(ha:sG gi cV rows ps w):
  Calls Tryz.prog 148 #[v,.func (.func gi) #[] cV] w λe w'=>e=.returned (.bool (bR ps))/\Below w.heap.size w w':=by
 have axJ:=Z (Wy gi cV rows ps v w h ha);clear h ha
 go_enter Tryz.func148,Tryz.ntmps148
 go_wp2_with fail;refine axJ.out.mono ?_;rintro e w1 ⟨rfl,hb⟩;have HR:=Z (uV ps);generalize oB ps=r at *;go_wp2_with fail;go_ret;exact ⟨ae HR.out,hb⟩
theorem ajL{l:List Value}(h:l.length=2):∃x0 x1,l=[x0,x1]:=by
 match l,h with
 | [x0,x1],_=>exact ⟨x0,x1,rfl⟩
theorem Wz(gi:Nat)(cV:Array Value)(rows:List (List Value))(ps:List Bool)(v:Value)(w:World)(h:je 2 w v rows)(ha:sG gi cV rows ps w):
  Calls Tryz.prog 205 #[v,.func (.func gi) #[] cV] w λe w'=>e=.returned (.int .i64 (oB ps))/\Below w.heap.size w w':=by
 obtain ⟨A,c,rfl,hc,hcell⟩:=h;obtain ⟨ei,hlen,hp⟩:=ha;have HL:=Z hlen;have hmx:rows.length<=9223372036854775807:=Y;have HC:=Z hcell;have HP:=Z hp;clear hcell hp hlen
 go_enter Tryz.func205,Tryz.ntmps205
 go_wp2
 go_loopw [8] (λv wr=>∃k:Nat,k<=rows.length/\v=.int .i64 (k:Int)/\Below w.heap.size w wr/\Hid (bR (ps.drop k)=bR ps/\jI (ps.drop k)+k=jI ps)) (λv _=>rows.length - (intOf v).toNat)
 case atStart=>exact ⟨0,Y,rfl,υ,rfl,rfl⟩
 case round=>
  obtain ⟨k,hk,rfl,aT,HR⟩:=hrel;by_cases hlt:k<rows.length
  .have hd:decide ((k:Int)<(rows.length:Int))=true:=τ;have cX:decide (k<rows.length)=true:=decide_eq_true hlt;obtain ⟨g,ff,rfl,hg,hcs⟩:=HC.out.resolve_left (by intro e;rw[e]at hlt;simp at hlt)
   have tY:k<ps.length:=by have:=HL.out;omega
   have qf:=Z (show bR (ps[k]::ps.drop (k+1))=bR ps/\jI (ps[k]::ps.drop (k+1))+k=jI ps by rw[<-List.drop_eq_getElem_cons tY];exact HR.out)
   have axJ:=λw'=>HP.out k hlt ps[k] (List.getElem?_eq_getElem tY) w';obtain ⟨T4,zS⟩:=hcs k hlt;obtain ⟨x0,x1,hrow⟩:=ajL T4;rw[hrow]at zS axJ;have q:∀j,j<2->wr.cell? ⟨g,ff+k*2+j,none⟩=([x0,x1]:List Value)[j]?:=λj hj=>(aT.cl g (ff+k*2+j) hg).trans (zS j hj);have q0:=q 0 Y;have q1:=q 1 Y;simp only[Nat.add_zero,List.getElem?_cons_zero,List.getElem?_cons_succ]at q0 q1;clear q hcs zS hrow T4;have aY:Below w.heap.size w wr:=aT;have HI:=Z axJ;clear axJ;obtain ⟨pb,xL⟩:=ν (ps[k]);rw[xL]at HI qf;clear xL tY;have b8:=Z aY;clear aY aT
   cases pb with
   |true=>
    have HT:=Z (show (k:Int)=oB ps by unfold oB;rw[<-qf.out.1,<-qf.out.2,bR,jI,if_pos rfl];simp)
    go_wp2_with fail;refine (HI.out _ b8.out).mono ?_;rintro e w1 ⟨rfl,hb1⟩;go_wp2_with fail;go_ret;exact ⟨aC HT.out,b8.out.trans (hb1.mono b8.out.size)⟩
   |false=>
    have HT:=Z (show bR (ps.drop (k+1))=bR ps/\jI (ps.drop (k+1))+(k+1)=jI ps from ⟨by rw[<-qf.out.1,bR];rfl,by rw[<-qf.out.2,jI,if_neg O];omega⟩)
    go_wp2_with fail;refine (HI.out _ b8.out).mono ?_;rintro e w1 ⟨rfl,hb1⟩;go_wp2_with fail;go_roundw
    case rel=>exact ⟨k+1,Y,by go_num,b8.out.trans (hb1.mono b8.out.size),HT⟩
    case measure=>exact μ
  .obtain rfl:k=rows.length:=Y;have hd:decide ((rows.length:Int)<(rows.length:Int))=false:=θ;have cX:decide (rows.length<rows.length)=false:=θ;have HT:=Z (show (-1:Int)=oB ps by unfold oB;rw[<-HR.out.1,<-HL.out,List.drop_length];rfl)
   go_wp2_with fail;go_ret;exact ⟨aC HT.out,aT⟩
theorem Jf(gi:Nat)(cV:Array Value)(rows:List (List Value))(ps:List Bool)(v:Value)(w:World)(h:je 2 w v rows)(ha:sG gi cV rows ps w):
  Calls Tryz.prog 191 #[v,.func (.func gi) #[] cV] w λe w'=>e=.returned (.bool (bR ps))/\Below w.heap.size w w':=by
 have axJ:=Z (Wz gi cV rows ps v w h ha);clear h ha
 go_enter Tryz.func191,Tryz.ntmps191
 go_wp2_with fail;refine axJ.out.mono ?_;rintro e w1 ⟨rfl,hb⟩;have HR:=Z (uV ps);generalize oB ps=r at *;go_wp2_with fail;go_ret;exact ⟨ae HR.out,hb⟩
theorem ajM{l:List Value}(h:l.length=3):∃x0 x1 x2,l=[x0,x1,x2]:=by
 match l,h with
 | [x0,x1,x2],_=>exact ⟨x0,x1,x2,rfl⟩
theorem WC(gi:Nat)(cV:Array Value)(rows:List (List Value))(ps:List Bool)(v:Value)(w:World)(h:je 3 w v rows)(ha:sG gi cV rows ps w):
  Calls Tryz.prog 226 #[v,.func (.func gi) #[] cV] w λe w'=>e=.returned (.int .i64 (oB ps))/\Below w.heap.size w w':=by
 obtain ⟨A,c,rfl,hc,hcell⟩:=h;obtain ⟨ei,hlen,hp⟩:=ha;have HL:=Z hlen;have hmx:rows.length<=9223372036854775807:=Y;have HC:=Z hcell;have HP:=Z hp;clear hcell hp hlen
 go_enter Tryz.func226,Tryz.ntmps226
 go_wp2
 go_loopw [8] (λv wr=>∃k:Nat,k<=rows.length/\v=.int .i64 (k:Int)/\Below w.heap.size w wr/\Hid (bR (ps.drop k)=bR ps/\jI (ps.drop k)+k=jI ps)) (λv _=>rows.length - (intOf v).toNat)
 case atStart=>exact ⟨0,Y,rfl,υ,rfl,rfl⟩
 case round=>
  obtain ⟨k,hk,rfl,aT,HR⟩:=hrel;by_cases hlt:k<rows.length
  .have hd:decide ((k:Int)<(rows.length:Int))=true:=τ;have cX:decide (k<rows.length)=true:=decide_eq_true hlt;obtain ⟨g,ff,rfl,hg,hcs⟩:=HC.out.resolve_left (by intro e;rw[e]at hlt;simp at hlt)
   have tY:k<ps.length:=by have:=HL.out;omega
   have qf:=Z (show bR (ps[k]::ps.drop (k+1))=bR ps/\jI (ps[k]::ps.drop (k+1))+k=jI ps by rw[<-List.drop_eq_getElem_cons tY];exact HR.out)
   have axJ:=λw'=>HP.out k hlt ps[k] (List.getElem?_eq_getElem tY) w';obtain ⟨T4,zS⟩:=hcs k hlt;obtain ⟨x0,x1,x2,hrow⟩:=ajM T4;rw[hrow]at zS axJ;have q:∀j,j<3->wr.cell? ⟨g,ff+k*3+j,none⟩=([x0,x1,x2]:List Value)[j]?:=λj hj=>(aT.cl g (ff+k*3+j) hg).trans (zS j hj);have q0:=q 0 Y;have q1:=q 1 Y;have q2:=q 2 Y;simp only[Nat.add_zero,List.getElem?_cons_zero,List.getElem?_cons_succ]at q0 q1 q2;clear q hcs zS hrow T4;have aY:Below w.heap.size w wr:=aT;have HI:=Z axJ;clear axJ;obtain ⟨pb,xL⟩:=ν (ps[k]);rw[xL]at HI qf;clear xL tY;have b8:=Z aY;clear aY aT
   cases pb with
   |true=>
    have HT:=Z (show (k:Int)=oB ps by unfold oB;rw[<-qf.out.1,<-qf.out.2,bR,jI,if_pos rfl];simp)
    go_wp2_with fail;refine (HI.out _ b8.out).mono ?_;rintro e w1 ⟨rfl,hb1⟩;go_wp2_with fail;go_ret;exact ⟨aC HT.out,b8.out.trans (hb1.mono b8.out.size)⟩
   |false=>
    have HT:=Z (show bR (ps.drop (k+1))=bR ps/\jI (ps.drop (k+1))+(k+1)=jI ps from ⟨by rw[<-qf.out.1,bR];rfl,by rw[<-qf.out.2,jI,if_neg O];omega⟩)
    go_wp2_with fail;refine (HI.out _ b8.out).mono ?_;rintro e w1 ⟨rfl,hb1⟩;go_wp2_with fail;go_roundw
    case rel=>exact ⟨k+1,Y,by go_num,b8.out.trans (hb1.mono b8.out.size),HT⟩
    case measure=>exact μ
  .obtain rfl:k=rows.length:=Y;have hd:decide ((rows.length:Int)<(rows.length:Int))=false:=θ;have cX:decide (rows.length<rows.length)=false:=θ;have HT:=Z (show (-1:Int)=oB ps by unfold oB;rw[<-HR.out.1,<-HL.out,List.drop_length];rfl)
   go_wp2_with fail;go_ret;exact ⟨aC HT.out,aT⟩
theorem Hw(gi:Nat)(cV:Array Value)(rows:List (List Value))(ps:List Bool)(v:Value)(w:World)(h:je 3 w v rows)(ha:sG gi cV rows ps w):
  Calls Tryz.prog 216 #[v,.func (.func gi) #[] cV] w λe w'=>e=.returned (.bool (bR ps))/\Below w.heap.size w w':=by
 have axJ:=Z (WC gi cV rows ps v w h ha);clear h ha
 go_enter Tryz.func216,Tryz.ntmps216
 go_wp2_with fail;refine axJ.out.mono ?_;rintro e w1 ⟨rfl,hb⟩;have HR:=Z (uV ps);generalize oB ps=r at *;go_wp2_with fail;go_ret;exact ⟨ae HR.out,hb⟩
theorem fF.rows{w:World}:∀{l:List Nd} {g f:Nat},fF w l g f->∃rows:List (List Value),rows.length=l.length/\∀i (h:i<l.length) (h':i<rows.length),bT w l[i] rows[i]/\∀j,j<5->w.cell? ⟨g,f+i*5+j,none⟩=rows[i][j]?
 | [],_,_,_=>⟨[],rfl,λi h=>by cases h⟩
 |k::r,g,f,⟨⟨vs,h1,h2⟩,h3⟩=>by
  obtain ⟨rows,hl,h4⟩:=fF.rows h3;refine ⟨vs::rows,by simp[hl],λi h h'=>?_⟩
  cases i with
  |zero=>exact ⟨h2,λj hj=>by rw[Nat.zero_mul,Nat.add_zero];exact h1 j hj⟩
  |succ i=>
   obtain ⟨h5,h6⟩:=h4 i (by simpa using h) (by simpa using h')
   refine ⟨h5,λj hj=>?_⟩;have:=h6 j hj;rw[show f+5+i*5+j=f+(i+1)*5+j by omega]at this
   exact this
theorem bT.len{w:World}{n:Nd}{vs:List Value}(h:bT w n vs):vs.length=5:=by
 obtain ⟨A1,c1,A2,c2,rfl,-⟩:=h.form
 rfl
theorem CD{w:World}{l:List Nd}{A:Option Addr}{c:Nat}(hc:l.length<=c/\c<=9223372036854775807)(h:l=[]\/∃g f,A=some ⟨g,f,none⟩/\g<w.heap.size/\fF w l g f):
  ∃rows:List (List Value),rows.length=l.length/\je 5 w (.slice A l.length c) rows/\∀i (h:i<l.length) (h':i<rows.length),bT w l[i] rows[i]:=by
 rcases h with rfl|⟨g,f,rfl,hg,hk⟩
 .exact ⟨[],rfl,⟨A,c,rfl,hc,.inl rfl⟩,λi h=>by cases h⟩
 .obtain ⟨rows,hl,hr⟩:=hk.rows;refine ⟨rows,hl,⟨some ⟨g,f,none⟩,c,by rw[hl],by rw[hl];exact hc,.inr ⟨g,f,rfl,hg,λi hi=>⟨(hr i Y hi).1.len,(hr i Y hi).2⟩⟩⟩,λi h h'=>(hr i h h').1⟩
theorem NH(kd:Nd)(vs:List Value)(op:Int)(b:Nat)(w:World)(hn:bT w kd vs)(hb:w.cell? ⟨b,0,none⟩=some (.int .i64 op)):Calls Tryz.prog 175 #[.agg vs.toArray,.pointer (some ⟨b,0,none⟩)] w λe w'=>e=.returned (.bool (kd.op == op))/\Below w.heap.size w w':=by
 obtain ⟨A1,c1,A2,c2,rfl,-⟩:=hn.form;have dL:b<w.heap.size:=by
  by_cases h:b<w.heap.size
  .exact h
  .simp[World.cell?,Array.getElem?_eq_none (Nat.le_of_not_lt h)]at hb
 have hne:b≠w.heap.size:=Y;have hB:Below w.heap.size w (w.alloc (.cells #[.int .i64 kd.op,.slice A1 kd.rs.length c1,.slice A2 kd.kids.length c2,.int .i64 kd.mn,.int .i64 kd.mx] 41)):=υ.alloc I _;have aJ:=(hB.cl b 0 dL).trans hb
 go_enter Tryz.func175,Tryz.ntmps175
 go_wp2_with fail;go_ret;exact ⟨rfl,hB⟩
theorem RW(args:Array Value)(w:World):(callFunc 175 args).run Tryz.prog w=.ok (.enter 175 args) w:=by rfl
def vl(nd:Nd):Bool:=decide (2<=nd.kids.length) && (nd.rs.isEmpty && (decide (nd.mn=0) && (decide (nd.mx=0) && !(nd.kids.any λk=>k.op == nd.op))))
theorem CE(nd:Nd)(vs:List Value)(w:World)(hn:bT w nd vs):Calls Tryz.prog 146 #[.agg vs.toArray] w λe w'=>e=.returned (.bool (vl nd))/\Below w.heap.size w w':=by
 obtain ⟨A1,c1,A2,c2,rfl,hr,qD,hk⟩:=hn.form;have hB:Below w.heap.size w (w.alloc (.cells #[.int .i64 nd.op,.slice A1 nd.rs.length c1,.slice A2 nd.kids.length c2,.int .i64 nd.mn,.int .i64 nd.mx] 41)):=υ.alloc I _;have CB:=heap_alloc_new w (.cells #[.int .i64 nd.op,.slice A1 nd.rs.length c1,.slice A2 nd.kids.length c2,.int .i64 nd.mn,.int .i64 nd.mx] 41);obtain ⟨rows,hl,lH,bc⟩:=CD qD hk;have hA:∀W,Below w.heap.size w W->w.heap.size<W.heap.size->W.cell? ⟨w.heap.size,0,none⟩=some (.int .i64 nd.op)->
   sG 175 #[.pointer (some ⟨w.heap.size,0,none⟩)] rows (nd.kids.map λk=>k.op == nd.op) W:=by
  intro W hW hsz jt;refine ⟨RW,by rw[List.length_map,hl],λi hi b hb w' hw'=>?_⟩
  have GY:i<nd.kids.length:=Y;rw[List.getElem?_map,List.getElem?_eq_getElem GY]at hb;simp only[Option.map_some,Option.some.injEq]at hb;subst hb;refine NH nd.kids[i] rows[i] nd.op w.heap.size w' ?_ ((hw'.cl w.heap.size 0 hsz).trans jt);exact ((bc i GY hi).later hW).later hw'
 have HC:=Z (λW h1 h2 h3=>xM 175 #[.pointer (some ⟨w.heap.size,0,none⟩)] rows _ (.slice A2 nd.kids.length c2) W (lH.later h1) (hA W h1 h2 h3));have Kz:=Z (fg (λk:Nd=>k.op == nd.op) nd.kids);have HB:=Z hB;have HX:=Z CB;have aU:nd.kids.length<=9223372036854775807:=Y;have lA:nd.rs.length<=9223372036854775807:=by obtain ⟨A,c,e,h,-⟩:=hr;omega
 clear hA lH bc hl CB hB hk hr hn
 go_enter Tryz.func146,Tryz.ntmps146
 go_wp2_with (go_at_call 148;refine (HC.out _ (υ.alloc I _) ξ (by rw[cell_of_row _ _ _ _ _ _ (heap_alloc_new _ _)];rfl)).mono ?_;rintro e w1 ⟨rfl,hb1⟩)
 all_goals
  go_ret;refine ⟨ae ?_,?_⟩
  .first
    | (rw[Kz.out];unfold vl;simp[*];omega)
    | (unfold vl;simp[*];done)
    | (unfold vl;simp[*];omega)
    | (have h1:(nd.kids.length:Int)<2:=by assumption
       unfold vl;rw[decide_eq_false (show ¬2<=nd.kids.length by omega)];rfl)
  .first
    |exact υ.alloc I _
    |exact ((Below.refl w w).alloc I _).trans (hb1.mono ξ)
def JB(nd:Nd):Bool:=decide (nd.kids.length=1) && (nd.rs.isEmpty && (decide (0<=nd.mn) && (decide (1<=nd.mx) && (decide (nd.mn<=nd.mx) && (decide (nd.mx<=64) && !(decide (nd.mn=1) && decide (nd.mx=1)))))))
theorem Fh(nd:Nd)(vs:List Value)(w:World)(hn:bT w nd vs):Calls Tryz.prog 147 #[.agg vs.toArray] w λe w'=>e=.returned (.bool (JB nd))/\Below w.heap.size w w':=by
 obtain ⟨A1,c1,A2,c2,rfl,hr,qD,hk⟩:=hn.form;have aU:nd.kids.length<=9223372036854775807:=Y;have lA:nd.rs.length<=9223372036854775807:=by obtain ⟨A,c,e,h,-⟩:=hr;omega
 clear hk hr hn
 go_enter Tryz.func147,Tryz.ntmps147
 go_wp2_with fail
 all_goals
  go_ret;refine ⟨ae ?_,?_⟩
  .by_cases he:nd.rs=[]
   .rw[Bool.eq_iff_iff];have TD:nd.rs.isEmpty=true:=by rw[he];rfl
    simp only[JB,TD,Bool.and_eq_true,Bool.not_eq_true',Bool.and_eq_false_iff,decide_eq_true_eq,decide_eq_false_iff_not,bne_iff_ne,true_and,true_iff,ne_eq] <;>
    first|omega | (simp only[Bool.false_eq_true,false_iff];omega)|contradiction
   .have TD:nd.rs.isEmpty=false:=by simpa using he
    simp only[JB,TD,Bool.false_and,Bool.and_false] <;>
    first|rfl|contradiction
  .exact υ.alloc I _
theorem CF{nd:Nd}(h:nd.op=1):cU nd=zt nd.rs nd.kids.length nd.mn nd.mx:=by
 obtain ⟨op,rs,kids,mn,mx⟩:=nd;simp only[Nd.op]at h;subst h;simp only[cU,zt,Nd.rs,Nd.kids,Nd.mn,Nd.mx,if_true]
 cases kids <;> cases dU rs <;> cases rs.isEmpty <;> simp <;> rfl
theorem qs{nd:Nd}(h:nd.op=2\/nd.op=3):cU nd=vl nd:=by
 obtain ⟨op,rs,kids,mn,mx⟩:=nd;simp only[Nd.op]at h;simp only[cU,vl,Nd.rs,Nd.kids,Nd.mn,Nd.mx,Nd.op];rw[if_neg Y,if_pos h]
 rfl
theorem vo{nd:Nd}(h:nd.op=4):cU nd=JB nd:=by
 obtain ⟨op,rs,kids,mn,mx⟩:=nd;simp only[Nd.op]at h;simp only[cU,JB,Nd.rs,Nd.kids,Nd.mn,Nd.mx,Nd.op];rw[if_neg Y,if_neg Y,if_pos h]
 rfl
theorem CG{nd:Nd}(h1:¬nd.op=1)(h2:¬nd.op=2)(h3:¬nd.op=3)(h4:¬nd.op=4):cU nd=false:=by
 obtain ⟨op,rs,kids,mn,mx⟩:=nd;simp only[Nd.op]at h1 h2 h3 h4;simp only[cU];rw[if_neg h1,if_neg Y,if_neg h4]
theorem sB:∀l:List Nd,aO l=!(l.any λk=>!aA k)
 | []=>rfl
 |k::r=>by rw[aO,sB r];simp
theorem JC(nd:Nd):aA nd=(cU nd && !(nd.kids.any λk=>!aA k)):=by
 obtain ⟨op,rs,kids,mn,mx⟩:=nd;rw[aA,sB];rfl
theorem JD(args:Array Value)(w:World):(callFunc 149 args).run Tryz.prog w=.ok (.enter 149 args) w:=by rfl
theorem Fi(kd:Nd)(vs:List Value)(w:World)(hn:bT w kd vs)(hr:∀w',Below w.heap.size w w'->Calls Tryz.prog 120 #[.agg vs.toArray] w' λe w''=>e=.returned (.bool (aA kd))/\Below w'.heap.size w' w''):
  Calls Tryz.prog 149 #[.agg vs.toArray] w λe w'=>e=.returned (.bool (!aA kd))/\Below w.heap.size w w':=by
 obtain ⟨A1,c1,A2,c2,rfl,-⟩:=hn.form;obtain ⟨x,hx⟩:=ν (aA kd);rw[hx]at hr|-;have HR:=Z hr;clear hr hx
 go_enter Tryz.func149,Tryz.ntmps149
 go_wp2_with fail;refine (HR.out _ (υ.alloc I _)).mono ?_;rintro e w1 ⟨rfl,hb1⟩;have HB:=Z (((Below.refl w w).alloc I _).trans (hb1.mono ξ));clear hb1
 cases x
 all_goals
  go_wp2_with fail;go_ret;exact ⟨rfl,HB.out⟩
theorem JE:∀(m:Nat) (nd:Nd) (vs:List Value) (w:World),au nd<=m->m<=1000000->bT w nd vs->Calls Tryz.prog 120 #[.agg vs.toArray] w λe w'=>e=.returned (.bool (aA nd))/\Below w.heap.size w w':=by
 intro m
 induction m with
 |zero=>intro nd vs w h;cases nd;rw[au]at h;omega
 |succ m ih=>
  intro nd vs w h hm hn;have EI:∀k∈nd.kids,au k<=m:=λk hk=>by
   obtain ⟨op,rs,kids,mn,mx⟩:=nd;have:=aF hk;rw[au]at h;simp only[Nd.kids]at this;omega
  have bo:=λW (hW:Below w.heap.size w W)=>RV nd vs W Y (hn.later hW);have ad5:=λW (hW:Below w.heap.size w W)=>CE nd vs W (hn.later hW);have ad6:=λW (hW:Below w.heap.size w W)=>Fh nd vs W (hn.later hW);obtain ⟨A1,c1,A2,c2,rfl,hr,qD,hk⟩:=hn.form;obtain ⟨rows,hl,lH,bc⟩:=CD qD hk;have hA:∀W,Below w.heap.size w W->sG 149 #[] rows (nd.kids.map λk=>!aA k) W:=by
   intro W hW;refine ⟨JD,by rw[List.length_map,hl],λi hi b hb w' hw'=>?_⟩
   have GY:i<nd.kids.length:=Y;rw[List.getElem?_map,List.getElem?_eq_getElem GY]at hb;simp only[Option.map_some,Option.some.injEq]at hb;subst hb;have uq:=((bc i GY hi).later hW).later hw';exact Fi nd.kids[i] rows[i] w' uq λw'' hw''=>ih _ _ _ (EI _ (List.getElem_mem GY)) Y (uq.later hw'')
  have HC:=Z (λW h1=>xM 149 #[] rows _ (.slice A2 nd.kids.length c2) W (lH.later h1) (hA W h1));have Kz:=Z (fg (λk:Nd=>!aA k) nd.kids);have hB:Below w.heap.size w (w.alloc (.cells #[.int .i64 nd.op,.slice A1 nd.rs.length c1,.slice A2 nd.kids.length c2,.int .i64 nd.mn,.int .i64 nd.mx] 41)):=υ.alloc I _;have CB:=heap_alloc_new w (.cells #[.int .i64 nd.op,.slice A1 nd.rs.length c1,.slice A2 nd.kids.length c2,.int .i64 nd.mn,.int .i64 nd.mx] 41);have HB:=Z hB;have HX:=Z CB;have ad7:=Z bo;have XC:=Z ad5;have ad8:=Z ad6;have L3:=Z (JC nd);have KS:=Z (@CF nd);have Kg:=Z (@qs nd);have HN4:=Z (@vo nd);have HN0:=Z (@CG nd);obtain ⟨axH,hO⟩:=ν nd.op;rw[hO]at KS Kg HN4 HN0 HB HX ad7 XC ad8|-;clear hA lH bc hl CB hB hk hr hn bo ad5 ad6 EI ih hO;by_cases h1:axH=1
  .have HV:=Z (KS.out h1);subst h1
   go_enter Tryz.func120,Tryz.ntmps120
   go_wp2_with fail;refine (ad7.out _ HB.out).mono ?_;rintro e w1 ⟨rfl,hb1⟩;rw[<-HV.out];have aX:=Z (HB.out.trans (hb1.mono HB.out.size));have jt:=(hb1.block w.heap.size ξ).trans HX.out;obtain ⟨b0,b1,b2,b3,b4⟩:=aw jt;clear hb1 jt
   cases hx:cU nd with
   |false=>
    have Fj:=Z (show false=aA nd by rw[L3.out,hx];rfl)
    clear hx;go_wp2_with fail;go_ret;exact ⟨ae Fj.out,aX.out⟩
   |true=>
    have Fj:=Z (show (!bR (nd.kids.map λk=>!aA k))=aA nd by rw[Kz.out,L3.out,hx];rfl)
    clear hx;go_wp2_with fail;refine (HC.out _ aX.out).mono ?_;rintro e w2 ⟨rfl,aJ⟩;generalize bR (nd.kids.map λk=>!aA k)=y at *
    cases y
    all_goals
     go_wp2_with fail;go_ret;exact ⟨ae Fj.out,aX.out.trans (aJ.mono aX.out.size)⟩
  by_cases h2:axH=2
  .have HV:=Z (Kg.out (.inl h2));subst h2
   go_enter Tryz.func120,Tryz.ntmps120
   go_wp2_with fail;refine (XC.out _ HB.out).mono ?_;rintro e w1 ⟨rfl,hb1⟩;rw[<-HV.out];have aX:=Z (HB.out.trans (hb1.mono HB.out.size));have jt:=(hb1.block w.heap.size ξ).trans HX.out;obtain ⟨b0,b1,b2,b3,b4⟩:=aw jt;clear hb1 jt
   cases hx:cU nd with
   |false=>
    have Fj:=Z (show false=aA nd by rw[L3.out,hx];rfl)
    clear hx;go_wp2_with fail;go_ret;exact ⟨ae Fj.out,aX.out⟩
   |true=>
    have Fj:=Z (show (!bR (nd.kids.map λk=>!aA k))=aA nd by rw[Kz.out,L3.out,hx];rfl)
    clear hx;go_wp2_with fail;refine (HC.out _ aX.out).mono ?_;rintro e w2 ⟨rfl,aJ⟩;generalize bR (nd.kids.map λk=>!aA k)=y at *
    cases y
    all_goals
     go_wp2_with fail;go_ret;exact ⟨ae Fj.out,aX.out.trans (aJ.mono aX.out.size)⟩
  by_cases h3:axH=3
  .have HV:=Z (Kg.out (.inr h3));subst h3
   go_enter Tryz.func120,Tryz.ntmps120
   go_wp2_with fail;refine (XC.out _ HB.out).mono ?_;rintro e w1 ⟨rfl,hb1⟩;rw[<-HV.out];have aX:=Z (HB.out.trans (hb1.mono HB.out.size));have jt:=(hb1.block w.heap.size ξ).trans HX.out;obtain ⟨b0,b1,b2,b3,b4⟩:=aw jt;clear hb1 jt
   cases hx:cU nd with
   |false=>
    have Fj:=Z (show false=aA nd by rw[L3.out,hx];rfl)
    clear hx;go_wp2_with fail;go_ret;exact ⟨ae Fj.out,aX.out⟩
   |true=>
    have Fj:=Z (show (!bR (nd.kids.map λk=>!aA k))=aA nd by rw[Kz.out,L3.out,hx];rfl)
    clear hx;go_wp2_with fail;refine (HC.out _ aX.out).mono ?_;rintro e w2 ⟨rfl,aJ⟩;generalize bR (nd.kids.map λk=>!aA k)=y at *
    cases y
    all_goals
     go_wp2_with fail;go_ret;exact ⟨ae Fj.out,aX.out.trans (aJ.mono aX.out.size)⟩
  by_cases h4:axH=4
  .have HV:=Z (HN4.out h4);subst h4
   go_enter Tryz.func120,Tryz.ntmps120
   go_wp2_with fail;refine (ad8.out _ HB.out).mono ?_;rintro e w1 ⟨rfl,hb1⟩;rw[<-HV.out];have aX:=Z (HB.out.trans (hb1.mono HB.out.size));have jt:=(hb1.block w.heap.size ξ).trans HX.out;obtain ⟨b0,b1,b2,b3,b4⟩:=aw jt;clear hb1 jt
   cases hx:cU nd with
   |false=>
    have Fj:=Z (show false=aA nd by rw[L3.out,hx];rfl)
    clear hx;go_wp2_with fail;go_ret;exact ⟨ae Fj.out,aX.out⟩
   |true=>
    have Fj:=Z (show (!bR (nd.kids.map λk=>!aA k))=aA nd by rw[Kz.out,L3.out,hx];rfl)
    clear hx;go_wp2_with fail;refine (HC.out _ aX.out).mono ?_;rintro e w2 ⟨rfl,aJ⟩;generalize bR (nd.kids.map λk=>!aA k)=y at *
    cases y
    all_goals
     go_wp2_with fail;go_ret;exact ⟨ae Fj.out,aX.out.trans (aJ.mono aX.out.size)⟩
  .have HV:=Z (show false=aA nd by rw[L3.out,HN0.out h1 h2 h3 h4];rfl)
   have e1:(axH == 1)=false:=by simpa using h1
   have e2:(axH == 2)=false:=by simpa using h2
   have e3:(axH == 3)=false:=by simpa using h3
   have e4:(axH == 4)=false:=by simpa using h4
   clear h1 h2 h3 h4
   go_enter Tryz.func120,Tryz.ntmps120
   go_wp2_with fail;go_ret;exact ⟨ae HV.out,HB.out⟩
theorem zu(n:Nd):aW n<=601:=by cases n;rw[aW];omega
-- The least number of bytes.
mutual
def bI:Nd->Nat
 | .mk op _ kids mn _=>if op=1 then 1 else if op=2 then fG kids else if op=3 then dw kids else mn.toNat*zv kids
def fG:List Nd->Nat
 | []=>0
 |k::r=>bI k+fG r
def dw:List Nd->Nat
 | []=>1000000
 |k::r=>min (bI k) (dw r)
def zv:List Nd->Nat
 | []=>0
 |k::_=>bI k
end
theorem ya:∀{l:List Nd} {k:Nd},k∈l->bj k<=cP l
 |a::r,k,h=>by
  rw[cP];rcases List.mem_cons.1 h with rfl|h
  .omega
  .have:=ya h;omega
theorem rC:∀{l:List Nd} {k:Nd},k∈l->bj k<=cW l
 |a::r,k,h=>by
  rw[cW];rcases List.mem_cons.1 h with rfl|h
  .omega
  .have:=rC h;omega
theorem CH{rs:List (Nat×Nat)}{kids:List Nd}{op mn mx:Int}(hR:aA (.mk op rs kids mn mx)=true):op=3->2<=kids.length:=by
 rintro rfl;have h:=((iR _).1 hR).1;simp only[cU]at h;rw[if_neg O,if_pos O]at h;simp at h;exact h.1
theorem yb{rs:List (Nat×Nat)}{kids:List Nd}{op mn mx:Int}(hR:aA (.mk op rs kids mn mx)=true)(hl:bj (.mk op rs kids mn mx)<=1024):∀k∈kids,bj k<=1024:=by
 intro k hk;obtain ⟨ke,-⟩:=dm hR;rw[bj]at hl;rcases ke with rfl|rfl|rfl|⟨rfl,dS,Du,mo,zY⟩
 .have h:=((iR _).1 hR).1;simp only[cU]at h;simp at h;rw[h.2.2.1]at hk
  cases hk
 .have:=ya hk;simp at hl;omega
 .have:=rC hk;simp at hl;omega
 .match kids,dS with
  | [a],_=>
   rw[List.mem_singleton]at hk;subst hk;rw[if_neg O,if_neg O,if_neg O,qq]at hl;have h2:1*bj k<=mx.toNat*bj k:=Nat.mul_le_mul_right _ Y;omega
theorem El{rs:List (Nat×Nat)}{kids:List Nd}{op mn mx:Int}(hR:aA (.mk op rs kids mn mx)=true):op=4->mn<=mx:=by
 rintro rfl;have h:=((iR _).1 hR).1;rw[vo rfl]at h;simp only[JB,Bool.and_eq_true,decide_eq_true_eq,Nd.mn,Nd.mx]at h;exact of_decide_eq_true h.2.2.2.2.1
theorem NI:∀(m:Nat),(∀n:Nd,au n<=m->aA n=true->bj n<=1024->bI n<=bj n):=by
 intro m
 induction m with
 |zero=>intro n h;cases n;rw[au]at h;omega
 |succ m ih=>
  rintro ⟨op,rs,kids,mn,mx⟩ h hR hl;have hk:=yb hR hl;have h2:=CH hR;have hle:=El hR;obtain ⟨ke,uB⟩:=dm hR;rw[au]at h;have wX:∀k∈kids,bI k<=bj k:=λk Lc=>ih k (by have:=aF Lc;omega) (aM uB Lc) (hk k Lc)
  rw[bj]at hl|-;rw[bI];rcases ke with rfl|rfl|rfl|⟨rfl,dS,Du,mo,zY⟩
  .simp
  .have:∀l:List Nd,(∀k∈l,bI k<=bj k)->fG l<=cP l:=by
    intro l
    induction l with
    |nil=>intro _;exact I
    |cons a r ih=>
     intro h;rw[fG,cP];have:=h a ξ;have:=ih λk hk=>h k (by simp[hk])
     omega
   have:=this kids wX;simp at hl|-;omega
  .match kids,h2 rfl with
   |a::r,_=>
    have h3:=wX a ξ;have h4:=rC (show a∈a::r by simp)
    simp at hl|-;rw[dw];omega
  .match kids,dS with
   | [a],_=>
    have h3:=wX a ξ;rw[if_neg O,if_neg O,if_neg O,qq]at hl|-;rw[if_neg O,if_neg O,if_neg O,zv];have h6:=hle rfl;have h5:mn.toNat*bI a<=mx.toNat*bj a:=Nat.mul_le_mul Y h3;omega
theorem zw:∀{l:List Nd} (h:0<l.length),min (bI l[0]) (dw l)=dw l
 |a::r,_=>by show min (bI a) (min (bI a) (dw r))=min (bI a) (dw r);omega
theorem nD(n:Nd)(hR:aA n=true)(hl:bj n<=1024):bI n<=1024:=Nat.le_trans (NI _ n I hR hl) hl
theorem wG:∀(m:Nat) (nd:Nd) (vs:List Value) (w:World),au nd<=m->au nd<=200->aA nd=true->bT w nd vs->Calls Tryz.prog 134 #[.agg vs.toArray] w λe w'=>e=.returned (.int .i64 ((aW nd:Nat):Int))/\Below w.heap.size w w':=by
 intro m
 induction m with
 |zero=>intro nd vs w h;cases nd;rw[au]at h;omega
 |succ m ih=>
  rintro ⟨op,rs,kids,mn,mx⟩ vs w h kB hR hn;have HN:=Z hn;obtain ⟨v1,v2,rfl,hr,A,c,rfl,hc,hk⟩:=hn;obtain ⟨A1,c1,rfl,-,-⟩:=hr;have hb0:Below w.heap.size w (w.alloc (.cells #[.int .i64 op,.slice A1 rs.length c1,.slice A kids.length c,.int .i64 mn,.int .i64 mx] 41)):=υ.alloc I _;have hT:au (.mk op rs kids mn mx)=1+aV kids:=by rw[au]
  have hL:aW (.mk op rs kids mn mx)=min (if op=1 then 1 else if op=4 then mx.toNat*yY kids else b9 kids) 601:=by rw[aW]
  rw[hT]at h kB;have aU:=kW kids;have Jz:kids.length<=200:=Y;obtain ⟨ke,uB⟩:=dm hR;have HL:=Z hL;have HM:=Z h;have z8:=Z kB;have sQ:=Z uB;clear hT h hL kB hR uB aU;rcases ke with rfl|rfl|rfl|⟨rfl,dS,Du,mo,zY⟩
  .go_enter Tryz.func134,Tryz.ntmps134
   go_wp2_with fail;go_ret;exact ⟨aC (by rw[HL.out];rfl),hb0⟩
  .go_enter Tryz.func134,Tryz.ntmps134
   go_wp2_with fail;go_loopw [3,11] (λov iv wr=>∃(k o:Nat),k<=kids.length/\iv=.int .i64 (k:Int)/\ov=.int .i64 (o:Int)/\o<=601*k/\Hid (o+b9 (kids.drop k)=b9 kids)/\Below w.heap.size w wr) (λ_ iv _=>kids.length - (intOf iv).toNat)
   case atStart=>exact ⟨0,0,Y,rfl,rfl,Y,by show 0+_=_;rw[List.drop_zero,Nat.zero_add],hb0⟩
   case round=>
    obtain ⟨k,o,hkk,rfl,rfl,ho,HO,hb⟩:=hrel;by_cases hlt:k<kids.length
    .have hd:decide ((k:Int)<(kids.length:Int))=true:=τ;have cX:decide (k<kids.length)=true:=decide_eq_true hlt;obtain ⟨g,f,rfl,hg,bS⟩:=hk.resolve_left (by rintro rfl;simp at hlt)
     obtain ⟨vs,hcv,bc⟩:=bS.at k hlt;have aZ:=aF (List.getElem_mem hlt);have et:=aM sQ.out (List.getElem_mem hlt);have hdr:b9 (kids.drop k)=aW kids[k]+b9 (kids.drop (k+1)):=by rw[List.drop_eq_getElem_cons hlt,b9]
     obtain ⟨kd,bK⟩:=ν (kids[k]);rw[bK]at bc aZ hdr et;obtain ⟨B1,e1,B2,e2,rfl,-,-,-⟩:=bc.form;have q:∀j,j<5->wr.cell? ⟨g,f+k*5+j,none⟩=([.int .i64 kd.op,.slice B1 kd.rs.length e1,.slice B2 kd.kids.length e2,.int .i64 kd.mn,.int .i64 kd.mx]:List Value)[j]?:=λj hj=>(hb.cl g (f+k*5+j) hg).trans (hcv j hj);have q0:=q 0 Y;have q1:=q 1 Y;have q2:=q 2 Y;have q3:=q 3 Y;have q4:=q 4 Y;simp only[Nat.add_zero,List.getElem?_cons_zero,List.getElem?_cons_succ]at q0 q1 q2 q3 q4;have jk:=λ(w':World) (hw:Below w.heap.size w w')=>ih kd _ w' (by have:=HM.out;omega) (by have:=z8.out;omega) et (bc.later hw)
     have HI:=Z jk;have HB:=Z hb;have HD:=Z hdr;clear q hcv bc bK bS jk hb hdr hb0 et;go_wp2_with fail;refine (HI.out _ (HB.out.trans ((Below.refl w.heap.size _).alloc HB.out.size _))).mono ?_;rintro e w1 ⟨rfl,hb1⟩;obtain ⟨x,hx⟩:=ν (aW kd);have fZ:=zu kd;rw[hx]at fZ|-;have HX:=Z hx;have aX:=Z (show Below w.heap.size w w1 from HB.out.trans ((((Below.refl w.heap.size _).alloc HB.out.size _)).trans (hb1.mono (by have:=HB.out.size;simp;omega))))
     clear hb1 hx aZ q0 q1 q2 q3 q4;go_wp2_with fail;go_roundw
     case rel=>
      refine ⟨k+1,o+x,Y,by go_num,by go_num,Y,?_,aX.out⟩
      have h1:=HO.out;have h2:=HD.out;have h3:=HX.out;exact (by omega:o+x+b9 (kids.drop (k+1))=b9 kids)
     case measure=>exact μ
    .obtain rfl:k=kids.length:=Y;have bM:=HO.out;rw[List.drop_length,b9,Nat.add_zero]at bM;have HF:=Z bM;obtain ⟨y,hy⟩:∃y:Nat,y=min o 601:=⟨_,rfl⟩;have AX:min (o:Int) 601=(y:Int):=Y;have HY:=Z hy;clear bM hy;have Cz:aW (.mk 2 rs kids mn mx)=min (b9 kids) 601:=by rw[HL.out];simp
     have Gr:=Z Cz;clear Cz;go_wp2_with fail
     all_goals
      go_ret;refine ⟨aC ?_,hb⟩;have h1:=HY.out;have h2:=HF.out;rw[Gr.out,<-h2];omega
  .go_enter Tryz.func134,Tryz.ntmps134
   go_wp2_with fail;go_loopw [3,11] (λov iv wr=>∃(k o:Nat),k<=kids.length/\iv=.int .i64 (k:Int)/\ov=.int .i64 (o:Int)/\o<=601*k/\Hid (o+b9 (kids.drop k)=b9 kids)/\Below w.heap.size w wr) (λ_ iv _=>kids.length - (intOf iv).toNat)
   case atStart=>exact ⟨0,0,Y,rfl,rfl,Y,by show 0+_=_;rw[List.drop_zero,Nat.zero_add],hb0⟩
   case round=>
    obtain ⟨k,o,hkk,rfl,rfl,ho,HO,hb⟩:=hrel;by_cases hlt:k<kids.length
    .have hd:decide ((k:Int)<(kids.length:Int))=true:=τ;have cX:decide (k<kids.length)=true:=decide_eq_true hlt;obtain ⟨g,f,rfl,hg,bS⟩:=hk.resolve_left (by rintro rfl;simp at hlt)
     obtain ⟨vs,hcv,bc⟩:=bS.at k hlt;have aZ:=aF (List.getElem_mem hlt);have et:=aM sQ.out (List.getElem_mem hlt);have hdr:b9 (kids.drop k)=aW kids[k]+b9 (kids.drop (k+1)):=by rw[List.drop_eq_getElem_cons hlt,b9]
     obtain ⟨kd,bK⟩:=ν (kids[k]);rw[bK]at bc aZ hdr et;obtain ⟨B1,e1,B2,e2,rfl,-,-,-⟩:=bc.form;have q:∀j,j<5->wr.cell? ⟨g,f+k*5+j,none⟩=([.int .i64 kd.op,.slice B1 kd.rs.length e1,.slice B2 kd.kids.length e2,.int .i64 kd.mn,.int .i64 kd.mx]:List Value)[j]?:=λj hj=>(hb.cl g (f+k*5+j) hg).trans (hcv j hj);have q0:=q 0 Y;have q1:=q 1 Y;have q2:=q 2 Y;have q3:=q 3 Y;have q4:=q 4 Y;simp only[Nat.add_zero,List.getElem?_cons_zero,List.getElem?_cons_succ]at q0 q1 q2 q3 q4;have jk:=λ(w':World) (hw:Below w.heap.size w w')=>ih kd _ w' (by have:=HM.out;omega) (by have:=z8.out;omega) et (bc.later hw)
     have HI:=Z jk;have HB:=Z hb;have HD:=Z hdr;clear q hcv bc bK bS jk hb hdr hb0 et;go_wp2_with fail;refine (HI.out _ (HB.out.trans ((Below.refl w.heap.size _).alloc HB.out.size _))).mono ?_;rintro e w1 ⟨rfl,hb1⟩;obtain ⟨x,hx⟩:=ν (aW kd);have fZ:=zu kd;rw[hx]at fZ|-;have HX:=Z hx;have aX:=Z (show Below w.heap.size w w1 from HB.out.trans ((((Below.refl w.heap.size _).alloc HB.out.size _)).trans (hb1.mono (by have:=HB.out.size;simp;omega))))
     clear hb1 hx aZ q0 q1 q2 q3 q4;go_wp2_with fail;go_roundw
     case rel=>
      refine ⟨k+1,o+x,Y,by go_num,by go_num,Y,?_,aX.out⟩
      have h1:=HO.out;have h2:=HD.out;have h3:=HX.out;exact (by omega:o+x+b9 (kids.drop (k+1))=b9 kids)
     case measure=>exact μ
    .obtain rfl:k=kids.length:=Y;have bM:=HO.out;rw[List.drop_length,b9,Nat.add_zero]at bM;have HF:=Z bM;obtain ⟨y,hy⟩:∃y:Nat,y=min o 601:=⟨_,rfl⟩;have AX:min (o:Int) 601=(y:Int):=Y;have HY:=Z hy;clear bM hy;have Cz:aW (.mk 3 rs kids mn mx)=min (b9 kids) 601:=by rw[HL.out];simp
     have Gr:=Z Cz;clear Cz;go_wp2_with fail
     all_goals
      go_ret;refine ⟨aC ?_,hb⟩;have h1:=HY.out;have h2:=HF.out;rw[Gr.out,<-h2];omega
  .obtain ⟨kd,rfl⟩:∃kd,kids=[kd]:=by
    match kids,dS with
    | [a],_=>exact ⟨a,rfl⟩
   obtain ⟨g,f,rfl,hg,bS⟩:=hk.resolve_left ξ;obtain ⟨vs,hcv,bc⟩:=bS.at 0 ξ;have aZ:=aF (List.mem_singleton.2 rfl:kd∈[kd]);have et:=aM sQ.out (List.mem_singleton.2 rfl:kd∈[kd])
   replace bc:bT w kd vs:=bc
   obtain ⟨B1,e1,B2,e2,rfl,-,-,-⟩:=bc.form;have hrow:=heap_alloc_new w (.cells #[.int .i64 4,.slice A1 rs.length c1,.slice (some ⟨g,f,none⟩) 1 c,.int .i64 mn,.int .i64 mx] 41);have hS:∀W,Below w.heap.size w W->W.heap[w.heap.size]?=some (.cells #[.int .i64 4,.slice A1 rs.length c1,.slice (some ⟨g,f,none⟩) 1 c,.int .i64 mn,.int .i64 mx] 41 (0,0))->
     (W.cell? ⟨w.heap.size,4,none⟩=some (.int .i64 mx)/\W.cell? ⟨w.heap.size,2,none⟩=some (.slice (some ⟨g,f,none⟩) 1 c))/\
     W.cell? ⟨g,f,none⟩=some (.int .i64 kd.op)/\W.cell? ⟨g,f+1,none⟩=some (.slice B1 kd.rs.length e1)/\W.cell? ⟨g,f+2,none⟩=some (.slice B2 kd.kids.length e2)/\W.cell? ⟨g,f+3,none⟩=some (.int .i64 kd.mn)/\W.cell? ⟨g,f+4,none⟩=some (.int .i64 kd.mx):=by
    intro W hW hr;have q:∀j,j<5->W.cell? ⟨g,f+j,none⟩=([.int .i64 kd.op,.slice B1 kd.rs.length e1,.slice B2 kd.kids.length e2,.int .i64 kd.mn,.int .i64 kd.mx]:List Value)[j]?:=λj hj=>(hW.cl g (f+j) hg).trans (by have:=hcv j hj;rw[Nat.zero_mul,Nat.add_zero]at this;exact this)
    refine ⟨⟨?_,?_⟩,q 0 Y,q 1 Y,q 2 Y,q 3 Y,q 4 Y⟩
    .rw[cell_of_row _ _ _ _ _ _ hr];rfl
    .rw[cell_of_row _ _ _ _ _ _ hr];rfl
   have Dv:=Z hS;have jk:=λ(w':World) (hw:Below w.heap.size w w')=>ih kd _ w' (by have:=HM.out;omega) (by have:=z8.out;omega) et (bc.later hw)
   have HI:=Z jk;have HB:=Z hb0;have HR:=Z hrow;obtain ⟨x,hx⟩:=ν (aW kd);have fZ:=zu kd;rw[hx]at fZ HI;have HX:=Z hx;obtain ⟨M,rfl⟩:=Int.eq_ofNat_of_zero_le (show 0<=mx by omega)
   obtain ⟨P,hP⟩:∃P:Nat,P=M*x:=⟨_,rfl⟩;have hP1:P<=64*601:=by rw[hP];exact Nat.mul_le_mul Y fZ
   have RT:(M:Int)*(x:Int)=(P:Int):=by rw[hP];simp
   have hP3:IntKind.i64.wrap ((M:Int)*(x:Int))=(P:Int):=by rw[RT];exact IntWalk.i64_in _ Y
   obtain ⟨y,hy⟩:∃y:Nat,y=min P 601:=⟨_,rfl⟩;have AX:min (P:Int) 601=(y:Int):=Y;have HY:=Z (H hP hy);clear hS hcv bc bS jk hb0 hrow et aZ hx hP hy RT;have hz0:=Dv.out _ HB.out HR.out;have RU:=Dv.out _ HB.out.drew HR.out
   go_enter Tryz.func134,Tryz.ntmps134
   go_wp2_with fail;go_region_held3 (λw'=>(w'.cell? ⟨w.heap.size,4,none⟩=some (.int .i64 (M:Int))/\w'.cell? ⟨w.heap.size,2,none⟩=some (.slice (some ⟨g,f,none⟩) 1 c))/\w'.cell? ⟨g,f,none⟩=some (.int .i64 kd.op)/\w'.cell? ⟨g,f+1,none⟩=some (.slice B1 kd.rs.length e1)/\w'.cell? ⟨g,f+2,none⟩=some (.slice B2 kd.kids.length e2)/\w'.cell? ⟨g,f+3,none⟩=some (.int .i64 kd.mn)/\w'.cell? ⟨g,f+4,none⟩=some (.int .i64 kd.mx))
    (first|exact hz0|exact RU|exact hz1|go_keep)
    ((go_at_call 134;refine (HI.out _ HB.out.drew).mono ?_;rintro e w1 ⟨rfl,hb1⟩;have hz1:=Dv.out w1 (HB.out.drew.trans (hb1.mono (HB.out.drew).size)) ((hb1.block w.heap.size ξ).trans HR.out)))
   all_goals
    have HE:=Z (HB.out.drew.trans (hb1.mono (HB.out.drew).size));clear hz0 RU hz1 hb1;go_wp2_with fail
    all_goals
     go_ret;refine ⟨aC ?_,HE.out⟩;have h1:=HY.out.1;have h2:=HY.out.2;have h3:=HX.out;rw[HL.out,if_neg O];simp only[if_true,Int.toNat_natCast,yY];rw[h3,<-h1];omega
theorem qi:∀(m:Nat) (nd:Nd) (vs:List Value) (w:World),au nd<=m->au nd<=200->aA nd=true->bj nd<=1024->bT w nd vs->Calls Tryz.prog 140 #[.agg vs.toArray] w λe w'=>e=.returned (.int .i64 ((bI nd:Nat):Int))/\Below w.heap.size w w':=by
 intro m
 induction m with
 |zero=>intro nd vs w h;cases nd;rw[au]at h;omega
 |succ m ih=>
  rintro ⟨op,rs,kids,mn,mx⟩ vs w h kB hR hlg hn;have HN:=Z hn;obtain ⟨v1,v2,rfl,hr,A,c,rfl,hc,hk⟩:=hn;obtain ⟨A1,c1,rfl,-,-⟩:=hr;have hb0:Below w.heap.size w (w.alloc (.cells #[.int .i64 op,.slice A1 rs.length c1,.slice A kids.length c,.int .i64 mn,.int .i64 mx] 41)):=υ.alloc I _;have hT:au (.mk op rs kids mn mx)=1+aV kids:=by rw[au]
  have hL:bI (.mk op rs kids mn mx)=(if op=1 then 1 else if op=2 then fG kids else if op=3 then dw kids else mn.toNat*zv kids):=by rw[bI]
  rw[hT]at h kB;have aU:=kW kids;have Jz:kids.length<=200:=Y;have HKL:=Z (yb hR hlg);have Pk:=Z (CH hR);have TM:=Z (El hR);obtain ⟨ke,uB⟩:=dm hR;have HL:=Z hL;have HM:=Z h;have z8:=Z kB;have sQ:=Z uB;clear hT h hL kB hR uB aU hlg;rcases ke with rfl|rfl|rfl|⟨rfl,dS,Du,mo,zY⟩
  .go_enter Tryz.func140,Tryz.ntmps140
   go_wp2_with fail;go_ret;exact ⟨aC (by rw[HL.out];rfl),hb0⟩
  .go_enter Tryz.func140,Tryz.ntmps140
   go_wp2_with fail;go_loopw [3,25] (λov iv wr=>∃(k o:Nat),k<=kids.length/\iv=.int .i64 (k:Int)/\ov=.int .i64 (o:Int)/\o<=1024*k/\Hid (o+fG (kids.drop k)=fG kids)/\Below w.heap.size w wr) (λ_ iv _=>kids.length - (intOf iv).toNat)
   case atStart=>exact ⟨0,0,Y,rfl,rfl,Y,by show 0+_=_;rw[List.drop_zero,Nat.zero_add],hb0⟩
   case round=>
    obtain ⟨k,o,hkk,rfl,rfl,ho,HO,hb⟩:=hrel;by_cases hlt:k<kids.length
    .have hd:decide ((k:Int)<(kids.length:Int))=true:=τ;have cX:decide (k<kids.length)=true:=decide_eq_true hlt;obtain ⟨g,f,rfl,hg,bS⟩:=hk.resolve_left (by rintro rfl;simp at hlt)
     obtain ⟨vs,hcv,bc⟩:=bS.at k hlt;have aZ:=aF (List.getElem_mem hlt);have et:=aM sQ.out (List.getElem_mem hlt);have hlk:=HKL.out _ (List.getElem_mem hlt);have hdr:fG (kids.drop k)=bI kids[k]+fG (kids.drop (k+1)):=by rw[List.drop_eq_getElem_cons hlt,fG]
     obtain ⟨kd,bK⟩:=ν (kids[k]);rw[bK]at bc aZ hdr et hlk;have fZ:=nD kd et hlk;obtain ⟨B1,e1,B2,e2,rfl,-,-,-⟩:=bc.form;have q:∀j,j<5->wr.cell? ⟨g,f+k*5+j,none⟩=([.int .i64 kd.op,.slice B1 kd.rs.length e1,.slice B2 kd.kids.length e2,.int .i64 kd.mn,.int .i64 kd.mx]:List Value)[j]?:=λj hj=>(hb.cl g (f+k*5+j) hg).trans (hcv j hj);have q0:=q 0 Y;have q1:=q 1 Y;have q2:=q 2 Y;have q3:=q 3 Y;have q4:=q 4 Y;simp only[Nat.add_zero,List.getElem?_cons_zero,List.getElem?_cons_succ]at q0 q1 q2 q3 q4;have jk:=λ(w':World) (hw:Below w.heap.size w w')=>ih kd _ w' (by have:=HM.out;omega) (by have:=z8.out;omega) et hlk (bc.later hw)
     have HI:=Z jk;have HB:=Z hb;have HD:=Z hdr;clear q hcv bc bK bS jk hb hdr hb0 et;go_wp2_with fail;refine (HI.out _ (HB.out.trans ((Below.refl w.heap.size _).alloc HB.out.size _))).mono ?_;rintro e w1 ⟨rfl,hb1⟩;obtain ⟨x,hx⟩:=ν (bI kd);rw[hx]at fZ|-;have HX:=Z hx;have aX:=Z (show Below w.heap.size w w1 from HB.out.trans ((((Below.refl w.heap.size _).alloc HB.out.size _)).trans (hb1.mono (by have:=HB.out.size;simp;omega))))
     clear hb1 hx aZ hlk q0 q1 q2 q3 q4;go_wp2_with fail;go_roundw
     case rel=>
      refine ⟨k+1,o+x,Y,by go_num,by go_num,Y,?_,aX.out⟩
      have h1:=HO.out;have h2:=HD.out;have h3:=HX.out;exact (by omega:o+x+fG (kids.drop (k+1))=fG kids)
     case measure=>exact μ
    .obtain rfl:k=kids.length:=Y;have bM:=HO.out;rw[List.drop_length,fG,Nat.add_zero]at bM;have HF:=Z bM;have Cz:bI (.mk 2 rs kids mn mx)=fG kids:=by rw[HL.out];simp
     have Gr:=Z Cz;clear Cz bM;go_wp2_with fail;go_ret;exact ⟨aC (by have h2:=HF.out;rw[Gr.out,<-h2]),hb⟩
  .have bX:=Pk.out rfl;obtain ⟨g,f,rfl,hg,bS⟩:=hk.resolve_left (by rintro rfl;simp at bX)
   obtain ⟨vs,hcv,bc⟩:=bS.at 0 Y;have Du:kids[0]∈kids:=List.getElem_mem _;have aZ:=aF Du;have et:=aM sQ.out Du;have hlk:=HKL.out _ Du;obtain ⟨k0,bK⟩:=ν (kids[0]);have cB:min (bI k0) (dw kids)=dw kids:=by
    rw[<-bK];exact zw _
   have jG:=Z cB;rw[bK]at bc aZ et hlk;have fZ:=nD k0 et hlk;obtain ⟨B1,e1,B2,e2,rfl,-,-,-⟩:=bc.form;have q:∀j,j<5->w.cell? ⟨g,f+j,none⟩=([.int .i64 k0.op,.slice B1 k0.rs.length e1,.slice B2 k0.kids.length e2,.int .i64 k0.mn,.int .i64 k0.mx]:List Value)[j]?:=λj hj=>(by have:=hcv j hj;rw[Nat.zero_mul,Nat.add_zero]at this;exact this)
   have hgn:g≠w.heap.size:=Y;have q0:=q 0 Y;have q1:=q 1 Y;have q2:=q 2 Y;have q3:=q 3 Y;have q4:=q 4 Y;simp only[Nat.add_zero,List.getElem?_cons_zero,List.getElem?_cons_succ]at q0 q1 q2 q3 q4;have jk:=λ(w':World) (hw:Below w.heap.size w w')=>ih k0 _ w' (by have:=HM.out;omega) (by have:=z8.out;omega) et hlk (bc.later hw)
   have HI:=Z jk;have cH:=Z hb0;have PF:=Z bS;have HX:=Z (heap_alloc_new w (.cells #[.int .i64 3,.slice A1 rs.length c1,.slice (some ⟨g,f,none⟩) kids.length c,.int .i64 mn,.int .i64 mx] 41));have hZ:0<kids.length:=Y;clear q hcv bc bK bS jk et cB Du hk
   go_enter Tryz.func140,Tryz.ntmps140
   go_wp2_with fail;refine (HI.out _ cH.out).mono ?_;rintro e w1 ⟨rfl,hb1⟩;have Ko:=Z (cH.out.trans (hb1.mono (cH.out).size));have jt:=(hb1.block w.heap.size ξ).trans HX.out;obtain ⟨b0,b1,b2,b3,b4⟩:=aw jt;obtain ⟨x,hx⟩:=ν (bI k0);rw[hx]at fZ jG|-;have hkx:x<=1024:=Y;clear hb1 jt hx aZ hlk q0 q1 q2 q3 q4 fZ HI;go_wp2_with fail;go_loopw [3,44] (λov iv wr=>∃(k o:Nat),k<=kids.length/\iv=.int .i64 (k:Int)/\ov=.int .i64 (o:Int)/\o<=1024/\Hid (min o (dw (kids.drop k))=dw kids)/\Below w.heap.size w wr) (λ_ iv _=>kids.length - (intOf iv).toNat)
   case atStart=>exact ⟨0,x,Y,rfl,rfl,Y,by show min x _=_;rw[List.drop_zero];exact jG.out,Ko.out⟩
   case round=>
    obtain ⟨k,o,hkk,rfl,rfl,ho,HO,hb⟩:=hrel;by_cases hlt:k<kids.length
    .have hd:decide ((k:Int)<(kids.length:Int))=true:=τ;have cX:decide (k<kids.length)=true:=decide_eq_true hlt;obtain ⟨vs,hcv,bc⟩:=PF.out.at k hlt;have aZ:=aF (List.getElem_mem hlt);have et:=aM sQ.out (List.getElem_mem hlt);have hlk:=HKL.out _ (List.getElem_mem hlt);have hdr:dw (kids.drop k)=min (bI kids[k]) (dw (kids.drop (k+1))):=by rw[List.drop_eq_getElem_cons hlt,dw]
     obtain ⟨kd,bK⟩:=ν (kids[k]);rw[bK]at bc aZ hdr et hlk;have fZ:=nD kd et hlk;obtain ⟨B1,e1,B2,e2,rfl,-,-,-⟩:=bc.form;have q:∀j,j<5->wr.cell? ⟨g,f+k*5+j,none⟩=([.int .i64 kd.op,.slice B1 kd.rs.length e1,.slice B2 kd.kids.length e2,.int .i64 kd.mn,.int .i64 kd.mx]:List Value)[j]?:=λj hj=>(hb.cl g (f+k*5+j) hg).trans (hcv j hj);have q0:=q 0 Y;have q1:=q 1 Y;have q2:=q 2 Y;have q3:=q 3 Y;have q4:=q 4 Y;simp only[Nat.add_zero,List.getElem?_cons_zero,List.getElem?_cons_succ]at q0 q1 q2 q3 q4;have jk:=λ(w':World) (hw:Below w.heap.size w w')=>ih kd _ w' (by have:=HM.out;omega) (by have:=z8.out;omega) et hlk (bc.later hw)
     have HI:=Z jk;have HB:=Z hb;have HD:=Z hdr;clear q hcv bc bK jk hb hdr et;go_wp2_with fail;refine (HI.out _ (HB.out.trans ((Below.refl w.heap.size _).alloc HB.out.size _))).mono ?_;rintro e w1 ⟨rfl,hb1⟩;obtain ⟨x,hx⟩:=ν (bI kd);rw[hx]at fZ|-;have HX:=Z hx;have aX:=Z (show Below w.heap.size w w1 from HB.out.trans ((((Below.refl w.heap.size _).alloc HB.out.size _)).trans (hb1.mono (by have:=HB.out.size;simp;omega))))
     obtain ⟨y,hy⟩:∃y:Nat,y=min o x:=⟨_,rfl⟩;have AX:min (o:Int) (x:Int)=(y:Int):=Y;have HY:=Z hy;have hy3:y<=1024:=Y;clear hb1 hx aZ hlk q0 q1 q2 q3 q4 hy;go_wp2_with fail;go_roundw
     case rel=>
      refine ⟨k+1,y,Y,by go_num,by first|go_num | (simp;omega),Y,?_,aX.out⟩
      have h4:=HY.out;have h1:=HO.out;have h2:=HD.out;have h3:=HX.out;exact (by omega:min y (dw (kids.drop (k+1)))=dw kids)
     case measure=>exact μ
    .obtain rfl:k=kids.length:=Y;have bM:=HO.out;rw[List.drop_length,dw]at bM;have HF:=Z bM;have Cz:bI (.mk 3 rs kids mn mx)=dw kids:=by rw[HL.out];simp
     have Gr:=Z Cz;clear Cz bM;go_wp2_with fail;go_ret;exact ⟨aC (by have h2:=HF.out;rw[Gr.out,<-h2];omega),hb⟩
  .obtain ⟨kd,rfl⟩:∃kd,kids=[kd]:=by
    match kids,dS with
    | [a],_=>exact ⟨a,rfl⟩
   obtain ⟨g,f,rfl,hg,bS⟩:=hk.resolve_left ξ;obtain ⟨vs,hcv,bc⟩:=bS.at 0 ξ;have aZ:=aF (List.mem_singleton.2 rfl:kd∈[kd]);have et:=aM sQ.out (List.mem_singleton.2 rfl:kd∈[kd]);have hlk:=HKL.out _ (List.mem_singleton.2 rfl:kd∈[kd])
   replace bc:bT w kd vs:=bc
   obtain ⟨B1,e1,B2,e2,rfl,-,-,-⟩:=bc.form;have hrow:=heap_alloc_new w (.cells #[.int .i64 4,.slice A1 rs.length c1,.slice (some ⟨g,f,none⟩) 1 c,.int .i64 mn,.int .i64 mx] 41);have hS:∀W,Below w.heap.size w W->W.heap[w.heap.size]?=some (.cells #[.int .i64 4,.slice A1 rs.length c1,.slice (some ⟨g,f,none⟩) 1 c,.int .i64 mn,.int .i64 mx] 41 (0,0))->
     (W.cell? ⟨w.heap.size,3,none⟩=some (.int .i64 mn)/\W.cell? ⟨w.heap.size,2,none⟩=some (.slice (some ⟨g,f,none⟩) 1 c))/\
     W.cell? ⟨g,f,none⟩=some (.int .i64 kd.op)/\W.cell? ⟨g,f+1,none⟩=some (.slice B1 kd.rs.length e1)/\W.cell? ⟨g,f+2,none⟩=some (.slice B2 kd.kids.length e2)/\W.cell? ⟨g,f+3,none⟩=some (.int .i64 kd.mn)/\W.cell? ⟨g,f+4,none⟩=some (.int .i64 kd.mx):=by
    intro W hW hr;have q:∀j,j<5->W.cell? ⟨g,f+j,none⟩=([.int .i64 kd.op,.slice B1 kd.rs.length e1,.slice B2 kd.kids.length e2,.int .i64 kd.mn,.int .i64 kd.mx]:List Value)[j]?:=λj hj=>(hW.cl g (f+j) hg).trans (by have:=hcv j hj;rw[Nat.zero_mul,Nat.add_zero]at this;exact this)
    refine ⟨⟨?_,?_⟩,q 0 Y,q 1 Y,q 2 Y,q 3 Y,q 4 Y⟩
    .rw[cell_of_row _ _ _ _ _ _ hr];rfl
    .rw[cell_of_row _ _ _ _ _ _ hr];rfl
   have Dv:=Z hS;have jk:=λ(w':World) (hw:Below w.heap.size w w')=>ih kd _ w' (by have:=HM.out;omega) (by have:=z8.out;omega) et hlk (bc.later hw)
   have HI:=Z jk;have HB:=Z hb0;have HR:=Z hrow;obtain ⟨x,hx⟩:=ν (bI kd);have fZ:=nD kd et hlk;rw[hx]at fZ HI;have HX:=Z hx;have atJ:=TM.out rfl;obtain ⟨M,rfl⟩:=Int.eq_ofNat_of_zero_le (show 0<=mn by omega)
   obtain ⟨P,hP⟩:∃P:Nat,P=M*x:=⟨_,rfl⟩;have hP1:P<=64*1024:=by rw[hP];exact Nat.mul_le_mul Y fZ
   have RT:(M:Int)*(x:Int)=(P:Int):=by rw[hP];simp
   have hP3:IntKind.i64.wrap ((M:Int)*(x:Int))=(P:Int):=by rw[RT];exact IntWalk.i64_in _ Y
   have HY:=Z hP;clear hS hcv bc bS jk hb0 hrow et aZ hx hP RT hlk;have hz0:=Dv.out _ HB.out HR.out;have RU:=Dv.out _ HB.out.drew HR.out
   go_enter Tryz.func140,Tryz.ntmps140
   go_wp2_with fail;go_region_held3 (λw'=>(w'.cell? ⟨w.heap.size,3,none⟩=some (.int .i64 (M:Int))/\w'.cell? ⟨w.heap.size,2,none⟩=some (.slice (some ⟨g,f,none⟩) 1 c))/\w'.cell? ⟨g,f,none⟩=some (.int .i64 kd.op)/\w'.cell? ⟨g,f+1,none⟩=some (.slice B1 kd.rs.length e1)/\w'.cell? ⟨g,f+2,none⟩=some (.slice B2 kd.kids.length e2)/\w'.cell? ⟨g,f+3,none⟩=some (.int .i64 kd.mn)/\w'.cell? ⟨g,f+4,none⟩=some (.int .i64 kd.mx))
    (first|exact hz0|exact RU|exact hz1|go_keep)
    ((go_at_call 140;refine (HI.out _ HB.out.drew).mono ?_;rintro e w1 ⟨rfl,hb1⟩;have hz1:=Dv.out w1 (HB.out.drew.trans (hb1.mono (HB.out.drew).size)) ((hb1.block w.heap.size ξ).trans HR.out)))
   all_goals
    have HE:=Z (HB.out.drew.trans (hb1.mono (HB.out.drew).size));clear hz0 RU hz1 hb1;go_wp2_with fail;go_ret;refine ⟨aC ?_,HE.out⟩;have h1:=HY.out;have h3:=HX.out;rw[HL.out,if_neg O,if_neg O,if_neg O,Int.toNat_natCast,zv,h3,<-h1]
def aR(nd:Nd):Int:=if 200<au nd then 3 else if 20<bP nd then 9 else if aA nd=false then 1 else if 1024<bj nd then 3 else 0
theorem iE{nd:Nd}(h:aR nd=0):au nd<=200/\bP nd<=20/\aA nd=true/\bj nd<=1024:=by
 unfold aR at h;by_cases h1:200<au nd
 .rw[if_pos h1]at h;cases h
 .rw[if_neg h1]at h;by_cases h2:20<bP nd
  .rw[if_pos h2]at h;cases h
  .rw[if_neg h2]at h
   cases h3:aA nd with
   |false=>rw[if_pos h3]at h;cases h
   |true=>
    rw[if_neg (by rw[h3];decide)]at h
    by_cases h4:1024<bj nd
    .rw[if_pos h4]at h;cases h
    .exact ⟨Y,Y,rfl,Y⟩
theorem jS(nd:Nd)(vs:List Value)(w:World)(hn:bT w nd vs):Calls Tryz.prog 91 #[.agg vs.toArray] w λe w'=>e=.returned (.int .i64 (aR nd))/\Below w.heap.size w w':=by
 have HN:=Z (λW (hW:Below w.heap.size w W)=>Jy _ nd vs W I (hn.later hW));have HD:=Z (λW (hW:Below w.heap.size w W)=>JA _ nd vs W 20 Y I (hn.later hW));have HR:=Z (λW (hW:Below w.heap.size w W) (h:au nd<=200)=>JE _ nd vs W I Y (hn.later hW));have HL:=Z (λW (hW:Below w.heap.size w W) (h:au nd<=200) (hr:aA nd=true)=>mD _ nd vs W I h hr (hn.later hW));obtain ⟨A1,c1,A2,c2,rfl,hr,qD,hk⟩:=hn.form;have HB:=Z (show Below w.heap.size w (w.alloc (.cells #[.int .i64 nd.op,.slice A1 nd.rs.length c1,.slice A2 nd.kids.length c2,.int .i64 nd.mn,.int .i64 nd.mx] 41)) from υ.alloc I _);have HX:=Z (heap_alloc_new w (.cells #[.int .i64 nd.op,.slice A1 nd.rs.length c1,.slice A2 nd.kids.length c2,.int .i64 nd.mn,.int .i64 nd.mx] 41));clear hr hk hn
 go_enter Tryz.func91,Tryz.ntmps91
 go_wp2_with fail;refine (HN.out _ HB.out).mono ?_;rintro e w1 ⟨rfl,hb1⟩;obtain ⟨x,hx⟩:=ν (min (au nd) 201);rw[hx];have lC:=Z (show Below w.heap.size w w1 from HB.out.trans (hb1.mono HB.out.size));have jt:=(hb1.block w.heap.size ξ).trans HX.out;obtain ⟨b0,b1,b2,b3,b4⟩:=aw jt;have IG:=Z jt;clear jt hb1;by_cases h1:200<au nd
 .have d1:decide (200<(x:Int))=true:=τ;have HV:=Z (show (3:Int)=aR nd by unfold aR;rw[if_pos h1])
  clear h1 hx;go_wp2_with fail;go_ret;exact ⟨aC HV.out,lC.out⟩
 have d1:decide (200<(x:Int))=false:=θ;have aea:=Z (show au nd<=200 by omega)
 have HV1:=Z (show aR nd=_ by unfold aR;rw[if_neg h1])
 clear h1 hx;go_wp2_with fail;refine (HD.out _ lC.out).mono ?_;rintro e w2 ⟨rfl,aJ⟩;obtain ⟨x2,fZ⟩:=ν (min (bP nd) (20+1));rw[fZ];have wH:=Z (show Below w.heap.size w w2 from lC.out.trans (aJ.mono lC.out.size));have Xa:=(aJ.block w.heap.size (γ IG.out).1).trans IG.out;clear b0 b1 b2 b3 b4;obtain ⟨b0,b1,b2,b3,b4⟩:=aw Xa;have Z7:=Z Xa;clear Xa aJ IG;by_cases h2:20<bP nd
 .have d2:decide (20<(x2:Int))=true:=τ;have HV:=Z (show (9:Int)=aR nd by rw[HV1.out,if_pos h2])
  clear h2 fZ;go_wp2_with fail;go_ret;exact ⟨aC HV.out,wH.out⟩
 have d2:decide (20<(x2:Int))=false:=θ;have HV2:=Z (show aR nd=_ by rw[HV1.out,if_neg h2])
 clear h2 fZ;go_wp2_with fail;refine (HR.out _ wH.out aea.out).mono ?_;rintro e w3 ⟨rfl,bW⟩;have XD:=Z (show Below w.heap.size w w3 from wH.out.trans (bW.mono wH.out.size));have ZS:=(bW.block w.heap.size (γ Z7.out).1).trans Z7.out;clear b0 b1 b2 b3 b4;obtain ⟨b0,b1,b2,b3,b4⟩:=aw ZS;have HX3:=Z ZS;clear ZS bW Z7
 cases h3:aA nd with
 |false=>
  have HV:=Z (show (1:Int)=aR nd by rw[HV2.out,if_pos h3])
  clear h3;go_wp2_with fail;go_ret;exact ⟨aC HV.out,XD.out⟩
 |true=>
  have HV3:=Z (show aR nd=_ by rw[HV2.out,if_neg (by rw[h3];decide)])
  have H3:=Z h3;clear h3;go_wp2_with fail;refine (HL.out _ XD.out aea.out H3.out).mono ?_;rintro e w4 ⟨rfl,dM⟩;have HW4:=Z (show Below w.heap.size w w4 from XD.out.trans (dM.mono XD.out.size));have hle:=eG nd;generalize bj nd=y at *;clear dM;by_cases h4:1024<y
  .have d4:decide (1024<(y:Int))=true:=τ;have HV:=Z (show (3:Int)=aR nd by rw[HV3.out,if_pos h4])
   clear h4;go_wp2_with fail;go_ret;exact ⟨aC HV.out,HW4.out⟩
  .have d4:decide (1024<(y:Int))=false:=θ;have HV:=Z (show (0:Int)=aR nd by rw[HV3.out,if_neg h4])
   clear h4;go_wp2_with fail;go_ret;exact ⟨aC HV.out,HW4.out⟩
def akO(nd:Nd):Nat:=if aR nd=0 then bI nd else 0
def ao9(nd:Nd):Nat:=if aR nd=0 then bj nd else 0
theorem jK.rows{w:World}{v:Value}{rs:List (Nat×Nat)}(h:jK w v rs):je 2 w v (rs.map λr=>[Value.int .u8 (r.1:Int),Value.int .u8 (r.2:Int)]):=by
 obtain ⟨A,c,rfl,hc,h⟩:=h;refine ⟨A,c,ξ,by simpa using hc,?_⟩
 rcases h with rfl|⟨g,f,h1,h2,h3⟩
 .exact .inl rfl
 .refine .inr ⟨g,f,h1,h2,λi hi=>?_⟩;have hi':i<rs.length:=by simpa using hi
  obtain ⟨⟨q1,q2⟩,-,-⟩:=h3 i hi';refine ⟨ξ,λj hj=>?_⟩
  match j,hj with
  |0,_=>rw[Nat.add_zero,q1];simp
  |1,_=>rw[q2];simp
theorem Je(a b:Nat)(c:Int)(bx:Nat)(w:World)(hb:w.cell? ⟨bx,0,none⟩=some (.int .u8 c)):
  Calls Tryz.prog 192 #[.agg #[.int .u8 (a:Int),.int .u8 (b:Int)],.pointer (some ⟨bx,0,none⟩)] w λe w'=>e=.returned (.bool (decide ((a:Int)<=c) && decide (c<=(b:Int))))/\Below w.heap.size w w':=by
 have dL:bx<w.heap.size:=by
  by_cases h:bx<w.heap.size
  .exact h
  .simp[World.cell?,Array.getElem?_eq_none (Nat.le_of_not_lt h)]at hb
 have hne:bx≠w.heap.size:=Y;have hB:Below w.heap.size w (w.alloc (.cells #[.int .u8 (a:Int),.int .u8 (b:Int)] 84)):=υ.alloc I _;have aJ:=(hB.cl bx 0 dL).trans hb;have HB:=Z hB;clear hB
 go_enter Tryz.func192,Tryz.ntmps192
 by_cases h1:(a:Int)<=c
 .have hd1:decide ((a:Int)<=c)=true:=decide_eq_true h1;rw[hd1];clear h1;go_wp2_with fail;go_ret;exact ⟨by rw[Bool.true_and];rfl,HB.out⟩
 .have hd1:decide ((a:Int)<=c)=false:=decide_eq_false h1;rw[hd1];clear h1;go_wp2_with fail;go_ret;exact ⟨rfl,HB.out⟩
theorem MW(args:Array Value)(w:World):(callFunc 192 args).run Tryz.prog w=.ok (.enter 192 args) w:=by rfl
theorem I8(v:Value)(rs:List (Nat×Nat))(c:Nat)(w:World)(h:jK w v rs):Calls Tryz.prog 167 #[v,.int .u8 (c:Int)] w λe w'=>e=.returned (.bool (lu rs c))/\Below w.heap.size w w':=by
 have hB:Below w.heap.size w (w.alloc (.cells #[.int .u8 (c:Int)] 5)):=υ.alloc I _;have hx:(w.alloc (.cells #[.int .u8 (c:Int)] 5)).cell? ⟨w.heap.size,0,none⟩=some (.int .u8 (c:Int)):=by rw[cell_of_row _ _ _ _ _ _ (heap_alloc_new w _)];rfl
 have lH:=(h.later hB).rows;have KU:sG 192 #[.pointer (some ⟨w.heap.size,0,none⟩)] (rs.map λr=>[Value.int .u8 (r.1:Int),Value.int .u8 (r.2:Int)]) (rs.map λr=>decide (r.1<=c) && decide (c<=r.2)) (w.alloc (.cells #[.int .u8 (c:Int)] 5)):=by
  refine ⟨MW,ξ,λi hi b hb w' hw'=>?_⟩;have hi':i<rs.length:=by simpa using hi
  rw[List.getElem?_map,List.getElem?_eq_getElem hi']at hb;simp only[Option.map_some,Option.some.injEq]at hb;have h1:=Je rs[i].1 rs[i].2 (c:Int) w.heap.size w' ((hw'.cl w.heap.size 0 ξ).trans hx);rw[show (decide ((rs[i].1:Int)<=(c:Int)) && decide ((c:Int)<=(rs[i].2:Int)))=b by rw[<-hb]; congr 1 <;> simp]at h1
  simpa using h1
 have pD:bR (rs.map λr=>decide (r.1<=c) && decide (c<=r.2))=lu rs c:=fg _ rs;have HC:=Z (Jf 192 #[.pointer (some ⟨w.heap.size,0,none⟩)] _ _ v _ lH KU);rw[pD]at HC;have HB:=Z hB;obtain ⟨A,c',rfl,YM,-⟩:=h;clear KU lH pD hB
 go_enter Tryz.func167,Tryz.ntmps167
 go_wp2_with fail;refine HC.out.mono ?_;rintro e w1 ⟨rfl,hb⟩;go_wp2_with fail;go_ret;exact ⟨rfl,HB.out.trans (hb.mono ξ)⟩
end Go.Proofs.YtdmoogjddmdmbaaGreatDoor
