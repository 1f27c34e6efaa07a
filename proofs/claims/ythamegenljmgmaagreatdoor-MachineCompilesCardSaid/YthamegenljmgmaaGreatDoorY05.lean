/- Walks. -/
import Derived.Test.YthamegenljmgmaaGreatDoorY04
import Derived.Deep.RegionHeld3
import Derived.Deep.QuietTactic
import Derived.BigQuiet
import Derived.Test.YthamegenljmgmaaGreatDoorY01
set_option maxRecDepth 100000
set_option maxHeartbeats 16000000
set_option linter.unusedVariables false
set_option linter.unusedSimpArgs false
namespace Go.Proofs.YthamegenljmgmaaGreatDoor
open Go.RowKit
theorem mQ:∀l:List Nd,l.length<=a7 l
 | []=>H
 |k::r=>by cases k;rw[a7,aA,List.length_cons];have:=mQ r;omega
theorem IJ:∀(m:Nat) (nd:Nd) (vs:List Value) (w:World),aA nd<=m->bY w nd vs->Calls Tryz.prog 31 #[.agg vs.toArray] w λe w'=>e=.returned (.int .i64 ((min (aA nd) 201:Nat):Int))/\Below w w w':=by
 intro m
 induction m with
 |zero=>intro nd vs w h;cases nd;rw[aA]at h;omega
 |succ m ih=>
  rintro ⟨op,rs,kids,mn,mx⟩ vs w h hn;have HN:=Y hn;obtain ⟨v1,v2,rfl,hr,A,c,rfl,hc,hk⟩:=hn;obtain ⟨A1,c1,rfl,-,-⟩:=hr
  go_enter Tryz.func31,Tryz.ntmps31
  have hb0:Below w w (w.alloc (.cells #[.int .i64 op,.slice A1 rs.length c1,.slice A kids.length c,.int .i64 mn,.int .i64 mx] 26)):=D.alloc V _;have hT:aA (.mk op rs kids mn mx)=1+a7 kids:=by rw[aA]
  rw[hT]at h;have aV:kids.length<=a7 kids:=mQ kids;have HT:=Y hT;have HM:=Y h;have IK:kids.length<=9223372036854775807:=U;clear hT h;go_wp2_with fail;go_loopw [3,9] (λov iv wr=>∃(k o:Nat),k<=kids.length/\iv=.int .i64 (k:Int)/\ov=.int .i64 (o:Int)/\o<=200/\Hid (o+a7 (kids.drop k)=1+a7 kids)/\Below w w wr) (λ_ iv _=>kids.length - (intOf iv).toNat)
  case atStart=>exact ⟨0,1,U,rfl,rfl,U,rfl,hb0⟩
  case round=>
   obtain ⟨k,o,k6,rfl,rfl,ho,HO,hb⟩:=hrel;by_cases aB:k<kids.length
   .have hd:decide ((k:Int)<(kids.length:Int))=true:=τ;have dV:decide (k<kids.length)=true:=decide_eq_true aB;obtain ⟨g,f,rfl,hg,bU⟩:=hk.resolve_left (by rintro rfl;simp at aB)
    obtain ⟨vs,dx,aY⟩:=bU.at k aB;have b7:=aQ (List.getElem_mem aB);have fg:a7 (kids.drop k)=aA kids[k]+a7 (kids.drop (k+1)):=by rw[List.drop_eq_getElem_cons aB,a7]
    obtain ⟨kd,cU⟩:=ν (kids[k]);rw[cU]at aY b7 fg;obtain ⟨B1,e1,B2,e2,rfl,-,-,-⟩:=aY.form;have q:∀j,j<5->wr.cell? (Z g (f+k*5+j))=([.int .i64 kd.op,.slice B1 kd.rs.length e1,.slice B2 kd.kids.length e2,.int .i64 kd.mn,.int .i64 kd.mx]:List Value)[j]?:=λj hj=>(hb.cl g (f+k*5+j) hg).t (dx j hj);have q0:=q 0 U;have q1:=q 1 U;have q2:=q 2 U;have q3:=q 3 U;have q4:=q 4 U;simp only[Nat.add_zero,List.getElem?_cons_zero,List.getElem?_cons_succ]at q0 q1 q2 q3 q4;have vR:=λ(w':World) (hw:Below w w w')=>ih kd _ w' (by have:=HM.o;omega) (aY.later hw)
    have HI:=Y vR;have HB:=Y hb;have HD:=Y fg;clear q dx aY cU bU vR hb fg hb0;go_wp2_with fail;refine (HI _ (HB.t ((Below.refl w.heap.size _).alloc HB.size _))).mono ?_;rintro e w1 ⟨rfl,aM⟩;obtain ⟨x,hx⟩:=ν (min (aA kd) 201);rw[hx];have gO:x<=201:=U;have HX:=Y hx;have cM:=Y (show Below w w w1 from HB.t ((((Below.refl w.heap.size _).alloc HB.size _)).t (aM.mono (by have:=HB.size;simp;omega))))
    clear aM hx b7 q0 q1 q2 q3 q4;by_cases xj:200<o+x
    .have nw:decide (200<(o:Int)+(x:Int))=true:=τ;go_wp2_with fail;go_ret;refine ⟨aP ?_,cM.o⟩;have h1:=HO.o;have h2:=HD.o;have h3:=HX.o;rw[HT.o];omega
    .have nw:decide (200<(o:Int)+(x:Int))=false:=θ;go_wp2_with fail;go_roundw
     case rel=>
      refine ⟨k+1,o+x,U,by go_num,by go_num,U,?_,cM.o⟩
      have h1:=HO.o;have h2:=HD.o;have h3:=HX.o;exact (by omega:o+x+a7 (kids.drop (k+1))=1+a7 kids)
     case measure=>exact μ
   .obtain rfl:k=kids.length:=U;go_wp2_with fail;go_ret;refine ⟨aP ?_,hb⟩;have h1:=HO.o;rw[List.drop_length,a7]at h1;rw[HT.o];omega
theorem IM:∀(m:Nat) (nd:Nd) (vs:List Value) (w:World) (left:Nat),left<=1000->aA nd<=m->bY w nd vs->Calls Tryz.prog 32 #[.agg vs.toArray,(left:Int)] w λe w'=>e=.returned (.int .i64 ((min (bZ nd) (left+1):Nat):Int))/\Below w w w':=by
 intro m
 induction m with
 |zero=>intro nd vs w left _ h;cases nd;rw[aA]at h;omega
 |succ m ih=>
  rintro ⟨op,rs,kids,mn,mx⟩ vs w left am0 h hn;have HN:=Y hn;obtain ⟨v1,v2,rfl,hr,A,c,rfl,hc,hk⟩:=hn;obtain ⟨A1,c1,rfl,-,-⟩:=hr;have hb0:Below w w (w.alloc (.cells #[.int .i64 op,.slice A1 rs.length c1,.slice A kids.length c,.int .i64 mn,.int .i64 mx] 26)):=D.alloc V _;have hT:aA (.mk op rs kids mn mx)=1+a7 kids:=by rw[aA]
  have hD:bZ (.mk op rs kids mn mx)=1+bS kids:=by rw[bZ]
  rw[hT]at h;have IK:kids.length<=9223372036854775807:=U;have HT:=Y hD;have HM:=Y h;clear hT h hD
  cases left with
  |zero=>
   go_enter Tryz.func32,Tryz.ntmps32
   go_wp2_with fail;go_ret;exact ⟨aP (by rw[HT.o];omega),hb0⟩
  |succ left=>
   obtain ⟨L,hL⟩:∃L:Int,L=((left+1:Nat):Int):=⟨_,rfl⟩;rw[<-hL];have DV:(L == 0)=false:=ψ;have wI:L - 1=(left:Int):=U;have hl3:1<=L/\L<=1000:=U;clear hL
   go_enter Tryz.func32,Tryz.ntmps32
   go_wp2_with fail;go_loopw [5,13] (λov iv wr=>∃(k o:Nat),k<=kids.length/\iv=.int .i64 (k:Int)/\ov=.int .i64 (o:Int)/\o<=1001/\Hid (max o (min (bS (kids.drop k)) (left+1))=min (bS kids) (left+1))/\Below w w wr) (λ_ iv _=>kids.length - (intOf iv).toNat)
   case atStart=>exact ⟨0,0,U,rfl,rfl,U,by show max 0 _=_;rw[List.drop_zero];omega,hb0⟩
   case round=>
    obtain ⟨k,o,k6,rfl,rfl,ho,HO,hb⟩:=hrel;by_cases aB:k<kids.length
    .have hd:decide ((k:Int)<(kids.length:Int))=true:=τ;have dV:decide (k<kids.length)=true:=decide_eq_true aB;obtain ⟨g,f,rfl,hg,bU⟩:=hk.resolve_left (by rintro rfl;simp at aB)
     obtain ⟨vs,dx,aY⟩:=bU.at k aB;have b7:=aQ (List.getElem_mem aB);have fg:bS (kids.drop k)=max (bZ kids[k]) (bS (kids.drop (k+1))):=by rw[List.drop_eq_getElem_cons aB,bS]
     obtain ⟨kd,cU⟩:=ν (kids[k]);rw[cU]at aY b7 fg;obtain ⟨B1,e1,B2,e2,rfl,-,-,-⟩:=aY.form;have q:∀j,j<5->wr.cell? (Z g (f+k*5+j))=([.int .i64 kd.op,.slice B1 kd.rs.length e1,.slice B2 kd.kids.length e2,.int .i64 kd.mn,.int .i64 kd.mx]:List Value)[j]?:=λj hj=>(hb.cl g (f+k*5+j) hg).t (dx j hj);have q0:=q 0 U;have q1:=q 1 U;have q2:=q 2 U;have q3:=q 3 U;have q4:=q 4 U;simp only[Nat.add_zero,List.getElem?_cons_zero,List.getElem?_cons_succ]at q0 q1 q2 q3 q4;have vR:=λ(w':World) (hw:Below w w w')=>ih kd _ w' left U (by have:=HM.o;omega) (aY.later hw)
     have HI:=Y vR;have HB:=Y hb;have HD:=Y fg;clear q dx aY cU bU vR hb fg hb0;go_wp2_with fail;refine (HI _ (HB.t ((Below.refl w.heap.size _).alloc HB.size _))).mono ?_;rintro e w1 ⟨rfl,aM⟩;obtain ⟨x,hx⟩:=ν (min (bZ kd) (left+1));rw[hx];have gO:x<=1001:=U;have HX:=Y hx;have cM:=Y (show Below w w w1 from HB.t ((((Below.refl w.heap.size _).alloc HB.size _)).t (aM.mono (by have:=HB.size;simp;omega))))
     clear aM hx b7 q0 q1 q2 q3 q4;obtain ⟨y,hy⟩:∃y:Nat,y=max o x:=⟨_,rfl⟩;have rS:max (o:Int) (x:Int)=(y:Int):=U;have HY:=Y hy;have TH:y<=1001:=U;clear hy;go_wp2_with fail;go_roundw
     case rel=>
      refine ⟨k+1,y,U,by go_num,by first|go_num | (simp;omega),U,?_,cM.o⟩
      have h1:=HO.o;have h2:=HD.o;have h3:=HX.o;have h4:=HY.o;exact (by omega:max y (min (bS (kids.drop (k+1))) (left+1))=min (bS kids) (left+1))
     case measure=>exact μ
    .obtain rfl:k=kids.length:=U;go_wp2_with fail;go_ret;refine ⟨aP ?_,hb⟩;have h1:=HO.o;rw[List.drop_length,bS]at h1;rw[HT.o];omega
theorem dD{op:Int}{rs:List (Nat×Nat)}{kids:List Nd}{mn mx:Int}(h:aF (.mk op rs kids mn mx)=true):(op=1\/op=2\/op=3\/(op=4/\kids.length=1/\0<=mn/\1<=mx/\mx<=64))/\aX kids=true:=by
 rw[aF,Bool.and_eq_true]at h;refine ⟨?_,h.2⟩;have h1:=h.1
 dsimp only [dy]at h1
 by_cases e1:op=1
 .exact .inl e1
 .rw[if_neg e1]at h1;by_cases e2:op=2\/op=3
  .rcases e2 with e|e
   .exact .inr (.inl e)
   .exact .inr (.inr (.inl e))
  .rw[if_neg e2]at h1;by_cases e3:op=4
   .rw[if_pos e3]at h1;simp at h1;exact .inr (.inr (.inr ⟨e3,U,U,U,U⟩))
   .rw[if_neg e3]at h1;cases h1
theorem bh:∀{l:List Nd} {k:Nd},aX l=true->k∈l->aF k=true
 |a::r,k,h,hm=>by
  rw[aX,Bool.and_eq_true]at h;rcases List.mem_cons.1 hm with rfl|hm
  .exact h.1
  .exact bh h.2 hm
theorem fK(n:Nd):bW n<=1025:=by cases n;rw[bW];omega
theorem Cp:∀(m:Nat) (nd:Nd) (vs:List Value) (w:World),aA nd<=m->aA nd<=200->aF nd=true->bY w nd vs->Calls Tryz.prog 34 #[.agg vs.toArray] w λe w'=>e=.returned (.int .i64 ((bW nd:Nat):Int))/\Below w w w':=by
 intro m
 induction m with
 |zero=>intro nd vs w h;cases nd;rw[aA]at h;omega
 |succ m ih=>
  rintro ⟨op,rs,kids,mn,mx⟩ vs w h gQ hR hn;have HN:=Y hn;obtain ⟨v1,v2,rfl,hr,A,c,rfl,hc,hk⟩:=hn;obtain ⟨A1,c1,rfl,-,-⟩:=hr;have hb0:Below w w (w.alloc (.cells #[.int .i64 op,.slice A1 rs.length c1,.slice A kids.length c,.int .i64 mn,.int .i64 mx] 26)):=D.alloc V _;have hT:aA (.mk op rs kids mn mx)=1+a7 kids:=by rw[aA]
  have hL:bW (.mk op rs kids mn mx)=min (if op=1 then 1 else if op=2 then dq kids else if op=3 then dI kids else mx.toNat*rm kids) 1025:=by rw[bW]
  rw[hT]at h gQ;have aV:=mQ kids;have IK:kids.length<=200:=U;obtain ⟨jE,xn⟩:=dD hR;have HL:=Y hL;have HM:=Y h;have Gk:=Y gQ;have AO:=Y xn;clear hT h hL gQ hR xn aV;rcases jE with rfl|rfl|rfl|⟨rfl,bQ,Kd,qd,sY⟩
  .go_enter Tryz.func34,Tryz.ntmps34
   go_wp2_with fail;go_ret;exact ⟨aP (by rw[HL.o];rfl),hb0⟩
  .go_enter Tryz.func34,Tryz.ntmps34
   go_wp2_with fail;go_loopw [3,25] (λov iv wr=>∃(k o:Nat),k<=kids.length/\iv=.int .i64 (k:Int)/\ov=.int .i64 (o:Int)/\o<=1025*k/\Hid (o+dq (kids.drop k)=dq kids)/\Below w w wr) (λ_ iv _=>kids.length - (intOf iv).toNat)
   case atStart=>exact ⟨0,0,U,rfl,rfl,U,by show 0+_=_;rw[List.drop_zero,Nat.zero_add],hb0⟩
   case round=>
    obtain ⟨k,o,k6,rfl,rfl,ho,HO,hb⟩:=hrel;by_cases aB:k<kids.length
    .have hd:decide ((k:Int)<(kids.length:Int))=true:=τ;have dV:decide (k<kids.length)=true:=decide_eq_true aB;obtain ⟨g,f,rfl,hg,bU⟩:=hk.resolve_left (by rintro rfl;simp at aB)
     obtain ⟨vs,dx,aY⟩:=bU.at k aB;have b7:=aQ (List.getElem_mem aB);have k7:=bh AO.o (List.getElem_mem aB);have fg:dq (kids.drop k)=bW kids[k]+dq (kids.drop (k+1)):=by rw[List.drop_eq_getElem_cons aB,dq]
     obtain ⟨kd,cU⟩:=ν (kids[k]);rw[cU]at aY b7 fg k7;obtain ⟨B1,e1,B2,e2,rfl,-,-,-⟩:=aY.form;have q:∀j,j<5->wr.cell? (Z g (f+k*5+j))=([.int .i64 kd.op,.slice B1 kd.rs.length e1,.slice B2 kd.kids.length e2,.int .i64 kd.mn,.int .i64 kd.mx]:List Value)[j]?:=λj hj=>(hb.cl g (f+k*5+j) hg).t (dx j hj);have q0:=q 0 U;have q1:=q 1 U;have q2:=q 2 U;have q3:=q 3 U;have q4:=q 4 U;simp only[Nat.add_zero,List.getElem?_cons_zero,List.getElem?_cons_succ]at q0 q1 q2 q3 q4;have vR:=λ(w':World) (hw:Below w w w')=>ih kd _ w' (by have:=HM.o;omega) (by have:=Gk.o;omega) k7 (aY.later hw)
     have HI:=Y vR;have HB:=Y hb;have HD:=Y fg;clear q dx aY cU bU vR hb fg hb0 k7;go_wp2_with fail;refine (HI _ (HB.t ((Below.refl w.heap.size _).alloc HB.size _))).mono ?_;rintro e w1 ⟨rfl,aM⟩;obtain ⟨x,hx⟩:=ν (bW kd);have gO:=fK kd;rw[hx]at gO|-;have HX:=Y hx;have cM:=Y (show Below w w w1 from HB.t ((((Below.refl w.heap.size _).alloc HB.size _)).t (aM.mono (by have:=HB.size;simp;omega))))
     clear aM hx b7 q0 q1 q2 q3 q4;go_wp2_with fail;go_roundw
     case rel=>
      refine ⟨k+1,o+x,U,by go_num,by go_num,U,?_,cM.o⟩
      have h1:=HO.o;have h2:=HD.o;have h3:=HX.o;exact (by omega:o+x+dq (kids.drop (k+1))=dq kids)
     case measure=>exact μ
    .obtain rfl:k=kids.length:=U;have dW:=HO.o;rw[List.drop_length,dq,Nat.add_zero]at dW;have HF:=Y dW;obtain ⟨y,hy⟩:∃y:Nat,y=min o 1025:=⟨_,rfl⟩;have rS:min (o:Int) 1025=(y:Int):=U;have HY:=Y hy;clear dW hy;have MJ:bW (.mk 2 rs kids mn mx)=min (dq kids) 1025:=by rw[HL.o];simp
     have O0:=Y MJ;clear MJ;go_wp2_with fail
     all_goals
      go_ret;refine ⟨aP ?_,hb⟩;have h1:=HY.o;have h2:=HF.o;rw[O0.o,<-h2];omega
  .go_enter Tryz.func34,Tryz.ntmps34
   go_wp2_with fail;go_loopw [3,39] (λov iv wr=>∃(k o:Nat),k<=kids.length/\iv=.int .i64 (k:Int)/\ov=.int .i64 (o:Int)/\o<=1025/\Hid (max o (dI (kids.drop k))=dI kids)/\Below w w wr) (λ_ iv _=>kids.length - (intOf iv).toNat)
   case atStart=>exact ⟨0,0,U,rfl,rfl,U,by show max 0 _=_;rw[List.drop_zero,Nat.zero_max],hb0⟩
   case round=>
    obtain ⟨k,o,k6,rfl,rfl,ho,HO,hb⟩:=hrel;by_cases aB:k<kids.length
    .have hd:decide ((k:Int)<(kids.length:Int))=true:=τ;have dV:decide (k<kids.length)=true:=decide_eq_true aB;obtain ⟨g,f,rfl,hg,bU⟩:=hk.resolve_left (by rintro rfl;simp at aB)
     obtain ⟨vs,dx,aY⟩:=bU.at k aB;have b7:=aQ (List.getElem_mem aB);have k7:=bh AO.o (List.getElem_mem aB);have fg:dI (kids.drop k)=max (bW kids[k]) (dI (kids.drop (k+1))):=by rw[List.drop_eq_getElem_cons aB,dI]
     obtain ⟨kd,cU⟩:=ν (kids[k]);rw[cU]at aY b7 fg k7;obtain ⟨B1,e1,B2,e2,rfl,-,-,-⟩:=aY.form;have q:∀j,j<5->wr.cell? (Z g (f+k*5+j))=([.int .i64 kd.op,.slice B1 kd.rs.length e1,.slice B2 kd.kids.length e2,.int .i64 kd.mn,.int .i64 kd.mx]:List Value)[j]?:=λj hj=>(hb.cl g (f+k*5+j) hg).t (dx j hj);have q0:=q 0 U;have q1:=q 1 U;have q2:=q 2 U;have q3:=q 3 U;have q4:=q 4 U;simp only[Nat.add_zero,List.getElem?_cons_zero,List.getElem?_cons_succ]at q0 q1 q2 q3 q4;have vR:=λ(w':World) (hw:Below w w w')=>ih kd _ w' (by have:=HM.o;omega) (by have:=Gk.o;omega) k7 (aY.later hw)
     have HI:=Y vR;have HB:=Y hb;have HD:=Y fg;clear q dx aY cU bU vR hb fg hb0 k7;go_wp2_with fail;refine (HI _ (HB.t ((Below.refl w.heap.size _).alloc HB.size _))).mono ?_;rintro e w1 ⟨rfl,aM⟩;obtain ⟨x,hx⟩:=ν (bW kd);have gO:=fK kd;rw[hx]at gO|-;have HX:=Y hx;have cM:=Y (show Below w w w1 from HB.t ((((Below.refl w.heap.size _).alloc HB.size _)).t (aM.mono (by have:=HB.size;simp;omega))))
     obtain ⟨y,hy⟩:∃y:Nat,y=max o x:=⟨_,rfl⟩;have rS:max (o:Int) (x:Int)=(y:Int):=U;have HY:=Y hy;have TH:y<=1025:=U;clear aM hx b7 q0 q1 q2 q3 q4 hy;go_wp2_with fail;go_roundw
     case rel=>
      refine ⟨k+1,y,U,by go_num,by first|go_num | (simp;omega),U,?_,cM.o⟩
      have h4:=HY.o;have h1:=HO.o;have h2:=HD.o;have h3:=HX.o;exact (by omega:max y (dI (kids.drop (k+1)))=dI kids)
     case measure=>exact μ
    .obtain rfl:k=kids.length:=U;have dW:=HO.o;rw[List.drop_length,dI,Nat.max_zero]at dW;have HF:=Y dW;obtain ⟨y,hy⟩:∃y:Nat,y=min o 1025:=⟨_,rfl⟩;have rS:min (o:Int) 1025=(y:Int):=U;have HY:=Y hy;clear dW hy;have MJ:bW (.mk 3 rs kids mn mx)=min (dI kids) 1025:=by rw[HL.o];simp
     have O0:=Y MJ;clear MJ;go_wp2_with fail
     all_goals
      go_ret;refine ⟨aP ?_,hb⟩;have h1:=HY.o;have h2:=HF.o;rw[O0.o,<-h2];omega
  .obtain ⟨kd,rfl⟩:∃kd,kids=[kd]:=by
    match kids,bQ with
    | [a],_=>exact ⟨a,rfl⟩
   obtain ⟨g,f,rfl,hg,bU⟩:=hk.resolve_left H;obtain ⟨vs,dx,aY⟩:=bU.at 0 H;have b7:=aQ (List.mem_singleton.2 rfl:kd∈[kd]);have k7:=bh AO.o (List.mem_singleton.2 rfl:kd∈[kd])
   replace aY:bY w kd vs:=aY
   obtain ⟨B1,e1,B2,e2,rfl,-,-,-⟩:=aY.form;have aC:=heap_alloc_new w (.cells #[(4:Int),.slice A1 rs.length c1,.slice (Z g f) 1 c,.int .i64 mn,.int .i64 mx] 26);have hS:∀W,Below w w W->W.heap[w.heap.size]?=some (.cells #[(4:Int),.slice A1 rs.length c1,.slice (Z g f) 1 c,.int .i64 mn,.int .i64 mx] 26)->
     (W.cell? (Z w 4)=some (.int .i64 mx)/\W.cell? (Z w 2)=some (.slice (Z g f) 1 c))/\
     W.cell? (Z g f)=some (.int .i64 kd.op)/\W.cell? (Z g (f+1))=some (.slice B1 kd.rs.length e1)/\W.cell? (Z g (f+2))=some (.slice B2 kd.kids.length e2)/\W.cell? (Z g (f+3))=some (.int .i64 kd.mn)/\W.cell? (Z g (f+4))=some (.int .i64 kd.mx):=by
    intro W hW hr;have q:∀j,j<5->W.cell? (Z g (f+j))=([.int .i64 kd.op,.slice B1 kd.rs.length e1,.slice B2 kd.kids.length e2,.int .i64 kd.mn,.int .i64 kd.mx]:List Value)[j]?:=λj hj=>(hW.cl g (f+j) hg).t (by have:=dx j hj;rw[Nat.zero_mul,Nat.add_zero]at this;exact this)
    refine ⟨⟨?_,?_⟩,q 0 U,q 1 U,q 2 U,q 3 U,q 4 U⟩
    .rw[Φ hr];rfl
    .rw[Φ hr];rfl
   have Kj:=Y hS;have vR:=λ(w':World) (hw:Below w w w')=>ih kd _ w' (by have:=HM.o;omega) (by have:=Gk.o;omega) k7 (aY.later hw)
   have HI:=Y vR;have HB:=Y hb0;have HR:=Y aC;obtain ⟨x,hx⟩:=ν (bW kd);have gO:=fK kd;rw[hx]at gO HI;have HX:=Y hx;obtain ⟨M,rfl⟩:=Int.eq_ofNat_of_zero_le (show 0<=mx by omega)
   obtain ⟨P,hP⟩:∃P:Nat,P=M*x:=⟨_,rfl⟩;have hP1:P<=64*1025:=by rw[hP];exact Nat.mul_le_mul U gO
   have QY:(M:Int)*(x:Int)=(P:Int):=by rw[hP];simp
   have hP3:IntKind.i64.wrap ((M:Int)*(x:Int))=(P:Int):=by rw[QY];exact IntWalk.i64_in _ U
   obtain ⟨y,hy⟩:∃y:Nat,y=min P 1025:=⟨_,rfl⟩;have rS:min (P:Int) 1025=(y:Int):=U;have HY:=Y (I hP hy);clear hS dx aY bU vR hb0 aC k7 b7 hx hP hy QY;have dY:=Kj _ HB.o HR.o;have O9:=Kj _ HB.drew HR.o
   go_enter Tryz.func34,Tryz.ntmps34
   go_wp2_with fail;go_region_held3 (λw'=>(w'.cell? (Z w 4)=some (.int .i64 (M:Int))/\w'.cell? (Z w 2)=some (.slice (Z g f) 1 c))/\w'.cell? (Z g f)=some (.int .i64 kd.op)/\w'.cell? (Z g (f+1))=some (.slice B1 kd.rs.length e1)/\w'.cell? (Z g (f+2))=some (.slice B2 kd.kids.length e2)/\w'.cell? (Z g (f+3))=some (.int .i64 kd.mn)/\w'.cell? (Z g (f+4))=some (.int .i64 kd.mx))
    (first|exact dY|exact O9|exact dh|go_keep)
    ((go_at_call 34;refine (HI _ HB.drew).mono ?_;rintro e w1 ⟨rfl,aM⟩;have dh:=Kj w1 (HB.drew.t (aM.mono (HB.drew).size)) ((aM.block w H).t HR.o)))
   all_goals
    have HE:=Y (HB.drew.t (aM.mono (HB.drew).size));clear dY O9 dh aM;go_wp2_with fail
    all_goals
     go_ret;refine ⟨aP ?_,HE.o⟩;have h1:=HY.1;have h2:=HY.2;have h3:=HX.o;rw[HL.o,if_neg O,if_neg O,if_neg O,Int.toNat_natCast,rm,h3,<-h1];omega
theorem aD{w:World}{b:Nat}{T:TypeId}{a0 a1 a2 a3 a4:Value}(h:w.heap[b]?=some (.cells #[a0,a1,a2,a3,a4] T (0,0))):
  w.cell? (Z b 0)=some a0/\w.cell? (Z b 1)=some a1/\w.cell? (Z b 2)=some a2/\w.cell? (Z b 3)=some a3/\w.cell? (Z b 4)=some a4:=by
 refine ⟨?_,?_,?_,?_,?_⟩ <;> (rw[Φ h]; rfl)
def zP(rs:List (Nat×Nat))(nk:Nat)(mn mx:Int):Bool:=ep rs && (!rs.isEmpty && (decide (nk=0) && (decide (mn=0) && decide (mx=0))))
def tj(rs:List (Nat×Nat))(k:Nat):Bool:=match k with
 |0=>ep rs
 |k+1=>ep (rs.drop k)
theorem Cq{a:Nat×Nat}{r:List (Nat×Nat)}(h:a.2<a.1):ep (a::r)=false:=by
 cases r with
 |nil=>simp[ep];omega
 |cons c r=>simp[ep];omega
theorem mR{rs:List (Nat×Nat)}{k:Nat}(hk:k<rs.length)(h:rs[k].1<=rs[k].2)(h2:∀(h0:0<k),(rs[k - 1]'U).1<=(rs[k - 1]'U).2/\(rs[k - 1]'U).2+2<=rs[k].1):tj rs (k+1)=tj rs k:=by
 cases k with
 |zero=>simp[tj]
 |succ k=>
  obtain ⟨q1,q2⟩:=h2 U;simp only[Nat.add_sub_cancel]at q1 q2;show ep (rs.drop (k+1))=ep (rs.drop k);rw[show rs.drop k=rs[k]::rs[k+1]::rs.drop (k+2) from by rw[List.drop_eq_getElem_cons U,List.drop_eq_getElem_cons hk],show rs.drop (k+1)=rs[k+1]::rs.drop (k+2) from List.drop_eq_getElem_cons hk]
  rw[ep];simp[q1,q2]
theorem o7{rs:List (Nat×Nat)}{k:Nat}(hk:k<rs.length)(h:rs[k].2<rs[k].1\/∃(h0:0<k),rs[k].1<=(rs[k - 1]'U).2+1):tj rs k=false:=by
 cases k with
 |zero=>
  rcases h with h|⟨h0,-⟩
  .unfold tj;rw[show rs=rs[0]::rs.drop 1 from by conv=>lhs;rw[<-List.drop_zero (l:=rs)];rw[List.drop_eq_getElem_cons hk]]
   exact Cq h
  .omega
 |succ k=>
  show ep (rs.drop k)=false;rw[show rs.drop k=rs[k]::rs[k+1]::rs.drop (k+2) from by rw[List.drop_eq_getElem_cons U,List.drop_eq_getElem_cons hk]]
  rw[ep];rcases h with h|⟨h0,h⟩
  .rw[Cq h];simp
  .simp only[Nat.add_sub_cancel]at h;rw[decide_eq_false (show ¬rs[k].2+2<=rs[k+1].1 by omega)];simp
theorem yz{rs:List (Nat×Nat)}(h:∀(h0:0<rs.length),∃h,(rs[rs.length - 1]'h).1<=(rs[rs.length - 1]'h).2):tj rs rs.length=true:=by
 cases hl:rs.length with
 |zero=>rw[List.length_eq_zero_iff.1 hl];rfl
 |succ n=>
  obtain ⟨h1,h2⟩:=h U;show ep (rs.drop n)=true;have hn:n<rs.length:=U;rw[List.drop_eq_getElem_cons hn,List.drop_of_length_le U];simp only[hl,Nat.add_sub_cancel]at h2;simp[ep,h2]
theorem Rc(nd:Nd)(vs:List Value)(w:World)(gQ:aA nd<=1000000)(hn:bY w nd vs):Calls Tryz.prog 59 #[.agg vs.toArray] w λe w'=>e=.returned (.bool (zP nd.rs nd.kids.length nd.mn nd.mx))/\Below w w w':=by
 obtain ⟨A1,c1,A2,c2,rfl,hr,jD,-⟩:=hn.form;have hb0:Below w w (w.alloc (.cells #[.int .i64 nd.op,.slice A1 nd.rs.length c1,.slice A2 nd.kids.length c2,.int .i64 nd.mn,.int .i64 nd.mx] 26)):=D.alloc V _;have qE:=heap_alloc_new w (.cells #[.int .i64 nd.op,.slice A1 nd.rs.length c1,.slice A2 nd.kids.length c2,.int .i64 nd.mn,.int .i64 nd.mx] 26);clear hn;have tX:=Y qE;clear qE
 go_enter Tryz.func59,Tryz.ntmps59
 go_wp2_with fail;obtain ⟨A1',ka,hv,kr,ak⟩:=hr;injection hv with e1 e2 e3;subst e1 e3;go_loopw [8] (λiv wr=>∃k:Nat,k<=nd.rs.length/\iv=.int .i64 (k:Int)/\Hid (tj nd.rs k=ep nd.rs)/\(∀(h0:0<k),Hid (∃h,(nd.rs[k - 1]'h).1<=(nd.rs[k - 1]'h).2))/\Hid (wr.heap[w.heap.size]?=some (.cells #[.int .i64 nd.op,.slice A1 nd.rs.length c1,.slice A2 nd.kids.length c2,.int .i64 nd.mn,.int .i64 nd.mx] 26))/\Below w w wr) (λiv _=>nd.rs.length - (intOf iv).toNat)
 case atStart=>exact ⟨0,U,rfl,rfl,λh=>U,tX,hb0⟩
 case round=>
  obtain ⟨k,hk,rfl,HR,HP,HX,hb⟩:=hrel;by_cases aB:k<nd.rs.length
  .have hd:decide ((k:Int)<(nd.rs.length:Int))=true:=τ;have dV:decide (k<nd.rs.length)=true:=decide_eq_true aB;obtain ⟨g,f,rfl,hg,aC⟩:=ak.resolve_left (by intro e;rw[e]at aB;simp at aB)
   obtain ⟨⟨c0,ka⟩,aM,aS⟩:=aC k aB;have q0:=(hb.cl g (f+k*2) hg).t c0;have q1:=(hb.cl g (f+k*2+1) hg).t ka;obtain ⟨lo,bX⟩:∃lo:Int,lo=((nd.rs[k].1:Nat):Int):=⟨_,rfl⟩;obtain ⟨hi,sj⟩:∃hi:Int,hi=((nd.rs[k].2:Nat):Int):=⟨_,rfl⟩;rw[<-bX]at q0;rw[<-sj]at q1;have px:=Y bX;have HHI:=Y sj;have arP:0<=lo/\lo<256:=U;have arQ:0<=hi/\hi<256:=U;clear bX sj c0 ka;by_cases MK:hi<lo
   .have d1:decide (hi<lo)=true:=decide_eq_true MK;go_wp2_with fail;have nW:=heap_alloc_new wr (.cells #[.int .u8 lo,.int .u8 hi] 72);have bT:=(Below.refl wr wr).alloc V (.cells #[.int .u8 lo,.int .u8 hi] 72);generalize wr.alloc (.cells #[.int .u8 lo,.int .u8 hi] 72)=W1 at *;have x0:W1.cell? (Z wr 0)=some (.int .u8 lo):=by rw[Φ nW];rfl
    have x1:W1.cell? (Z wr 1)=some (.int .u8 hi):=by rw[Φ nW];rfl
    have HW:=Y (I nW bT);clear nW bT
    go_quiet (fail)
    go_wp2_with fail;go_ret;refine ⟨aw ?_,below_drewN (hb.t (HW.2.mono hb.size)) _⟩;have h1:=HR.o;rw[o7 aB (.inl (by have:=px.o;have:=HHI.o;omega))]at h1
    unfold zP;rw[<-h1];rfl
   .have d1:decide (hi<lo)=false:=decide_eq_false MK;by_cases mJ:k=0
    .have d2:decide (0<(k:Int))=false:=θ;have d2n:decide (0<k)=false:=θ;have LZ:=Y mJ;clear mJ;go_wp2_with fail;have nW:=heap_alloc_new wr (.cells #[.int .u8 lo,.int .u8 hi] 72);have bT:=(Below.refl wr wr).alloc V (.cells #[.int .u8 lo,.int .u8 hi] 72);generalize wr.alloc (.cells #[.int .u8 lo,.int .u8 hi] 72)=W1 at *;have x0:W1.cell? (Z wr 0)=some (.int .u8 lo):=by rw[Φ nW];rfl
     have x1:W1.cell? (Z wr 1)=some (.int .u8 hi):=by rw[Φ nW];rfl
     have HW:=Y (I nW bT);clear nW bT
     go_quiet (fail)
     go_wp2_with fail;go_roundw
     case rel=>
      refine ⟨k+1,U,by go_num,?_,λh0=>⟨by simpa using aB,by simp only[Nat.add_sub_cancel];have:=px.o;have:=HHI.o;omega⟩,(HW.2.block _ (γ HX.o).1).t HX.o,below_drewN (hb.t (HW.2.mono hb.size)) _⟩
      have h1:=HR.o;have h2:=mR aB (by have:=px.o;have:=HHI.o;omega) (λh0=>by have:=LZ.o;omega)
      exact h2.t h1
     case measure=>exact μ
    .have d2:decide (0<(k:Int))=true:=τ;have d2n:decide (0<k)=true:=τ;obtain ⟨⟨-,Yf⟩,-,Gw⟩:=aC (k - 1) U;have p1:=(hb.cl g (f+(k - 1)*2+1) hg).t Yf;obtain ⟨ph,O8⟩:∃ph:Int,ph=((nd.rs[k - 1].2:Nat):Int):=⟨_,rfl⟩;rw[<-O8]at p1;have arR:0<=ph/\ph<256:=U;have AF:IntKind.i64.wrap ((k:Int) - 1)=(k:Int) - 1:=IntWalk.i64_in _ U;have eh:((k:Int) - 1).toNat=k - 1:=U;have SW:0<=(k:Int) - 1:=U;have hw4:(k:Int) - 1<nd.rs.length:=U;have hw5:IntKind.i64.wrap (ph+1)=ph+1:=IntWalk.i64_in _ U;have TJ:=Y O8;clear O8 Yf;by_cases kM:lo<=ph+1
     .have d3:decide (lo<=ph+1)=true:=decide_eq_true kM;go_wp2_with fail;have nW:=heap_alloc_new wr (.cells #[.int .u8 lo,.int .u8 hi] 72);have bT:=(Below.refl wr wr).alloc V (.cells #[.int .u8 lo,.int .u8 hi] 72);have y1:=(bT.cl g (f+(k - 1)*2+1) (Nat.lt_of_lt_of_le hg hb.size)).t p1;have iw:=(bT.block _ (γ HX.o).1).t HX.o;generalize wr.alloc (.cells #[.int .u8 lo,.int .u8 hi] 72)=W1 at *;have x0:W1.cell? (Z wr 0)=some (.int .u8 lo):=by rw[Φ nW];rfl
      have x1:W1.cell? (Z wr 1)=some (.int .u8 hi):=by rw[Φ nW];rfl
      have x2:W1.cell? (Z w 1)=some (.slice (Z g f) nd.rs.length c1):=by rw[Φ iw];rfl
      have HW:=Y (I nW (I bT iw));clear nW bT iw
      go_quiet (fail)
      go_wp2_with fail;go_ret;refine ⟨aw ?_,below_drewN (hb.t (HW.2.1.mono hb.size)) _⟩;have h1:=HR.o;rw[o7 aB (.inr ⟨U,by have:=px.o;have:=TJ.o;omega⟩)]at h1
      unfold zP;rw[<-h1];rfl
     .have d3:decide (lo<=ph+1)=false:=decide_eq_false kM;go_wp2_with fail;have nW:=heap_alloc_new wr (.cells #[.int .u8 lo,.int .u8 hi] 72);have bT:=(Below.refl wr wr).alloc V (.cells #[.int .u8 lo,.int .u8 hi] 72);have y1:=(bT.cl g (f+(k - 1)*2+1) (Nat.lt_of_lt_of_le hg hb.size)).t p1;have iw:=(bT.block _ (γ HX.o).1).t HX.o;generalize wr.alloc (.cells #[.int .u8 lo,.int .u8 hi] 72)=W1 at *;have x0:W1.cell? (Z wr 0)=some (.int .u8 lo):=by rw[Φ nW];rfl
      have x1:W1.cell? (Z wr 1)=some (.int .u8 hi):=by rw[Φ nW];rfl
      have x2:W1.cell? (Z w 1)=some (.slice (Z g f) nd.rs.length c1):=by rw[Φ iw];rfl
      have HW:=Y (I nW (I bT iw));clear nW bT iw
      go_quiet (fail)
      go_wp2_with fail;go_roundw
      case rel=>
       refine ⟨k+1,U,by go_num,?_,λh0=>⟨by simpa using aB,by simp only[Nat.add_sub_cancel];have:=px.o;have:=HHI.o;omega⟩,HW.2.2,below_drewN (hb.t (HW.2.1.mono hb.size)) _⟩
       have h1:=HR.o;obtain ⟨hh,hle⟩:=(HP U).out;have h2:=mR aB (by have:=px.o;have:=HHI.o;omega) (λh0=>⟨hle,by have:=px.o;have:=TJ.o;omega⟩)
       exact h2.t h1
      case measure=>exact μ
  .obtain rfl:k=nd.rs.length:=U;obtain ⟨b0,b1,b2,b3,b4⟩:=aD HX.o;go_wp2_with fail
   all_goals
    go_ret;refine ⟨aw ?_,hb⟩;have hR:ep nd.rs=true:=HR.symm.t (yz λh0=>(HP h0).out)
    first
     | (have h1:0<nd.rs.length:=by assumption
        have h2:¬nd.rs=[]:=by rintro h;rw[h]at h1;simp at h1
        have h3:nd.rs.isEmpty=false:=by simpa using h2
        first | (simp[zP,hR,h3, *];done) | (simp[zP,hR,h3, *];rfl))
     | (have h1:¬0<nd.rs.length:=by assumption
        have h2:nd.rs=[]:=List.length_eq_zero_iff.1 U;simp[zP,h2])
def nh(sz:Nat)(w:World)(v:Value)(rows:List (List Value)):Prop:=∃A c,v=.slice A rows.length c/\(rows.length<=c/\c<=9223372036854775807)/\(rows=[]\/∃g f,A=some ⟨g,f,none⟩/\g<w.heap.size/\
 ∀i (h:i<rows.length),rows[i].length=sz/\∀j,j<sz->w.cell? (Z g (f+i*sz+j))=rows[i][j]?)
theorem nh.later{sz:Nat}{w w':World}{v:Value}{rows:List (List Value)}(h:nh sz w v rows)(hb:Below w w w'):nh sz w' v rows:=by
 obtain ⟨A,c,e,hc,h⟩:=h;refine ⟨A,c,e,hc,h.imp id ?_⟩;rintro ⟨g,f,h1,h2,h3⟩;refine ⟨g,f,h1,Nat.lt_of_lt_of_le h2 hb.size,λi hi=>⟨(h3 i hi).1,λj hj=>?_⟩⟩;exact (hb.cl g (f+i*sz+j) h2).t ((h3 i hi).2 j hj)
def wX(gi:Nat)(kq:Array Value)(rows:List (List Value))(ps:List Bool)(w:World):Prop:=(∀args w',(callFunc gi args).run Tryz.prog w'=.ok (.enter gi args) w')/\ps.length=rows.length/\
 ∀i (h:i<rows.length) (b:Bool),ps[i]?=some b->∀w',Below w w w'->Calls Tryz.prog gi (#[.agg rows[i].toArray]++kq) w' λe gX=>e=.returned (.bool b)/\Below w' w' gX
def ta:List Bool->Nat
 | []=>0
 |b::r=>if b=true then 0 else ta r+1
def dJ:List Bool->Bool
 | []=>false
 | b::r=>b || dJ r
def ym(ps:List Bool):Int:=if dJ ps=true then (ta ps:Int) else -1
theorem Ek(ps:List Bool):decide (0<=ym ps)=dJ ps:=by
 unfold ym
 cases h:dJ ps
 .rfl
 .rw[if_pos rfl];exact τ
theorem oc{α:Type}(f:α->Bool):∀l:List α,dJ (l.map f)=l.any f
 | []=>rfl
 |a::r=>by simp[dJ,oc f r]
theorem aik{l:List Value}(h:l.length=5):∃x0 x1 x2 x3 x4,l=[x0,x1,x2,x3,x4]:=by
 match l,h with
 | [x0,x1,x2,x3,x4],_=>exact ⟨x0,x1,x2,x3,x4,rfl⟩
theorem VM(gi:Nat)(kq:Array Value)(rows:List (List Value))(ps:List Bool)(v:Value)(w:World)(h:nh 5 w v rows)(ha:wX gi kq rows ps w):
  Calls Tryz.prog 82 #[v,.func (.func gi) #[] kq] w λe w'=>e=.returned (.int .i64 (ym ps))/\Below w w w':=by
 obtain ⟨A,c,rfl,hc,ak⟩:=h;obtain ⟨ei,hlen,hp⟩:=ha;have HL:=Y hlen;have Tx:rows.length<=9223372036854775807:=U;have HC:=Y ak;have HP:=Y hp;clear ak hp hlen
 go_enter Tryz.func82,Tryz.ntmps82
 go_wp2
 go_loopw [8] (λv wr=>∃k:Nat,k<=rows.length/\v=.int .i64 (k:Int)/\Below w w wr/\Hid (dJ (ps.drop k)=dJ ps/\ta (ps.drop k)+k=ta ps)) (λv _=>rows.length - (intOf v).toNat)
 case atStart=>exact ⟨0,U,rfl,D,rfl,rfl⟩
 case round=>
  obtain ⟨k,hk,rfl,eI,HR⟩:=hrel;by_cases aB:k<rows.length
  .have hd:decide ((k:Int)<(rows.length:Int))=true:=τ;have dV:decide (k<rows.length)=true:=decide_eq_true aB;obtain ⟨g,ff,rfl,hg,bH⟩:=HC.resolve_left (by intro e;rw[e]at aB;simp at aB)
   have Ms:k<ps.length:=by have:=HL.o;omega
   have Cf:=Y (show dJ (ps[k]::ps.drop (k+1))=dJ ps/\ta (ps[k]::ps.drop (k+1))+k=ta ps by rw[<-List.drop_eq_getElem_cons Ms];exact HR.o)
   have awL:=λw'=>HP.o k aB ps[k] (List.getElem?_eq_getElem Ms) w';obtain ⟨PC,IA⟩:=bH k aB;obtain ⟨x0,x1,x2,x3,x4,aC⟩:=aik PC;rw[aC]at IA awL;have q:∀j,j<5->wr.cell? (Z g (ff+k*5+j))=([x0,x1,x2,x3,x4]:List Value)[j]?:=λj hj=>(eI.cl g (ff+k*5+j) hg).t (IA j hj);have q0:=q 0 U;have q1:=q 1 U;have q2:=q 2 U;have q3:=q 3 U;have q4:=q 4 U;simp only[Nat.add_zero,List.getElem?_cons_zero,List.getElem?_cons_succ]at q0 q1 q2 q3 q4;clear q bH IA aC PC;have bT:Below w w wr:=eI;have HI:=Y awL;clear awL;obtain ⟨pb,Gw⟩:=ν (ps[k]);rw[Gw]at HI Cf;clear Gw Ms;have dc:=Y bT;clear bT eI
   cases pb with
   |true=>
    have HT:=Y (show (k:Int)=ym ps by unfold ym;rw[<-Cf.1,<-Cf.2,dJ,ta,if_pos rfl];simp)
    go_wp2_with fail;refine (HI _ dc.o).mono ?_;rintro e w1 ⟨rfl,aM⟩;go_wp2_with fail;go_ret;exact ⟨aP HT.o,dc.t (aM.mono dc.size)⟩
   |false=>
    have HT:=Y (show dJ (ps.drop (k+1))=dJ ps/\ta (ps.drop (k+1))+(k+1)=ta ps from ⟨by rw[<-Cf.1,dJ];rfl,by rw[<-Cf.2,ta,if_neg O];omega⟩)
    go_wp2_with fail;refine (HI _ dc.o).mono ?_;rintro e w1 ⟨rfl,aM⟩;go_wp2_with fail;go_roundw
    case rel=>exact ⟨k+1,U,by go_num,dc.t (aM.mono dc.size),HT⟩
    case measure=>exact μ
  .obtain rfl:k=rows.length:=U;have hd:decide ((rows.length:Int)<(rows.length:Int))=false:=θ;have dV:decide (rows.length<rows.length)=false:=θ;have HT:=Y (show (-1:Int)=ym ps by unfold ym;rw[<-HR.1,<-HL.o,List.drop_length];rfl)
   go_wp2_with fail;go_ret;exact ⟨aP HT.o,eI⟩
theorem yn(gi:Nat)(kq:Array Value)(rows:List (List Value))(ps:List Bool)(v:Value)(w:World)(h:nh 5 w v rows)(ha:wX gi kq rows ps w):
  Calls Tryz.prog 62 #[v,.func (.func gi) #[] kq] w λe w'=>e=.returned (.bool (dJ ps))/\Below w w w':=by
 have awL:=Y (VM gi kq rows ps v w h ha);clear h ha
 go_enter Tryz.func62,Tryz.ntmps62
 go_wp2_with fail;refine awL.mono ?_;rintro e w1 ⟨rfl,hb⟩;have HR:=Y (Ek ps);generalize ym ps=r at *;go_wp2_with fail;go_ret;exact ⟨aw HR.o,hb⟩
theorem ail{l:List Value}(h:l.length=2):∃x0 x1,l=[x0,x1]:=by
 match l,h with
 | [x0,x1],_=>exact ⟨x0,x1,rfl⟩
theorem VN(gi:Nat)(kq:Array Value)(rows:List (List Value))(ps:List Bool)(v:Value)(w:World)(h:nh 2 w v rows)(ha:wX gi kq rows ps w):
  Calls Tryz.prog 86 #[v,.func (.func gi) #[] kq] w λe w'=>e=.returned (.int .i64 (ym ps))/\Below w w w':=by
 obtain ⟨A,c,rfl,hc,ak⟩:=h;obtain ⟨ei,hlen,hp⟩:=ha;have HL:=Y hlen;have Tx:rows.length<=9223372036854775807:=U;have HC:=Y ak;have HP:=Y hp;clear ak hp hlen
 go_enter Tryz.func86,Tryz.ntmps86
 go_wp2
 go_loopw [8] (λv wr=>∃k:Nat,k<=rows.length/\v=.int .i64 (k:Int)/\Below w w wr/\Hid (dJ (ps.drop k)=dJ ps/\ta (ps.drop k)+k=ta ps)) (λv _=>rows.length - (intOf v).toNat)
 case atStart=>exact ⟨0,U,rfl,D,rfl,rfl⟩
 case round=>
  obtain ⟨k,hk,rfl,eI,HR⟩:=hrel;by_cases aB:k<rows.length
  .have hd:decide ((k:Int)<(rows.length:Int))=true:=τ;have dV:decide (k<rows.length)=true:=decide_eq_true aB;obtain ⟨g,ff,rfl,hg,bH⟩:=HC.resolve_left (by intro e;rw[e]at aB;simp at aB)
   have Ms:k<ps.length:=by have:=HL.o;omega
   have Cf:=Y (show dJ (ps[k]::ps.drop (k+1))=dJ ps/\ta (ps[k]::ps.drop (k+1))+k=ta ps by rw[<-List.drop_eq_getElem_cons Ms];exact HR.o)
   have awL:=λw'=>HP.o k aB ps[k] (List.getElem?_eq_getElem Ms) w';obtain ⟨PC,IA⟩:=bH k aB;obtain ⟨x0,x1,aC⟩:=ail PC;rw[aC]at IA awL;have q:∀j,j<2->wr.cell? (Z g (ff+k*2+j))=([x0,x1]:List Value)[j]?:=λj hj=>(eI.cl g (ff+k*2+j) hg).t (IA j hj);have q0:=q 0 U;have q1:=q 1 U;simp only[Nat.add_zero,List.getElem?_cons_zero,List.getElem?_cons_succ]at q0 q1;clear q bH IA aC PC;have bT:Below w w wr:=eI;have HI:=Y awL;clear awL;obtain ⟨pb,Gw⟩:=ν (ps[k]);rw[Gw]at HI Cf;clear Gw Ms;have dc:=Y bT;clear bT eI
   cases pb with
   |true=>
    have HT:=Y (show (k:Int)=ym ps by unfold ym;rw[<-Cf.1,<-Cf.2,dJ,ta,if_pos rfl];simp)
    go_wp2_with fail;refine (HI _ dc.o).mono ?_;rintro e w1 ⟨rfl,aM⟩;go_wp2_with fail;go_ret;exact ⟨aP HT.o,dc.t (aM.mono dc.size)⟩
   |false=>
    have HT:=Y (show dJ (ps.drop (k+1))=dJ ps/\ta (ps.drop (k+1))+(k+1)=ta ps from ⟨by rw[<-Cf.1,dJ];rfl,by rw[<-Cf.2,ta,if_neg O];omega⟩)
    go_wp2_with fail;refine (HI _ dc.o).mono ?_;rintro e w1 ⟨rfl,aM⟩;go_wp2_with fail;go_roundw
    case rel=>exact ⟨k+1,U,by go_num,dc.t (aM.mono dc.size),HT⟩
    case measure=>exact μ
  .obtain rfl:k=rows.length:=U;have hd:decide ((rows.length:Int)<(rows.length:Int))=false:=θ;have dV:decide (rows.length<rows.length)=false:=θ;have HT:=Y (show (-1:Int)=ym ps by unfold ym;rw[<-HR.1,<-HL.o,List.drop_length];rfl)
   go_wp2_with fail;go_ret;exact ⟨aP HT.o,eI⟩
theorem Ix(gi:Nat)(kq:Array Value)(rows:List (List Value))(ps:List Bool)(v:Value)(w:World)(h:nh 2 w v rows)(ha:wX gi kq rows ps w):
  Calls Tryz.prog 67 #[v,.func (.func gi) #[] kq] w λe w'=>e=.returned (.bool (dJ ps))/\Below w w w':=by
 have awL:=Y (VN gi kq rows ps v w h ha);clear h ha
 go_enter Tryz.func67,Tryz.ntmps67
 go_wp2_with fail;refine awL.mono ?_;rintro e w1 ⟨rfl,hb⟩;have HR:=Y (Ek ps);generalize ym ps=r at *;go_wp2_with fail;go_ret;exact ⟨aw HR.o,hb⟩
theorem aim{l:List Value}(h:l.length=3):∃x0 x1 x2,l=[x0,x1,x2]:=by
 match l,h with
 | [x0,x1,x2],_=>exact ⟨x0,x1,x2,rfl⟩
theorem VO(gi:Nat)(kq:Array Value)(rows:List (List Value))(ps:List Bool)(v:Value)(w:World)(h:nh 3 w v rows)(ha:wX gi kq rows ps w):
  Calls Tryz.prog 118 #[v,.func (.func gi) #[] kq] w λe w'=>e=.returned (.int .i64 (ym ps))/\Below w w w':=by
 obtain ⟨A,c,rfl,hc,ak⟩:=h;obtain ⟨ei,hlen,hp⟩:=ha;have HL:=Y hlen;have Tx:rows.length<=9223372036854775807:=U;have HC:=Y ak;have HP:=Y hp;clear ak hp hlen
 go_enter Tryz.func118,Tryz.ntmps118
 go_wp2
 go_loopw [8] (λv wr=>∃k:Nat,k<=rows.length/\v=.int .i64 (k:Int)/\Below w w wr/\Hid (dJ (ps.drop k)=dJ ps/\ta (ps.drop k)+k=ta ps)) (λv _=>rows.length - (intOf v).toNat)
 case atStart=>exact ⟨0,U,rfl,D,rfl,rfl⟩
 case round=>
  obtain ⟨k,hk,rfl,eI,HR⟩:=hrel;by_cases aB:k<rows.length
  .have hd:decide ((k:Int)<(rows.length:Int))=true:=τ;have dV:decide (k<rows.length)=true:=decide_eq_true aB;obtain ⟨g,ff,rfl,hg,bH⟩:=HC.resolve_left (by intro e;rw[e]at aB;simp at aB)
   have Ms:k<ps.length:=by have:=HL.o;omega
   have Cf:=Y (show dJ (ps[k]::ps.drop (k+1))=dJ ps/\ta (ps[k]::ps.drop (k+1))+k=ta ps by rw[<-List.drop_eq_getElem_cons Ms];exact HR.o)
   have awL:=λw'=>HP.o k aB ps[k] (List.getElem?_eq_getElem Ms) w';obtain ⟨PC,IA⟩:=bH k aB;obtain ⟨x0,x1,x2,aC⟩:=aim PC;rw[aC]at IA awL;have q:∀j,j<3->wr.cell? (Z g (ff+k*3+j))=([x0,x1,x2]:List Value)[j]?:=λj hj=>(eI.cl g (ff+k*3+j) hg).t (IA j hj);have q0:=q 0 U;have q1:=q 1 U;have q2:=q 2 U;simp only[Nat.add_zero,List.getElem?_cons_zero,List.getElem?_cons_succ]at q0 q1 q2;clear q bH IA aC PC;have bT:Below w w wr:=eI;have HI:=Y awL;clear awL;obtain ⟨pb,Gw⟩:=ν (ps[k]);rw[Gw]at HI Cf;clear Gw Ms;have dc:=Y bT;clear bT eI
   cases pb with
   |true=>
    have HT:=Y (show (k:Int)=ym ps by unfold ym;rw[<-Cf.1,<-Cf.2,dJ,ta,if_pos rfl];simp)
    go_wp2_with fail;refine (HI _ dc.o).mono ?_;rintro e w1 ⟨rfl,aM⟩;go_wp2_with fail;go_ret;exact ⟨aP HT.o,dc.t (aM.mono dc.size)⟩
   |false=>
    have HT:=Y (show dJ (ps.drop (k+1))=dJ ps/\ta (ps.drop (k+1))+(k+1)=ta ps from ⟨by rw[<-Cf.1,dJ];rfl,by rw[<-Cf.2,ta,if_neg O];omega⟩)
    go_wp2_with fail;refine (HI _ dc.o).mono ?_;rintro e w1 ⟨rfl,aM⟩;go_wp2_with fail;go_roundw
    case rel=>exact ⟨k+1,U,by go_num,dc.t (aM.mono dc.size),HT⟩
    case measure=>exact μ
  .obtain rfl:k=rows.length:=U;have hd:decide ((rows.length:Int)<(rows.length:Int))=false:=θ;have dV:decide (rows.length<rows.length)=false:=θ;have HT:=Y (show (-1:Int)=ym ps by unfold ym;rw[<-HR.1,<-HL.o,List.drop_length];rfl)
   go_wp2_with fail;go_ret;exact ⟨aP HT.o,eI⟩
theorem Hk(gi:Nat)(kq:Array Value)(rows:List (List Value))(ps:List Bool)(v:Value)(w:World)(h:nh 3 w v rows)(ha:wX gi kq rows ps w):
  Calls Tryz.prog 99 #[v,.func (.func gi) #[] kq] w λe w'=>e=.returned (.bool (dJ ps))/\Below w w w':=by
 have awL:=Y (VO gi kq rows ps v w h ha);clear h ha
 go_enter Tryz.func99,Tryz.ntmps99
 go_wp2_with fail;refine awL.mono ?_;rintro e w1 ⟨rfl,hb⟩;have HR:=Y (Ek ps);generalize ym ps=r at *;go_wp2_with fail;go_ret;exact ⟨aw HR.o,hb⟩
theorem eS.rows{w:World}:∀{l:List Nd} {g f:Nat},eS w l g f->∃rows:List (List Value),rows.length=l.length/\∀i (h:i<l.length) (h':i<rows.length),bY w l[i] rows[i]/\∀j,j<5->w.cell? (Z g (f+i*5+j))=rows[i][j]?
 | [],_,_,_=>⟨[],rfl,λi h=>by cases h⟩
 |k::r,g,f,⟨⟨vs,h1,h2⟩,h3⟩=>by
  obtain ⟨rows,hl,h4⟩:=eS.rows h3;refine ⟨vs::rows,by simp[hl],λi h h'=>?_⟩
  cases i with
  |zero=>exact ⟨h2,λj hj=>by rw[Nat.zero_mul,Nat.add_zero];exact h1 j hj⟩
  |succ i=>
   obtain ⟨h5,h6⟩:=h4 i (by simpa using h) (by simpa using h')
   refine ⟨h5,λj hj=>?_⟩;have:=h6 j hj;rw[show f+5+i*5+j=f+(i+1)*5+j by omega]at this
   exact this
theorem bY.len{w:World}{n:Nd}{vs:List Value}(h:bY w n vs):vs.length=5:=by
 obtain ⟨A1,c1,A2,c2,rfl,-⟩:=h.form
 rfl
theorem Cr{w:World}{l:List Nd}{A:Option Addr}{c:Nat}(hc:l.length<=c/\c<=9223372036854775807)(h:l=[]\/∃g f,A=some ⟨g,f,none⟩/\g<w.heap.size/\eS w l g f):
  ∃rows:List (List Value),rows.length=l.length/\nh 5 w (.slice A l.length c) rows/\∀i (h:i<l.length) (h':i<rows.length),bY w l[i] rows[i]:=by
 rcases h with rfl|⟨g,f,rfl,hg,hk⟩
 .exact ⟨[],rfl,⟨A,c,rfl,hc,.inl rfl⟩,λi h=>by cases h⟩
 .obtain ⟨rows,hl,hr⟩:=hk.rows;refine ⟨rows,hl,⟨some ⟨g,f,none⟩,c,by rw[hl],by rw[hl];exact hc,.inr ⟨g,f,rfl,hg,λi hi=>⟨(hr i U hi).1.len,(hr i U hi).2⟩⟩⟩,λi h h'=>(hr i h h').1⟩
theorem ML(kd:Nd)(vs:List Value)(op:Int)(b:Nat)(w:World)(hn:bY w kd vs)(hb:w.cell? (Z b 0)=some (.int .i64 op)):Calls Tryz.prog 81 #[.agg vs.toArray,.pointer (Z b 0)] w λe w'=>e=.returned (.bool (kd.op == op))/\Below w w w':=by
 obtain ⟨A1,c1,A2,c2,rfl,-⟩:=hn.form;have jK:b<w:=by
  by_cases h:b<w
  .exact h
  .simp[World.cell?,Array.getElem?_eq_none (Nat.le_of_not_lt h)]at hb
 have bf:b≠w.heap.size:=U;have hB:Below w w (w.alloc (.cells #[.int .i64 kd.op,.slice A1 kd.rs.length c1,.slice A2 kd.kids.length c2,.int .i64 kd.mn,.int .i64 kd.mx] 26)):=D.alloc V _;have aS:=(hB.cl b 0 jK).t hb
 go_enter Tryz.func81,Tryz.ntmps81
 go_wp2_with fail;go_ret;exact ⟨rfl,hB⟩
theorem Re(args:Array Value)(w:World):(callFunc 81 args).run Tryz.prog w=.ok (.enter 81 args) w:=by rfl
def vS(nd:Nd):Bool:=decide (2<=nd.kids.length) && (nd.rs.isEmpty && (decide (nd.mn=0) && (decide (nd.mx=0) && !(nd.kids.any λk=>k.op == nd.op))))
theorem Cs(nd:Nd)(vs:List Value)(w:World)(hn:bY w nd vs):Calls Tryz.prog 60 #[.agg vs.toArray] w λe w'=>e=.returned (.bool (vS nd))/\Below w w w':=by
 obtain ⟨A1,c1,A2,c2,rfl,hr,jD,hk⟩:=hn.form;have hB:Below w w (w.alloc (.cells #[.int .i64 nd.op,.slice A1 nd.rs.length c1,.slice A2 nd.kids.length c2,.int .i64 nd.mn,.int .i64 nd.mx] 26)):=D.alloc V _;have qE:=heap_alloc_new w (.cells #[.int .i64 nd.op,.slice A1 nd.rs.length c1,.slice A2 nd.kids.length c2,.int .i64 nd.mn,.int .i64 nd.mx] 26);obtain ⟨rows,hl,nB,aY⟩:=Cr jD hk;have hA:∀W,Below w w W->w.heap.size<W->W.cell? (Z w 0)=some (.int .i64 nd.op)->
   wX 81 #[.pointer (Z w 0)] rows (nd.kids.map λk=>k.op == nd.op) W:=by
  intro W hW jn fk;refine ⟨Re,by rw[List.length_map,hl],λi hi b hb w' cR=>?_⟩
  have Pa:i<nd.kids.length:=U;rw[List.getElem?_map,List.getElem?_eq_getElem Pa]at hb;simp only[Option.map_some,Option.some.injEq]at hb;subst hb;refine ML nd.kids[i] rows[i] nd.op w w' ?_ ((cR.cl w 0 jn).t fk);exact ((aY i Pa hi).later hW).later cR
 have HC:=Y (λW h1 h2 h3=>yn 81 #[.pointer (Z w 0)] rows _ (.slice A2 nd.kids.length c2) W (nB.later h1) (hA W h1 h2 h3));have YV:=Y (oc (λk:Nd=>k.op == nd.op) nd.kids);have HB:=Y hB;have HX:=Y qE;have aV:nd.kids.length<=9223372036854775807:=U;have iy:nd.rs.length<=9223372036854775807:=by obtain ⟨A,c,e,h,-⟩:=hr;omega
 clear hA nB aY hl qE hB hk hr hn
 go_enter Tryz.func60,Tryz.ntmps60
 go_wp2_with (go_at_call 62;refine (HC _ (D.alloc V _) H (by rw[Φ (heap_alloc_new _ _)];rfl)).mono ?_;rintro e w1 ⟨rfl,aM⟩)
 all_goals
  go_ret;refine ⟨aw ?_,?_⟩
  .first
    | (rw[YV.o];unfold vS;simp[*];omega)
    | (unfold vS;simp[*];done)
    | (unfold vS;simp[*];omega)
    | (have h1:(nd.kids.length:Int)<2:=by assumption
       unfold vS;rw[decide_eq_false (show ¬2<=nd.kids.length by omega)];rfl)
  .first
    |exact D.alloc V _
    |exact ((Below.refl w w).alloc V _).t (aM.mono H)
def IP(nd:Nd):Bool:=decide (nd.kids.length=1) && (nd.rs.isEmpty && (decide (0<=nd.mn) && (decide (1<=nd.mx) && (decide (nd.mn<=nd.mx) && (decide (nd.mx<=64) && !(decide (nd.mn=1) && decide (nd.mx=1)))))))
theorem ED(nd:Nd)(vs:List Value)(w:World)(hn:bY w nd vs):Calls Tryz.prog 61 #[.agg vs.toArray] w λe w'=>e=.returned (.bool (IP nd))/\Below w w w':=by
 obtain ⟨A1,c1,A2,c2,rfl,hr,jD,hk⟩:=hn.form;have aV:nd.kids.length<=9223372036854775807:=U;have iy:nd.rs.length<=9223372036854775807:=by obtain ⟨A,c,e,h,-⟩:=hr;omega
 clear hk hr hn
 go_enter Tryz.func61,Tryz.ntmps61
 go_wp2_with fail
 all_goals
  go_ret;refine ⟨aw ?_,?_⟩
  .by_cases he:nd.rs=[]
   .rw[Bool.eq_iff_iff];have xi:nd.rs.isEmpty=true:=by rw[he];rfl
    simp only[IP,xi,Bool.and_eq_true,Bool.not_eq_true',Bool.and_eq_false_iff,decide_eq_true_eq,decide_eq_false_iff_not,bne_iff_ne,true_and,true_iff,ne_eq] <;>
    first|omega | (simp only[Bool.false_eq_true,false_iff];omega)|contradiction
   .have xi:nd.rs.isEmpty=false:=by simpa using he
    simp only[IP,xi,Bool.false_and,Bool.and_false] <;>
    first|rfl|contradiction
  .exact D.alloc V _
theorem Ct{nd:Nd}(h:nd.op=1):dy nd=zP nd.rs nd.kids.length nd.mn nd.mx:=by
 obtain ⟨op,rs,kids,mn,mx⟩:=nd;simp only[Nd.op]at h;subst h;simp only[dy,zP,Nd.rs,Nd.kids,Nd.mn,Nd.mx,if_true]
 cases kids <;> cases ep rs <;> cases rs.isEmpty <;> simp <;> rfl
theorem rp{nd:Nd}(h:nd.op=2\/nd.op=3):dy nd=vS nd:=by
 obtain ⟨op,rs,kids,mn,mx⟩:=nd;simp only[Nd.op]at h;simp only[dy,vS,Nd.rs,Nd.kids,Nd.mn,Nd.mx,Nd.op];rw[if_neg U,if_pos h]
 rfl
theorem vT{nd:Nd}(h:nd.op=4):dy nd=IP nd:=by
 obtain ⟨op,rs,kids,mn,mx⟩:=nd;simp only[Nd.op]at h;simp only[dy,IP,Nd.rs,Nd.kids,Nd.mn,Nd.mx,Nd.op];rw[if_neg U,if_neg U,if_pos h]
 rfl
theorem Cu{nd:Nd}(h1:¬nd.op=1)(h2:¬nd.op=2)(h3:¬nd.op=3)(h4:¬nd.op=4):dy nd=false:=by
 obtain ⟨op,rs,kids,mn,mx⟩:=nd;simp only[Nd.op]at h1 h2 h3 h4;simp only[dy];rw[if_neg h1,if_neg U,if_neg h4]
theorem tk:∀l:List Nd,aX l=!(l.any λk=>!aF k)
 | []=>rfl
 |k::r=>by rw[aX,tk r];simp
theorem IQ(nd:Nd):aF nd=(dy nd && !(nd.kids.any λk=>!aF k)):=by
 obtain ⟨op,rs,kids,mn,mx⟩:=nd;rw[aF,tk];rfl
theorem IU(args:Array Value)(w:World):(callFunc 63 args).run Tryz.prog w=.ok (.enter 63 args) w:=by rfl
theorem EE(kd:Nd)(vs:List Value)(w:World)(hn:bY w kd vs)(hr:∀w',Below w w w'->Calls Tryz.prog 33 #[.agg vs.toArray] w' λe gX=>e=.returned (.bool (aF kd))/\Below w' w' gX):
  Calls Tryz.prog 63 #[.agg vs.toArray] w λe w'=>e=.returned (.bool (!aF kd))/\Below w w w':=by
 obtain ⟨A1,c1,A2,c2,rfl,-⟩:=hn.form;obtain ⟨x,hx⟩:=ν (aF kd);rw[hx]at hr|-;have HR:=Y hr;clear hr hx
 go_enter Tryz.func63,Tryz.ntmps63
 go_wp2_with fail;refine (HR _ (D.alloc V _)).mono ?_;rintro e w1 ⟨rfl,aM⟩;have HB:=Y (((Below.refl w w).alloc V _).t (aM.mono H));clear aM
 cases x
 all_goals
  go_wp2_with fail;go_ret;exact ⟨rfl,HB.o⟩
theorem IV:∀(m:Nat) (nd:Nd) (vs:List Value) (w:World),aA nd<=m->m<=1000000->bY w nd vs->Calls Tryz.prog 33 #[.agg vs.toArray] w λe w'=>e=.returned (.bool (aF nd))/\Below w w w':=by
 intro m
 induction m with
 |zero=>intro nd vs w h;cases nd;rw[aA]at h;omega
 |succ m ih=>
  intro nd vs w h hm hn;have Eh:∀k∈nd.kids,aA k<=m:=λk hk=>by
   obtain ⟨op,rs,kids,mn,mx⟩:=nd;have:=aQ hk;rw[aA]at h;simp only[Nd.kids]at this;omega
  have aH:=λW (hW:Below w w W)=>Rc nd vs W U (hn.later hW);have abY:=λW (hW:Below w w W)=>Cs nd vs W (hn.later hW);have abZ:=λW (hW:Below w w W)=>ED nd vs W (hn.later hW);obtain ⟨A1,c1,A2,c2,rfl,hr,jD,hk⟩:=hn.form;obtain ⟨rows,hl,nB,aY⟩:=Cr jD hk;have hA:∀W,Below w w W->wX 63 #[] rows (nd.kids.map λk=>!aF k) W:=by
   intro W hW;refine ⟨IU,by rw[List.length_map,hl],λi hi b hb w' cR=>?_⟩
   have Pa:i<nd.kids.length:=U;rw[List.getElem?_map,List.getElem?_eq_getElem Pa]at hb;simp only[Option.map_some,Option.some.injEq]at hb;subst hb;have ml:=((aY i Pa hi).later hW).later cR;exact EE nd.kids[i] rows[i] w' ml λgX aiV=>ih _ _ _ (Eh _ (List.getElem_mem Pa)) U (ml.later aiV)
  have HC:=Y (λW h1=>yn 63 #[] rows _ (.slice A2 nd.kids.length c2) W (nB.later h1) (hA W h1));have YV:=Y (oc (λk:Nd=>!aF k) nd.kids);have hB:Below w w (w.alloc (.cells #[.int .i64 nd.op,.slice A1 nd.rs.length c1,.slice A2 nd.kids.length c2,.int .i64 nd.mn,.int .i64 nd.mx] 26)):=D.alloc V _;have qE:=heap_alloc_new w (.cells #[.int .i64 nd.op,.slice A1 nd.rs.length c1,.slice A2 nd.kids.length c2,.int .i64 nd.mn,.int .i64 nd.mx] 26);have HB:=Y hB;have HX:=Y qE;have ab0:=Y aH;have Wc:=Y abY;have ab1:=Y abZ;have DO:=Y (IQ nd);have tU:=Y (@Ct nd);have sR:=Y (@rp nd);have HN4:=Y (@vT nd);have HN0:=Y (@Cu nd);obtain ⟨awK,hO⟩:=ν nd.op;rw[hO]at tU sR HN4 HN0 HB HX ab0 Wc ab1|-;clear hA nB aY hl qE hB hk hr hn aH abY abZ Eh ih hO;by_cases h1:awK=1
  .have HV:=Y (tU h1);subst h1
   go_enter Tryz.func33,Tryz.ntmps33
   go_wp2_with fail;refine (ab0 _ HB.o).mono ?_;rintro e w1 ⟨rfl,aM⟩;rw[<-HV.o];have cM:=Y (HB.t (aM.mono HB.size));have fk:=(aM.block w H).t HX.o;obtain ⟨b0,b1,b2,b3,b4⟩:=aD fk;clear aM fk
   cases hx:dy nd with
   |false=>
    have EF:=Y (show false=aF nd by rw[DO.o,hx];rfl)
    clear hx;go_wp2_with fail;go_ret;exact ⟨aw EF.o,cM.o⟩
   |true=>
    have EF:=Y (show (!dJ (nd.kids.map λk=>!aF k))=aF nd by rw[YV.o,DO.o,hx];rfl)
    clear hx;go_wp2_with fail;refine (HC _ cM.o).mono ?_;rintro e w2 ⟨rfl,aS⟩;generalize dJ (nd.kids.map λk=>!aF k)=y at *
    cases y
    all_goals
     go_wp2_with fail;go_ret;exact ⟨aw EF.o,cM.t (aS.mono cM.size)⟩
  by_cases h2:awK=2
  .have HV:=Y (sR (.inl h2));subst h2
   go_enter Tryz.func33,Tryz.ntmps33
   go_wp2_with fail;refine (Wc _ HB.o).mono ?_;rintro e w1 ⟨rfl,aM⟩;rw[<-HV.o];have cM:=Y (HB.t (aM.mono HB.size));have fk:=(aM.block w H).t HX.o;obtain ⟨b0,b1,b2,b3,b4⟩:=aD fk;clear aM fk
   cases hx:dy nd with
   |false=>
    have EF:=Y (show false=aF nd by rw[DO.o,hx];rfl)
    clear hx;go_wp2_with fail;go_ret;exact ⟨aw EF.o,cM.o⟩
   |true=>
    have EF:=Y (show (!dJ (nd.kids.map λk=>!aF k))=aF nd by rw[YV.o,DO.o,hx];rfl)
    clear hx;go_wp2_with fail;refine (HC _ cM.o).mono ?_;rintro e w2 ⟨rfl,aS⟩;generalize dJ (nd.kids.map λk=>!aF k)=y at *
    cases y
    all_goals
     go_wp2_with fail;go_ret;exact ⟨aw EF.o,cM.t (aS.mono cM.size)⟩
  by_cases h3:awK=3
  .have HV:=Y (sR (.inr h3));subst h3
   go_enter Tryz.func33,Tryz.ntmps33
   go_wp2_with fail;refine (Wc _ HB.o).mono ?_;rintro e w1 ⟨rfl,aM⟩;rw[<-HV.o];have cM:=Y (HB.t (aM.mono HB.size));have fk:=(aM.block w H).t HX.o;obtain ⟨b0,b1,b2,b3,b4⟩:=aD fk;clear aM fk
   cases hx:dy nd with
   |false=>
    have EF:=Y (show false=aF nd by rw[DO.o,hx];rfl)
    clear hx;go_wp2_with fail;go_ret;exact ⟨aw EF.o,cM.o⟩
   |true=>
    have EF:=Y (show (!dJ (nd.kids.map λk=>!aF k))=aF nd by rw[YV.o,DO.o,hx];rfl)
    clear hx;go_wp2_with fail;refine (HC _ cM.o).mono ?_;rintro e w2 ⟨rfl,aS⟩;generalize dJ (nd.kids.map λk=>!aF k)=y at *
    cases y
    all_goals
     go_wp2_with fail;go_ret;exact ⟨aw EF.o,cM.t (aS.mono cM.size)⟩
  by_cases h4:awK=4
  .have HV:=Y (HN4 h4);subst h4
   go_enter Tryz.func33,Tryz.ntmps33
   go_wp2_with fail;refine (ab1 _ HB.o).mono ?_;rintro e w1 ⟨rfl,aM⟩;rw[<-HV.o];have cM:=Y (HB.t (aM.mono HB.size));have fk:=(aM.block w H).t HX.o;obtain ⟨b0,b1,b2,b3,b4⟩:=aD fk;clear aM fk
   cases hx:dy nd with
   |false=>
    have EF:=Y (show false=aF nd by rw[DO.o,hx];rfl)
    clear hx;go_wp2_with fail;go_ret;exact ⟨aw EF.o,cM.o⟩
   |true=>
    have EF:=Y (show (!dJ (nd.kids.map λk=>!aF k))=aF nd by rw[YV.o,DO.o,hx];rfl)
    clear hx;go_wp2_with fail;refine (HC _ cM.o).mono ?_;rintro e w2 ⟨rfl,aS⟩;generalize dJ (nd.kids.map λk=>!aF k)=y at *
    cases y
    all_goals
     go_wp2_with fail;go_ret;exact ⟨aw EF.o,cM.t (aS.mono cM.size)⟩
  .have HV:=Y (show false=aF nd by rw[DO.o,HN0.o h1 h2 h3 h4];rfl)
   have e1:(awK == 1)=false:=by simpa using h1
   have e2:(awK == 2)=false:=by simpa using h2
   have e3:(awK == 3)=false:=by simpa using h3
   have e4:(awK == 4)=false:=by simpa using h4
   clear h1 h2 h3 h4
   go_enter Tryz.func33,Tryz.ntmps33
   go_wp2_with fail;go_ret;exact ⟨aw HV.o,HB.o⟩
theorem rq(n:Nd):aL n<=601:=by cases n;rw[aL];omega
-- The least number of bytes.
mutual
def mT:Nd->Nat
 | .mk op _ kids mn _=>if op=1 then 1 else if op=2 then zQ kids else if op=3 then EG kids else mn.toNat*MM kids
def zQ:List Nd->Nat
 | []=>0
 |k::r=>mT k+zQ r
def EG:List Nd->Nat
 | []=>1000000
 |k::r=>min (mT k) (EG r)
def MM:List Nd->Nat
 | []=>0
 |k::_=>mT k
end
theorem yA:∀{l:List Nd} {k:Nd},k∈l->bW k<=dq l
 |a::r,k,h=>by
  rw[dq];rcases List.mem_cons.1 h with rfl|h
  .omega
  .have:=yA h;omega
theorem sD:∀{l:List Nd} {k:Nd},k∈l->bW k<=dI l
 |a::r,k,h=>by
  rw[dI];rcases List.mem_cons.1 h with rfl|h
  .omega
  .have:=sD h;omega
theorem MO{rs:List (Nat×Nat)}{kids:List Nd}{op mn mx:Int}(hR:aF (.mk op rs kids mn mx)=true):op=3->2<=kids.length:=by
 rintro rfl;have h:=((jZ _).1 hR).1;simp only[dy]at h;rw[if_neg O,if_pos O]at h;simp at h;exact h.1
theorem IW{rs:List (Nat×Nat)}{kids:List Nd}{op mn mx:Int}(hR:aF (.mk op rs kids mn mx)=true)(hl:bW (.mk op rs kids mn mx)<=1024):∀k∈kids,bW k<=1024:=by
 intro k hk;obtain ⟨jE,-⟩:=dD hR;rw[bW]at hl;rcases jE with rfl|rfl|rfl|⟨rfl,bQ,Kd,qd,sY⟩
 .have h:=((jZ _).1 hR).1;simp only[dy]at h;simp at h;rw[h.2.2.1]at hk
  cases hk
 .have:=yA hk;simp at hl;omega
 .have:=sD hk;simp at hl;omega
 .match kids,bQ with
  | [a],_=>
   rw[List.mem_singleton]at hk;subst hk;rw[if_neg O,if_neg O,if_neg O,rm]at hl;have h2:1*bW k<=mx.toNat*bW k:=Nat.mul_le_mul_right _ U;omega
theorem D6{rs:List (Nat×Nat)}{kids:List Nd}{op mn mx:Int}(hR:aF (.mk op rs kids mn mx)=true):op=4->mn<=mx:=by
 rintro rfl;have h:=((jZ _).1 hR).1;rw[vT rfl]at h;simp only[IP,Bool.and_eq_true,decide_eq_true_eq,Nd.mn,Nd.mx]at h;exact of_decide_eq_true h.2.2.2.2.1
theorem ab2:∀(m:Nat),(∀n:Nd,aA n<=m->aF n=true->bW n<=1024->mT n<=bW n):=by
 intro m
 induction m with
 |zero=>intro n h;cases n;rw[aA]at h;omega
 |succ m ih=>
  rintro ⟨op,rs,kids,mn,mx⟩ h hR hl;have hk:=IW hR hl;have h2:=MO hR;have hle:=D6 hR;obtain ⟨jE,xn⟩:=dD hR;rw[aA]at h;have ry:∀k∈kids,mT k<=bW k:=λk xS=>ih k (by have:=aQ xS;omega) (bh xn xS) (hk k xS)
  rw[bW]at hl|-;rw[mT];rcases jE with rfl|rfl|rfl|⟨rfl,bQ,Kd,qd,sY⟩
  .simp
  .have:∀l:List Nd,(∀k∈l,mT k<=bW k)->zQ l<=dq l:=by
    intro l
    induction l with
    |nil=>intro _;exact V
    |cons a r ih=>
     intro h;rw[zQ,dq];have:=h a H;have:=ih λk hk=>h k (by simp[hk])
     omega
   have:=this kids ry;simp at hl|-;omega
  .match kids,h2 rfl with
   |a::r,_=>
    have h3:=ry a H;have h4:=sD (show a∈a::r by simp)
    simp at hl|-;rw[EG];omega
  .match kids,bQ with
   | [a],_=>
    have h3:=ry a H;rw[if_neg O,if_neg O,if_neg O,rm]at hl|-;rw[if_neg O,if_neg O,if_neg O,MM];have h6:=hle rfl;have h5:mn.toNat*mT a<=mx.toNat*bW a:=Nat.mul_le_mul U h3;omega
theorem pL:∀(m:Nat) (nd:Nd) (vs:List Value) (w:World),aA nd<=m->aA nd<=200->aF nd=true->bY w nd vs->Calls Tryz.prog 18 #[.agg vs.toArray] w λe w'=>e=.returned (.int .i64 ((aL nd:Nat):Int))/\Below w w w':=by
 intro m
 induction m with
 |zero=>intro nd vs w h;cases nd;rw[aA]at h;omega
 |succ m ih=>
  rintro ⟨op,rs,kids,mn,mx⟩ vs w h gQ hR hn;have HN:=Y hn;obtain ⟨v1,v2,rfl,hr,A,c,rfl,hc,hk⟩:=hn;obtain ⟨A1,c1,rfl,-,-⟩:=hr;have hb0:Below w w (w.alloc (.cells #[.int .i64 op,.slice A1 rs.length c1,.slice A kids.length c,.int .i64 mn,.int .i64 mx] 26)):=D.alloc V _;have hT:aA (.mk op rs kids mn mx)=1+a7 kids:=by rw[aA]
  have hL:aL (.mk op rs kids mn mx)=min (if op=1 then 1 else if op=4 then mx.toNat*qS kids else bp kids) 601:=by rw[aL]
  rw[hT]at h gQ;have aV:=mQ kids;have IK:kids.length<=200:=U;obtain ⟨jE,xn⟩:=dD hR;have HL:=Y hL;have HM:=Y h;have Gk:=Y gQ;have AO:=Y xn;clear hT h hL gQ hR xn aV;rcases jE with rfl|rfl|rfl|⟨rfl,bQ,Kd,qd,sY⟩
  .go_enter Tryz.func18,Tryz.ntmps18
   go_wp2_with fail;go_ret;exact ⟨aP (by rw[HL.o];rfl),hb0⟩
  .go_enter Tryz.func18,Tryz.ntmps18
   go_wp2_with fail;go_loopw [3,11] (λov iv wr=>∃(k o:Nat),k<=kids.length/\iv=.int .i64 (k:Int)/\ov=.int .i64 (o:Int)/\o<=601*k/\Hid (o+bp (kids.drop k)=bp kids)/\Below w w wr) (λ_ iv _=>kids.length - (intOf iv).toNat)
   case atStart=>exact ⟨0,0,U,rfl,rfl,U,by show 0+_=_;rw[List.drop_zero,Nat.zero_add],hb0⟩
   case round=>
    obtain ⟨k,o,k6,rfl,rfl,ho,HO,hb⟩:=hrel;by_cases aB:k<kids.length
    .have hd:decide ((k:Int)<(kids.length:Int))=true:=τ;have dV:decide (k<kids.length)=true:=decide_eq_true aB;obtain ⟨g,f,rfl,hg,bU⟩:=hk.resolve_left (by rintro rfl;simp at aB)
     obtain ⟨vs,dx,aY⟩:=bU.at k aB;have b7:=aQ (List.getElem_mem aB);have k7:=bh AO.o (List.getElem_mem aB);have fg:bp (kids.drop k)=aL kids[k]+bp (kids.drop (k+1)):=by rw[List.drop_eq_getElem_cons aB,bp]
     obtain ⟨kd,cU⟩:=ν (kids[k]);rw[cU]at aY b7 fg k7;obtain ⟨B1,e1,B2,e2,rfl,-,-,-⟩:=aY.form;have q:∀j,j<5->wr.cell? (Z g (f+k*5+j))=([.int .i64 kd.op,.slice B1 kd.rs.length e1,.slice B2 kd.kids.length e2,.int .i64 kd.mn,.int .i64 kd.mx]:List Value)[j]?:=λj hj=>(hb.cl g (f+k*5+j) hg).t (dx j hj);have q0:=q 0 U;have q1:=q 1 U;have q2:=q 2 U;have q3:=q 3 U;have q4:=q 4 U;simp only[Nat.add_zero,List.getElem?_cons_zero,List.getElem?_cons_succ]at q0 q1 q2 q3 q4;have vR:=λ(w':World) (hw:Below w w w')=>ih kd _ w' (by have:=HM.o;omega) (by have:=Gk.o;omega) k7 (aY.later hw)
     have HI:=Y vR;have HB:=Y hb;have HD:=Y fg;clear q dx aY cU bU vR hb fg hb0 k7;go_wp2_with fail;refine (HI _ (HB.t ((Below.refl w.heap.size _).alloc HB.size _))).mono ?_;rintro e w1 ⟨rfl,aM⟩;obtain ⟨x,hx⟩:=ν (aL kd);have gO:=rq kd;rw[hx]at gO|-;have HX:=Y hx;have cM:=Y (show Below w w w1 from HB.t ((((Below.refl w.heap.size _).alloc HB.size _)).t (aM.mono (by have:=HB.size;simp;omega))))
     clear aM hx b7 q0 q1 q2 q3 q4;go_wp2_with fail;go_roundw
     case rel=>
      refine ⟨k+1,o+x,U,by go_num,by go_num,U,?_,cM.o⟩
      have h1:=HO.o;have h2:=HD.o;have h3:=HX.o;exact (by omega:o+x+bp (kids.drop (k+1))=bp kids)
     case measure=>exact μ
    .obtain rfl:k=kids.length:=U;have dW:=HO.o;rw[List.drop_length,bp,Nat.add_zero]at dW;have HF:=Y dW;obtain ⟨y,hy⟩:∃y:Nat,y=min o 601:=⟨_,rfl⟩;have rS:min (o:Int) 601=(y:Int):=U;have HY:=Y hy;clear dW hy;have MJ:aL (.mk 2 rs kids mn mx)=min (bp kids) 601:=by rw[HL.o];simp
     have O0:=Y MJ;clear MJ;go_wp2_with fail
     all_goals
      go_ret;refine ⟨aP ?_,hb⟩;have h1:=HY.o;have h2:=HF.o;rw[O0.o,<-h2];omega
  .go_enter Tryz.func18,Tryz.ntmps18
   go_wp2_with fail;go_loopw [3,11] (λov iv wr=>∃(k o:Nat),k<=kids.length/\iv=.int .i64 (k:Int)/\ov=.int .i64 (o:Int)/\o<=601*k/\Hid (o+bp (kids.drop k)=bp kids)/\Below w w wr) (λ_ iv _=>kids.length - (intOf iv).toNat)
   case atStart=>exact ⟨0,0,U,rfl,rfl,U,by show 0+_=_;rw[List.drop_zero,Nat.zero_add],hb0⟩
   case round=>
    obtain ⟨k,o,k6,rfl,rfl,ho,HO,hb⟩:=hrel;by_cases aB:k<kids.length
    .have hd:decide ((k:Int)<(kids.length:Int))=true:=τ;have dV:decide (k<kids.length)=true:=decide_eq_true aB;obtain ⟨g,f,rfl,hg,bU⟩:=hk.resolve_left (by rintro rfl;simp at aB)
     obtain ⟨vs,dx,aY⟩:=bU.at k aB;have b7:=aQ (List.getElem_mem aB);have k7:=bh AO.o (List.getElem_mem aB);have fg:bp (kids.drop k)=aL kids[k]+bp (kids.drop (k+1)):=by rw[List.drop_eq_getElem_cons aB,bp]
     obtain ⟨kd,cU⟩:=ν (kids[k]);rw[cU]at aY b7 fg k7;obtain ⟨B1,e1,B2,e2,rfl,-,-,-⟩:=aY.form;have q:∀j,j<5->wr.cell? (Z g (f+k*5+j))=([.int .i64 kd.op,.slice B1 kd.rs.length e1,.slice B2 kd.kids.length e2,.int .i64 kd.mn,.int .i64 kd.mx]:List Value)[j]?:=λj hj=>(hb.cl g (f+k*5+j) hg).t (dx j hj);have q0:=q 0 U;have q1:=q 1 U;have q2:=q 2 U;have q3:=q 3 U;have q4:=q 4 U;simp only[Nat.add_zero,List.getElem?_cons_zero,List.getElem?_cons_succ]at q0 q1 q2 q3 q4;have vR:=λ(w':World) (hw:Below w w w')=>ih kd _ w' (by have:=HM.o;omega) (by have:=Gk.o;omega) k7 (aY.later hw)
     have HI:=Y vR;have HB:=Y hb;have HD:=Y fg;clear q dx aY cU bU vR hb fg hb0 k7;go_wp2_with fail;refine (HI _ (HB.t ((Below.refl w.heap.size _).alloc HB.size _))).mono ?_;rintro e w1 ⟨rfl,aM⟩;obtain ⟨x,hx⟩:=ν (aL kd);have gO:=rq kd;rw[hx]at gO|-;have HX:=Y hx;have cM:=Y (show Below w w w1 from HB.t ((((Below.refl w.heap.size _).alloc HB.size _)).t (aM.mono (by have:=HB.size;simp;omega))))
     clear aM hx b7 q0 q1 q2 q3 q4;go_wp2_with fail;go_roundw
     case rel=>
      refine ⟨k+1,o+x,U,by go_num,by go_num,U,?_,cM.o⟩
      have h1:=HO.o;have h2:=HD.o;have h3:=HX.o;exact (by omega:o+x+bp (kids.drop (k+1))=bp kids)
     case measure=>exact μ
    .obtain rfl:k=kids.length:=U;have dW:=HO.o;rw[List.drop_length,bp,Nat.add_zero]at dW;have HF:=Y dW;obtain ⟨y,hy⟩:∃y:Nat,y=min o 601:=⟨_,rfl⟩;have rS:min (o:Int) 601=(y:Int):=U;have HY:=Y hy;clear dW hy;have MJ:aL (.mk 3 rs kids mn mx)=min (bp kids) 601:=by rw[HL.o];simp
     have O0:=Y MJ;clear MJ;go_wp2_with fail
     all_goals
      go_ret;refine ⟨aP ?_,hb⟩;have h1:=HY.o;have h2:=HF.o;rw[O0.o,<-h2];omega
  .obtain ⟨kd,rfl⟩:∃kd,kids=[kd]:=by
    match kids,bQ with
    | [a],_=>exact ⟨a,rfl⟩
   obtain ⟨g,f,rfl,hg,bU⟩:=hk.resolve_left H;obtain ⟨vs,dx,aY⟩:=bU.at 0 H;have b7:=aQ (List.mem_singleton.2 rfl:kd∈[kd]);have k7:=bh AO.o (List.mem_singleton.2 rfl:kd∈[kd])
   replace aY:bY w kd vs:=aY
   obtain ⟨B1,e1,B2,e2,rfl,-,-,-⟩:=aY.form;have aC:=heap_alloc_new w (.cells #[(4:Int),.slice A1 rs.length c1,.slice (Z g f) 1 c,.int .i64 mn,.int .i64 mx] 26);have hS:∀W,Below w w W->W.heap[w.heap.size]?=some (.cells #[(4:Int),.slice A1 rs.length c1,.slice (Z g f) 1 c,.int .i64 mn,.int .i64 mx] 26)->
     (W.cell? (Z w 4)=some (.int .i64 mx)/\W.cell? (Z w 2)=some (.slice (Z g f) 1 c))/\
     W.cell? (Z g f)=some (.int .i64 kd.op)/\W.cell? (Z g (f+1))=some (.slice B1 kd.rs.length e1)/\W.cell? (Z g (f+2))=some (.slice B2 kd.kids.length e2)/\W.cell? (Z g (f+3))=some (.int .i64 kd.mn)/\W.cell? (Z g (f+4))=some (.int .i64 kd.mx):=by
    intro W hW hr;have q:∀j,j<5->W.cell? (Z g (f+j))=([.int .i64 kd.op,.slice B1 kd.rs.length e1,.slice B2 kd.kids.length e2,.int .i64 kd.mn,.int .i64 kd.mx]:List Value)[j]?:=λj hj=>(hW.cl g (f+j) hg).t (by have:=dx j hj;rw[Nat.zero_mul,Nat.add_zero]at this;exact this)
    refine ⟨⟨?_,?_⟩,q 0 U,q 1 U,q 2 U,q 3 U,q 4 U⟩
    .rw[Φ hr];rfl
    .rw[Φ hr];rfl
   have Kj:=Y hS;have vR:=λ(w':World) (hw:Below w w w')=>ih kd _ w' (by have:=HM.o;omega) (by have:=Gk.o;omega) k7 (aY.later hw)
   have HI:=Y vR;have HB:=Y hb0;have HR:=Y aC;obtain ⟨x,hx⟩:=ν (aL kd);have gO:=rq kd;rw[hx]at gO HI;have HX:=Y hx;obtain ⟨M,rfl⟩:=Int.eq_ofNat_of_zero_le (show 0<=mx by omega)
   obtain ⟨P,hP⟩:∃P:Nat,P=M*x:=⟨_,rfl⟩;have hP1:P<=64*601:=by rw[hP];exact Nat.mul_le_mul U gO
   have QY:(M:Int)*(x:Int)=(P:Int):=by rw[hP];simp
   have hP3:IntKind.i64.wrap ((M:Int)*(x:Int))=(P:Int):=by rw[QY];exact IntWalk.i64_in _ U
   obtain ⟨y,hy⟩:∃y:Nat,y=min P 601:=⟨_,rfl⟩;have rS:min (P:Int) 601=(y:Int):=U;have HY:=Y (I hP hy);clear hS dx aY bU vR hb0 aC k7 b7 hx hP hy QY;have dY:=Kj _ HB.o HR.o;have O9:=Kj _ HB.drew HR.o
   go_enter Tryz.func18,Tryz.ntmps18
   go_wp2_with fail;go_region_held3 (λw'=>(w'.cell? (Z w 4)=some (.int .i64 (M:Int))/\w'.cell? (Z w 2)=some (.slice (Z g f) 1 c))/\w'.cell? (Z g f)=some (.int .i64 kd.op)/\w'.cell? (Z g (f+1))=some (.slice B1 kd.rs.length e1)/\w'.cell? (Z g (f+2))=some (.slice B2 kd.kids.length e2)/\w'.cell? (Z g (f+3))=some (.int .i64 kd.mn)/\w'.cell? (Z g (f+4))=some (.int .i64 kd.mx))
    (first|exact dY|exact O9|exact dh|go_keep)
    ((go_at_call 18;refine (HI _ HB.drew).mono ?_;rintro e w1 ⟨rfl,aM⟩;have dh:=Kj w1 (HB.drew.t (aM.mono (HB.drew).size)) ((aM.block w H).t HR.o)))
   all_goals
    have HE:=Y (HB.drew.t (aM.mono (HB.drew).size));clear dY O9 dh aM;go_wp2_with fail
    all_goals
     go_ret;refine ⟨aP ?_,HE.o⟩;have h1:=HY.1;have h2:=HY.2;have h3:=HX.o;rw[HL.o,if_neg O];simp only[if_true,Int.toNat_natCast,qS];rw[h3,<-h1];omega
def bz(nd:Nd):Int:=if 200<aA nd then 3 else if 20<bZ nd then 9 else if aF nd=false then 1 else if 1024<bW nd then 3 else 0
theorem im{nd:Nd}(h:bz nd=0):aA nd<=200/\bZ nd<=20/\aF nd=true/\bW nd<=1024:=by
 unfold bz at h;by_cases h1:200<aA nd
 .rw[if_pos h1]at h;cases h
 .rw[if_neg h1]at h;by_cases h2:20<bZ nd
  .rw[if_pos h2]at h;cases h
  .rw[if_neg h2]at h
   cases h3:aF nd with
   |false=>rw[if_pos h3]at h;cases h
   |true=>
    rw[if_neg (by rw[h3];decide)]at h
    by_cases h4:1024<bW nd
    .rw[if_pos h4]at h;cases h
    .exact ⟨U,U,rfl,U⟩
theorem rZ(nd:Nd)(vs:List Value)(w:World)(hn:bY w nd vs):Calls Tryz.prog 17 #[.agg vs.toArray] w λe w'=>e=.returned (.int .i64 (bz nd))/\Below w w w':=by
 have HN:=Y (λW (hW:Below w w W)=>IJ _ nd vs W V (hn.later hW));have HD:=Y (λW (hW:Below w w W)=>IM _ nd vs W 20 U V (hn.later hW));have HR:=Y (λW (hW:Below w w W) (h:aA nd<=200)=>IV _ nd vs W V U (hn.later hW));have HL:=Y (λW (hW:Below w w W) (h:aA nd<=200) (hr:aF nd=true)=>Cp _ nd vs W V h hr (hn.later hW));obtain ⟨A1,c1,A2,c2,rfl,hr,jD,hk⟩:=hn.form;have HB:=Y (show Below w w (w.alloc (.cells #[.int .i64 nd.op,.slice A1 nd.rs.length c1,.slice A2 nd.kids.length c2,.int .i64 nd.mn,.int .i64 nd.mx] 26)) from D.alloc V _);have HX:=Y (heap_alloc_new w (.cells #[.int .i64 nd.op,.slice A1 nd.rs.length c1,.slice A2 nd.kids.length c2,.int .i64 nd.mn,.int .i64 nd.mx] 26));clear hr hk hn
 go_enter Tryz.func17,Tryz.ntmps17
 go_wp2_with fail;refine (HN _ HB.o).mono ?_;rintro e w1 ⟨rfl,aM⟩;obtain ⟨x,hx⟩:=ν (min (aA nd) 201);rw[hx];have oo:=Y (show Below w w w1 from HB.t (aM.mono HB.size));have fk:=(aM.block w H).t HX.o;obtain ⟨b0,b1,b2,b3,b4⟩:=aD fk;have DQ:=Y fk;clear fk aM;by_cases h1:200<aA nd
 .have d1:decide (200<(x:Int))=true:=τ;have HV:=Y (show (3:Int)=bz nd by unfold bz;rw[if_pos h1])
  clear h1 hx;go_wp2_with fail;go_ret;exact ⟨aP HV.o,oo.o⟩
 have d1:decide (200<(x:Int))=false:=θ;have ab3:=Y (show aA nd<=200 by omega)
 have YS:=Y (show bz nd=_ by unfold bz;rw[if_neg h1])
 clear h1 hx;go_wp2_with fail;refine (HD _ oo.o).mono ?_;rintro e w2 ⟨rfl,aS⟩;obtain ⟨x2,gO⟩:=ν (min (bZ nd) (20+1));rw[gO];have nA:=Y (show Below w w w2 from oo.t (aS.mono oo.size));have hx3:=(aS.block w (γ DQ.o).1).t DQ.o;clear b0 b1 b2 b3 b4;obtain ⟨b0,b1,b2,b3,b4⟩:=aD hx3;have Rf:=Y hx3;clear hx3 aS DQ;by_cases h2:20<bZ nd
 .have d2:decide (20<(x2:Int))=true:=τ;have HV:=Y (show (9:Int)=bz nd by rw[YS.o,if_pos h2])
  clear h2 gO;go_wp2_with fail;go_ret;exact ⟨aP HV.o,nA.o⟩
 have d2:decide (20<(x2:Int))=false:=θ;have HV2:=Y (show bz nd=_ by rw[YS.o,if_neg h2])
 clear h2 gO;go_wp2_with fail;refine (HR _ nA.o ab3.o).mono ?_;rintro e w3 ⟨rfl,pZ⟩;have Ko:=Y (show Below w w w3 from nA.t (pZ.mono nA.size));have hx4:=(pZ.block w (γ Rf.o).1).t Rf.o;clear b0 b1 b2 b3 b4;obtain ⟨b0,b1,b2,b3,b4⟩:=aD hx4;have YW:=Y hx4;clear hx4 pZ Rf
 cases h3:aF nd with
 |false=>
  have HV:=Y (show (1:Int)=bz nd by rw[HV2.o,if_pos h3])
  clear h3;go_wp2_with fail;go_ret;exact ⟨aP HV.o,Ko.o⟩
 |true=>
  have HV3:=Y (show bz nd=_ by rw[HV2.o,if_neg (by rw[h3];decide)])
  have H3:=Y h3;clear h3;go_wp2_with fail;refine (HL _ Ko.o ab3.o H3.o).mono ?_;rintro e w4 ⟨rfl,pE⟩;have HW4:=Y (show Below w w w4 from Ko.t (pE.mono Ko.size));have hle:=fK nd;generalize bW nd=y at *;clear pE;by_cases h4:1024<y
  .have d4:decide (1024<(y:Int))=true:=τ;have HV:=Y (show (3:Int)=bz nd by rw[HV3.o,if_pos h4])
   clear h4;go_wp2_with fail;go_ret;exact ⟨aP HV.o,HW4.o⟩
  .have d4:decide (1024<(y:Int))=false:=θ;have HV:=Y (show (0:Int)=bz nd by rw[HV3.o,if_neg h4])
   clear h4;go_wp2_with fail;go_ret;exact ⟨aP HV.o,HW4.o⟩
def aiY(nd:Nd):Nat:=if bz nd=0 then mT nd else 0
def am4(nd:Nd):Nat:=if bz nd=0 then bW nd else 0
theorem gD.rows{w:World}{v:Value}{rs:List (Nat×Nat)}(h:gD w v rs):nh 2 w v (rs.map λr=>[Value.int .u8 (r.1:Int),Value.int .u8 (r.2:Int)]):=by
 obtain ⟨A,c,rfl,hc,h⟩:=h;refine ⟨A,c,H,by simpa using hc,?_⟩
 rcases h with rfl|⟨g,f,h1,h2,h3⟩
 .exact .inl rfl
 .refine .inr ⟨g,f,h1,h2,λi hi=>?_⟩;have fQ:i<rs.length:=by simpa using hi
  obtain ⟨⟨q1,q2⟩,-,-⟩:=h3 i fQ;refine ⟨H,λj hj=>?_⟩
  match j,hj with
  |0,_=>rw[Nat.add_zero,q1];simp
  |1,_=>rw[q2];simp
theorem Iw(a b:Nat)(c:Int)(bx:Nat)(w:World)(hb:w.cell? (Z bx 0)=some (.int .u8 c)):
  Calls Tryz.prog 68 #[.agg #[.int .u8 (a:Int),.int .u8 (b:Int)],.pointer (Z bx 0)] w λe w'=>e=.returned (.bool (decide ((a:Int)<=c) && decide (c<=(b:Int))))/\Below w w w':=by
 have jK:bx<w:=by
  by_cases h:bx<w
  .exact h
  .simp[World.cell?,Array.getElem?_eq_none (Nat.le_of_not_lt h)]at hb
 have bf:bx≠w.heap.size:=U;have hB:Below w w (w.alloc (.cells #[.int .u8 (a:Int),.int .u8 (b:Int)] 72)):=D.alloc V _;have aS:=(hB.cl bx 0 jK).t hb;have HB:=Y hB;clear hB
 go_enter Tryz.func68,Tryz.ntmps68
 by_cases h1:(a:Int)<=c
 .have wP:decide ((a:Int)<=c)=true:=decide_eq_true h1;rw[wP];clear h1;go_wp2_with fail;go_ret;exact ⟨by rw[Bool.true_and];rfl,HB.o⟩
 .have wP:decide ((a:Int)<=c)=false:=decide_eq_false h1;rw[wP];clear h1;go_wp2_with fail;go_ret;exact ⟨rfl,HB.o⟩
theorem Mm(args:Array Value)(w:World):(callFunc 68 args).run Tryz.prog w=.ok (.enter 68 args) w:=by rfl
theorem It(v:Value)(rs:List (Nat×Nat))(c:Nat)(w:World)(h:gD w v rs):Calls Tryz.prog 41 #[v,.int .u8 (c:Int)] w λe w'=>e=.returned (.bool (qq rs c))/\Below w w w':=by
 have hB:Below w w (w.alloc (.cells #[.int .u8 (c:Int)] 5)):=D.alloc V _;have hx:(w.alloc (.cells #[.int .u8 (c:Int)] 5)).cell? (Z w 0)=some (.int .u8 (c:Int)):=by rw[Φ (heap_alloc_new w _)];rfl
 have nB:=(h.later hB).rows;have KH:wX 68 #[.pointer (Z w 0)] (rs.map λr=>[Value.int .u8 (r.1:Int),Value.int .u8 (r.2:Int)]) (rs.map λr=>decide (r.1<=c) && decide (c<=r.2)) (w.alloc (.cells #[.int .u8 (c:Int)] 5)):=by
  refine ⟨Mm,H,λi hi b hb w' cR=>?_⟩;have fQ:i<rs.length:=by simpa using hi
  rw[List.getElem?_map,List.getElem?_eq_getElem fQ]at hb;simp only[Option.map_some,Option.some.injEq]at hb;have h1:=Iw rs[i].1 rs[i].2 (c:Int) w w' ((cR.cl w 0 H).t hx);rw[show (decide ((rs[i].1:Int)<=(c:Int)) && decide ((c:Int)<=(rs[i].2:Int)))=b by rw[<-hb]; congr 1 <;> simp]at h1
  simpa using h1
 have Bf:dJ (rs.map λr=>decide (r.1<=c) && decide (c<=r.2))=qq rs c:=oc _ rs;have HC:=Y (Ix 68 #[.pointer (Z w 0)] _ _ v _ nB KH);rw[Bf]at HC;have HB:=Y hB;obtain ⟨A,c',rfl,wJ,-⟩:=h;clear KH nB Bf hB
 go_enter Tryz.func41,Tryz.ntmps41
 go_wp2_with fail;refine HC.mono ?_;rintro e w1 ⟨rfl,hb⟩;go_wp2_with fail;go_ret;exact ⟨rfl,HB.t (hb.mono H)⟩
end Go.Proofs.YthamegenljmgmaaGreatDoor
