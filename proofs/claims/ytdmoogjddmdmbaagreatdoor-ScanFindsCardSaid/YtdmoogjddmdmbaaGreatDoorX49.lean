/- Walks. -/
import Derived.Test.YtdmoogjddmdmbaaGreatDoorX27
import Derived.Test.YtdmoogjddmdmbaaGreatDoorX30
import Derived.Test.YtdmoogjddmdmbaaGreatDoorX47
import Derived.Test.YtdmoogjddmdmbaaGreatDoorX43
import Derived.Test.YtdmoogjddmdmbaaGreatDoorX48
import Derived.Test.YtdmoogjddmdmbaaGreatDoorX18
import Derived.Test.YtdmoogjddmdmbaaGreatDoorX39
import Derived.Test.YtdmoogjddmdmbaaGreatDoorX42
import Derived.Test.YtdmoogjddmdmbaaGreatDoorX05
set_option maxRecDepth 100000
set_option maxHeartbeats 16000000
set_option linter.unusedVariables false
set_option linter.unusedSimpArgs false
namespace Go.Proofs.YtdmoogjddmdmbaaGreatDoor
open Go.RowKit
theorem Js(A:Option Addr)(n c:Nat)(w:World)(ht:zq A n w)(hv:dn w):
  Calls Tryz.prog 3 #[.slice A n c] w λe w'=>e=.returned (.bool true)/\Below w.heap.size w w':=by
 have h0:=Nu (c:=c) ht;have hb0:=(Below.refl w w).alloc I (.cells #[.slice A n c,.int .i64 0] 25);have hz0:(w.alloc (.cells #[.slice A n c,.int .i64 0] 25)).heap.size=w.heap.size+1:=ξ;generalize FR:w.alloc (.cells #[.slice A n c,.int .i64 0] 25)=w0 at h0 hb0 hz0;have UT:=Z FR;have HV:=Z hv;have cH:=Z (H hb0 hz0);clear hv ht
 go_enter Tryz.func3,Tryz.ntmps3
 go_upto_region 2 with fail
 clear FR hz0;go_wp2_with fail;refine (EM w.heap.size w0 h0).mono ?_;rintro e w1 ⟨v,us,ks,rfl,hul,hlk,hkv,hkn,bS,nA,gX⟩;obtain ⟨-,Ak,ck,rfl,PB,eH,-⟩:=hkn w1 (ai.refl _ _);obtain ⟨gk,fk,rfl,-,-⟩:=eH.resolve_left (by rintro rfl;simp at hul)
 have Xp:=λW (hs:ai w.heap.size w1 W)=>hkv.later hs;rw[hlk]at PB hul;obtain ⟨nk,Xq⟩:∃n,us.length=n:=⟨_,rfl⟩;have Xr:ks.length=nk:=Y;rw[Xr]at PB hul;rw[Xq]at hkn hkv Xp|-;have H1:=Z (H hkn (H bS (H gX (H Xr (H Xp Xq)))));clear hkn bS gX hb0 h0 hlk hkv Xp Xq eH Xr;go_wp2_with fail;refine (gA w.heap.size 1 6 w1 O O O O nA).mono ?_;rintro e w2 ⟨r,rfl,nR,mP,jP,eI⟩;obtain ⟨np,rfl⟩:∃np:Nat,r=(np:Int):=⟨r.toNat,Y⟩;clear nA;have Pk:=Z (H1.out.2.2.2.2.1 w2 (ai.dO eI));go_wp2_with fail;refine (Nv w.heap.size np _ w2 Pk.out Y jP).mono ?_;rintro e w3 ⟨v3,b,rfl,Rk,cI,Aq,qH⟩;have Fa:w.heap.size<w2.heap.size:=by have h1:=eI.size;have h2:=H1.out.2.2.1.size;have h3:=cH.out.2;omega
 obtain ⟨At,ct,rfl,GJ⟩:=Hq (e:=5) cI Fa Y (ai.refl _ w3);obtain ⟨nt,hnt⟩:∃n,b.length=n:=⟨_,rfl⟩;rw[hnt]at GJ Rk|-;have akv:nt<=180:=Y;have adL:ai w.heap.size w1 w3:=(ai.dO eI).trans (ai.dO qH);have adM:=(H1.out.2.2.1.trans eI).trans qH;have hBW:Below w.heap.size w w3:=cH.out.1.trans (adM.below I cH.out.1.size);have HK:=Z (λ(W:World) (hb:Below w3.heap.size w3 W)=>H1.out.1 W (adL.trans (ai.aa hb)));have sJ:=Z (λ(W:World) (hb:Below w3.heap.size w3 W)=>HV.out.later (hBW.trans (hb.mono hBW.size)));have b8:=Z hBW;obtain ⟨bs,dL⟩:=ν (b.map UInt8.toNat);rw[dL]at GJ;have RO:=Z GJ;clear jP eI Aq qH cI Fa hnt Rk adM Pk nR mP adL hBW dL;have og:=λer msc=>adN (by have:=H1.out.2.2.2.1;omega) (by have:=H1.out.2.2.2.1;omega) H1.out.2.1 er msc
 have qF:=adO (by have:=H1.out.2.2.2.1;omega) H1.out.2.1
 have j9:=adP (by have:=H1.out.2.2.2.1;omega) H1.out.2.1
 have hZ:0<ks.length:=by have:=H1.out.2.2.2.1;omega
 have sa:∀i (h:i<us.length),oy us[i] (.slice At nt ct) nt ((λj=>PO bs (sw ((ks[j]?).getD ks[0]) (wU ks j))) i) w3:=λi hi=>by
  intro W a z hW h1 h2;have eS:i<ks.length:=by have:=H1.out.2.2.2.1;have:=H1.out.2.2.2.2.2;omega
  dsimp only
  rw[List.getElem?_eq_getElem eS];obtain ⟨-,A',c',-,-,-,hk⟩:=id (HK.out W hW);exact PR us[i] (sw ks[i] (wU ks i)) At nt ct a z bs W (RO.out.later hW) Y h2 ((hk i hi eS).psK (j9 i eS)) (sJ.out W hW)
 have rp:ks.length*nt<=900000:=Nat.le_trans (Nat.mul_le_mul (show ks.length<=3 by have:=H1.out.2.2.2.1;omega) akv) O
 have hsa:=Nw (some ⟨gk,fk,none⟩) nk ck us ks At nt ct bs (λj=>PO bs (sw ((ks[j]?).getD ks[0]) (wU ks j))) w3 (HK.out w3 υ) (sJ.out w3 υ) qF GJ.jo GJ.len GJ.small rp GJ.bt sa;have HSA:=Z hsa;have HG:=Z (H og (H j9 hZ));clear og qF j9 sa hsa GJ rp;go_wp2_with fail;refine HSA.out.mono ?_;rintro e w4 ⟨dM,er,ms,zM,fK⟩;obtain rfl:=HG.out.1 er ms zM;have akw:bs.length<=65536:=by have:=RO.out.len;omega
 obtain ⟨v4,o,rfl,hm4,Z0,hs4⟩:∃v o,e=.returned (.tuple #[v,.int .i64 0])/\Q4 w4 v o/\o.Perm (eB (Q8 ks ms bs (λj=>PO bs (sw ((ks[j]?).getD (ks[0]'HG.out.2.2)) (wU ks j)))) ks.length 0)/\o.Pairwise wN:=by
  rcases fK with ⟨h1,-⟩|⟨-,h1,-⟩|⟨-,-,v,o,h1,h2,h3,h4⟩
  .exact absurd rfl h1
  .omega
  .exact ⟨v,o,h1,h2,h3,h4⟩
 clear fK HSA akw;obtain ⟨Al,cl,rfl,bB,hlr⟩:=id hm4;obtain ⟨-,hmk,Z1⟩:=zM.all;have hfa:=λm hm=>MI Z0 hmk m hm;have xz:=MK Z0 hs4;have TX:∀i (h1:i<ks.length) (h2:i<ms.length),aR ks[i].pat=0/\∀x,dG ms[i] x 0=true↔bg ks[i].pat x:=λi h1 h2=>⟨(Z1 i h1 h2).good.2.1,(Z1 i h1 h2).good.1.Am.2.2.2.2⟩;obtain ⟨N,hN⟩:=ν o.length;rw[hN]at bB|-;have H4:=Z (H dM (H hlr (H hfa (H xz (H TX hN)))));clear dM zM hm4 Z0 hs4 hlr hmk Z1 hfa xz TX hN;have akx:(N:Int)<=9223372036854775807:=Y;go_wp2_with fail;go_loopw [8] (λiv wr=>∃i:Nat,i<=N/\iv=.int .i64 (i:Int)/\Below w4.heap.size w4 wr) (λiv _=>N - (intOf iv).toNat)
 case atStart=>exact ⟨0,Nat.zero_le _,rfl,υ⟩
 case round=>
  obtain ⟨i,hi,rfl,T6⟩:=hrel;by_cases hlt:i<N
  .have hd:decide ((i:Int)<(N:Int))=true:=τ;have cX:decide (i<N)=true:=decide_eq_true hlt;obtain ⟨wo,rfl⟩:∃W:World,W=wr:=⟨_,rfl⟩;have Wu:i<o.length:=by have:=H4.out.2.2.2.2.2;omega
   obtain ⟨m,hm⟩:=ν (o[i]);have hF:=H4.out.2.2.1 m (hm▸List.getElem_mem Wu);have hR:=λj (hj:j<i)=>ML H4.out.2.2.2.1 hj Wu;rw[hm]at hR;obtain ⟨gl,fl,rfl,dR,hql⟩:=H4.out.2.1.resolve_left (by rintro rfl;cases Wu)
   have hx':∀W,Below w4.heap.size w4 W->∀j (h:j<o.length),∀y,o[j]=y->(W.cell? ⟨gl,fl+j*3,none⟩=some (.int .i64 (y.k:Int))/\W.cell? ⟨gl,fl+j*3+1,none⟩=some (.int .i64 (y.f:Int))/\W.cell? ⟨gl,fl+j*3+2,none⟩=some (.int .i64 (y.t:Int)))/\gl<W.heap.size:=λW hW j h y hy=>by
    have q:=λk hk=>(hW.cl gl (fl+j*3+k) dR).trans (hql j h k hk);rw[hy]at q;exact ⟨⟨q 0 O,q 1 O,q 2 O⟩,Nat.lt_of_lt_of_le dR hW.size⟩
   obtain ⟨⟨x0,x1,x2⟩,lgl⟩:=hx' wo T6 i Wu m hm;obtain ⟨k,a,z⟩:=m;obtain ⟨k1,k2,⟨Z3,T3⟩,pg,wE,sT⟩:=hF;have dS:k<ks.length:=k1;have bX:k<ms.length:=k2;have Z3:a<z:=Z3;have T3:z<=bs.length:=T3;have HX:=Z (H hx' hR);have HF:=Z (H (show dG (ms[k]'bX) ((bs.drop a).take (z-a)) 0=true from pg) (H (show pK (ks[k]'dS).wh bs a z=true from wE) (show PO bs (sw ((ks[k]?).getD (ks[0]'HG.out.2.2)) (wU ks k)) a z=true from sT)));have HBR:=Z T6;have adS:=RO.out.len;rw[adS]at T3;have HM:=Z hm;clear hx' hR hql dR k1 k2 pg wE sT T6 hm adS
   go_upto_region 11 with fail
   refine dD λW1 hW1=>?_;have hb1:Below wo.heap.size wo W1:=by rw[hW1];exact υ.alloc I _
   have ud:W1.heap[wo.heap.size]?=some (.cells #[.int .i64 (k:Int),.int .i64 (a:Int),.int .i64 (z:Int)] 36 (0,0)):=by rw[hW1];exact heap_alloc_new _ _
   have Dz:=Z (H (HBR.out.trans (hb1.mono HBR.out.size)) (H ud hb1));clear hW1 x0 x1 x2 lgl ud hb1;have hkn:k<nk:=by have:=H1.out.2.2.2.1;omega
   go_cut [82] from 40 to 140 (λv wr=>v=.bool false/\Hid (Below W1.heap.size W1 wr))
   case first=>
    have mo:=(γ Dz.out.2.1).1;have y0:∀d:aN W1.heap.size W1,d.val.cell? ⟨wo.heap.size,0,none⟩=some (.int .i64 (k:Int)):=λd=>(d.ah.cl wo.heap.size 0 mo).trans (cell_of_row _ _ _ _ _ _ Dz.out.2.1);have y1:∀d:aN W1.heap.size W1,d.val.cell? ⟨wo.heap.size,1,none⟩=some (.int .i64 (a:Int)):=λd=>(d.ah.cl wo.heap.size 1 mo).trans (cell_of_row _ _ _ _ _ _ Dz.out.2.1);have y2:∀d:aN W1.heap.size W1,d.val.cell? ⟨wo.heap.size,2,none⟩=some (.int .i64 (z:Int)):=λd=>(d.ah.cl wo.heap.size 2 mo).trans (cell_of_row _ _ _ _ _ _ Dz.out.2.1);have ym:∀d:aN W1.heap.size W1,wo.heap.size<d.val.heap.size:=λd=>Nat.lt_of_lt_of_le mo d.ah.size;have g1:decide ((k:Int)<0)=false:=θ;have g2:decide ((nk:Int)<=(k:Int))=false:=θ;have g2n:decide (nk<=k)=false:=θ;have g3:decide ((a:Int)<0)=false:=θ;have g4:decide ((nt:Int)<(z:Int))=false:=θ;have g4n:decide (nt<z)=false:=θ;have g5:decide ((z:Int)<=(a:Int))=false:=θ;have g5n:decide (z<=a)=false:=θ;by_cases Ir:i=0
    .have d0:decide ((0:Int)<(i:Int))=false:=θ;have d0n:decide (0<i)=false:=θ;clear Ir mo;refine aq (Below.refl W1 W1) κ κ ?_
     repeat (go_big_quiet_step (fail))
     refine wpQuiet_nil ?_;intro w9 hw';have oF:Below W1.heap.size W1 w9:=by obtain ⟨d9,rfl⟩:=hw';exact d9.ah
     have lT:=Z oF;clear hw' oF y0 y1 y2 ym;go_wp2_with fail
     go_meet
     case rel=>exact ⟨rfl,lT⟩
    .have d0:decide ((0:Int)<(i:Int))=true:=τ;have d0n:decide (0<i)=true:=τ;obtain ⟨j,hj⟩:∃j,i=j+1:=⟨i - 1,Y⟩;have AU:j<i:=Y;have hjo:j<o.length:=Y;have hwj:IntKind.i64.wrap ((i:Int) - 1)=(j:Int):=by rw[IntWalk.i64_in _ Y];omega
     have hjN:(j:Int)<(N:Int):=Y;have LS:j<N:=Y;obtain ⟨p,hp⟩:=ν (o[j]);have rf:=(HX.out.2 j AU).1;rw[hp]at rf;have HBF:=Z λW=>((DI p ⟨k,a,z⟩ W).mono λ_ _ h=>⟨h.1.trans (ae rf),h.2⟩:Calls Tryz.prog 10 #[.agg #[.int .i64 (p.k:Int),.int .i64 (p.f:Int),.int .i64 (p.t:Int)],.agg #[.int .i64 (k:Int),.int .i64 (a:Int),.int .i64 (z:Int)]] W λe w'=>e=.returned (.bool true)/\Below W.heap.size W w');have z0:=λd:aN W1.heap.size W1=>(HX.out.1 d.val (Dz.out.1.trans (d.ah.mono Dz.out.1.size)) j hjo p hp).1.1;have z1:=λd:aN W1.heap.size W1=>(HX.out.1 d.val (Dz.out.1.trans (d.ah.mono Dz.out.1.size)) j hjo p hp).1.2.1;have z2:=λd:aN W1.heap.size W1=>(HX.out.1 d.val (Dz.out.1.trans (d.ah.mono Dz.out.1.size)) j hjo p hp).1.2.2;have zm:=λd:aN W1.heap.size W1=>(HX.out.1 d.val (Dz.out.1.trans (d.ah.mono Dz.out.1.size)) j hjo p hp).2;clear Ir hj AU hjo hp rf mo;refine aq (Below.refl W1 W1) κ κ ?_
     repeat (go_big_quiet_step (fail))
     go_big_quiet_step ((go_at_call 10;exact Calls.bZ I (HBF.out _)))
     repeat (go_big_quiet_step (fail))
     refine wpQuiet_nil ?_;intro w9 hw';have oF:Below W1.heap.size W1 w9:=by obtain ⟨d9,rfl⟩:=hw';exact d9.ah
     have lT:=Z oF;clear hw' oF y0 y1 y2 ym z0 z1 z2 zm;go_wp2_with fail
     go_meet
     case rel=>exact ⟨rfl,lT⟩
   case rest=>
    obtain ⟨rfl,lT⟩:=hcut
    apply_assumption
    have Xs:=Dz.out.1.trans (lT.out.mono Dz.out.1.size);have Xt:=H4.out.1.trans (Xs.mono H4.out.1.size);have hM9:=(lT.out.block _ (γ Dz.out.2.1).1).trans Dz.out.2.1;obtain ⟨y0,y1,y2⟩:=cells3 hM9;have lm9:=(γ hM9).1;obtain ⟨-,Ak',ck',e9,-,hr9,akz⟩:=HK.out wc Xt;injection e9 with e9 e8 e9';subst e9 e9';have Dw:k<us.length:=by have:=H1.out.2.2.2.2.2;omega
    obtain ⟨gk',fk',e7,Zj,Ny⟩:=hr9.resolve_left (λe=>by rw[e]at Dw;cases Dw)
    injection e7 with e7;injection e7 with e7 e7' _;subst e7 e7';obtain ⟨u,hu⟩:=ν (us[k]);have Ny:=Ny k Dw;rw[hu]at Ny;obtain ⟨⟨q0,q1,q2,q3,q4,q5⟩,q6,q7,q8,q9,EB⟩:=jY Ny;have hkI:∀W,Below w3.heap.size w3 W->wQ W u (ks[k]'dS):=λW hW=>by
     obtain ⟨-,_,_,-,-,-,h⟩:=HK.out W hW;rw[<-hu];exact h k Dw dS
    have H9:=Z (H Xs (H Xt (H hM9 hkI)));clear Xs Xt hM9 hr9 akz Dw Ny hu hkI e8
    go_upto_region 14 with fail
    refine dD λW2 gK=>?_;have aJ:Below wc.heap.size wc W2:=by rw[gK];exact υ.alloc I _
    have hK2:Nf u wc.heap.size W2:=by rw[gK];exact heap_alloc_new _ _
    have uC:=(aJ.block _ lm9).trans H9.out.2.2.1;have adU:=H9.out.1.trans (aJ.mono H9.out.1.size);have adV:=H9.out.2.1.trans (aJ.mono H9.out.2.1.size);have H2:=Z (H adU (H adV (H hK2 uC)));clear gK q0 q1 q2 q3 q4 q5 q6 q7 q8 q9 EB y0 y1 y2 aJ hK2 uC adU adV lm9;obtain ⟨At',ct',e9,UB,sk⟩:=id RO.out.jo;injection e9 with e9 e8 e9';subst e9 e9';clear e8;have htl:=RO.out.len;obtain ⟨gt,ft,rfl,hgt,-⟩:=sk.resolve_left (by rintro e;rw[e]at htl;simp at htl;omega)
    have akB:nt<=ct:=by have:=UB.1;omega
    have akC:ct<=9223372036854775807:=UB.2;have adW:¬ct-a=0:=Y;have Z4:(z:Int)<=(ct:Int):=Y;have akD:(a:Int)<=(z:Int):=Y;have ow:=λd:aN W2.heap.size W2=>(H2.out.2.2.1.later d.ah).cells;have k0:∀d:aN W2.heap.size W2,d.val.cell? ⟨wc.heap.size,0,none⟩=_:=λd=>(ow d).1.1;have k1:∀d:aN W2.heap.size W2,d.val.cell? ⟨wc.heap.size,1,none⟩=_:=λd=>(ow d).1.2.1;have k2:∀d:aN W2.heap.size W2,d.val.cell? ⟨wc.heap.size,2,none⟩=_:=λd=>(ow d).1.2.2.1;have k3:∀d:aN W2.heap.size W2,d.val.cell? ⟨wc.heap.size,3,none⟩=_:=λd=>(ow d).1.2.2.2.1;have k4:∀d:aN W2.heap.size W2,d.val.cell? ⟨wc.heap.size,4,none⟩=_:=λd=>(ow d).1.2.2.2.2.1;have k5:∀d:aN W2.heap.size W2,d.val.cell? ⟨wc.heap.size,5,none⟩=_:=λd=>(ow d).1.2.2.2.2.2;have k6:∀d:aN W2.heap.size W2,d.val.cell? ⟨wc.heap.size,6,none⟩=_:=λd=>(ow d).2.1.1;have k7:∀d:aN W2.heap.size W2,d.val.cell? ⟨wc.heap.size,7,none⟩=_:=λd=>(ow d).2.1.2.1;have k8:∀d:aN W2.heap.size W2,d.val.cell? ⟨wc.heap.size,8,none⟩=_:=λd=>(ow d).2.1.2.2.1;have k9:∀d:aN W2.heap.size W2,d.val.cell? ⟨wc.heap.size,9,none⟩=_:=λd=>(ow d).2.1.2.2.2.1;have ZP:∀d:aN W2.heap.size W2,d.val.cell? ⟨wc.heap.size,10,none⟩=_:=λd=>(ow d).2.1.2.2.2.2;have kl:∀d:aN W2.heap.size W2,wc.heap.size<d.val.heap.size:=λd=>(ow d).2.2;have zR:=(γ H2.out.2.2.2).1;have y1:∀d:aN W2.heap.size W2,d.val.cell? ⟨wo.heap.size,1,none⟩=some (.int .i64 (a:Int)):=λd=>(d.ah.cl wo.heap.size 1 zR).trans (cell_of_row _ _ _ _ _ _ H2.out.2.2.2);have y2:∀d:aN W2.heap.size W2,d.val.cell? ⟨wo.heap.size,2,none⟩=some (.int .i64 (z:Int)):=λd=>(d.ah.cl wo.heap.size 2 zR).trans (cell_of_row _ _ _ _ _ _ H2.out.2.2.2);have ym:∀d:aN W2.heap.size W2,wo.heap.size<d.val.heap.size:=λd=>Nat.lt_of_lt_of_le zR d.ah.size;have tH:((bs.drop a).take (z-a)).length=z-a:=by rw[List.length_take,List.length_drop];omega
    have yD:=λd:aN W2.heap.size W2=>H2.out.2.1.trans (d.ah.mono H2.out.2.1.size);have aX:=Z λd:aN W2.heap.size W2=>(by
     have hI:=H9.out.2.2.2 d.val (yD d);have hq:=oX (k:=a) (RO.out.later (yD d)).jo htl T3;simp only[RP,adW,if_false]at hq;have h:=Ba (ks[k]'dS).pat (ms[k]'bX) u.pat (some ⟨gt,ft+a,none⟩) (z-a) (ct-a) ((bs.drop a).take (z-a)) d.val hI.pat (H4.out.2.2.2.2.1 k dS bX).1 (H4.out.2.2.2.2.1 k dS bX).2 ⟨_,_,by rw[tH],by rw[tH];omega,hq⟩ tH Y (λx hx=>RO.out.bt x (List.mem_of_mem_drop (List.mem_of_mem_take hx)))
     rw[HF.out.1]at h;exact h:Calls Tryz.prog 11 #[.agg #[.int .i64 u.op,.slice u.a1 u.n1 u.c1,.slice u.a2 u.n2 u.c2,.int .i64 u.mn,.int .i64 u.mx],.slice (some ⟨gt,ft+a,none⟩) (z-a) (ct-a)] d.val λe w'=>e=.returned (.bool true)/\Below d.val.heap.size d.val w')
    have adX:PO bs (sw (ks[k]'dS) (wU ks k)) a z=true:=by
     have h2:=HF.out.2.2;rwa [List.getElem?_eq_getElem dS]at h2
    have dr:=Z λd:aN W2.heap.size W2=>((Bv u (some ⟨gt,ft,none⟩) nt ct a z bs d.val (RO.out.later (yD d)).jo htl Y Y T3).mono λ_ _ h=>⟨h.1.trans (ae (by rw[(H9.out.2.2.2 d.val (yD d)).wh];exact HF.out.2.1)),h.2⟩:Calls Tryz.prog 12 #[.agg #[.string u.nm,.int .i64 u.op,.slice u.a1 u.n1 u.c1,.slice u.a2 u.n2 u.c2,.int .i64 u.mn,.int .i64 u.mx,.bool u.wh,.int .i64 u.ck,.int .i64 u.en,.slice u.a3 u.n3 u.c3,.int .i64 u.nr],.slice (some ⟨gt,ft,none⟩) nt ct,.int .i64 (a:Int),.int .i64 (z:Int)] d.val λe w'=>e=.returned (.bool true)/\Below d.val.heap.size d.val w')
    have jN:=Z λd:aN W2.heap.size W2=>((zr u (sw (ks[k]'dS) (wU ks k)) gt ft nt ct a z bs d.val (RO.out.later (yD d)) Z3 T3 ((H9.out.2.2.2 d.val (yD d)).psK (HG.out.2.1 k dS))).mono λ_ _ h=>⟨h.1.trans (ae adX),h.2⟩:Calls Tryz.prog 13 #[.agg #[.string u.nm,.int .i64 u.op,.slice u.a1 u.n1 u.c1,.slice u.a2 u.n2 u.c2,.int .i64 u.mn,.int .i64 u.mx,.bool u.wh,.int .i64 u.ck,.int .i64 u.en,.slice u.a3 u.n3 u.c3,.int .i64 u.nr],.slice (some ⟨gt,ft,none⟩) nt ct,.int .i64 (a:Int),.int .i64 (z:Int)] d.val λe w'=>e=.returned (.bool true)/\Below d.val.heap.size d.val w');clear ow zR tH yD htl UB sk hgt adX;refine aq (Below.refl W2 W2) κ κ ?_
    repeat (go_big_quiet_step (fail))
    go_big_quiet_step ((go_at_call 11;exact Calls.bZ I (aX.out _)))
    repeat (go_big_quiet_step (fail))
    go_big_quiet_step ((go_at_call 12;exact Calls.bZ I (dr.out _)))
    repeat (go_big_quiet_step (fail))
    go_big_quiet_step ((go_at_call 13;exact Calls.bZ I (jN.out _)))
    repeat (go_big_quiet_step (fail))
    refine wpQuiet_nil ?_;intro w9 hw';have oF:Below W2.heap.size W2 w9:=by obtain ⟨d9,rfl⟩:=hw';exact d9.ah
    have Z5:=Z (H (H2.out.1.trans (oF.mono H2.out.1.size)) ((oF.block _ (γ H2.out.2.2.2).1).trans H2.out.2.2.2));clear hw' oF k0 k1 k2 k3 k4 k5 k6 k7 k8 k9 ZP kl y1 y2 ym adW Z4 akD akB akC;go_wp2_with fail;go_loopw [11] (λqv wr=>∃q:Nat,q<=i/\qv=.int .i64 (q:Int)/\Hid (Below w9.heap.size w9 wr)) (λqv _=>i - (intOf qv).toNat)
    case atStart=>exact ⟨0,Nat.zero_le _,rfl,υ⟩
    case round=>
     obtain ⟨q,hq,rfl,HQ⟩:=hrel;by_cases hql:q<i
     .have dq:decide ((q:Int)<(i:Int))=true:=τ;have dqn:decide (q<i)=true:=decide_eq_true hql;have ZB:q<o.length:=Y;obtain ⟨p,hp⟩:=ν (o[q]);have xz:=(HX.out.2 q hql).2;rw[hp]at xz;have Xu:=Z5.out.1.trans (HQ.out.mono Z5.out.1.size);have hMx:=(HQ.out.block _ (γ Z5.out.2).1).trans Z5.out.2;have zR:=(γ hMx).1;have y0:∀d:aN wr.heap.size wr,d.val.cell? ⟨wo.heap.size,0,none⟩=some (.int .i64 (k:Int)):=λd=>(d.ah.cl wo.heap.size 0 zR).trans (cell_of_row _ _ _ _ _ _ hMx);have y1:∀d:aN wr.heap.size wr,d.val.cell? ⟨wo.heap.size,1,none⟩=some (.int .i64 (a:Int)):=λd=>(d.ah.cl wo.heap.size 1 zR).trans (cell_of_row _ _ _ _ _ _ hMx);have ym:∀d:aN wr.heap.size wr,wo.heap.size<d.val.heap.size:=λd=>Nat.lt_of_lt_of_le zR d.ah.size;have z0:=λd:aN wr.heap.size wr=>(HX.out.1 d.val (Xu.trans (d.ah.mono Xu.size)) q ZB p hp).1.1;have z2:=λd:aN wr.heap.size wr=>(HX.out.1 d.val (Xu.trans (d.ah.mono Xu.size)) q ZB p hp).1.2.2;have zm:=λd:aN wr.heap.size wr=>(HX.out.1 d.val (Xu.trans (d.ah.mono Xu.size)) q ZB p hp).2;have hqN:(q:Int)<(N:Int):=Y;have hqn:q<N:=Y;obtain ⟨p0,p1,p2⟩:=p
      dsimp only at z0 z2
      clear Xu hMx zR ZB hp;by_cases pR:p0=k
      .have e1:((p0:Int) == (k:Int))=true:=by simp[pR]
       have e2:decide ((a:Int)<(p2:Int))=false:=decide_eq_false (by have:p2<=a:=xz pR;omega)
       have e3:decide (a<p2)=false:=decide_eq_false (by have:p2<=a:=xz pR;omega)
       clear xz pR
       go_upto_region 19 with fail
       refine aq (Below.refl wr wr) κ κ ?_
       repeat (go_big_quiet_step (fail))
       refine wpQuiet_nil ?_;intro w8 hw';have ZO:Below wr.heap.size wr w8:=by obtain ⟨d9,rfl⟩:=hw';exact d9.ah
       have H8:=Z (HQ.out.trans (ZO.mono HQ.out.size));clear hw' ZO y0 y1 ym z0 z2 zm;go_wp2_with fail;go_roundw
       case rel=>exact ⟨q+1,Y,by go_num,H8⟩
       case measure=>exact μ
      .have e1:((p0:Int) == (k:Int))=false:=ψ;clear xz pR
       go_upto_region 19 with fail
       refine aq (Below.refl wr wr) κ κ ?_
       repeat (go_big_quiet_step (fail))
       refine wpQuiet_nil ?_;intro w8 hw';have ZO:Below wr.heap.size wr w8:=by obtain ⟨d9,rfl⟩:=hw';exact d9.ah
       have H8:=Z (HQ.out.trans (ZO.mono HQ.out.size));clear hw' ZO y0 y1 ym z0 z2 zm;go_wp2_with fail;go_roundw
       case rel=>exact ⟨q+1,Y,by go_num,H8⟩
       case measure=>exact μ
     .obtain rfl:q=i:=Y;have dq:decide ((q:Int)<(q:Int))=false:=θ;have dqn:decide (q<q)=false:=θ;have H8:=Z (Z5.out.1.trans (HQ.out.mono Z5.out.1.size));go_wp2_with fail;go_roundw
      case rel=>exact ⟨q+1,Y,by go_num,H8.out⟩
      case measure=>exact μ
  .have hd:decide ((i:Int)<(N:Int))=false:=θ;have cX:decide (i<N)=false:=decide_eq_false hlt;have h34:=H4.out.1.trans (T6.mono H4.out.1.size);have HBQ:=Z (b8.out.trans (h34.mono b8.out.size));have HVQ:=Z (sJ.out wr h34);clear T6 h34;go_wp2_with fail;refine (Qa wr HVQ.out).mono ?_;rintro e wf ⟨rfl,pN⟩;have HBF:=Z (HBQ.out.trans (pN.mono HBQ.out.size));clear pN;go_wp2_with fail;go_ret;exact ⟨rfl,HBF.out⟩
end Go.Proofs.YtdmoogjddmdmbaaGreatDoor
