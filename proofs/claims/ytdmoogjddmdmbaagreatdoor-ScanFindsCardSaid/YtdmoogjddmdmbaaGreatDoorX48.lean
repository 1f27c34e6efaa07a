/- Walks. -/
import Derived.Test.YtdmoogjddmdmbaaGreatDoorX01
import Derived.Test.YtdmoogjddmdmbaaGreatDoorX23
import Derived.Test.YtdmoogjddmdmbaaGreatDoorX19
import Derived.Test.YtdmoogjddmdmbaaGreatDoorX18
import Derived.StillTailTactics
set_option maxRecDepth 100000
set_option maxHeartbeats 16000000
set_option linter.unusedVariables false
set_option linter.unusedSimpArgs false
namespace Go.Proofs.YtdmoogjddmdmbaaGreatDoor
open Go.RowKit
theorem vL.Ax{W:World}{B go n c:Nat}{o:List Bool}{wr:World}(h:vL W B go n c o wr)(hn:o.length=n)(s:Nat)(z:Bool):vL W B go n c (o.set s z) (wr.setCell ⟨go,s,none⟩ (.bool z)):=by
 have hrow:∀o:List Bool,bF bC o=o.map Value.bool:=λo=>by
  unfold bF
  induction o with
  |nil=>rfl
  |cons b r ih=>simp only[List.map_cons,List.flatten_cons,ih];rfl
 refine ⟨?_,?_⟩
 .have h1:wr.ownsRow B 4 1 (.slice (some ⟨go,0,none⟩) n c) n (bF bC o):=by have:=h.own;unfold OR at this;rwa [hn]at this
  have h2:=(h1.stored s (.bool z)).1;show World.ownsRow _ _ _ _ _ _ _;rw[List.length_set,hn,hrow,List.map_set];rw[hrow]at h2;exact h2
 .exact h.kf.trans ⟨rfl,rfl,rfl,by simp[World.setCell],λk _ hn=>Below.heap_setCell _ _ _ _ (λe=>hn (by simp[show k=go from e])),λk hk=>.inl hk⟩
theorem vL.drew{W:World}{B go n c:Nat}{o:List Bool}{wr:World}(h:vL W B go n c o wr):vL W B go n c o wr.drew:=⟨h.own,⟨h.kf.os,h.kf.tape,h.kf.output,h.kf.size,h.kf.blk,h.kf.new⟩⟩
def Yr(l:List Bool)(w:World)(e:Ending)(w':World):Prop:=∃v,e=.returned v/\eO w' v l/\Below w.heap.size w w'
theorem vK(va vb:Value)(a b:List Bool)(w:World)(ha:eO w va a)(hb:eO w vb b)(hl:a.length=b.length)(hn:a.length<=2000):
  Calls Tryz.prog 62 #[va,vb] w (Yr (S1 a b) w):=by
 obtain ⟨Aa,ca,rfl,U8,hoa⟩:=ha;obtain ⟨Ab,cb,rfl,tZ,hob⟩:=hb;obtain ⟨n,hN⟩:=ν a.length;have hM:b.length=n:=Y;have hmk:=pH n Y;have hW1:=qZ w n Y;have hb1:Below w.heap.size w (w.alloc (.cells (Array.replicate n (.bool false)) 4)):=υ.alloc I _;obtain ⟨W1,hW⟩:=ν (w.alloc (.cells (Array.replicate n (.bool false)) 4));have hz1:W1.heap.size=w.heap.size+1:=by rw[<-hW];simp
 rw[hW]at hW1 hb1;have HA0:=Z (show vL W1 w.heap.size w.heap.size n n (Hi a b 0) W1 from ⟨by rw[Oz,hN];exact hW1,aj.refl _ _⟩)
 have aX:=Z hb1;have Tp:=Z hW;have HN:=Z (H hN hM);have HOA:=Z hoa;have HOB:=Z hob;have hz2:w.heap.size+1<=W1.heap.size:=Y;rw[hN]at U8 hn|-;rw[hM]at tZ|-;clear hl hW1 hb1 hW hN hM hoa hob hz1
 go_enter Tryz.func62,Tryz.ntmps62
 go_wp2_with fail;rw[Tp.out];go_loopw [6] (λiv wr=>∃i:Nat,i<=n/\iv=.int .i64 (i:Int)/\Hid (vL W1 w.heap.size w.heap.size n n (Hi a b i) wr)) (λiv _=>n - (intOf iv).toNat)
 case atStart=>exact ⟨0,Nat.zero_le _,rfl,HA0⟩
 case round=>
  obtain ⟨i,hi,rfl,HA⟩:=hrel;have aY:Below w.heap.size w wr:=aX.out.trans (HA.out.kf.below (λk hk=>by rw[List.mem_singleton]at hk;omega) Y)
  by_cases hlt:i<n
  .have hd:decide ((i:Int)<(n:Int))=true:=τ;have cX:decide (i<n)=true:=decide_eq_true hlt;have OP:i<a.length:=by rw[HN.out.1];exact hlt
   have oL:i<b.length:=by rw[HN.out.2];exact hlt
   obtain ⟨ga,fa,rfl,Kh,OS⟩:=HOA.out.resolve_left (λh=>by rw[h]at OP;simp at OP)
   obtain ⟨gb,fb,rfl,xn,OT⟩:=HOB.out.resolve_left (λh=>by rw[h]at oL;simp at oL)
   obtain ⟨x,hx⟩:=ν (a[i]);obtain ⟨y,hy⟩:=ν (b[i]);have c0:=(aY.cl ga (fa+i) Kh).trans (OS i OP);have c1:=(aY.cl gb (fb+i) xn).trans (OT i oL);rw[hx]at c0;rw[hy]at c1;have la:ga<wr.heap.size:=by have:=aY.size;omega
   have lb:gb<wr.heap.size:=by have:=aY.size;omega
   have hs:=OA a b OP;have bo:=HA.out.Ax (by rw[nJ,HN.out.1]) i (x || y)
   rw[List.getElem?_eq_getElem OP,List.getElem?_eq_getElem oL,hx,hy,Option.getD_some,Option.getD_some]at hs;rw[hs]at bo;obtain ⟨z,hz⟩:∃z,(Hi a b i)[i]?=some z:=⟨_,List.getElem?_eq_getElem (by rw[nJ];exact OP)⟩
   obtain ⟨d0,d1,d2⟩:=HA.out.cell hz;have HS:=Z bo;have Ys:(i:Int)<(n:Int):=Y;clear hs bo hz hx hy OS OT aY
   cases x with
   |true=>
    go_wp2_with fail;go_roundw
    case rel=>exact ⟨i+1,Y,by go_num,HS⟩
    case measure=>exact μ
   |false=>
    go_wp2_with fail;go_roundw
    case rel=>exact ⟨i+1,Y,by go_num,HS⟩
    case measure=>exact μ
  .obtain rfl:i=n:=Y;have hd:decide ((i:Int)<(i:Int))=false:=θ;have cX:decide (i<i)=false:=θ;have b8:=Z aY;clear aY;go_wp2_with fail;go_ret;have ho:=HA.out.own;rw[<-HN.out.1,S2]at ho;exact ⟨_,rfl,eO.gq (by rw[<-HN.out.1];exact ho),b8.out⟩
def Yt(nd:Nd)(bs:List Nat)(A:Nat->Prop)(w:World)(e:Ending)(w':World):Prop:=∃v l,e=.returned v/\eO w' v l/\nP bs.length (lL (bg nd) bs A) l/\Below w.heap.size w w'
theorem Ie(bs:List Nat)(gO:bs.length<=1024)(dV:∀b∈bs,b<256):∀(m:Nat) (nd:Nd) (vs:List Value) (vb va:Value) (a:List Bool) (A:Nat->Prop) (w:World),au nd<=m->aA nd=true->bT w nd vs->eZ w vb bs->eO w va a->nP bs.length A a->
  Calls Tryz.prog 29 #[.agg vs.toArray,vb,va] w (Yt nd bs A w):=by
 intro m
 induction m with
 |zero=>intro nd vs vb va a A w h;cases nd;rw[au]at h;omega
 |succ m ih=>
  rintro ⟨op,rs,kids,mn,mx⟩ vs vb va a A w hm hR hn YX Tq hA;obtain ⟨ke,uB⟩:=dm hR;rw[au]at hm;obtain ⟨A1,c1,A2,c2,rfl,hr,qD,hk⟩:=hn.form;simp only[Nd.op,Nd.rs,Nd.kids,Nd.mn,Nd.mx]at hr qD hk|-;obtain ⟨Ab,cb,rfl,tZ,hob⟩:=id YX;obtain ⟨Aa,ca,rfl,U8,hoa⟩:=id Tq;have hlen:=hA.1;obtain ⟨n,hN⟩:=ν bs.length;have vY:a.length=n+1:=Y;obtain ⟨nr,sH⟩:∃k,rs.length=k:=⟨_,rfl⟩;obtain ⟨nk,Xq⟩:∃k,kids.length=k:=⟨_,rfl⟩;rw[vY]at Tq U8|-;rw[hN]at YX tZ gO|-;rw[sH]at hr|-;rw[Xq]at qD|-;have hmk:=pH (n+1) Y;have ahi:∀w,(Instr.makeSlice 70 (.int .i64 ((n:Int)+1)) (.int .i64 ((n:Int)+1))).run Tryz.prog w=.ok (.slice (some ⟨w.heap.size,0,none⟩) (n+1) (n+1)) (w.alloc (.cells (Array.replicate (n+1) (.bool false)) 4)):=hmk;obtain ⟨W,hW⟩:=ν ((w.alloc (.cells #[.int .i64 op,.slice A1 nr c1,.slice A2 nk c2,.int .i64 mn,.int .i64 mx] 41)).alloc (.cells (Array.replicate (n+1) (.bool false)) 4));have hB:Below w.heap.size w W:=by rw[<-hW];exact (υ.alloc I _).alloc ξ _
  have hX:W.heap[w.heap.size]?=some (.cells #[.int .i64 op,.slice A1 nr c1,.slice A2 nk c2,.int .i64 mn,.int .i64 mx] 41 (0,0)):=by rw[<-hW,aB _ _ _ ξ];exact heap_alloc_new w _
  have rL:W.heap.size=w.heap.size+2:=by rw[<-hW];simp
  have hO0:OR 4 1 bC (w.heap.size+1) (.slice (some ⟨w.heap.size+1,0,none⟩) (n+1) (n+1)) (List.replicate (n+1) false) W:=by
   have:=qZ (w.alloc (.cells #[.int .i64 op,.slice A1 nr c1,.slice A2 nk c2,.int .i64 mn,.int .i64 mx] 41)) (n+1) Y;rw[<-hW];simpa using this
  have Tp:=Z hW;have HW:=Z (H hB (H hX hO0));have PE:=Z ih;have HM:=Z (H hm (H uB (H sH Xq)));have HV:=Z (H YX (H Tq hA));have Po:=Z hr;have po:=Z (H hN dV);have auF:w.heap.size+2<=W.heap.size:=Y;clear hmk hW hB hX hO0 ih hm uB sH Xq YX Tq hA hr hn hN vY hlen rL dV;rcases ke with rfl|rfl|rfl|⟨rfl,dS,Du,mo,zY⟩
  .obtain ⟨rfl,yq⟩:=yj hR;clear hR yq
   go_enter Tryz.func29,Tryz.ntmps29
   go_wp2_with fail
   try rw[Tp.out]
   go_loopw [8] (λiv wr=>∃i:Nat,i<=n/\iv=.int .i64 (i:Int)/\Hid (vL W (w.heap.size+1) (w.heap.size+1) (n+1) (n+1) (Hj rs bs a i) wr)) (λiv _=>n - (intOf iv).toNat)
   case atStart=>exact ⟨0,Nat.zero_le _,rfl,by rw[OC,po.out.1];exact HW.out.2.2,aj.refl _ _⟩
   case round=>
    obtain ⟨i,hi,rfl,HA⟩:=hrel;have aY:Below w.heap.size w wr:=HW.out.1.trans (HA.out.kf.below (λk hk=>by rw[List.mem_singleton]at hk;omega) Y)
    have hx:=(HA.out.kf.blk w.heap.size Y (λhm=>by rw[List.mem_singleton]at hm;omega)).trans HW.out.2.1
    obtain ⟨n0,n1,n2,n3,n4⟩:=aw hx;have lN:w.heap.size<wr.heap.size:=(γ hx).1;by_cases hlt:i<n
    .have hd:decide ((i:Int)<(n:Int))=true:=τ;have cX:decide (i<n)=true:=decide_eq_true hlt;have oL:i<bs.length:=by rw[po.out.1];exact hlt
     have OP:i<a.length:=by have:=HV.out.2.2.1;have:=po.out.1;omega
     obtain ⟨ga,fa,rfl,Kh,OS⟩:=hoa.resolve_left (λh=>by rw[h]at OP;simp at OP)
     obtain ⟨gb,fb,rfl,xn,OT⟩:=hob.resolve_left (λh=>by rw[h]at oL;simp at oL)
     obtain ⟨x,ZT⟩:=ν (a[i]);obtain ⟨y,hy9⟩:=ν (bs[i]);have d0:=(aY.cl ga (fa+i) Kh).trans (OS i OP);have d1:=(aY.cl gb (fb+i) xn).trans (OT i oL);rw[ZT]at d0;rw[hy9]at d1;have la:ga<wr.heap.size:=by have:=aY.size;omega
     have lb:gb<wr.heap.size:=by have:=aY.size;omega
     have hs:=OD rs bs a oL;have bo:=HA.out.Ax (by rw[jm,po.out.1]) (i+1) (x && lu rs y)
     rw[List.getElem?_eq_getElem OP,List.getElem?_eq_getElem oL,ZT,hy9,Option.getD_some,Option.getD_some]at hs;rw[hs]at bo;obtain ⟨z,hz⟩:∃z,(Hj rs bs a i)[i+1]?=some z:=⟨_,List.getElem?_eq_getElem (by rw[jm];omega)⟩
     obtain ⟨e0,e1,e2⟩:=HA.out.cell hz;have sf:jK wr (.slice A1 nr c1) rs:=Po.out.later aY;have HS:=Z bo;have Ys:(i:Int)<(n:Int):=Y;have auG:(i:Int)+1<(n:Int)+1:=Y;have hw1:IntKind.i64.wrap ((i:Int)+1)=(i:Int)+1:=IntWalk.i64_in _ Y;have FR:(0:Int)<=(i:Int)+1:=Y;have hwn:((i:Int)+1).toNat=i+1:=Y;have auH:decide (i+1<n+1)=true:=τ;have auI:i<n+1:=Y;have cY:=Sz (.slice A1 nr c1) rs y wr.drew sf;obtain ⟨iy,hiy⟩:∃b,lu rs y=b:=⟨_,rfl⟩;rw[hiy]at cY HS;have TC:=Z cY;clear hs bo hz ZT hy9 OS OT hx sf hiy cY
     go_upto_region 13 with fail
     have ae6:(i:Int)<(n:Int)+1:=Y
     cases x with
     |true=>
      refine wp_region_still_tail 17 κ κ ?_;simp only[List.take_succ_cons,List.take_zero,List.drop_succ_cons,List.drop_zero]
      repeat still_step
      still_call (TC.out)
      repeat still_step
      try refine wpStill_nil ?_
      clear ae6;go_wp2_with fail;go_roundw
      case rel=>exact ⟨i+1,Y,by go_num,Z (by have h:=HS.out;rw[Bool.true_and]at h;exact h.drew)⟩
      case measure=>exact μ
     |false=>
      refine wp_region_still_tail 17 κ κ ?_;simp only[List.take_succ_cons,List.take_zero,List.drop_succ_cons,List.drop_zero]
      iterate 7 still_step
      (refine wpStill_step (λK hK=>?_);go_simp;generalize dY:(Act.mk _ _)=fr;refine hK fr ?_;clear hK K)
      repeat (refine wpStill_step (λK hK=>?_);rw[<-dY];clear dY;go_simp;generalize dY:(Act.mk _ _)=fr;refine hK fr ?_;clear hK K)
      try refine wpStill_nil ?_
      rw[<-dY];clear dY;clear ae6;go_wp2_with fail;go_roundw
      case rel=>exact ⟨i+1,Y,by go_num,Z (by have h:=HS.out;rw[Bool.false_and]at h;exact h.drew)⟩
      case measure=>exact μ
    .obtain rfl:i=n:=Y;have hd:decide ((i:Int)<(i:Int))=false:=θ;have cX:decide (i<i)=false:=θ;have b8:=Z aY;clear aY;go_wp2_with fail;go_ret;have hs:=OE (rs:=rs) HV.out.2.2;rw[po.out.1]at hs;have ho:=HA.out.own;have hlen:(Hj rs bs a i).length=i+1:=by rw[jm,po.out.1]
     rw[<-hlen]at ho;refine ⟨_,Hj rs bs a i,rfl,?_,?_,b8.out⟩
     .have:=eO.gq ho;rw[hlen]at this;exact this
     .rw[po.out.1];exact hs.congr λj _=>fX λw=>(OI w).symm
  .clear hR
   go_enter Tryz.func29,Tryz.ntmps29
   go_wp2_with fail
   try rw[Tp.out]
   have hZ:=HV.out.2.1.later HW.out.1;have zD:=Z (H hZ (H (show nP bs.length (lL (iQ (kids.take 0)) bs A) a from HV.out.2.2.congr λj hj=>by rw[List.take_zero];exact (Hh hj).symm) (H HW.out.1 HW.out.2.1)))
   clear hZ;go_loopw [9,7] (λiv ov wr=>∃(i:Nat) (l:List Bool) (xv:Value),i<=nk/\iv=.int .i64 (i:Int)/\xv=ov/\Hid (eO wr xv l/\nP bs.length (lL (iQ (kids.take i)) bs A) l/\Below w.heap.size w wr/\wr.heap[w.heap.size]?=some (.cells #[.int .i64 2,.slice A1 nr c1,.slice A2 nk c2,.int .i64 mn,.int .i64 mx] 41 (0,0)))) (λiv _ _=>nk - (intOf iv).toNat)
   case atStart=>exact ⟨0,a,_,Nat.zero_le _,rfl,rfl,zD.out⟩
   case round=>
    obtain ⟨i,l,ov,hi,rfl,rfl,HR⟩:=hrel;obtain ⟨n0,n1,n2,n3,n4⟩:=aw HR.out.2.2.2;have lN:w.heap.size<wr.heap.size:=(γ HR.out.2.2.2).1;by_cases hlt:i<nk
    .have hd:decide ((i:Int)<(nk:Int))=true:=τ;have cX:decide (i<nk)=true:=decide_eq_true hlt;have aU:i<kids.length:=by rw[HM.out.2.2.2];exact hlt
     obtain ⟨g,f,rfl,hg,bS⟩:=hk.resolve_left (by intro e;rw[e]at aU;cases aU)
     obtain ⟨vs,hcv,bc⟩:=bS.at i aU;have aZ:=aF (List.getElem_mem aU);have et:=aM HM.out.2.1 (List.getElem_mem aU);have Yu:=λj (hj:j<=bs.length)=>OM aU (bs:=bs) (A:=A) hj;obtain ⟨kd,bK⟩:=ν (kids[i]);rw[bK]at bc aZ et Yu;obtain ⟨B1,e1,B2,e2,rfl,-,-,-⟩:=bc.form;have q:∀j,j<5->wr.cell? ⟨g,f+i*5+j,none⟩=([.int .i64 kd.op,.slice B1 kd.rs.length e1,.slice B2 kd.kids.length e2,.int .i64 kd.mn,.int .i64 kd.mx]:List Value)[j]?:=λj hj=>(HR.out.2.2.1.cl g (f+i*5+j) hg).trans (hcv j hj);have q0:=q 0 Y;have q1:=q 1 Y;have q2:=q 2 Y;have q3:=q 3 Y;have q4:=q 4 Y;simp only[Nat.zero_mul,Nat.add_zero,List.getElem?_cons_zero,List.getElem?_cons_succ]at q0 q1 q2 q3 q4;have lg:g<wr.heap.size:=Nat.lt_of_lt_of_le hg HR.out.2.2.1.size;have aK:=PE.out kd _ (.slice Ab n cb) ov l _ wr (by have:=HM.out.1;omega) et (bc.later HR.out.2.2.1) (HV.out.1.later HR.out.2.2.1) HR.out.1 HR.out.2.1
     have HI:=Z aK;have HSQ:=Z Yu;have Ys:(i:Int)<(nk:Int):=Y;clear q hcv bc bK bS aZ et Yu aK;go_wp2_with fail;refine HI.out.mono ?_;rintro e w1 ⟨v,l2,rfl,gO,cB,hb1⟩;have pz:=Z (H gO (H (show nP bs.length (lL (iQ (kids.take (i+1))) bs A) l2 from cB.congr λj hj=>(HSQ.out j hj).symm) (H (HR.out.2.2.1.trans (hb1.mono HR.out.2.2.1.size)) ((hb1.block _ lN).trans HR.out.2.2.2))));clear gO cB hb1 q0 q1 q2 q3 q4 n0 n1 n2 n3 n4 lN lg;go_wp2_with fail;go_roundw
     case rel=>exact ⟨i+1,l2,_,Y,by go_num,rfl,pz.out⟩
     case measure=>exact μ
    .obtain rfl:i=nk:=Y;have hd:decide ((i:Int)<(i:Int))=false:=θ;have cX:decide (i<i)=false:=θ;go_wp2_with fail;go_ret;refine ⟨_,l,rfl,HR.out.1,HR.out.2.1.congr λj _=>fX λw=>?_,HR.out.2.2.1⟩;rw[OJ,List.take_of_length_le (by have:=HM.out.2.2.2;omega)]
  .clear hR
   go_enter Tryz.func29,Tryz.ntmps29
   go_wp2_with fail
   try rw[Tp.out]
   have uq:List.replicate (n+1) false=List.replicate (bs.length+1) false:=by rw[po.out.1]
   have zD:=Z (H (eO.gq HW.out.2.2) (H (show nP bs.length (lL (fM (kids.take 0)) bs A) (List.replicate (n+1) false) from uq▸(nP.no bs.length).congr λj hj=>by rw[List.take_zero];exact ⟨λh=>h.elim,λh=>Yp h⟩) (H HW.out.1 HW.out.2.1)))
   clear uq;go_loopw [10,7] (λiv ov wr=>∃(i:Nat) (l:List Bool) (xv:Value),i<=nk/\iv=.int .i64 (i:Int)/\xv=ov/\Hid (eO wr xv l/\nP bs.length (lL (fM (kids.take i)) bs A) l/\Below w.heap.size w wr/\wr.heap[w.heap.size]?=some (.cells #[.int .i64 3,.slice A1 nr c1,.slice A2 nk c2,.int .i64 mn,.int .i64 mx] 41 (0,0)))) (λiv _ _=>nk - (intOf iv).toNat)
   case atStart=>exact ⟨0,_,_,Nat.zero_le _,rfl,rfl,zD.out⟩
   case round=>
    obtain ⟨i,l,ov,hi,rfl,rfl,HR⟩:=hrel;obtain ⟨n0,n1,n2,n3,n4⟩:=aw HR.out.2.2.2;have lN:w.heap.size<wr.heap.size:=(γ HR.out.2.2.2).1;by_cases hlt:i<nk
    .have hd:decide ((i:Int)<(nk:Int))=true:=τ;have cX:decide (i<nk)=true:=decide_eq_true hlt;have aU:i<kids.length:=by rw[HM.out.2.2.2];exact hlt
     obtain ⟨g,f,rfl,hg,bS⟩:=hk.resolve_left (by intro e;rw[e]at aU;cases aU)
     obtain ⟨vs,hcv,bc⟩:=bS.at i aU;have aZ:=aF (List.getElem_mem aU);have et:=aM HM.out.2.1 (List.getElem_mem aU);have Yu:=λj=>OO aU (bs:=bs) (A:=A) (j:=j);obtain ⟨kd,bK⟩:=ν (kids[i]);rw[bK]at bc aZ et Yu;obtain ⟨B1,e1,B2,e2,rfl,-,-,-⟩:=bc.form;have q:∀j,j<5->wr.cell? ⟨g,f+i*5+j,none⟩=([.int .i64 kd.op,.slice B1 kd.rs.length e1,.slice B2 kd.kids.length e2,.int .i64 kd.mn,.int .i64 kd.mx]:List Value)[j]?:=λj hj=>(HR.out.2.2.1.cl g (f+i*5+j) hg).trans (hcv j hj);have q0:=q 0 Y;have q1:=q 1 Y;have q2:=q 2 Y;have q3:=q 3 Y;have q4:=q 4 Y;simp only[Nat.zero_mul,Nat.add_zero,List.getElem?_cons_zero,List.getElem?_cons_succ]at q0 q1 q2 q3 q4;have lg:g<wr.heap.size:=Nat.lt_of_lt_of_le hg HR.out.2.2.1.size;have HI:=Z (PE.out kd _ (.slice Ab n cb) (.slice Aa (n+1) ca) a A wr (by have:=HM.out.1;omega) et (bc.later HR.out.2.2.1) (HV.out.1.later HR.out.2.2.1) (HV.out.2.1.later HR.out.2.2.1) HV.out.2.2)
     have HSQ:=Z Yu;have Ys:(i:Int)<(nk:Int):=Y;clear q hcv bc bK bS aZ et Yu;go_wp2_with fail;refine HI.out.mono ?_;rintro e w1 ⟨v,l2,rfl,gO,cB,hb1⟩;have HU:=Z (vK ov v l l2 w1 (HR.out.1.later hb1) gO (by rw[HR.out.2.1.1,cB.1]) (by have:=HR.out.2.1.1;have:=po.out.1;omega))
     have pz:=Z (H (show nP bs.length (lL (fM (kids.take (i+1))) bs A) (S1 l l2) from (HR.out.2.1.or cB).congr λj _=>(HSQ.out j).symm) (H (HR.out.2.2.1.trans (hb1.mono HR.out.2.2.1.size)) ((hb1.block _ lN).trans HR.out.2.2.2)));clear gO cB hb1 q0 q1 q2 q3 q4 n0 n1 n2 n3 n4 lN lg;go_wp2_with fail;refine HU.out.mono ?_;rintro e w2 ⟨v3,rfl,gO,aJ⟩;have lN:w.heap.size<w1.heap.size:=(γ pz.out.2.2).1;have rM:=Z (H gO (H pz.out.1 (H (pz.out.2.1.trans (aJ.mono pz.out.2.1.size)) ((aJ.block _ lN).trans pz.out.2.2))));clear gO aJ lN;go_wp2_with fail;go_roundw
     case rel=>exact ⟨i+1,_,_,Y,by go_num,rfl,rM.out⟩
     case measure=>exact μ
    .obtain rfl:i=nk:=Y;have hd:decide ((i:Int)<(i:Int))=false:=θ;have cX:decide (i<i)=false:=θ;go_wp2_with fail;go_ret;refine ⟨_,l,rfl,HR.out.1,HR.out.2.1.congr λj _=>fX λw=>?_,HR.out.2.2.1⟩;rw[OL,List.take_of_length_le (by have:=HM.out.2.2.2;omega)]
  .clear hR;have amp:nk=1:=by have:=HM.out.2.2.2;omega
   obtain ⟨k0,hZ⟩:∃k0,kids=[k0]:=by
    have:=HM.out.2.2.2
    match kids,this with
    | [k0],_=>exact ⟨k0,rfl⟩
    | [],h=>simp at h;omega
    |_::_::_,h=>simp at h;omega
   have aU:0<kids.length:=by rw[hZ];simp
   obtain ⟨g,f,rfl,hg,bS⟩:=hk.resolve_left (by intro e;rw[e]at aU;cases aU)
   obtain ⟨vs,hcv,bc⟩:=bS.at 0 aU;have aZ:=aF (List.getElem_mem aU);have et:=aM HM.out.2.1 (List.getElem_mem aU);have ae7:kids[0]=k0:=by simp only[hZ,List.getElem_cons_zero]
   rw[ae7]at bc aZ et;obtain ⟨B1,e1,B2,e2,rfl,-,-,-⟩:=bc.form;have hq:∀j,j<5->w.cell? ⟨g,f+j,none⟩=([.int .i64 k0.op,.slice B1 k0.rs.length e1,.slice B2 k0.kids.length e2,.int .i64 k0.mn,.int .i64 k0.mx]:List Value)[j]?:=λj hj=>by have:=hcv j hj;rwa [Nat.zero_mul,Nat.add_zero]at this
   have HQ:=Z (H hq (H hg (H bc (H et (H (show au k0<=m by have:=HM.out.1;omega) hZ)))))
   obtain ⟨M,hM⟩:∃M:Nat,mx=(M:Int):=⟨mx.toNat,Y⟩;subst hM;obtain ⟨L,hL⟩:∃L:Nat,mn=(L:Int):=⟨mn.toNat,Y⟩;subst hL;have hML:M<=64:=Y;clear hq hcv bc aZ et bS ae7 aU hk dS Du mo zY;subst amp;have I5:=Z hZ;clear hZ
   go_enter Tryz.func29,Tryz.ntmps29
   go_wp2_with fail
   try rw[Tp.out]
   have uq:List.replicate (n+1) false=List.replicate (bs.length+1) false:=by rw[po.out.1]
   have zD:=Z (H (H (eO.gq HW.out.2.2) (show nP bs.length (PH (bg k0) bs A (L:Int) 0) (List.replicate (n+1) false) from uq▸(nP.no bs.length).congr λj hj=>⟨λh=>h.elim,λh=>OG h⟩)) (H (H (HV.out.2.1.later HW.out.1) (show nP bs.length (lL (kh (bg k0) 0) bs A) a from HV.out.2.2.congr λj hj=>(pow_zero hj).symm)) (H HW.out.1 HW.out.2.1)));clear uq;go_loopw [11,7,2] (λiv ov av wr=>∃(i:Nat) (l a':List Bool) (xv yv:Value),i<=M+1/\iv=.int .i64 (i:Int)/\xv=ov/\yv=av/\Hid ((eO wr xv l/\nP bs.length (PH (bg k0) bs A (L:Int) i) l)/\(eO wr yv a'/\nP bs.length (lL (kh (bg k0) i) bs A) a')/\Below w.heap.size w wr/\wr.heap[w.heap.size]?=some (.cells #[.int .i64 4,.slice A1 nr c1,.slice (some ⟨g,f,none⟩) 1 c2,.int .i64 (L:Int),.int .i64 (M:Int)] 41 (0,0)))) (λiv _ _ _=>M+1 - (intOf iv).toNat)
   case atStart=>exact ⟨0,_,a,_,_,Nat.zero_le _,rfl,rfl,rfl,zD.out⟩
   case round=>
    obtain ⟨i,l,a',ov,av,hi,rfl,rfl,rfl,HR⟩:=hrel;obtain ⟨n0,n1,n2,n3,n4⟩:=aw HR.out.2.2.2;have lN:w.heap.size<wr.heap.size:=(γ HR.out.2.2.2).1;by_cases hlt:i<=M
    .have hd:decide ((i:Int)<=(M:Int))=true:=τ;have cX:decide (i<=M)=true:=decide_eq_true hlt;have q0:=(HR.out.2.2.1.cl g (f+0) HQ.out.2.1).trans (HQ.out.1 0 Y);have q1:=(HR.out.2.2.1.cl g (f+1) HQ.out.2.1).trans (HQ.out.1 1 Y);have q2:=(HR.out.2.2.1.cl g (f+2) HQ.out.2.1).trans (HQ.out.1 2 Y);have q3:=(HR.out.2.2.1.cl g (f+3) HQ.out.2.1).trans (HQ.out.1 3 Y);have q4:=(HR.out.2.2.1.cl g (f+4) HQ.out.2.1).trans (HQ.out.1 4 Y);simp only[Nat.add_zero,List.getElem?_cons_zero,List.getElem?_cons_succ]at q0 q1 q2 q3 q4;have lg:g<wr.heap.size:=Nat.lt_of_lt_of_le HQ.out.2.1 HR.out.2.2.1.size;by_cases F9:L<=i
     .have kc:decide ((L:Int)<=(i:Int))=true:=τ;have Ye:decide (L<=i)=true:=decide_eq_true F9;have HU:=Z (vK ov av l a' wr HR.out.1.1 HR.out.2.1.1 (by rw[HR.out.1.2.1,HR.out.2.1.2.1]) (by have:=HR.out.1.2.1;have:=po.out.1;omega))
      have HGE:=Z F9;clear F9 q0 q1 q2 q3 q4 lg;go_wp2_with fail;refine HU.out.mono ?_;rintro e w1 ⟨v3,rfl,gO,hb1⟩;have pz:=Z (H (H gO (show nP bs.length (PH (bg k0) bs A (L:Int) (i+1)) (S1 l a') from (HR.out.1.2.or HR.out.2.1.2).congr λj _=>(S3 (by have:=HGE.out;omega)).symm)) (H (H (HR.out.2.1.1.later hb1) HR.out.2.1.2) (H (HR.out.2.2.1.trans (hb1.mono HR.out.2.2.1.size)) ((hb1.block _ lN).trans HR.out.2.2.2))))
      have HI:=Z (PE.out k0 _ (.slice Ab n cb) av a' _ w1 HQ.out.2.2.2.2.1 HQ.out.2.2.2.1 (HQ.out.2.2.1.later pz.out.2.2.1) (HV.out.1.later pz.out.2.2.1) pz.out.2.1.1 pz.out.2.1.2);clear gO hb1 n0 n1 n2 n3 n4 lN;obtain ⟨n0,n1,n2,n3,n4⟩:=aw pz.out.2.2.2;have lN:w.heap.size<w1.heap.size:=(γ pz.out.2.2.2).1;have q0:=(pz.out.2.2.1.cl g (f+0) HQ.out.2.1).trans (HQ.out.1 0 Y);have q1:=(pz.out.2.2.1.cl g (f+1) HQ.out.2.1).trans (HQ.out.1 1 Y);have q2:=(pz.out.2.2.1.cl g (f+2) HQ.out.2.1).trans (HQ.out.1 2 Y);have q3:=(pz.out.2.2.1.cl g (f+3) HQ.out.2.1).trans (HQ.out.1 3 Y);have q4:=(pz.out.2.2.1.cl g (f+4) HQ.out.2.1).trans (HQ.out.1 4 Y);simp only[Nat.add_zero,List.getElem?_cons_zero,List.getElem?_cons_succ]at q0 q1 q2 q3 q4;have lg:g<w1.heap.size:=Nat.lt_of_lt_of_le HQ.out.2.1 pz.out.2.2.1.size;go_wp2_with fail;refine HI.out.mono ?_;rintro e w2 ⟨v,l2,rfl,gO,cB,hb1⟩;have rM:=Z (H (H (pz.out.1.1.later hb1) pz.out.1.2) (H (H gO (show nP bs.length (lL (kh (bg k0) (i+1)) bs A) l2 from cB.congr λj hj=>(Da hj).symm)) (H (pz.out.2.2.1.trans (hb1.mono pz.out.2.2.1.size)) ((hb1.block _ lN).trans pz.out.2.2.2))));clear gO cB hb1 q0 q1 q2 q3 q4 n0 n1 n2 n3 n4 lN lg;go_wp2_with fail;go_roundw
      case rel=>exact ⟨i+1,_,l2,_,_,Y,by go_num,rfl,rfl,rM.out⟩
      case measure=>exact μ
     .have kc:decide ((L:Int)<=(i:Int))=false:=θ;have Ye:decide (L<=i)=false:=decide_eq_false F9;have HGE:=Z F9;have HI:=Z (PE.out k0 _ (.slice Ab n cb) av a' _ wr HQ.out.2.2.2.2.1 HQ.out.2.2.2.1 (HQ.out.2.2.1.later HR.out.2.2.1) (HV.out.1.later HR.out.2.2.1) HR.out.2.1.1 HR.out.2.1.2);clear F9;go_wp2_with fail;refine HI.out.mono ?_;rintro e w2 ⟨v,l2,rfl,gO,cB,hb1⟩;have rM:=Z (H (H (HR.out.1.1.later hb1) (show nP bs.length (PH (bg k0) bs A (L:Int) (i+1)) l from HR.out.1.2.congr λj _=>(Yq (by have:=HGE.out;omega)).symm)) (H (H gO (show nP bs.length (lL (kh (bg k0) (i+1)) bs A) l2 from cB.congr λj hj=>(Da hj).symm)) (H (HR.out.2.2.1.trans (hb1.mono HR.out.2.2.1.size)) ((hb1.block _ lN).trans HR.out.2.2.2))))
      clear gO cB hb1 q0 q1 q2 q3 q4 n0 n1 n2 n3 n4 lN lg;go_wp2_with fail;go_roundw
      case rel=>exact ⟨i+1,l,l2,_,_,Y,by go_num,rfl,rfl,rM.out⟩
      case measure=>exact μ
    .obtain rfl:i=M+1:=Y;have hd:decide (((M+1:Nat):Int)<=(M:Int))=false:=θ;have cX:decide (M+1<=M)=false:=θ;have hdi:decide ((M:Int)+1<=(M:Int))=false:=θ;go_wp2_with fail;go_ret;refine ⟨_,l,rfl,HR.out.1.1,HR.out.1.2.congr λj _=>?_,HR.out.2.2.1⟩;rw[I5.out];exact OH Y
theorem nP.first(n:Nat):nP n (λj=>j=0) ((List.replicate (n+1) false).set 0 true):=⟨ξ,λj hj=>by
 cases j with
 |zero=>simp
 |succ j=>rw[List.getElem?_set];simp[List.getElem?_replicate]⟩
theorem Ic(w:World)(n:Nat)(hn:n<=1000):OR 4 1 bC w.heap.size (.slice (some ⟨w.heap.size,0,none⟩) (n+1) (n+1)) ((List.replicate (n+1) false).set 0 true) (w.alloc (.cells ((Array.replicate (n+1) (.bool false)).setIfInBounds 0 (.bool true)) 4)):=by
 have hrow:∀o:List Bool,bF bC o=o.map Value.bool:=λo=>by
  unfold bF
  induction o with
  |nil=>rfl
  |cons b r ih=>simp only[List.map_cons,List.flatten_cons,ih];rfl
 refine ⟨by rw[hrow];simp,.inr ⟨w.heap.size,n+1,(Array.replicate (n+1) (.bool false)).setIfInBounds 0 (.bool true),ξ,I,heap_alloc_new w _,ξ,by unfold maxLen;omega,ξ,?_⟩⟩
 rw[hrow,List.length_set,List.length_replicate,List.map_set];simp;rw[List.take_of_length_le ξ]
theorem Qe{L:List Nat->Prop}{bs:List Nat}:lL L bs (λj=>j=0) bs.length↔L bs:=by
 constructor
 .rintro ⟨i,-,rfl,h⟩;rwa [List.take_length,List.drop_zero]at h
 .intro h;exact ⟨0,Nat.zero_le _,rfl,by rwa [List.take_length,List.drop_zero]⟩
def UX(nd:Nd)(bs:List Nat)(w:World)(e:Ending)(w':World):Prop:=(∃r,e=.returned (.bool r)/\(r=true↔bg nd bs))/\Below w.heap.size w w'
theorem yw(nd:Nd)(vs:List Value)(A:Option Addr)(n c:Nat)(bs:List Nat)(w:World)(hn:bT w nd vs)(hv:aR nd=0)(hb:eZ w (.slice A n c) bs)(hl:bs.length=n)(gO:n<=1000)(dV:∀b∈bs,b<256):
  Calls Tryz.prog 11 #[.agg vs.toArray,.slice A n c] w (UX nd bs w):=by
 have HV:=Z λW (hW:Below w.heap.size w W)=>A0 nd vs W (hn.later hW);rw[hv]at HV;have HS:=Z λW (va:Value) (a:List Bool) (hW:Below w.heap.size w W) (h1:eO W va a) (h2:nP bs.length (λj=>j=0) a)=>Ie bs Y dV _ nd vs (.slice A n c) va a _ W I (iE hv).2.2.1 (hn.later hW) (hb.later hW) h1 h2;obtain ⟨A1,c1,A2,c2,rfl,-⟩:=hn.form;have HL:=Z hl;have hmk:=pH (n+1) Y;have ahi:∀w,(Instr.makeSlice 70 (.int .i64 ((n:Int)+1)) (.int .i64 ((n:Int)+1))).run Tryz.prog w=.ok (.slice (some ⟨w.heap.size,0,none⟩) (n+1) (n+1)) (w.alloc (.cells (Array.replicate (n+1) (.bool false)) 4)):=hmk;have g1:decide (1024<(n:Int))=false:=θ;have g1n:decide (1024<n)=false:=θ;clear hmk hn hb hv dV hl
 go_enter Tryz.func11,Tryz.ntmps11
 go_wp2_with fail;refine aH λW0 aP=>?_;have hb0:Below w.heap.size w W0:=by rw[aP];exact υ.alloc I _
 have gJ:W0.heap[w.heap.size]?=some (.cells #[.int .i64 nd.op,.slice A1 nd.rs.length c1,.slice A2 nd.kids.length c2,.int .i64 nd.mn,.int .i64 nd.mx] 41 (0,0)):=by rw[aP];exact heap_alloc_new w _
 have cH:=Z (H hb0 gJ);clear aP hb0 gJ;refine (HV.out W0 cH.out.1).mono ?_;rintro e w1 ⟨rfl,hb1⟩;have aX:=Z (H (cH.out.1.trans (hb1.mono cH.out.1.size)) ((hb1.block _ (γ cH.out.2).1).trans cH.out.2));clear hb1;obtain ⟨W2,gK⟩:=ν (w1.alloc (.cells ((Array.replicate (n+1) (.bool false)).setIfInBounds 0 (.bool true)) 4));have tT:Below w1.heap.size w1 W2:=by rw[<-gK];exact υ.alloc I _
 have hOs:=Ic w1 n gO;rw[gK]at hOs;have dr:=Z (H (aX.out.1.trans (tT.mono aX.out.1.size)) ((tT.block _ (γ aX.out.2).1).trans aX.out.2));have HC:=Z (HS.out W2 _ _ dr.out.1 (eO.gq hOs) (by rw[HL.out];exact nP.first n))
 have Tp:=Z gK;clear hOs tT gK
 go_upto_region 5 with fail
 try rw[Tp.out]
 obtain ⟨n0,n1,n2,n3,n4⟩:=aw dr.out.2;have lN:w.heap.size<W2.heap.size:=(γ dr.out.2).1;go_wp2_with fail;refine HC.out.mono ?_;rintro e w2 ⟨v,l,rfl,YR,cB,aJ⟩;obtain ⟨A3,c3,rfl,Dg⟩:=YR.form;have UY:l.length=n+1:=by rw[cB.1,HL.out]
 obtain ⟨g,f,rfl,kr,hg,hcell⟩:=YR.at_ (k:=n) Y;have HR:=Z (show l[n]=true↔bg nd bs by
  have:=cB.2 n (by rw[HL.out];exact I)
  rw[List.getElem?_eq_getElem Y]at this;have h2:=Qe (L:=bg nd) (bs:=bs);rw[HL.out]at h2;rw[<-h2,<-this];constructor
  .intro h;rw[h]
  .intro h;exact Option.some.inj h)
 obtain ⟨r,hr⟩:=ν (l[n]);rw[hr]at HR hcell;rw[UY];rw[UY]at Dg;have jN:=Z (dr.out.1.trans (aJ.mono dr.out.1.size));have Ld:(n:Int)<(n:Int)+1:=Y;have Dd:n<n+1:=Y;clear YR cB aJ kr UY hr;go_wp2_with fail;go_ret;exact ⟨⟨r,rfl,HR.out⟩,jN.out⟩
theorem Ba(nd:Nd)(m:Mc)(vs:List Value)(A:Option Addr)(n c:Nat)(bs:List Nat)(w:World)(hn:bT w nd vs)(hv:aR nd=0)(hm:∀x,dG m x 0=true↔bg nd x)(hb:eZ w (.slice A n c) bs)(hl:bs.length=n)(gO:n<=1000)(dV:∀b∈bs,b<256):
  Calls Tryz.prog 11 #[.agg vs.toArray,.slice A n c] w λe w'=>e=.returned (.bool (dG m bs 0))/\Below w.heap.size w w':=by
 refine (yw nd vs A n c bs w hn hv hb hl gO dV).mono ?_;rintro e w' ⟨⟨r,rfl,hr⟩,hw⟩;exact ⟨ae (by rw[Bool.eq_iff_iff,hr,hm]),hw⟩
end Go.Proofs.YtdmoogjddmdmbaaGreatDoor
