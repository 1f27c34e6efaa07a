/- Walks. -/
import Derived.Test.YtdmoogjddmdmbaaGreatDoorX22
import Derived.Test.YtdmoogjddmdmbaaGreatDoorX06
import Derived.Test.YtdmoogjddmdmbaaGreatDoorX02
import Derived.Test.YtdmoogjddmdmbaaGreatDoorX13
import Derived.Test.YtdmoogjddmdmbaaGreatDoorX05
import Derived.Test.YtdmoogjddmdmbaaGreatDoorX20
import Derived.Laws.AppendOwnNone
import Derived.Test.YtdmoogjddmdmbaaGreatDoorX01
import Derived.Test.YtdmoogjddmdmbaaGreatDoorX11
import Derived.Test.YtdmoogjddmdmbaaGreatDoorX19
set_option maxRecDepth 100000
set_option maxHeartbeats 16000000
set_option linter.unusedVariables false
set_option linter.unusedSimpArgs false
namespace Go.Proofs.YtdmoogjddmdmbaaGreatDoor
open Go.RowKit
def CU(B:Nat)(v:Value)(L:List Nat)(w:World):Prop:=w.ownsRow B 3 1 v L.length (bV L)/\(v=.slice none 0 0\/L≠[])
theorem CU.later{B:Nat}{v:Value}{L:List Nat}{w w':World}(h:CU B v L w)(hb:Below w.heap.size w w'):CU B v L w':=⟨bw h.1 hb,h.2⟩
theorem CU.il{B:Nat}{v:Value}{L:List Nat}{w:World}(h:CU B v L w):IL w v L:=IL.fO h.1 λhv=>h.2.resolve_left hv
structure EgR (w0:World) (s mb:Nat) (v0 v1 v2:Value) (b:Pb) (gs:List (List Nat)) (fp fo:List Nat) (wB:World) (cuts:List Nat) (i:Nat) (row:List Ed) (eX:List (List Nat)) (fp':List Nat) (ov:Value) (wr:World):Prop where
 own:OR 195 3 j8 wB.heap.size ov row wr
 out:aL fp' ov
 sb:rX w0.heap.size s mb v0 v1 v2 eX fp' wr
 kf:aj fp fp' wB wr
 ri:eu b fo eX row (jz cuts i)
 gg:my b fo gs eX
 ln:eX.length<=gs.length+i/\row.length<=i
def V7(w0:World)(s mb:Nat)(v0 v1 v2:Value)(b:Pb)(gs:List (List Nat))(fp fo:List Nat)(w:World)(e:Ending)(w':World):Prop:=
 ∃row eX fp' rv,e=.returned rv/\(eb w' rv row/\aL fp' rv/\∀g,rv.ownBlock=some g->w.heap.size<=g/\g<w'.heap.size)/\rX w0.heap.size s mb v0 v1 v2 eX fp' w'/\aj fp fp' w w'/\eu b fo eX row 256/\my b fo gs eX/\eX.length<=gs.length+257/\row.length<=257
theorem xu(w0:World)(s mb:Nat)(v0 v1 v2:Value)(b:Pb)(gs:List (List Nat))(fp:List Nat)(w:World)(fo:List Nat)(v:Value)
  (h:rX w0.heap.size s mb v0 v1 v2 gs fp w) (hs:nT w0 fp w v0 b.sets) (aT:Below w0.heap.size w0 w) (hR:∀rs∈b.sets,dU rs=true)
  (hv:IL w v fo) (ho:aL fp v) (Zh:∀p∈fo,p<b.sets.length) (qG:fo.length<=600) (hsl:b.sets.length<=600) (Az:gs.length<=100000) (h0:gs[0]?=some []) (jL:dn w) (fS:nG<=w0.heap.size) :
  Calls Tryz.prog 137 #[.pointer (some ⟨s,0,none⟩),v] w (V7 w0 s mb v0 v1 v2 b gs fp fo w):=by
 obtain ⟨Af,cf,rfl,ajd,aaH⟩:=hv.form;obtain ⟨vg,gv,F,rfl,hb⟩:=h;obtain ⟨Av,cv,rfl,hcv,-⟩:=id hs;have hcs:=hb.cs;have hlt:=hb.lt;have Zt:s<w.heap.size:=(hlt s (by simp[iH])).2
 obtain ⟨nf,Le⟩:∃n,fo.length=n:=⟨_,rfl⟩;obtain ⟨ns,Eo⟩:∃n,b.sets.length=n:=⟨_,rfl⟩;obtain ⟨ii,Y7,Gf,tv,pJ⟩:=info_parts gp;have kK:=hs.lt;have LZ:=Z (show (∀rs∈b.sets,rs.length<=257)/\∀rs∈b.sets,∀r∈rs,r.1<256/\r.2<256 from ⟨λrs h=>QR (hR rs h) λr hr=>(kK rs h r hr).2,kK⟩);clear kK;rw[Eo]at hs hb;have HV:=Z hv;have HO:=Z ho;have HS:=Z hs;have HB:=Z hb;have HR:=Z hR;have HFO:=Z Zh;have Lb:=Z hlt;have acm:=Z aT;have H0:=Z h0;have sJ:=Z jL;have HN:=Z (H Le Eo);have HGS:=Z Az;rw[Eo]at hcs hsl hcv;rw[Le]at qG ajd|-;have Pm:=Z hcs;rw[Eo];have ajf:=aT.size;clear hv ho hs hb hR Zh hlt aT h0 jL Le Eo Az hcs
 go_enter Tryz.func137,Tryz.ntmps137
 go_wp2_with fail;go_loopw [19,5] (λiv cu wr=>∃k:Nat,k<=nf/\iv=.int .i64 (k:Int)/\Hid (CU w.heap.size cu (kJ b.sets (fo.take k)) wr)/\Hid (Below w.heap.size w wr)) (λiv _ _=>nf - (intOf iv).toNat)
 case atStart=>exact ⟨0,Nat.zero_le _,rfl,⟨World.ownsRow_nil _ _ _ _,.inl rfl⟩,υ⟩
 case round=>
  obtain ⟨k,hk,rfl,HC,b8⟩:=hrel;by_cases hlt:k<nf
  .have hd:decide ((k:Int)<(nf:Int))=true:=τ;have aU:k<fo.length:=by rw[HN.out.1];exact hlt
   obtain ⟨g,f,rfl,hg,hcell⟩:=HV.out.at_ aU;have lW:=hcell wr (b8.out.block g hg);have hwr:=b8.out.size;have Ms:g<wr.heap.size:=Y;obtain ⟨p,vW⟩:=ν (fo[k]);have KY:p∈fo:=by rw[<-vW];exact List.getElem_mem aU
   have tH:=HFO.out p KY;obtain ⟨gS,rv,rfl,-,Vt,TE,yq⟩:=HS.out.at_ tH;have V8:=(χ gS p (b8.out.block gS Vt)).trans TE;have ajg:gS<wr.heap.size:=Y;rw[vW]at lW;have asj:s<wr.heap.size:=Y;have hrow:wr.heap[s]?=_:=(b8.out.block s Zt).trans Pm.out;have d0:wr.cell? ⟨s,0,none⟩=some (.slice (some ⟨gS,0,none⟩) ns cv):=by rw[cell_of_row _ _ _ _ _ _ hrow];rfl
   have xr:p<ns:=by rw[<-HN.out.2];exact tH
   have hdp:decide (p<ns)=true:=decide_eq_true xr;obtain ⟨rs,y7⟩:=ν (b.sets[p]);rw[y7]at yq;obtain ⟨Ar,cr,rfl,Zu,acn⟩:=id yq;have aco:rs=[]\/∃g f,Ar=some ⟨g,f,none⟩/\g<w0.heap.size/\∀i (h:i<rs.length),(w0.cell? ⟨g,f+i*2,none⟩=some (.int .u8 (rs[i].1:Int))/\w0.cell? ⟨g,f+i*2+1,none⟩=some (.int .u8 (rs[i].2:Int)))/\rs[i].1<256/\rs[i].2<256:=acn;have lA:rs.length<=257:=LZ.out.1 rs (by rw[<-y7];exact List.getElem_mem tH)
   obtain ⟨nr,sH⟩:∃n,rs.length=n:=⟨_,rfl⟩;have hsp:b.sets[p]?=some rs:=by rw[List.getElem?_eq_getElem tH,y7]
   have gT:kJ b.sets (fo.take k)++iJ rs=kJ b.sets (fo.take (k+1)):=by rw[List.take_succ_eq_append_getElem aU,vW,xB,hsp];rfl
   have jG:=Z gT;have HRD:=Z aco;have Y4:=Z sH;rw[sH]at Zu lA V8;have Bk:(kJ b.sets (fo.take k)).length<=2*257*k:=Nat.le_trans (uG LZ.out.1 _) (Nat.mul_le_mul_left _ (List.length_take_le _ _));obtain ⟨L0,I7⟩:∃L,kJ b.sets (fo.take k)=L:=⟨_,rfl⟩;rw[I7]at HC jG Bk;have ajh:=Z b8.out;clear hcell vW KY tH TE yq y7 acn aco hsp gT hrow aU I7 b8;go_wp2_with fail;obtain ⟨WO,rfl⟩:∃W:World,W=wr:=⟨_,rfl⟩;go_loopw [32,5] (λjv V2 wr=>∃j:Nat,j<=nr/\jv=.int .i64 (j:Int)/\Hid (CU w.heap.size V2 (L0++iJ (rs.take j)) wr)/\Hid (Below w.heap.size w wr)) (λjv _ _=>nr - (intOf jv).toNat)
   case atStart=>exact ⟨0,Nat.zero_le _,rfl,by rw[List.take_zero];simp only[iJ,List.append_nil];exact HC,ajh⟩
   case round=>
    obtain ⟨j,hj,rfl,Lu,dr⟩:=hrel;by_cases rf:j<nr
    .have kc:decide ((j:Int)<(nr:Int))=true:=τ;have oh:j<rs.length:=by rw[Y4.out];exact rf
     obtain ⟨g2,f2,rfl,mg,UL⟩:=HRD.out.resolve_left (λe=>by rw[e]at oh;cases oh)
     obtain ⟨⟨q1,q2⟩,q3,q4⟩:=UL j oh;have ew:=dr.out.size;have hblk:wr.heap[g2]?=w0.heap[g2]?:=(dr.out.block g2 Y).trans (acm.out.block g2 mg);have r1:=(χ g2 (f2+j*2) hblk).trans q1;have r2:=(χ g2 (f2+j*2+1) hblk).trans q2;have asm:g2<wr.heap.size:=Y;obtain ⟨lo,hi,hx⟩:∃lo hi,rs[j]=(lo,hi):=⟨_,_,rfl⟩;rw[hx]at r1 r2 q3 q4;have acp:(L0++iJ (rs.take j))++[lo,hi+1]=L0++iJ (rs.take (j+1)):=by rw[List.take_succ_eq_append_getElem oh,hx,xA,List.append_assoc]
     have D7:=Z acp;have QQ:(L0++iJ (rs.take j)).length<=1000000:=by
      have:=List.length_take_le j rs;rw[List.length_append,uF];omega
     obtain ⟨Ac,nc,cc,rfl⟩:∃A n c,u5=.slice A n c:=by
      obtain ⟨A,c,e,-⟩:=ar Lu.out.1;exact ⟨_,_,_,e⟩
     have Gr:=Z QQ;clear UL q1 q2 hblk hx acp QQ oh;have cZ:(wr.alloc (.cells #[.int .u8 (lo:Int),.int .u8 (hi:Int)] 84)).ownsRow w.heap.size 3 1 (.slice Ac nc cc) (L0++iJ (rs.take j)).length (bV (L0++iJ (rs.take j))):=Lu.out.1.alloc _;have aji:(wr.alloc (.cells #[.int .u8 (lo:Int),.int .u8 (hi:Int)] 84)).heap.size=wr.heap.size+1:=ξ;go_wp2_with (at_builtin; refine FJ (w:=wr.alloc (.cells #[.int .u8 (lo:Int),.int .u8 (hi:Int)] 84)) Tryz.underlying22 Y7 Gf tv pJ rfl _ _ _ _ 2 2 _ [.int .i64 (lo:Int),.int .i64 ((hi:Int)+1)] w.heap.size rfl rfl rfl (by rw[aji]; rfl) rfl cZ (by intro u hu; simp at hu; rcases hu with rfl|rfl <;> rfl) (by have:=Gr.out; omega) (by have:=Gr.out; omega) Y ?_)
     intro v' w3 cI bW acq;obtain ⟨A',n',c',rfl⟩:∃A n c,v'=.slice A n c:=by
      obtain ⟨A,c,e,-⟩:=ar cI;exact ⟨_,_,_,e⟩
     have IQ:CU w.heap.size (.slice A' n' c') (L0++iJ (rs.take (j+1))) w3:=by
      rw[<-D7.out];refine ⟨?_,.inr ξ⟩;rw[jO,List.length_append,List.length_append];have:bV [lo,hi+1]=[.int .i64 (lo:Int),.int .i64 ((hi:Int)+1)]:=by simp[bV]
      rw[this];exact cI
     have Kq:=Z IQ;have jN:=Z (dr.out.trans ((((Below.refl w.heap.size wr).alloc Y _)).trans (bW.mono I)));clear cI bW acq IQ cZ;go_wp2_with fail;go_roundw
     case rel=>exact ⟨j+1,Y,by go_num,Kq,jN⟩
     case measure=>exact μ
    .obtain rfl:j=nr:=Y;have kc:decide ((j:Int)<(j:Int))=false:=θ;have hc4:=Lu.out;rw[List.take_of_length_le (by rw[Y4.out];exact I),jG.out]at hc4
     have HC4:=Z hc4;clear hc4;go_wp2_with fail;go_roundw
     case rel=>exact ⟨k+1,Y,by go_num,HC4,dr⟩
     case measure=>exact μ
  .obtain rfl:k=nf:=Y;have hd:decide ((k:Int)<(k:Int))=false:=θ;have lD:=HC.out;rw[List.take_of_length_le (by rw[HN.out.1];exact I)]at lD
   have an8:(kJ b.sets fo).length<=2*257*k:=by rw[<-HN.out.1];exact uG LZ.out.1 _
   have ub:=iF u5 _ wr lD.il Y;have HSO:=Z ub;obtain ⟨Ac,nc,cc,rfl⟩:∃A n c,u5=.slice A n c:=by
    obtain ⟨A,c,e,-⟩:=ar lD.1;exact ⟨_,_,_,e⟩
   clear lD ub HC;go_wp2_with fail;refine HSO.out.mono ?_;rintro e wB ⟨vc,cuts,rfl,Zv,hown,eW,hbB⟩;have vV:rj b fo cuts:=⟨Zv.1,λp hp r hr=>by
    have:=BJ (sets:=b.sets) hp hr;exact ⟨(Zv.2 _).2 this.1,(Zv.2 _).2 this.2⟩,λv hv=>Gn LZ.out.2 v ((Zv.2 v).1 hv)⟩
   have hB:=b8.out.trans (hbB.mono b8.out.size);have hout:aL (iH s mb vg) vc:=λg hg hm=>by have:=(hown.lt g hg).1;have:=(Lb.out g hm).2;have:=b8.out.size;omega
   have Mu:EgR w0 s mb (.slice Av ns cv) v1 v2 b gs (iH s mb vg) fo wB cuts 0 [] gs (iH s mb vg) (.slice none 0 0) wB:=
    ⟨OR.km _ _ _,λg hg=>by simp[Value.ownBlock]at hg,rX.later ⟨vg,gv,F,rfl,HB.out⟩ hB,aj.refl _ _,vV.start gs,my.refl _ _ _,⟨Y,ξ⟩⟩
   obtain ⟨Av',cv',rfl,ajk,ajl⟩:=eW.form;obtain ⟨nc,yx⟩:∃n,cuts.length=n:=⟨_,rfl⟩;have ajm:nc<=257:=by rw[<-yx];exact kC (a:=0) Zv.1 λp hp=>⟨Nat.zero_le _,by have:=vV.le p hp;omega⟩
   rw[yx]at ajk;have jG:=Z Mu;have BB:=Z vV;have Pu:=Z (H eW hout);have vR:=Z hB;have HNC:=Z yx;rw[yx];have hwB:=hB.size;clear Zv hown eW hbB vV hB hout Mu yx;go_wp2_with fail;go_loopw [10,11] (λov iv wr=>∃(i:Nat) (row:List Ed) (eX:List (List Nat)) (fp':List Nat),(i=0\/i+1<=nc)/\iv=.int .i64 (i:Int)/\Hid (EgR w0 s mb (.slice Av ns cv) v1 v2 b gs (iH s mb vg) fo wB cuts i row eX fp' ov wr)) (λ_ iv _=>nc - (intOf iv).toNat)
   case atStart=>exact ⟨0,[],gs,iH s mb vg,.inl rfl,rfl,jG⟩
   case round=>
    obtain ⟨i,row,eX,fp',hi,rfl,HE⟩:=hrel;have ox:=HE.out.kf;obtain ⟨ajn,d0,-,-⟩:=HE.out.sb.cells;obtain ⟨Ao,no,co,rfl⟩:∃A n c,u10=.slice A n c:=by
     obtain ⟨A,c,e,-⟩:=ar HE.out.own;exact ⟨_,_,_,e⟩
    by_cases ajo:i+1<nc
    .have Mv:decide ((i:Int)+1<(nc:Int))=true:=τ;have hic:i+1<cuts.length:=by rw[HNC.out];exact ajo
     obtain ⟨Dp,vO⟩:=BB.out.lt hic;have QV:=(Pu.out.1.keep Pu.out.2 ox).1;obtain ⟨gc,fc,rfl,Zw,mI⟩:=QV.at_ (show i<cuts.length by omega)
     obtain ⟨gc',fc',e',-,acu⟩:=QV.at_ hic;obtain ⟨rfl,rfl⟩:gc=gc'/\fc=fc':=by injection e' with e';injection e' with e1 e2;exact ⟨e1,e2⟩
     have z0:=mI wr rfl;have z1:=acu wr rfl;have e1:jz cuts i=cuts[i]:=by unfold jz;rw[List.getElem?_eq_getElem Y];rfl
     have e2:jz cuts (i+1)=cuts[i+1]:=by unfold jz;rw[List.getElem?_eq_getElem hic];rfl
     obtain ⟨lo,dy⟩:∃x,jz cuts i=x:=⟨_,rfl⟩;obtain ⟨hi',uL⟩:∃x,jz cuts (i+1)=x:=⟨_,rfl⟩;rw[<-e1,dy]at z0;rw[<-e2,uL]at z1;rw[dy,uL]at Dp;rw[uL]at vO;have w1:IntKind.u8.wrap (lo:Int)=(lo:Int):=IntWalk.u8_in _ Y;have w2:IntKind.u8.wrap ((hi':Int) - 1)=(hi':Int) - 1:=IntWalk.u8_in _ Y;have w3:IntKind.i64.wrap ((i:Int)+1)=(i:Int)+1:=IntWalk.i64_in _ Y;have w4:((i:Int)+1).toNat=i+1:=Y;have w5:IntKind.i64.wrap ((hi':Int) - 1)=(hi':Int) - 1:=IntWalk.i64_in _ Y;have HVA:=Z (H dy uL);have HIW:=Z QV;clear mI acu e' e1 e2 QV dy uL;go_wp2_with fail
     go_quiet (fail)
     go_wp2_with fail;obtain ⟨WO,rfl⟩:∃W:World,W=wr:=⟨_,rfl⟩;go_loopw [71,14] (λjv gvv wr=>∃j:Nat,j<=k/\jv=.int .i64 (j:Int)/\Hid (CU WO.heap.size gvv (gw b (fo.take j) lo) wr)/\Hid (Below WO.heap.size WO wr)) (λjv _ _=>k - (intOf jv).toNat)
     case atStart=>exact ⟨0,Nat.zero_le _,rfl,⟨World.ownsRow_nil _ _ _ _,.inl rfl⟩,⟨rfl,rfl,rfl,I,λ_ _=>rfl⟩⟩
     case round=>
      obtain ⟨j,hj,rfl,HC4,sO⟩:=hrel;have Pv:=sO.out.size;by_cases V9:j<k
      .have hd4:decide ((j:Int)<(k:Int))=true:=τ;have oh:j<fo.length:=by rw[HN.out.1];exact V9
       have acx:=((HV.out.later vR.out).keep HO.out ox).1;obtain ⟨gf,ff,rfl,Df,Ke⟩:=acx.at_ oh;have lW:=Ke wr (sO.out.block gf Df);obtain ⟨p,vW⟩:=ν (fo[j]);have KY:p∈fo:=by rw[<-vW];exact List.getElem_mem oh
       have tH:=HFO.out p KY;obtain ⟨gS,rv,rfl,-,Vt,TE,yq⟩:=((HS.out.later vR.out).keep ox).at_ tH;have V8:=(χ gS p (sO.out.block gS Vt)).trans TE;rw[vW]at lW;have xr:p<ns:=by rw[<-HN.out.2];exact tH
       have hdp:decide (p<ns)=true:=decide_eq_true xr;obtain ⟨rs,y7⟩:=ν (b.sets[p]);rw[y7]at yq;have d04:=(χ s 0 (sO.out.block s ajn)).trans d0;have hb0:Below w0.heap.size w0 wr:=by
        have h1:=acm.out.trans (vR.out.mono ajf);have h2:Below w0.heap.size wB WO:=ox.below (λq hq=>(Lb.out q hq).1) Y;exact (h1.trans h2).trans (sO.out.mono (by have:=h2.size;omega))
       have sf:=yq.later hb0;have Ep:lu rs lo=cD b p lo:=by unfold cD;rw[List.getElem?_eq_getElem tH,y7];rfl
       have Wa:gw b (fo.take (j+1)) lo=if cD b p lo=true then gw b (fo.take j) lo++[p] else gw b (fo.take j) lo:=by
        unfold gw;rw[List.take_succ_eq_append_getElem oh,vW,List.filter_append];by_cases hx:cD b p lo=true <;> simp[hx]
       have HH:=Z (λW (h:jK W rv rs)=>I8 rv rs lo W h);have HRW:=Z sf;obtain ⟨q,hq⟩:=ν (lu rs lo);rw[hq]at HH Ep;rw[<-Ep]at Wa;have HSE:=Z Wa;have acy:(gw b (fo.take j) lo).length<=1000:=by
        have h1:(gw b (fo.take j) lo).length<=(fo.take j).length:=List.length_filter_le _ _;have h2:=List.length_take_le j fo;omega
       obtain ⟨Ag4,ng4,cg4,rfl⟩:∃A n c,u14=.slice A n c:=by
        obtain ⟨A,c,e,-⟩:=ar HC4.out.1;exact ⟨_,_,_,e⟩
       obtain ⟨Ar,cr,AA,-⟩:=id sf;obtain ⟨nr4,ajp⟩:∃n,rs.length=n:=⟨_,rfl⟩;rw[ajp]at AA;subst AA;have ajg:gS<wr.heap.size:=Y;have asr:gf<wr.heap.size:=Y;have vQ:s<wr.heap.size:=Y;have acz:=Z acy;clear Ke vW KY tH TE yq y7 hb0 sf Ep Wa hq acy oh acx;go_wp2_with fail;refine (HH.out _ HRW.out).mono ?_;rintro e w5 ⟨rfl,jq⟩;have HC5:=Z (HC4.out.later jq);have Vz:=Z (sO.out.trans (jq.mono Pv));have hw5:=jq.size;clear jq
       cases q with
       |false=>
        have O4:=HSE.out;rw[if_neg O]at O4;have hc6:=HC5.out;rw[<-O4]at hc6;have HC6:=Z hc6;clear hc6 O4;go_wp2_with fail;go_roundw
        case rel=>exact ⟨j+1,Y,by go_num,HC6,Vz⟩
        case measure=>exact μ
       |true=>
        have O4:=HSE.out;rw[if_pos rfl]at O4;have HS6:=Z O4;clear O4;have uM:=HC5.out.1;go_wp2_with (at_builtin;refine FJ (w:=w5) Tryz.underlying22 Y7 Gf tv pJ rfl _ _ _ _ 1 1 _ [.int .i64 (p:Int)] WO.heap.size rfl rfl rfl rfl rfl uM (by intro u hu;simp at hu;subst hu;rfl) (by have:=acz.out;omega) (by have:=acz.out;omega) Y ?_)
        intro v' w6 BO oQ acA;obtain ⟨A',n',c',rfl⟩:∃A n c,v'=.slice A n c:=by
         obtain ⟨A,c,e,-⟩:=ar BO;exact ⟨_,_,_,e⟩
        have acB:CU WO.heap.size (.slice A' n' c') (gw b (fo.take (j+1)) lo) w6:=by
         rw[HS6.out];refine ⟨?_,.inr ξ⟩;rw[jO,List.length_append];exact BO
        have HC6:=Z acB;have HB6:=Z (Vz.out.trans oQ);clear BO oQ acA acB uM;go_wp2_with fail;go_roundw
        case rel=>exact ⟨j+1,Y,by go_num,HC6,HB6⟩
        case measure=>exact μ
      .obtain rfl:j=k:=Y;have hd4:decide ((j:Int)<(j:Int))=false:=θ;have TT:=HC4.out;rw[List.take_of_length_le (by rw[HN.out.1];exact I)]at TT
       have QW:=HE.out.sb.later sO.out;have eQ:OR 195 3 j8 wB.heap.size (.slice Ao no co) row wr:=HE.out.own.later sO.out;have QX:=ox.trans (aj.aa sO.out);have QY:=TT.il;have Wb:=TI.fO TT.1;have Wc:aL fp' (u14):=λg hg hm=>by have:=(TT.1.lt g hg).1;have:=(HE.out.sb.lt g hm).2;omega
       have dR:=HE.out.ln;by_cases jH:gw b fo lo=[]
       .have lU:=BB.out.skip hic HE.out.ri (by rw[HVA.out.1];exact jH)
        obtain ⟨A7,c7,e7,-⟩:=ar TT.1;rw[jH,List.length_nil]at e7;subst e7;have HEN:Hid (EgR w0 s mb (.slice Av ns cv) v1 v2 b gs (iH s mb vg) fo wB cuts (i+1) row eX fp' (.slice Ao no co) wr):=⟨eQ,HE.out.out,QW,QX,lU,HE.out.gg,Y⟩;clear TT QW eQ QX QY Wb Wc jH lU;go_wp2_with fail;go_roundw
        case rel=>exact ⟨i+1,row,eX,fp',.inr Y,by go_num,HEN⟩
        case measure=>exact μ
       .obtain ⟨A7,c7,e7,ajt,ast⟩:=ar TT.1;obtain ⟨SS,Wd⟩:∃x,gw b fo lo=x:=⟨_,rfl⟩;obtain ⟨n7,hn7⟩:∃n,SS.length=n:=⟨_,rfl⟩;rw[Wd,hn7]at e7 ajt;subst e7;have asu:0<n7:=by rw[<-hn7];rw[Wd]at jH;cases SS with|nil=>exact absurd rfl jH|cons a r=>simp
        have hd7:decide ((0:Int)<(n7:Int))=true:=τ;have asv:n7<=1000:=by
         rw[<-hn7,<-Wd];have h1:(gw b fo lo).length<=fo.length:=List.length_filter_le _ _;rw[HN.out.1]at h1;omega
        have Mf:dn wr:=by
         have h1:=sJ.out.later vR.out;have fS:=sJ.out.low;have h2:Below w.heap.size wB WO->dn WO:=λh=>h1.below h fS;have h3:dn WO:=h1.Mw ox.size λq hq=>ox.blk q Y λhm=>by have:=(Lb.out q hm).1;omega
         exact h3.later sO.out
        rw[Wd]at QY;have ra:=uw w0.heap.size s mb _ v1 v2 eX fp' wr SS _ QW QY Wc Wb Y (λp hp=>by rw[<-Wd]at hp;have:=HFO.out p (jV.1 hp).1;have:=HN.out.2;omega) (by have:=HGS.out;omega) Mf
        have HNU:=Z ra;have HO4:=Z eQ;have HK4:=Z QX;have Dv:=Z (H Wd jH);have aod:s<wr.heap.size:=Y;clear TT ra eQ QX QW QY Wb Wc Wd jH hn7 Mf;go_wp2_with fail;refine HNU.out.mono ?_;rintro e w8 ⟨fp8,rfl,IV,Mx⟩;obtain ⟨n8,hn8⟩:∃n,(ia eX SS).idxOf SS=n:=⟨_,rfl⟩;rw[hn8];have ho8:OR 195 3 j8 wB.heap.size (.slice Ao no co) row w8:=HO4.out.keep λq hq=>Mx.blk q (World.ownsRow.lt HO4.out q hq).2 (HE.out.out q hq);have TU:=oT HE.out.out (λq hq=>(World.ownsRow.lt HO4.out q hq).2) Mx;have HK8:=Z (HK4.out.trans Mx);have HS8:=Z IV;have HO8:=Z ho8;have HU8:=Z TU;have HN8:=Z hn8;have hz8:=Mx.size;have cZ:(w8.alloc (.cells #[.int .u8 (lo:Int),.int .u8 ((hi':Int) - 1),.int .i64 (n8:Int)] 195)).ownsRow wB.heap.size 195 3 (.slice Ao no co) row.length (bF j8 row):=World.ownsRow.alloc ho8 _;have iY:∀j u,[Value.int .u8 (lo:Int),.int .u8 ((hi':Int) - 1),.int .i64 (n8:Int)][j]?=some u->(w8.alloc (.cells #[.int .u8 (lo:Int),.int .u8 ((hi':Int) - 1),.int .i64 (n8:Int)] 195)).cell? ((⟨w8.heap.size,0,none⟩:Addr).add j)=some u:=by
         intro j u hj;rw[Addr.add_lit,Nat.zero_add,World.cell?_alloc_mark];simpa using hj
        obtain ⟨i3,Er,hZ,dS,bX⟩:=info_parts Gq;clear IV Mx ho8 TU hn8;have dA:wB.heap.size<=(w8.alloc (.cells #[.int .u8 (lo:Int),.int .u8 ((hi':Int) - 1),.int .i64 (n8:Int)] 195)).heap.size:=by have:=HK8.out.size;simp;omega
        go_wp2_with (at_builtin; refine cQ rfl _ _ 187 rfl wB.heap.size 195 i3 _ 3 16 Tryz.underlying187 Er hZ dS bX rfl O _ row.length (bF j8 row) rfl cZ ⟨w8.heap.size,0,none⟩ 1 1 [.int .u8 (lo:Int),.int .u8 ((hi':Int) - 1),.int .i64 (n8:Int)] rfl rfl iY (by intro u hu; simp at hu; rcases hu with rfl|rfl|rfl <;> rfl) (by unfold maxLen; omega) Y dA ?_)
        intro v' w9 cT sL wA;obtain ⟨A9,n9,c9,rfl⟩:∃A n c,v'=.slice A n c:=by
         obtain ⟨A,c,e,-⟩:=ar cT;exact ⟨_,_,_,e⟩
        have hEN:EgR w0 s mb (.slice Av ns cv) v1 v2 b gs (iH s mb vg) fo wB cuts (i+1) (row++[⟨lo,hi' - 1,n8⟩]) (ia eX SS) fp8 (.slice A9 n9 c9) w9:=by
         have hBA:Below w8.heap.size w8 (w8.alloc (.cells #[.int .u8 (lo:Int),.int .u8 ((hi':Int) - 1),.int .i64 (n8:Int)] 195)):=υ.alloc I _;have We:(w8.alloc (.cells #[.int .u8 (lo:Int),.int .u8 ((hi':Int) - 1),.int .i64 (n8:Int)] 195)).heap.size=w8.heap.size+1:=ξ;refine ⟨?_,?_,(HS8.out.later hBA).grown cZ O HU8.out sL,((HK8.out.trans (aj.aa hBA)).grown sL λq hq=>(cZ.lt q hq).1),?_,?_,?_⟩
         .show w9.ownsRow _ _ _ _ (row++[_]).length (bF j8 (row++[_]));rw[bU,bz,List.length_append];have:j8 ⟨lo,hi' - 1,n8⟩=[Value.int .u8 (lo:Int),.int .u8 ((hi':Int) - 1),.int .i64 (n8:Int)]:=by
           unfold j8;simp only[List.cons.injEq,Value.int.injEq,true_and,and_true];omega
          rw[this];exact cT
         .intro q hq;rcases wA with hf|⟨q',hf,TV⟩
          .rw[hf]at hq;exact HU8.out q hq
          .rw[hf]at hq;injection hq with hq;subst hq;intro hm;have:=(HS8.out.lt q' hm).2;omega
         .have:=BB.out.add hic HE.out.ri (by
           have hg:=HE.out.gg;obtain ⟨more,e,-,-⟩:=hg;rw[e];have hl:0<gs.length:=(List.getElem?_eq_some_iff.1 H0.out).1;rw[List.getElem?_append_left hl];exact H0.out) (by rw[HVA.out.1];exact Dv.out.2)
          rw[HVA.out.1,HVA.out.2,Dv.out.1,HN8.out]at this;rw[HVA.out.2];exact this
         .have:=HE.out.gg.add (c:=lo) Y Dv.out.2;rw[Dv.out.1]at this;exact this
         .have h1:=(Mp eX SS).2;rw[List.length_append,List.length_singleton];omega
        have HEN:=Z hEN;clear cT sL wA hEN cZ iY dA;go_wp2_with fail;go_roundw
        case rel=>exact ⟨i+1,_,_,fp8,.inr Y,by go_num,HEN⟩
        case measure=>exact μ
    .have Mv:decide ((i:Int)+1<(nc:Int))=false:=θ;have w3:IntKind.i64.wrap ((i:Int)+1)=(i:Int)+1:=IntWalk.i64_in _ Y;go_wp2_with fail;refine az λWf bY=>?_;subst bY;refine bodyPost_ret (v:=.slice Ao no co) (by simp[results,Tryz.results137,go_sem];try rfl) rfl ?_
     have zV:=BB.out.done (by rw[HNC.out];omega) HE.out.ri
     exact ⟨row,eX,fp',_,rfl,⟨eb.gq HE.out.own,HE.out.out,λg hg=>⟨Nat.le_trans vR.out.size (World.ownsRow.lt HE.out.own g hg).1,(World.ownsRow.lt HE.out.own g hg).2⟩⟩,HE.out.sb,(aj.aa vR.out).trans ox,zV,HE.out.gg,by have:=HE.out.ln;omega,by have:=HE.out.ln;omega⟩
section
open Go.Maps (Keyed)
theorem aj.aiI{f1 f2:List Nat}(g:List Nat){a b:World}(h:aj f1 f2 a b):aj (f1++g) (f2++g) a b:=
 ⟨h.os,h.tape,h.output,h.size,λk hk hn=>h.blk k hk λhm=>hn (List.mem_append_left _ hm),λk hk=>(List.mem_append.1 hk).elim (λhm=>(h.new k hm).imp (List.mem_append_left _) id) λhm=>.inl (List.mem_append_right _ hm)⟩
theorem aj.ab0{f1 f2:List Nat}(g:List Nat){a b:World}(h:aj f1 f2 a b):aj (g++f1) (g++f2) a b:=
 ⟨h.os,h.tape,h.output,h.size,λk hk hn=>h.blk k hk λhm=>hn (List.mem_append_right _ hm),λk hk=>(List.mem_append.1 hk).elim (λhm=>.inl (List.mem_append_left _ hm)) λhm=>(h.new k hm).imp (List.mem_append_right _) id⟩
theorem SL.out{fp fp':List Nat}{w w':World}{v:Value}{l:List Nat}(h:SL w v l)(ho:aL fp v)(hk:aj fp fp' w w')(hl:∀g,v.ownBlock=some g->g<w.heap.size):SL w' v l/\aL fp' v:=
 ⟨h.keep ho hk,λg hg hm=>(hk.new g hm).elim (ho g hg) λhz=>by have:=hl g hg;omega⟩
def Mi(L:List Nat)(w:World)(v:Value)(fol:List (List Nat)):Prop:=∃g c,v=.slice (some ⟨g,0,none⟩) fol.length c/\(fol.length<=c/\c<=9223372036854775807)/\g<w.heap.size/\g∉L/\
 ∀i (h:i<fol.length),∃rv,w.cell? ⟨g,i,none⟩=some rv/\SL w rv fol[i]/\aL L rv/\(∀k,rv.ownBlock=some k->k<w.heap.size)/\∀n c,rv=.slice none n c->c=0
def EnC(L:List Nat)(w:World)(v:Value)(n:Nat)(last:List Nat):Prop:=∃g,v=.slice (some ⟨g,0,none⟩) n n/\g<w.heap.size/\g∉L/\∀p,p<n->w.cell? ⟨g,p,none⟩=some (.bool (decide (p∈last)))
theorem Mi.keep{L L':List Nat}{w w':World}{v:Value}{fol:List (List Nat)}(h:Mi L w v fol)(hk:aj L L' w w'):Mi L' w' v fol:=by
 obtain ⟨g,c,rfl,hc,hg,hn,hcell⟩:=h;refine ⟨g,c,rfl,hc,Nat.lt_of_lt_of_le hg hk.size,λhm=>(hk.new g hm).elim hn (λh=>Y),λi hi=>?_⟩;obtain ⟨rv,h1,h2,h3,h4,h5⟩:=hcell i hi;obtain ⟨q1,q2⟩:=h2.out h3 hk h4;exact ⟨rv,(χ g i (hk.blk g hg hn)).trans h1,q1,q2,λk bX=>Nat.lt_of_lt_of_le (h4 k bX) hk.size,h5⟩
theorem EnC.keep{L L':List Nat}{w w':World}{v:Value}{n:Nat}{last:List Nat}(h:EnC L w v n last)(hk:aj L L' w w'):EnC L' w' v n last:=by
 obtain ⟨g,rfl,hg,hn,hcell⟩:=h;exact ⟨g,rfl,Nat.lt_of_lt_of_le hg hk.size,λhm=>(hk.new g hm).elim hn (λh=>Y),λp hp=>(χ g p (hk.blk g hg hn)).trans (hcell p hp)⟩
structure QB (w0:World) (L:List Nat) (v0 v1 v2:Value) (b:Pb) (x:dC) (P:Nat) (vx vy:Value) (w:World):Prop where
 set:nT w0 L w v0 b.sets
 fol:Mi L w v1 b.fol
 ends:EnC L w v2 b.sets.length x.last
 prt:w.heap[P]?=some (.cells #[vx,vy,.bool x.emp] 184 (0,0))/\P∉L
 fst:IL w vx x.first/\aL L vx
theorem QB.keep{w0:World}{L L':List Nat}{v0 v1 v2:Value}{b:Pb}{x:dC}{P:Nat}{vx vy:Value}{w w':World}(h:QB w0 L v0 v1 v2 b x P vx vy w)(hk:aj L L' w w'):QB w0 L' v0 v1 v2 b x P vx vy w':=by
 have hP:=(γ h.prt.1).1;exact ⟨h.set.keep hk,h.fol.keep hk,h.ends.keep hk,⟨(hk.blk P hP h.prt.2).trans h.prt.1,λhm=>(hk.new P hm).elim h.prt.2 (λh=>Y)⟩,h.fst.1.keep h.fst.2 hk⟩
theorem QB.later{w0:World}{L:List Nat}{v0 v1 v2:Value}{b:Pb}{x:dC}{P:Nat}{vx vy:Value}{w w':World}(h:QB w0 L v0 v1 v2 b x P vx vy w)(hb:Below w.heap.size w w'):QB w0 L v0 v1 v2 b x P vx vy w':=h.keep (aj.aa hb)
theorem rX.apart{B s mb:Nat}{v0 v1 v2:Value}{gs:List (List Nat)}{fp L L':List Nat}{w w':World}(h:rX B s mb v0 v1 v2 gs fp w)(hk:aj L L' w w')(hd:∀k∈L,k∉fp)(ht:∀k∈L,∃cs e m,w.heap[k]?=some (.cells cs e m)/\e≠3):rX B s mb v0 v1 v2 gs fp w':=by
 obtain ⟨vg,gv,F,rfl,h⟩:=h;refine ⟨vg,gv,F,rfl,h.same (λk hm=>hk.blk k (h.lt k hm).2 λhl=>hd k hl hm) hk.size λv l hi _ hti=>?_⟩;have ho:aL L v:=λg hg hl=>by
  obtain ⟨cs,m,e1⟩:=hti g hg;obtain ⟨cs',e',m',e2,hne⟩:=ht g hl;rw[e1]at e2;injection e2 with e2;injection e2 with _ e3 _;exact hne e3.symm
 exact ⟨(hi.keep ho hk).1,hti.keep ho hk⟩
theorem iI.types{B N:Nat}{fx:List Nat}{vE vA:Value}{gv:List Value}{rs:List (List Ed)}{bL:List Bool}{w:World}(h:iI B N fx vE vA gv rs bL w):∀k∈lG N vE vA,∃cs e m,w.heap[k]?=some (.cells cs e m)/\e≠3:=λk hk=>by
 rcases bp.1 hk with rfl|hk|hk
 .exact ⟨_,_,_,h.hN,O⟩
 .obtain ⟨cs,m,e⟩:=dk h.own k hk;exact ⟨cs,_,m,e,O⟩
 .obtain ⟨cs,m,e⟩:=dk (show w.ownsRow _ _ _ _ _ _ from h.acc) k hk;exact ⟨cs,_,m,e,O⟩
theorem VM{P:Program}{i0:TypeInfo}{T e:TypeId}(ht:P.underlying T=some (.slice e))(hi:P.info? e=some i0)(hz0:i0.zero=some (.int .i64 0))(hz1:i0.size=1)(hz2:i0.bytes=8)(he:e=3)
  {w:World} {ops:Array Oper} {rest:List Oper} {o:Oper} {a:Act} {Q:Exit->Act->World->Prop} (s x:Operand) (v:Value) (A:Option Addr) (n c:Nat) (L l:List Nat) (B:Nat)
  (og:o.guard=none) (ho:o.op=.call { callee:=.builtin .append,args:=#[s,x],argTypes:=#[T,T] }) (hs:a.eval s=v) (hx:a.eval x=.slice A n c) (hown:CU B v L w) (hl:SL w (.slice A n c) l) (hA:A=none->c=0) (hlen:L.length+l.length<=10000000000000) (hB:B<=w.heap.size)
  (h:∀v' w1,CU B v' (L++l) w1->Below B w w1->wpList P ops Q rest (a.put o.dst v') w1):wpList P ops Q (o::rest) a w:=by
 subst he;obtain ⟨A',c',e',hc,eH⟩:=hl;injection e' with e1 e2 e3;subst e1 e2 e3;rcases eH with rfl|⟨g,f,rfl,hg,hcell⟩
 .cases A with
  |none=>
   obtain rfl:=hA rfl;refine wpList_append_own_none og s x T ho B _ i0 1 ht hi v L.length _ hs hown.1 hx ?_;exact h v w (by rw[List.append_nil];exact hown) (Below.refl B w)
  |some ad=>
   refine wpList_append_own _ og s x T ho B _ i0 _ 1 8 ht hi hz0 hz1 hz2 rfl O v L.length _ hs hown.1 ad 0 c [] hx rfl (by intro j u hj;simp at hj) (by intro u hu;cases hu) (by unfold maxLen;simp at hlen;omega) (by simp at hlen;omega) hB ?_
   intro v' w1 hown1 hg hn;refine h v' w1 ⟨by rw[List.append_nil];simpa using hown1,?_⟩ ((Below.refl B w).grown hg hB λk hk=>(hown.1.lt k hk).1)
   rcases hown.2 with h1|h1
   .exact .inl (hn.2 ⟨h1,rfl⟩)
   .exact .inr (by simpa using h1)
 .refine wpList_append_own _ og s x T ho B _ i0 _ 1 8 ht hi hz0 hz1 hz2 rfl O v L.length _ hs hown.1 ⟨g,f,none⟩ l.length c (bV l) hx (by rw[iD,Nat.mul_one]) (λj u hj=>?_) (λu hu=>?_) (by unfold maxLen;omega) Y hB ?_
  .unfold bV at hj;rw[List.getElem?_map]at hj
   cases hq:l[j]? with
   |none=>rw[hq]at hj;cases hj
   |some y=>
    rw[hq]at hj;obtain ⟨oh,hje⟩:=List.getElem?_eq_some_iff.1 hq;rw[Addr.add_lit,hcell j oh,hje];exact hj
  .unfold bV at hu;obtain ⟨y,-,rfl⟩:=List.mem_map.1 hu;rfl
  .intro v' w1 hown1 hg hn;refine h v' w1 ⟨by rw[jO,List.length_append];exact hown1,?_⟩ ((Below.refl B w).grown hg hB λk hk=>(hown.1.lt k hk).1)
   by_cases hl0:L++l=[]
   .obtain ⟨h1,h2⟩:=List.append_eq_nil_iff.1 hl0;exact .inl (hn.2 ⟨hown.2.resolve_right (λh=>h h1),by rw[h2];rfl⟩)
   .exact .inr hl0
end
def V6(kb lo hi tq:Nat)(D0 D1 D2 S5 S6 Zp Zq S17:ByteArray):Nat->Nat->Value->World->Prop
 |c,0,x,w=>x=.pointer (some ⟨kb,0,none⟩)
 |c,1,x,w=>x=.pointer (some ⟨kb,0,none⟩)
 |c,2,x,w=>x=.int .u8 (lo:Int)
 |c,3,x,w=>x=.int .i64 (lo:Int)
 |c,4,x,w=>x=.string D0
 |c,5,x,w=>x=.string S5
 |c,6,x,w=>x=.string S6
 |c,7,x,w=>x=.pointer (some ⟨kb,0,none⟩)
 |c,8,x,w=>x=.pointer (some ⟨kb,1,none⟩)
 |c,9,x,w=>x=.int .u8 (hi:Int)
 |c,10,x,w=>x=.int .i64 (hi:Int)
 |c,11,x,w=>x=.string D1
 |c,12,x,w=>x=.string Zp
 |c,13,x,w=>x=.string Zq
 |c,14,x,w=>x=.pointer (some ⟨kb,2,none⟩)
 |c,15,x,w=>x=.int .i64 (tq:Int)
 |c,16,x,w=>x=.string D2
 |c,17,x,w=>x=.string S17
 |_,_,_,_=>True
theorem qY:∀l:List Ed,(∀e∈l,e.lo<256/\e.hi<256/\e.to<1000000)->(de l).length<=20*l.length
 | [],_=>I
 |e::r,h=>by
  have h1:=qY r λx hx=>h x (by simp[hx])
  have h2:=h e ξ;have d0:=jj e.lo 2 Y;have d1:=jj e.hi 2 Y;have d2:=jj e.to 6 Y;simp only[de,List.length_cons,List.length_append];omega
theorem uI(a b:ByteArray):bl (a++b)=bl a++bl b:=by simp[bl]
theorem yO(b:Bool)(ev:Value)(l:List Ed)(w:World)(he:eb w ev l)(dV:∀e∈l,e.lo<256/\e.hi<256/\e.to<1000000)(hl:l.length<=100000)(jL:dn w):
  Calls Tryz.prog 195 #[.bool b,ev] w λe w'=>e=.returned (.string (bs (ou b l)))/\Below w.heap.size w w':=by
 obtain ⟨Ae,ce,rfl,qI,Ht⟩:=he.form;obtain ⟨nl,kr⟩:∃n,l.length=n:=⟨_,rfl⟩;rw[kr]at he qI hl|-;have HE:=Z he;have HY:=Z dV;have HN:=Z kr;have sJ:=Z jL;have HFB:=Z (λw=>Tryz.strconv_FormatBool b w);clear he dV kr jL
 go_enter Tryz.func195,Tryz.ntmps195
 go_wp2_with (go_at_call 218;refine (HFB.out _).mono ?_;rintro e w1 ⟨rfl,rfl⟩);have Ir:DR w.heap.size [] (w.alloc (.cells #[.pointer none,.slice none 0 0] 205)):=⟨Lib.fresh_isBuilder _ _ w,ξ⟩;have zW:((⟨(Lib.formatBool b).toArray⟩:ByteArray)).size<=1000000:=by cases b <;> decide
 refine (mz _ _ _ _ Ir ξ zW).mono ?_;rintro e w1 ⟨rfl,iW,hb1⟩;have hfb:bl ⟨(Lib.formatBool b).toArray⟩=boolT b:=by cases b <;> rfl
 rw[hfb,List.nil_append]at iW;have QA:=Z iW;have aX:=Z (((Below.refl _ w).alloc I (.cells #[.pointer none,.slice none 0 0] 205)).trans hb1);clear Ir zW iW hb1 hfb;go_wp2_with fail;go_loopw [13] (λiv wr=>∃k:Nat,k<=nl/\iv=.int .i64 (k:Int)/\Hid (DR w.heap.size (boolT b++de (l.take k)) wr)/\Hid (Below w.heap.size w wr)) (λiv _=>nl - (intOf iv).toNat)
 case atStart=>exact ⟨0,Nat.zero_le _,rfl,by rw[List.take_zero];simp only[de,List.append_nil];exact QA,aX⟩
 case round=>
  obtain ⟨k,hk,rfl,HI,b8⟩:=hrel;by_cases hlt:k<nl
  .have hd:decide ((k:Int)<(nl:Int))=true:=τ;have aU:k<l.length:=by rw[HN.out];exact hlt
   obtain ⟨g,f,rfl,-,hg,c0,c1,c2⟩:=HE.out.at_ aU;obtain ⟨e,hle⟩:=ν (l[k]);rw[hle]at c0 c1 c2;have De:e∈l:=by rw[<-hle];exact List.getElem_mem aU
   have hblk:=b8.out.block g hg;have d0:=(χ g (f+k*3) hblk).trans c0;have d1:=(χ g (f+k*3+1) hblk).trans c1;have d2:=(χ g (f+k*3+2) hblk).trans c2;have hwr:=b8.out.size;have Ms:g<wr.heap.size:=Y;obtain ⟨hb0,hb1,aJ⟩:=HY.out e De;have cB:de (l.take (k+1))=de (l.take k)++(32::(Lib.decDigits e.lo++45::(Lib.decDigits e.hi++58::Lib.decDigits e.to))):=by rw[List.take_succ_eq_append_getElem aU,hle,uJ]
   obtain ⟨lo,hi,tq⟩:=e;simp only at d0 d1 d2 hb0 hb1 aJ cB;have ai1:=jj lo 2 Y;have ai2:=jj hi 2 Y;have ai3:=jj tq 6 Y;obtain ⟨D0,hD0⟩:∃D,bs (Lib.decDigits lo)=D:=⟨_,rfl⟩;obtain ⟨D1,hD1⟩:∃D,bs (Lib.decDigits hi)=D:=⟨_,rfl⟩;obtain ⟨D2,hD2⟩:∃D,bs (Lib.decDigits tq)=D:=⟨_,rfl⟩;have z0:D0.size<=7:=by rw[<-hD0,df];omega
   have z1:D1.size<=7:=by rw[<-hD1,df];omega
   have z2:D2.size<=7:=by rw[<-hD2,df];omega
   obtain ⟨S5,hS5⟩:∃S,(⟨#[32]⟩:ByteArray)++D0=S:=⟨_,rfl⟩;obtain ⟨S6,hS6⟩:∃S,S5++(⟨#[45]⟩:ByteArray)=S:=⟨_,rfl⟩;obtain ⟨Zp,QS⟩:∃S,S6++D1=S:=⟨_,rfl⟩;obtain ⟨Zq,QT⟩:∃S,Zp++(⟨#[58]⟩:ByteArray)=S:=⟨_,rfl⟩;obtain ⟨S17,QU⟩:∃S,Zq++D2=S:=⟨_,rfl⟩;have q32:ByteArray.size ⟨#[32]⟩=1:=rfl;have q45:ByteArray.size ⟨#[45]⟩=1:=rfl;have q58:ByteArray.size ⟨#[58]⟩=1:=rfl;have z5:S5.size<=8:=by rw[<-hS5,ByteArray.size_append];omega
   have z6:S6.size<=9:=by rw[<-hS6,ByteArray.size_append];omega
   have z12:Zp.size<=16:=by rw[<-QS,ByteArray.size_append];omega
   have z13:Zq.size<=17:=by rw[<-QT,ByteArray.size_append];omega
   have z17:S17.size<=24:=by rw[<-QU,ByteArray.size_append];omega
   have n5:¬(9223372036854775807:Nat)<ByteArray.size ⟨#[32]⟩+D0.size:=Y;have n6:¬(9223372036854775807:Nat)<S5.size+ByteArray.size ⟨#[45]⟩:=Y;have n12:¬(9223372036854775807:Nat)<S6.size+D1.size:=Y;have n13:¬(9223372036854775807:Nat)<Zp.size+ByteArray.size ⟨#[58]⟩:=Y;have n17:¬(9223372036854775807:Nat)<Zq.size+D2.size:=Y;have gO:bl S17=32::(Lib.decDigits lo++45::(Lib.decDigits hi++58::Lib.decDigits tq)):=by
    rw[<-QU,uI,<-QT,uI,<-QS,uI,<-hS6,uI,<-hS5,uI,<-hD0,<-hD1,<-hD2,mA,mA,mA];show (([32]++_++[45])++_++[58])++_=_;simp
   have ai4:=Z (λW (h:dn W)=>hD0▸pW lo Y W h);have ai5:=Z (λW (h:dn W)=>hD1▸pW hi Y W h);have ai6:=Z (λW (h:dn W)=>hD2▸pW tq Y W h);have HS5:=Z hS5;have HS6:=Z hS6;have ai8:=Z QS;have ai9:=Z QT;have aja:=Z QU;have jG:=Z (H cB gO);have lI:(boolT b++de (l.take k)).length<=1000000000:=by
    have h1:=qY (l.take k) λx hx=>HY.out x (List.mem_of_mem_take hx);have h2:=List.length_take_le k l;have h3:(boolT b).length<=5:=by cases b <;> decide
    rw[List.length_append];omega
   have Ad:=Z lI;have fS:=sJ.out.low;clear hle De hblk c0 c1 c2 cB hD0 hD1 hD2 hS5 hS6 QS QT QU gO ai1 ai2 ai3 aU lI q32 q45 q58;go_wp2_with fail;refine dB λW hW=>?_;have tT:Below wr.heap.size wr W:=by rw[hW];exact υ.alloc I _
   have rL:W.heap.size=wr.heap.size+1:=by rw[hW];simp
   have Te:W.heap[wr.heap.size]?=some (.cells #[.int .u8 (lo:Int),.int .u8 (hi:Int),.int .i64 (tq:Int)] 195 (0,0)):=by rw[hW];exact heap_alloc_new wr _
   obtain ⟨b0,b1,b2⟩:=cells3 Te;have Gp:wr.heap.size<W.heap.size:=Y;have hvW:dn W:=sJ.out.below (b8.out.trans (tT.mono hwr)) fS;have HIW:=Z (HI.out.later tT);have Md:=Z (b8.out.trans (tT.mono hwr));have Vn:=Z hvW;have jH:Below W.heap.size W W.drew:=υ.drew;clear hW Te tT d0 d1 d2 hvW;refine aQ 18 [] (V6 wr.heap.size lo hi tq D0 D1 D2 S5 S6 Zp Zq S17) (λ_ w'=>Below W.heap.size W w') κ κ κ κ κ κ O jH ?_ ?_
   .simp only[eK,eL];refine ag.pure O ?_ (ag.pure O ?_ (ag.pure O ?_ (ag.pure O ?_ (ag.free O ?_ (ag.pure O ?_ (ag.pure O ?_ (ag.pure O ?_ (ag.pure O ?_ (ag.pure O ?_ (ag.pure O ?_ (ag.free O ?_ (ag.pure O ?_ (ag.pure O ?_ (ag.pure O ?_ (ag.pure O ?_ (ag.free O ?_ (ag.pure O ?_ (ag.nil))))))))))))))))))
    all_goals first | (with_reducible intro v wz c dy hS hE K hK;simp only[ay,Act.put,gU,gV,gW,Nat.zero_add,Nat.reduceAdd,eK,eL]at hK|-) | (intro v wz hS hE K hK;simp only[ay,Act.put,gU,gV,gW,Nat.zero_add,Nat.reduceAdd,eK,eL]at hK|-)
    .exact ζ
    .have e0:v 0=_:=hE.1 rfl;rw[e0]at hK|-;exact ζ
    .have e1:v 1=_:=hE.1 rfl;rw[e1]at hK|-;have cx0:=(hS.cl wr.heap.size 0 Gp).trans b0;have lwz:wr.heap.size<wz.heap.size:=by have:=hS.size;omega
     exact ζ
    .have e2:v 2=_:=hE.1 rfl;rw[e2]at hK|-;exact ζ
    .have e3:v 3=_:=hE.1 rfl;rw[e3]at hK|-;have aK:=ai4.out wz (Vn.out.later hS);have HC:=Z aK;have HX:=Z hS;clear hS hE dy aK;go_wp2_with fail;refine HC.out.mono ?_;rintro e wy ⟨rfl,hb⟩;have po:=Z (HX.out.trans (hb.mono HX.out.size));clear hb;go_wp2_with fail;refine hK.out _ _ (λj z hj h=>?_) po.out rfl
     match j with
     |0|1|2|3|5|6|7|8|9|10|11|12|13|14|15|16|17=>exact h
     |4=>exact absurd rfl hj
     |_+18=>exact trivial
    .have E4:=hE.1 rfl;have e4:v 4=_:=E4;rw[e4]at hK|-;have HX:=Z hS;clear hS hE dy;go_wp2_with fail;exact hK.out _ (by rw[HS5.out];rfl)
    .have E5:=hE.1 rfl;have e5:v 5=_:=E5;rw[e5]at hK|-;have HX:=Z hS;clear hS hE dy;go_wp2_with fail;exact hK.out _ (by rw[HS6.out];rfl)
    .exact ζ
    .have e7:v 7=_:=hE.1 rfl;rw[e7]at hK|-;exact ζ
    .have e8:v 8=_:=hE.1 rfl;rw[e8]at hK|-;have cx1:=(hS.cl wr.heap.size 1 Gp).trans b1;have lwz:wr.heap.size<wz.heap.size:=by have:=hS.size;omega
     exact ζ
    .have e9:v 9=_:=hE.1 rfl;rw[e9]at hK|-;exact ζ
    .have qE:v 10=_:=hE.1 rfl;rw[qE]at hK|-;have aK:=ai5.out wz (Vn.out.later hS);have HC:=Z aK;have HX:=Z hS;clear hS hE dy aK;go_wp2_with fail;refine HC.out.mono ?_;rintro e wy ⟨rfl,hb⟩;have po:=Z (HX.out.trans (hb.mono HX.out.size));clear hb;go_wp2_with fail;refine hK.out _ _ (λj z hj h=>?_) po.out rfl
     match j with
     |0|1|2|3|4|5|6|7|8|9|10|12|13|14|15|16|17=>exact h
     |11=>exact absurd rfl hj
     |_+18=>exact trivial
    .have E6:=hE.1 rfl;have LX:=hE.2.1 rfl;have e6:v 6=_:=E6;have wj:v 11=_:=LX;rw[e6,wj]at hK|-;have HX:=Z hS;clear hS hE dy;go_wp2_with fail;exact hK.out _ (by rw[ai8.out];rfl)
    .have Y5:=hE.1 rfl;have tl:v 12=_:=Y5;rw[tl]at hK|-;have HX:=Z hS;clear hS hE dy;go_wp2_with fail;exact hK.out _ (by rw[ai9.out];rfl)
    .exact ζ
    .have xD:v 14=_:=hE.1 rfl;rw[xD]at hK|-;have cx2:=(hS.cl wr.heap.size 2 Gp).trans b2;have lwz:wr.heap.size<wz.heap.size:=by have:=hS.size;omega
     exact ζ
    .have FK:v 15=_:=hE.1 rfl;rw[FK]at hK|-;have aK:=ai6.out wz (Vn.out.later hS);have HC:=Z aK;have HX:=Z hS;clear hS hE dy aK;go_wp2_with fail;refine HC.out.mono ?_;rintro e wy ⟨rfl,hb⟩;have po:=Z (HX.out.trans (hb.mono HX.out.size));clear hb;go_wp2_with fail;refine hK.out _ _ (λj z hj h=>?_) po.out rfl
     match j with
     |0|1|2|3|4|5|6|7|8|9|10|11|12|13|14|15|17=>exact h
     |16=>exact absurd rfl hj
     |_+18=>exact trivial
    .have E13:=hE.1 rfl;have Zr:=hE.2.1 rfl;have wq:v 13=_:=E13;have e16:v 16=_:=Zr;rw[wq,e16]at hK|-;have HX:=Z hS;clear hS hE dy;go_wp2_with fail;exact hK.out _ (by rw[aja.out];rfl)
   .intro v wz hS hF;have e0:v 0=_:=hF 0 O;have e1:v 1=_:=hF 1 O;have e2:v 2=_:=hF 2 O;have e3:v 3=_:=hF 3 O;have e7:v 7=_:=hF 7 O;have e8:v 8=_:=hF 8 O;have e9:v 9=_:=hF 9 O;have qE:v 10=_:=hF 10 O;have xD:v 14=_:=hF 14 O;have FK:v 15=_:=hF 15 O;have E4:=hF 4 O;have E5:=hF 5 O;have E6:=hF 6 O;have LX:=hF 11 O;have Y5:=hF 12 O;have E13:=hF 13 O;have Zr:=hF 16 O;have E17:=hF 17 O;simp only[ay,Act.put,gU,gV,gW,Nat.zero_add,Nat.reduceAdd,eK,eL,List.drop_succ_cons,List.drop_zero,e0,e1,e2,e3,e7,e8,e9,qE,xD,FK];clear hF e0 e1 e2 e3 e7 e8 e9 qE xD FK;have e17:v 17=_:=E17;rw[e17];have dA:Below W.heap.size W wz:=hS;have HZ:=Z dA;clear hS dA E4 E5 E6 LX Y5 E13 Zr E17 e17;go_wp2_with fail;refine (mz _ _ _ _ (HIW.out.later HZ.out) Ad.out Y).mono ?_;rintro e w9 ⟨rfl,hi9,ja⟩;have ack:DR w.heap.size (boolT b++de (l.take (k+1))) w9:=by rw[jG.out.2,List.append_assoc,<-jG.out.1]at hi9;exact hi9
    have HI9:=Z ack;have lT:=Z (Md.out.trans ((HZ.out.mono Md.out.size).trans ja));clear hi9 ack ja;go_wp2_with fail;go_roundw
    case rel=>exact ⟨k+1,Y,by go_num,HI9,lT⟩
    case measure=>exact μ
  .obtain rfl:k=nl:=Y;have hd:decide ((k:Int)<(k:Int))=false:=θ;have oL:=HI.out;rw[List.take_of_length_le (by rw[HN.out];exact I)]at oL
   have HSF:=Z (uK w.heap.size (ou b l) wr ⟨Lib.IsBuilderF.of oL.1,oL.2⟩);clear oL;go_wp2_with fail;refine HSF.out.mono ?_;rintro e w1 ⟨rfl,-,hb1⟩;go_wp2_with fail;go_ret;exact ⟨rfl,b8.out.trans hb1⟩
section
open Go.Maps (Keyed)
def Vh(N ga fa n ca ge fe ce k:Nat)(bb:Bool)(rv cv:Value)(cs:List (Option Nat))(row:List Ed)(NB:ByteArray):Nat->Nat->Value->World->Prop
 |c,0,x,w=>x=.pointer (some ⟨N,1,none⟩)
 |c,1,x,w=>x=.slice (some ⟨ga,fa,none⟩) n ca
 |c,2,x,w=>x=.int .i64 (k:Int)
 |c,3,x,w=>x=.pointer (some ⟨ga,fa+k,none⟩)
 |c,4,x,w=>x=.bool bb
 |c,5,x,w=>x=.pointer (some ⟨N,0,none⟩)
 |c,6,x,w=>x=.slice (some ⟨ge,fe,none⟩) n ce
 |c,7,x,w=>x=.int .i64 (k:Int)
 |c,8,x,w=>x=.pointer (some ⟨ge,fe+k,none⟩)
 |c,9,x,w=>x=rv
 |c,10,x,w=>x=cv
 |c,11,x,w=>∃A c,x=.slice A (b7 (cw cs) row).length c/\eb w x (b7 (cw cs) row)
 |c,12,x,w=>x=.string NB
 |_,_,_,_=>True
structure RdR (m:Mc) (WB:World) (cs ds:List (Option Nat)) (seen:List (Bool×List Ed)) (F:Lit->Option Value) (n k:Nat) (wr:World):Prop where
 mn:MN Tryz.prog 9 WB.heap.size seen.length F wr
 sy:ug F seen
 own:OR 3 1 yI (WB.heap.size+1) (.slice (some ⟨WB.heap.size+1,0,none⟩) n n) ds wr
 ri:iZ m cs ds seen k
 bl:Below WB.heap.size WB wr
theorem Bw(v:Value)(m:Mc)(w:World)(hm:gH w v m)(hv:pC m)(j9:sF m)(h1:1<=m.ed.length)(jL:dn w):
  Calls Tryz.prog 170 #[v] w (LM m m.ed.length w):=by
 have hal:=λW (h:Below w.heap.size w W)=>Hs v m W (hm.later h) hv j9 h1;obtain ⟨ve,va,rfl,he,ha⟩:=hm;obtain ⟨Ae,ce,rfl,qI,Ht⟩:=he.form;obtain ⟨Aa,ca,rfl,DF,UE⟩:=ha.form;obtain ⟨n,hn⟩:=ν m.ed.length;have pg:m.ac.length=n:=by rw[hv.len,hn]
 have Dd:=j9.n;rw[pg]at ha DF;rw[hn]at he qI h1 Dd;rw[hn,pg]at hal;have HAL:=Z hal;have HE:=Z he;have HA:=Z ha;have HV:=Z hv;have Kb:=Z j9;have HN:=Z (H hn pg);have sJ:=Z jL;have K:Keyed Tryz.prog 9:=Maps.string_keyed Tryz.underlying9;have hz:∀w,(zeroValue 3).run Tryz.prog w=.ok (.int .i64 0) w:=λ_=>κ;have hmk:=LI n Y;have hmm:=@run_makeMap Tryz.prog;rw[pg,hn];have fS:=jL.low;clear hal he ha hv j9 hn pg jL
 go_enter Tryz.func170,Tryz.ntmps170
 go_wp2_with fail;refine (HAL.out _ ?hb0).mono ?_
 case hb0=>exact ((Below.refl w w).alloc I _).alloc ξ _
 rintro e w1 ⟨rv,o,rfl,hown1,hb1,yM,sM⟩;have Vi:((w.alloc (.cells #[.slice Ae n ce,.slice Aa n ca] 93)).alloc (.cells (Array.replicate n (.int .i64 0)) 3)).heap.size=w.heap.size+2:=ξ;have hzero:=qU (w.alloc (.cells #[.slice Ae n ce,.slice Aa n ca] 93)) n Y;have Qf:(w.alloc (.cells #[.slice Ae n ce,.slice Aa n ca] 93)).heap.size=w.heap.size+1:=ξ;rw[Qf]at hzero;have Bz:w1.heap[w.heap.size]?=some (.cells #[.slice Ae n ce,.slice Aa n ca] 93 (0,0)):=(hb1.block _ Y).trans ((aB _ _ _ ξ).trans (heap_alloc_new w _));have aa4:OR 3 1 yI (w.heap.size+1) (.slice (some ⟨w.heap.size+1,0,none⟩) n n) (dI o 0 n) w1:=by rw[Br];exact hzero.later hb1
 have Vj:=(eO.gq hown1);have ahE:=hb1.size;rw[Vi]at ahE;have LR:Below w.heap.size w w1:=(((Below.refl w w).alloc I _).alloc ξ _).trans (hb1.mono Y);obtain ⟨Ao,co,eo,ahF,arb⟩:=Vj.form;subst eo;have Vk:=Z (H yM sM);have HOB:=Z Vj;have ahH:=Z Bz;have ahI:=Z aa4;have aa5:=Z LR;have ahJ:=hown1.1
 -- the row of what is alive lies above
 have hoA:o=[]\/∃g f,Ao=some ⟨g,f,none⟩/\w.heap.size+2<=g:=by
  by_cases h0:o=[]
  .exact .inl h0
  .obtain ⟨A,c,e,-,eH⟩:=hown1.cells KQ;obtain ⟨g,hA,hg,-,-⟩:=eH.resolve_left h0;injection e with e1 _ _;rw[Vi]at hg;exact .inr ⟨g,0,by rw[e1,hA],hg⟩
 have HOA:=Z hoA;rw[yM];rw[yM]at ahF;clear hown1 Vi hzero Qf Bz aa4 Vj LR yM sM hb1 ahJ hoA;go_wp2_with fail;go_loopw [21] (λiv wr=>∃k:Nat,k<=n/\iv=.int .i64 (k:Int)/\Hid (OR 3 1 yI (w.heap.size+1) (.slice (some ⟨w.heap.size+1,0,none⟩) n n) (dI o k n) wr)/\Hid (aj [w.heap.size+1] [w.heap.size+1] w1 wr)) (λiv _=>n - (intOf iv).toNat)
 case atStart=>exact ⟨0,Nat.zero_le _,rfl,ahI,aj.refl _ _⟩
 case round=>
  obtain ⟨k,hk,rfl,HC,HK⟩:=hrel;have Kc:=HK.out.size;by_cases hlt:k<n
  .have hd:decide ((k:Int)<(n:Int))=true:=τ;have aU:k<o.length:=by rw[Vk.out.1];exact hlt
   obtain ⟨g,f,rfl,-,hg,c0⟩:=HOB.out.at_ aU;have hgA:w.heap.size+2<=g:=by
    rcases HOA.out with h|⟨g',f',e',h⟩
    .rw[h]at aU;cases aU
    .injection e' with e';injection e' with e1 _;rw[e1];exact h
   have c0r:=(χ g (f+k) (HK.out.blk g hg ψ)).trans c0;obtain ⟨q,hq⟩:=ν (o[k]);rw[hq]at c0r;have hok:o[k]?=some q:=by rw[List.getElem?_eq_getElem aU,hq]
   have HOK:=Z hok;have od:g<wr.heap.size:=Y;obtain ⟨y0,y1⟩:=HC.out.uk k (by rw[fR];exact hlt)
   have hgy:=HC.out.lt1;have bS:decide (k<n)=true:=decide_eq_true hlt;clear c0 hq hok aU
   cases q with
   |true=>
    go_wp2_with fail;go_roundw
    case rel=>exact ⟨k+1,Y,by go_num,by rw[Bs HOK.out];exact HC,HK⟩
    case measure=>exact μ
   |false=>
    have bo:=HC.out.Qr (fR _ _ _) k none;have Tz:OR 3 1 yI (w.heap.size+1) (.slice (some ⟨w.heap.size+1,0,none⟩) n n) (dI o (k+1) n) (wr.setCell ⟨w.heap.size+1,k,none⟩ (.int .i64 (-1))):=by rw[yL HOK.out];exact bo
    have D7:=Z Tz;have bX:aj [w.heap.size+1] [w.heap.size+1] w1 (wr.setCell ⟨w.heap.size+1,k,none⟩ (.int .i64 (-1))):=HK.out.trans ⟨rfl,rfl,rfl,by simp[World.setCell],λq _ hn=>Below.heap_setCell _ _ _ _ (λe=>hn (by simp[show q=w.heap.size+1 from e])),λk hk=>.inl hk⟩
    have Pk:=Z bX;clear bo Tz bX;go_wp2_with fail;go_roundw
    case rel=>exact ⟨k+1,Y,by go_num,D7,Pk⟩
    case measure=>exact μ
  .obtain rfl:k=n:=Y;have hd:decide ((k:Int)<(k:Int))=false:=θ;have aa7:=(HK.out.blk w.heap.size Y ξ).trans ahH.out;have aa8:Below w.heap.size w wr:=aa5.out.trans (HK.out.below (λq hq=>by rw[List.mem_singleton]at hq;omega) aa5.out.size)
   have hhd:=mr.first (m:=m) (o:=o) (by rw[Vk.out.1,HN.out.1]) (by rw[HN.out.1];exact Vk.out.2) (by rw[HN.out.1];exact h1)
   rw[HN.out.1]at hhd;have Vl:=Z aa7;have ahL:=Z aa8;have HHD:=Z hhd;obtain ⟨W1,rfl⟩:∃W:World,W=wr:=⟨_,rfl⟩;clear aa7 aa8 hhd;go_wp2_with fail
   go_loopg [3,6] (k+2) (λq cv kv wr=>∃(g3 c3 kn:Nat) (cs:List (Option Nat)),cv=.slice (some ⟨g3,0,none⟩) k c3/\kv=.int .i64 (kn:Int)/\q+kn=k+2/\kn<=k/\Hid (OR 3 1 yI (w.heap.size+1) (.slice (some ⟨g3,0,none⟩) k c3) cs wr)/\Hid (mr m cs kn)/\Hid (wr.heap[w.heap.size]?=some (.cells #[.slice Ae k ce,.slice Aa k ca] 93 (0,0)))/\Hid (Below w.heap.size w wr))
   case atStart=>exact ⟨w.heap.size+1,k,0,dI o k k,rfl,rfl,rfl,Nat.zero_le _,HC,HHD,Vl,ahL⟩
   case round=>
    obtain ⟨g3,c3,kn,cs,rfl,rfl,hq,hkn,Pm,HH,Tk,yA⟩:=hrel;obtain ⟨WB,rfl⟩:∃W:World,W=wr:=⟨_,rfl⟩;have sN:=Pm.out.lt1;have aa9:cs.length=k:=by rw[HH.out.len,HN.out.1]
    have hwB:=yA.out.size;have D8:w.heap.size<WB.heap.size:=(γ Tk.out).1;have aba:MN Tryz.prog 9 WB.heap.size 0 (λ_=>none) (WB.alloc (.map #[] 0)):=MN.made _ _ _;have hz0:=qU (WB.alloc (.map #[] 0)) k Y;have abb:(WB.alloc (.map #[] 0)).heap.size=WB.heap.size+1:=ξ;rw[abb]at hz0;have zN:RdR m WB cs (List.replicate k (some 0)) [] (λ_=>none) k 0 ((WB.alloc (.map #[] 0)).alloc (.cells (Array.replicate k (.int .i64 0)) 3)):=
     ⟨aba.kept (aB _ _ _ Y),ug.nil,hz0,iZ.start _ (by simp[HN.out.1]),((Below.refl _ WB).alloc I _).alloc Y _⟩
    have KT:=Z zN;have abc:=Z aa9;clear aba hz0 abb zN aa9;go_wp2_with fail;go_loopw [38] (λiv wr=>∃(j:Nat) (ds:List (Option Nat)) (seen:List (Bool×List Ed)) (F:Lit->Option Value),j<=k/\iv=.int .i64 (j:Int)/\Hid (RdR m WB cs ds seen F k j wr)) (λiv _=>k - (intOf iv).toNat)
    case atStart=>exact ⟨0,_,[],_,Nat.zero_le _,rfl,KT⟩
    case round=>
     obtain ⟨j,ds,seen,F,hj,rfl,HR⟩:=hrel;have hwr:=HR.out.bl.size;have hsl:=HR.out.own.lt1;have Qs:ds.length=k:=by rw[HR.out.ri.len,HN.out.1]
     by_cases hlt:j<k
     .have hd:decide ((j:Int)<(k:Int))=true:=τ;have cX:decide (j<k)=true:=decide_eq_true hlt;have LS:j<m.ed.length:=by rw[HN.out.1];exact hlt
      obtain ⟨Qt,-⟩:=Pm.out.uk j (by rw[abc.out];exact hlt)
      have Qu:=(HR.out.bl.cl g3 j sN).trans Qt;have arf:g3<wr.heap.size:=Y;obtain ⟨dd0,dd1⟩:=HR.out.own.uk j (by rw[Qs];exact hlt)
      have HDL:=Z Qs;clear Qt Qs
      cases bB:cw cs j with
      |none=>
       rw[bB]at Qu;have cc2:wr.cell? ⟨g3,j,none⟩=some (.int .i64 (-1)):=Qu;have bo:=HR.out.own.Qr HDL.out j none;have hne:WB.heap.size≠WB.heap.size+1:=Y;have zU:RdR m WB cs (ds.set j none) seen F k (j+1) (wr.setCell ⟨WB.heap.size+1,j,none⟩ (.int .i64 (-1))):=
        ⟨HR.out.mn.kept (Below.heap_setCell _ _ _ _ hne),HR.out.sy,bo,HR.out.ri.none_ LS bB,HR.out.bl.sc (WB.heap.size+1) j (by show WB.heap.size<=WB.heap.size+1;omega) _⟩
       have rM:=Z zU;clear Qu bB bo zU;go_wp2_with fail;go_roundw
       case rel=>exact ⟨j+1,_,_,_,Y,by go_num,rM⟩
       case measure=>exact μ
      |some cl=>
       rw[bB]at Qu;have cc2:wr.cell? ⟨g3,j,none⟩=some (.int .i64 (cl:Int)):=Qu;have ow:decide ((cl:Int)<0)=false:=θ;have Tw:cw cs j≠none:=by rw[bB];simp
       have HCN:=Z Tw;have BA:=yA.out.trans (HR.out.bl.mono hwB);obtain ⟨ga,fa,rfl,-,Kh,abe⟩:=HA.out.at_ (show j<m.ac.length by rw[HN.out.2];exact hlt)
       obtain ⟨ge,fe,rv0,rfl,-,F9,abf,LU⟩:=HE.out.at_ LS;have ca0:=(χ ga (fa+j) (BA.block ga Kh)).trans abe;have ce0:=(χ ge (fe+j) (BA.block ge F9)).trans abf;have vM:=LU.later BA;obtain ⟨row,hrow⟩:∃r,m.ed[j]=r:=⟨_,rfl⟩;obtain ⟨bb,wu⟩:∃b,m.ac[j]'(by rw[HN.out.2];exact hlt)=b:=⟨_,rfl⟩
       rw[hrow]at vM;rw[wu]at ca0;have jF:row∈m.ed:=by rw[<-hrow];exact List.getElem_mem LS
       have hrM:bE m j=row:=by unfold bE;rw[List.getElem?_eq_getElem LS,hrow];rfl
       have haM:(m.ac[j]?).getD false=bb:=by rw[List.getElem?_eq_getElem (by rw[HN.out.2];exact hlt),wu];rfl
       have abj:zT m cs j=(bb,b7 (cw cs) row):=by unfold zT mq;rw[hrM,haM]
       have Y2:=um (cls:=cw cs) (HV.out.pd row jF) (Kb.out.jo row jF);have Y3:=Z (show ∀e∈row,e.to<cs.length from λe he=>by rw[abc.out,<-HN.out.1];exact HV.out.to row jF e he)
       have po:=Z (Kb.out.jo row jF);have Qv:=Z (show ∀e∈b7 (cw cs) row,e.lo<256/\e.hi<256/\e.to<1000000 from λe he=>by
        obtain ⟨h1,h2,f,hf,h3⟩:=Y2 e he;have:=HH.out.lt _ _ h3;have:=HN.out.1;exact ⟨h1,h2,Y⟩)
       have lA:=Kb.out.rl row jF;have HJL:=Z (show (b7 (cw cs) row).length<=10000 from Nat.le_trans (qX _ _) lA);have qK:=(HR.out.bl.block _ D8).trans Tk.out;obtain ⟨c0,c1⟩:wr.cell? ⟨w.heap.size,0,none⟩=some (.slice (some ⟨ge,fe,none⟩) k ce)/\wr.cell? ⟨w.heap.size,1,none⟩=some (.slice (some ⟨ga,fa,none⟩) k ca):=by
        constructor <;> (rw[cell_of_row _ _ _ _ _ _ qK]; rfl)
       have Vm:w.heap.size<wr.heap.size:=Y;have ahN:ga<wr.heap.size:=Y;have ahO:ge<wr.heap.size:=Y;obtain ⟨Ar,cr,AA,-⟩:=vM.form;obtain ⟨yN,xq⟩:∃n,row.length=n:=⟨_,rfl⟩;rw[xq]at AA lA;subst AA;have LV:eb wr (.slice Ar yN cr) row:=vM;have HED:=Z LV;have BB:=Z ((wC.gq Pm.out).later HR.out.bl);have Vn:=Z (sJ.out.below BA fS);have TA:=Z (H abj bB);have Y4:=Z xq;obtain ⟨W,D9⟩:∃W:World,W=wr:=⟨_,rfl⟩;subst D9;have jH:Below W.heap.size W W.drew:=υ.drew;have HDD:=Z (H dd0 dd1);have HHZ:=Z hz;obtain ⟨NB,D8⟩:∃N,bs (ou bb (b7 (cw cs) row))=N:=⟨_,rfl⟩;have TB:=Z D8;clear D8;clear Qu bB Tw BA Kh abe F9 abf LU vM LV hrow wu jF hrM haM abj Y2 qK dd0 dd1 hmk hmm hz;go_wp2_with fail;refine aQ 13 [] (Vh w.heap.size ga fa k ca ge fe ce j bb (.slice Ar yN cr) (.slice (some ⟨g3,0,none⟩) k c3) cs row NB) (λ_ w'=>Below W.heap.size W w') κ κ κ κ κ κ O jH ?_ ?_
       .simp only[eK,eL];refine ag.pure O ?_ (ag.pure O ?_ (ag.pure O ?_ (ag.pure O ?_ (ag.pure O ?_ (ag.pure O ?_ (ag.pure O ?_ (ag.pure O ?_ (ag.pure O ?_ (ag.pure O ?_ (ag.pure O ?_ (ag.free O ?_ (ag.free O ?_ (ag.nil)))))))))))))
        all_goals first | (with_reducible intro v wz c dy hS hE K hK;simp only[ay,Act.put,gU,gV,gW,Nat.zero_add,Nat.reduceAdd,eK,eL]at hK|-) | (intro v wz hS hE K hK;simp only[ay,Act.put,gU,gV,gW,Nat.zero_add,Nat.reduceAdd,eK,eL]at hK|-)
        .exact ζ
        .have e0:v 0=_:=hE.1 rfl;rw[e0]at hK|-;have bx0:=(hS.cl w.heap.size 0 Vm).trans c0;have bx1:=(hS.cl w.heap.size 1 Vm).trans c1;have lwz:w.heap.size<wz.heap.size:=by have:=hS.size;omega
         exact ζ
        .exact ζ
        .have e1:v 1=_:=hE.1 rfl;have e2:v 2=_:=hE.2.1 rfl;rw[e1,e2]at hK|-;exact ζ
        .have e3:v 3=_:=hE.1 rfl;rw[e3]at hK|-;have ax:=(hS.cl ga (fa+j) ahN).trans ca0;have lwa:ga<wz.heap.size:=by have:=hS.size;omega
         exact ζ
        .exact ζ
        .have e5:v 5=_:=hE.1 rfl;rw[e5]at hK|-;have bx0:=(hS.cl w.heap.size 0 Vm).trans c0;have bx1:=(hS.cl w.heap.size 1 Vm).trans c1;have lwz:w.heap.size<wz.heap.size:=by have:=hS.size;omega
         exact ζ
        .exact ζ
        .have e6:v 6=_:=hE.1 rfl;have e7:v 7=_:=hE.2.1 rfl;rw[e6,e7]at hK|-;exact ζ
        .have e8:v 8=_:=hE.1 rfl;rw[e8]at hK|-;have ex:=(hS.cl ge (fe+j) ahO).trans ce0;have lwe:ge<wz.heap.size:=by have:=hS.size;omega
         exact ζ
        .exact ζ
        .have e9:v 9=_:=hE.1 rfl;have qE:v 10=_:=hE.2.1 rfl;rw[e9,qE]at hK|-;have aK:=uo (.slice Ar yN cr) (.slice (some ⟨g3,0,none⟩) k c3) row cs wz (HED.out.later hS) (BB.out.later hS) Y3.out po.out (by rw[Y4.out];omega)
         have HC:=Z aK;have HX:=Z hS;clear hS hE dy aK;go_wp2_with fail;refine HC.out.mono ?_;rintro e wy ⟨jv,rfl,ho,hb⟩;have vM:=eb.gq ho;obtain ⟨Aj,cj,rfl,-⟩:=vM.form;have LW:=Z (HX.out.trans (hb.mono HX.out.size));have HJ:=Z vM;clear ho hb vM;go_wp2_with fail;refine hK.out _ _ (λj z hj h=>?_) LW.out ⟨Aj,cj,rfl,HJ.out⟩
         match j with
         |0|1|2|3|4|5|6|7|8|9|10=>exact h
         |11=>exact absurd rfl hj
         |12=>exact h
         |_+13=>exact trivial
        .have e4:v 4=_:=hE.1 rfl;rw[e4]at hK|-;have LX:=hE.2.1 rfl;obtain ⟨Aj,cj,wj,hj⟩:=LX;rw[wj]at hK hj|-;have aK:=yO bb _ (b7 (cw cs) row) wz hj Qv.out (by have:=HJL.out;omega) (Vn.out.later hS)
         rw[TB.out]at aK;have HC:=Z aK;have HX:=Z hS;clear hS hE dy aK hj wj;go_wp2_with fail;refine HC.out.mono ?_;rintro e wy ⟨rfl,hb⟩;have LW:=Z (HX.out.trans (hb.mono HX.out.size));have jN:=Z hb;clear hb;go_wp2_with fail;refine hK.out _ _ (λj z hj h=>?_) LW.out rfl
         match j with
         |0|1|2|3|4|5|6|7|8|9|10=>exact h
         |11=>
          obtain ⟨A,c,e,h2⟩:=h;exact ⟨A,c,e,h2.later jN.out⟩
         |12=>exact absurd rfl hj
         |_+13=>exact trivial
       .intro v wz hS hF;have e0:v 0=_:=hF 0 O;have e1:v 1=_:=hF 1 O;have e2:v 2=_:=hF 2 O;have e3:v 3=_:=hF 3 O;have e4:v 4=_:=hF 4 O;have e5:v 5=_:=hF 5 O;have e6:v 6=_:=hF 6 O;have e7:v 7=_:=hF 7 O;have e8:v 8=_:=hF 8 O;have e9:v 9=_:=hF 9 O;have qE:v 10=_:=hF 10 O;have LX:=hF 11 O;have Y5:=hF 12 O;simp only[ay,Act.put,gU,gV,gW,Nat.zero_add,Nat.reduceAdd,eK,eL,List.drop_succ_cons,List.drop_zero,e0,e1,e2,e3,e4,e5,e6,e7,e8,e9,qE];clear hF e0 e1 e2 e3 e4 e5 e6 e7 e8 e9 qE;have tl:v 12=_:=Y5;rw[tl];have hz:=HHZ.out;have hsz:=hS.size;have ahP:WB.heap.size<W.heap.size:=Y;have Kk:MN Tryz.prog 9 WB.heap.size seen.length F wz:=HR.out.mn.kept (hS.block _ ahP);have hoz:=HR.out.own.later hS;have dA:Below WB.heap.size WB wz:=HR.out.bl.trans (hS.mono hwr);obtain ⟨dd0,dd1⟩:=hoz.uk j (by rw[HDL.out];exact hlt)
        have hlz:WB.heap.size+1<wz.heap.size:=Y;obtain ⟨nm,qF⟩:∃x,ou bb (b7 (cw cs) row)=x:=⟨_,rfl⟩;have ju:keyOf Tryz.prog 9 (.string (bs nm))=some (.string nm):=by
         have h1:=qY _ Qv.out;have h2:(boolT bb).length<=5:=by cases bb <;> decide
         have:=WideMaps.keyOf_string_mk (P:=Tryz.prog) (k:=9) Tryz.underlying9 (s:=bs nm) (by rw[df,<-qF];unfold ou;rw[List.length_append];unfold maxLen;have:=HJL.out;omega)
         rwa [Ga]at this
        obtain rfl:NB=bs nm:=by rw[<-TB.out,qF]
        have Pn:=Z qF;have ID:=Z ju;have HMZ:=Z Kk;have HOZ:=Z hoz;have vU:=Z dA;have abk:seen.length<=k:=by
         have h1:=jR (l:=seen) (r:=(List.range j).map (zT m cs)) HR.out.ri.nd (λx hx=>by
          obtain ⟨s,h1,-,h3⟩:=HR.out.ri.YZ x hx;exact List.mem_map.2 ⟨s,List.mem_range.2 h1,h3⟩)
         simp at h1;omega
        clear hS LX Y5 tl Kk hoz dA qF ju;by_cases cY:zT m cs j∈seen
        .have rU:(Instr.lookup 176 (.map (some WB.heap.size)) (.string (bs nm)) true).run Tryz.prog wz=.ok (.tuple #[.int .i64 ((seen.idxOf (zT m cs j):Nat):Int),.bool true]) wz:=by
          have h1:=HMZ.out.mv.look_ok K Tryz.underlying176 hz ID.out trivial;have h2:=HR.out.sy (zT m cs j);rw[TA.out.1]at h2;simp only[Pn.out]at h2;rw[h2,<-TA.out.1,IB,if_pos cY]at h1;exact h1
         obtain ⟨ix,Dj⟩:∃i,seen.idxOf (zT m cs j)=i:=⟨_,rfl⟩;rw[Dj]at rU;have bo:=HOZ.out.Qr HDL.out j (some ix);have zU:RdR m WB cs (ds.set j (some ix)) seen F k (j+1) (wz.setCell ⟨WB.heap.size+1,j,none⟩ (.int .i64 (ix:Int))):=
          ⟨HMZ.out.kept (Below.heap_setCell _ _ _ _ (by show WB.heap.size≠WB.heap.size+1;omega)),HR.out.sy,bo,by rw[<-Dj];exact HR.out.ri.old LS HCN.out cY,vU.out.sc (WB.heap.size+1) j (by show WB.heap.size<=WB.heap.size+1;omega) _⟩
         have rM:=Z zU;have TC:=Z cY;clear Dj bo zU cY;go_wp2_with fail;go_roundw
         case rel=>exact ⟨j+1,_,_,_,Y,by go_num,rM⟩
         case measure=>exact μ
        .have rU:(Instr.lookup 176 (.map (some WB.heap.size)) (.string (bs nm)) true).run Tryz.prog wz=.ok (.tuple #[.int .i64 0,.bool false]) wz:=by
          have h1:=HMZ.out.mv.look_ok K Tryz.underlying176 hz ID.out trivial;have h2:=HR.out.sy (zT m cs j);rw[TA.out.1]at h2;simp only[Pn.out]at h2;rw[h2,<-TA.out.1,IB,if_neg cY]at h1;exact h1
         have O9:F (.string nm)=none:=by
          have h2:=HR.out.sy (zT m cs j);rw[TA.out.1]at h2;simp only[Pn.out]at h2;rw[h2,<-TA.out.1,IB,if_neg cY]
         obtain ⟨sl,Ea⟩:∃n,seen.length=n:=⟨_,rfl⟩;have Kk:=HMZ.out;rw[Ea]at Kk abk;have TC:=Z (H cY Ea);have abl:=Z Kk;have HFN:=Z O9;clear cY Ea Kk O9;go_wp2_with (first
          | (at_len;refine jw rfl _ 176 rfl 9 3 Tryz.underlying176 WB.heap.size sl F rfl abl.out ?_)
          | (at_mapUpdate;refine wD wz rfl _ _ _ 176 rfl 9 3 K Tryz.underlying176 WB.heap.size sl F rfl abl.out (by unfold maxLen;omega) _ _ _ rfl rfl ID.out trivial HFN.out ?_))
         intro wm abm wF;have hzm:=wF.size;have hom:OR 3 1 yI (WB.heap.size+1) (.slice (some ⟨WB.heap.size+1,0,none⟩) k k) ds wm:=OR.keep HOZ.out λg hg=>wF.block g (World.ownsRow.lt HOZ.out g hg).2 (λe=>by
          have:=(World.ownsRow.lt HOZ.out g hg).1;injection e with e;omega)
         obtain ⟨ee0,ee1⟩:=hom.uk j (by rw[HDL.out];exact hlt)
         have hlm:WB.heap.size+1<wm.heap.size:=Y;have bo:=hom.Qr HDL.out j (some sl);have hbm:Below WB.heap.size WB wm:=vU.out.grown wF Y (λq hq=>by injection hq with hq;omega)
         have LY:=HR.out.sy.put (zT m cs j) TC.out.1 (sl:Int) (by rw[TC.out.2])
         rw[TA.out.1]at LY;simp only[Pn.out]at LY;have zV:=HR.out.ri.new LS HCN.out TC.out.1;rw[TC.out.2,TA.out.1]at zV;have zU:RdR m WB cs (ds.set j (some sl)) (seen++[(bb,b7 (cw cs) row)]) (jQ F (.string nm) (some (.int .i64 (sl:Int)))) k (j+1) (wm.setCell ⟨WB.heap.size+1,j,none⟩ (.int .i64 (sl:Int))):=
          ⟨by rw[List.length_append,TC.out.2];exact abm.kept (Below.heap_setCell _ _ _ _ (by show WB.heap.size≠WB.heap.size+1;omega)),LY,bo,zV,hbm.sc (WB.heap.size+1) j (by show WB.heap.size<=WB.heap.size+1;omega) _⟩
         have rM:=Z zU;clear abm wF hom bo hbm LY zV zU dd0 dd1;go_wp2_with fail;go_roundw
         case rel=>exact ⟨j+1,_,_,_,Y,by go_num,rM⟩
         case measure=>exact μ
     .have Y6:j=k:=Y;have hd:decide ((j:Int)<(k:Int))=false:=θ;have HJK:=Z Y6;clear Y6;obtain ⟨sl,Ea⟩:∃n,seen.length=n:=⟨_,rfl⟩;have hmn:=HR.out.mn;rw[Ea]at hmn;have HMN:=Z hmn;have LZ:=Z Ea;have zV:=HR.out.ri;rw[HJK.out,<-HN.out.1]at zV;have HRI:=Z zV;have BA:=yA.out.trans (HR.out.bl.mono hwB);have b8:=Z BA;have qK:=(HR.out.bl.block _ D8).trans Tk.out;have Vl:=Z qK;clear hmn Ea zV BA qK Qs;by_cases he:sl=kn
      .have hde:((sl:Int) == (kn:Int))=true:=ψ;have L3:=Z he;clear he;go_wp2_with (at_len;refine jw rfl _ 176 rfl 9 3 Tryz.underlying176 WB.heap.size sl F rfl HMN.out ?_);refine az λWf bY=>?_;subst bY;refine bodyPost_ret (v:=.slice (some ⟨WB.heap.size+1,0,none⟩) k k) (by simp[results,Tryz.results170,go_sem];try rfl) rfl ?_
       refine ⟨_,ds,rfl,HR.out.own.mono Y,b8.out,?_,HH.out.done HV.out HRI.out (by rw[LZ.out,L3.out]),λs c hc=>?_⟩
       .rw[HR.out.ri.len,HN.out.1]
       .have:=HRI.out.lt_ s c hc;rwa [HN.out.1]at this
      .have hde:((sl:Int) == (kn:Int))=false:=ψ;obtain ⟨uq,mX,Gb⟩:=HH.out.next HV.out HRI.out (by rw[LZ.out];exact he)
       rw[LZ.out]at mX Gb;rw[HN.out.1]at Gb;have HNX:=Z uq;clear uq he;go_wp2_with (at_len;refine jw rfl _ 176 rfl 9 3 Tryz.underlying176 WB.heap.size sl F rfl HMN.out ?_)
       go_roundg (k+2-sl)
       case measure=>omega
       case rel=>exact ⟨WB.heap.size+1,k,sl,ds,rfl,rfl,Y,Y,HR.out.own.mono Y,by have:=HNX.out;rwa [LZ.out]at this,Vl.out,b8.out⟩
end
theorem IW(v:Value)(m:Mc)(w:World)(hm:gH w v m)(hv:pC m)(j9:sF m)(h1:1<=m.ed.length)(jL:dn w):Calls Tryz.prog 139 #[v] w (Nh m w):=
 Nl v m w hm hv j9 h1 λW hb=>Bw v m W (hm.later hb) hv j9 h1 (jL.later hb)
section
open Go.Maps (Keyed)
def iG:Value:=.agg #[.slice none 0 0,.slice none 0 0]
def DA(nd:Nd)(w:World)(e:Ending)(w':World):Prop:=
 Below w.heap.size w w'/\
 ((aR nd≠0/\e=.returned (.tuple #[iG,.int .i64 (aR nd)]))\/
  (aR nd=0/\600<aW nd/\e=.returned (.tuple #[iG,.int .i64 3]))\/
  (aR nd=0/\aW nd<=600/\∃b x gs rows bL i,Wr ⟨[],[]⟩ b x (gN nd)/\b.fol.length=aW nd/\(∀rs∈b.sets,∀r∈rs,r.2<256)/\Eg b x gs rows bL i/\
   ((2000<gs.length/\e=.returned (.tuple #[iG,.int .i64 3]))\/(i=gs.length/\gs.length<=2000/\∃rv m',e=.returned (.tuple #[rv,.int .i64 0])/\iB w.heap.size w' rv m'/\IZ ⟨rows,bL⟩ m'))))
theorem I0{m m':Mc}(h:IZ m m')(w:List Nat):dG m' w 0=dG m w 0:=by
 rcases h.1 with ⟨-,-,h1⟩|⟨h1,rfl⟩
 .exact h1 w
 .have h2:dG m w 0=false:=by
   cases hx:dG m w 0 with
   |false=>rfl
   |true=>exact absurd ⟨w,hx⟩ h1
  rw[h2]
  cases w with
  |nil=>rfl
  |cons c r=>rfl
theorem pQ{w:World}{B n:Nat}{e:TypeId}{v:Value}{xs:List Value}(h:w.ownsRow B e 1 v n xs)(hn:0<n):∃g c,v=.slice (some ⟨g,0,none⟩) n c/\(n<=c/\c<=9223372036854775807)/\v.ownBlock=some g/\g<w.heap.size/\∀i,i<n->w.cell? ⟨g,i,none⟩=xs[i]?:=by
 obtain ⟨A,c,rfl,h1,h2⟩:=ar h;obtain ⟨g,rfl,-,h3,h4⟩:=tD h hn;exact ⟨g,c,rfl,⟨h1,h2⟩,rfl,h3,h4⟩
theorem L7{w0:World}{s mb:Nat}{x2 v2 vs vf:Value}{b:Pb}{rows sv:List Value}{w w':World}(hb:Aw w0 s x2 (.map (some mb)) (.slice none 0 0) b vs vf rows sv w)(hk:aj [s] [] w w')
  (hcs:w'.heap[s]?=some (.cells #[vs,vf,v2,.map (some mb),.slice none 0 0] 182 (0,0))) (hm:MV Tryz.prog 9 mb 0 (λ_=>none) w') (hmB:w0.heap.size<=mb) (hmw:mb<w.heap.size) (h1:0<b.fol.length) (h2:0<b.sets.length) :
  rX w0.heap.size s mb vs vf v2 [] (iH s mb (.slice none 0 0)) w'/\nT w0 (iH s mb (.slice none 0 0)) w' vs b.sets/\Mi (iH s mb (.slice none 0 0)) w' vf b.fol/\Below w0.heap.size w0 w':=by
 have hlt:=hb.lt;have hsl:s<w.heap.size:=(hlt s (by simp[jE])).2
 have bc:=hb.nd;rw[List.nodup_cons]at bc;have j9:s≠mb:=by
  rintro rfl;obtain ⟨D,⟨es,c,q1,-⟩,-⟩:=hm;rw[hcs]at q1;injection q1 with q1
  cases q1
 have VT:∀{B k n:Nat} {e:TypeId} {v:Value} {xs:List Value},w.ownsRow B e k v n xs->v.ownBlock≠some mb:=λ{B k n e v xs} ho hv=>by
  obtain ⟨cs,md,q2⟩:=dk ho mb hv;have q3:=(hk.blk mb hmw (by simp;exact λe=>j9 e.symm)).trans q2
  obtain ⟨D,⟨es,c,q1,-⟩,-⟩:=hm;rw[q3]at q1;injection q1 with q1
  cases q1
 have vP:∀g,g∈iH s mb (.slice none 0 0)↔g=s\/g=mb:=λg=>by simp[iH,blk,Value.ownBlock]
 have Kp:∀g,g≠s->g∉[s]:=λg h hm=>h (List.mem_singleton.1 hm);obtain ⟨gS,cS,rfl,TE,hoS,Vt,L5⟩:=pQ hb.sets h2;obtain ⟨gF,cF,rfl,Vu,hoF,hgF,L6⟩:=pQ hb.fol h1;have nS:gS≠s:=λe=>bc.1 (by rw[<-e];exact List.mem_append_left _ (aI.2 hoS))
 have nF:gF≠s:=λe=>bc.1 (by rw[<-e];exact List.mem_append_right _ (List.mem_append_left _ (aI.2 hoF)))
 have mS:gS≠mb:=λe=>VT hb.sets (by rw[hoS,e])
 have mF:gF≠mb:=λe=>VT hb.fol (by rw[hoF,e])
 refine ⟨⟨.slice none 0 0,[],λ_=>none,rfl,⟨j9,by simp[Value.ownBlock],by simp[Value.ownBlock]⟩,⟨hb.hs,hmB,Nat.le_trans hb.eP.size hk.size⟩,hcs,hm,λl=>rfl,World.ownsRow_nil _ _ _ _,λi hi=>(by cases hi)⟩,?_,?_,?_⟩
 .refine ⟨_,cS,rfl,TE,.inr ⟨gS,rfl,Nat.lt_of_lt_of_le Vt hk.size,λh=>by rcases (vP gS).1 h with h|h;exact nS h;exact mS h,λi hi=>?_⟩⟩
  obtain ⟨v,q1,q2,-⟩:=hb.Ax i hi;refine ⟨v,(χ gS i (hk.blk gS Vt (Kp _ nS))).trans ?_,q2⟩;rw[L5 i hi,q1]
 .refine ⟨gF,cF,rfl,Vu,Nat.lt_of_lt_of_le hgF hk.size,λh=>by rcases (vP gF).1 h with h|h;exact nF h;exact mF h,λi hi=>?_⟩
  obtain ⟨v,q1,q2⟩:=hb.DB i hi;have nv:v.ownBlock≠some s:=λe=>bc.1 (List.mem_append_right _ (List.mem_append_right _ (List.mem_flatMap.2 ⟨v,List.mem_of_getElem? q1,aI.2 e⟩)));have mv:v.ownBlock≠some mb:=VT q2;refine ⟨v,(χ gF i (hk.blk gF hgF (Kp _ nF))).trans ?_,(SL.fO q2).keep (λg hg hm=>nv (by rw[hg,List.mem_singleton.1 hm])) hk,λg hg hm=>?_,λk hv=>Nat.lt_of_lt_of_le (q2.lt k hv).2 hk.size,λn c e=>?_⟩
  .rw[L6 i hi,q1]
  .rcases (vP g).1 hm with h|h
   .exact nv (by rw[hg,h])
   .exact mv (by rw[hg,h])
  .rcases q2.2 with ⟨h3,-⟩|⟨g,cap,cur,h3,-⟩
   .rw[h3]at e;injection e with _ _ e;exact e.symm
   .rw[h3]at e;injection e with e;cases e
 .exact hb.eP.trans ⟨hk.os,hk.tape,hk.output,hk.size,λk bX=>hk.blk k (by have:=hb.eP.size;omega) (λh=>by have:=hb.hs;have:=List.mem_singleton.1 h;omega)⟩
end
section
open Go.Maps (Keyed)
theorem nT.oR{w0:World}{L L':List Nat}{w:World}{v:Value}{sets:List (List (Nat×Nat))}(h:nT w0 L w v sets)(hs:∀k∈L',k∈L):nT w0 L' w v sets:=by
 obtain ⟨A,c,e,hc,h⟩:=h;refine ⟨A,c,e,hc,h.imp id ?_⟩;rintro ⟨g,rfl,hg,hn,hcell⟩;exact ⟨g,rfl,hg,λhm=>hn (hs g hm),hcell⟩
theorem rX.Eh{B s mb:Nat}{v0 v1 v2:Value}{gs:List (List Nat)}{fp:List Nat}{w:World}(h:rX B s mb v0 v1 v2 gs fp w):∃A c,w.cell? ⟨s,4,none⟩=some (.slice A gs.length c)/\(gs.length<=c/\c<=9223372036854775807)/\
  ∀k (hk:k<gs.length),∃g v,A=some ⟨g,0,none⟩/\g<w.heap.size/\w.cell? ⟨g,k,none⟩=some v/\IL w v gs[k]/\aL fp v:=by
 obtain ⟨vg,gv,F,rfl,h⟩:=h;obtain ⟨A,c,rfl,hc⟩:=ar h.own;refine ⟨A,c,by rw[cell_of_row _ _ _ _ _ _ h.cs];rfl,hc,λk hk=>?_⟩
 obtain ⟨g,rfl,-,hg,hcell⟩:=tD h.own Y;obtain ⟨v,h1,h2,h3,-⟩:=h.QM k hk;exact ⟨g,v,rfl,hg,by rw[hcell k hk,h1],h2,h3⟩
def Vp(w0:World)(s mb:Nat)(v0 v1 v2:Value)(b:Pb)(gs:List (List Nat))(fp L:List Nat)(W:World)(x:Value)(w:World):Prop:=
 ∃r row eX fp',ku L r/\(eb w x row/\aL fp' x/\∀g,x.ownBlock=some g->W.heap.size<=g/\g<w.heap.size)/\rX w0.heap.size s mb v0 v1 v2 eX fp' w/\aj fp fp' W w/\eu b r eX row 256/\my b r gs eX/\eX.length<=gs.length+257
theorem Vp.later{w0:World}{s mb:Nat}{v0 v1 v2:Value}{b:Pb}{gs:List (List Nat)}{fp L:List Nat}{W:World}{x:Value}{w w':World}(h:Vp w0 s mb v0 v1 v2 b gs fp L W x w)(hb:Below w.heap.size w w'):Vp w0 s mb v0 v1 v2 b gs fp L W x w':=by
 obtain ⟨r,row,eX,fp',h1,⟨h2,h3,h4⟩,h5,h6,h7,h8,h9⟩:=h;exact ⟨r,row,eX,fp',h1,⟨h2.later hb,h3,λg hg=>⟨(h4 g hg).1,Nat.lt_of_lt_of_le (h4 g hg).2 hb.size⟩⟩,h5.later hb,h6.trans (aj.aa hb),h7,h8,h9⟩
structure CpL (w0:World) (s mb:Nat) (v0 v1 v2:Value) (b:Pb) (x:dC) (P:Nat) (vx vy:Value) (N i:Nat) (gs:List (List Nat)) (fp:List Nat) (rs:List (List Ed)) (bL:List Bool) (vE vA:Value) (gv:List Value) (wr:World):Prop where
 sb:rX w0.heap.size s mb v0 v1 v2 gs fp wr
 ma:iI w0.heap.size N fp vE vA gv rs bL wr
 cp:QB w0 (fp++lG N vE vA) v0 v1 v2 b x P vx vy wr
 ci:Eg b x gs rs bL i
 bl:Below w0.heap.size w0 wr
theorem Gj{w0 W w6 w7:World}{s mb P N i:Nat}{v0 v1 v2 vx vy vE vA px rv:Value}{b:Pb}{x:dC}{gs:List (List Nat)}{fp L:List Nat}{rs:List (List Ed)}{VU bL:List Bool}{gv:List Value}
  (hma:iI w0.heap.size N fp vE vA gv rs bL W) (Zi:QB w0 (fp++lG N vE vA) v0 v1 v2 b x P vx vy W) (vV:Eg b x gs rs VU i) (pg:if i=0 then bL=VU else ∃a,bL=VU++[a]/\(a=true↔∃p∈(gs[i]?).getD [],p∈x.last))
  (hi:i<gs.length) (gO:Below w0.heap.size w0 W) (hL:∀p,p∈L↔nQ b x gs i p) (hLb:∀p∈L,p<b.sets.length)
  (hE:Vp w0 s mb v0 v1 v2 b gs fp L W rv w6) (hg:w6.grownBy w7 vE.ownBlock) (ho:w7.ownsRow w0.heap.size 187 1 px (rs.length+1) (gv++[rv])) (hf:di px vE w6.heap.size) (vP:∀k∈fp,w0.heap.size<=k) :
  ∃row eX fp',CpL w0 s mb v0 v1 v2 b x P vx vy N (i+1) eX fp' (rs++[row]) bL px vA (gv++[rv]) (w7.setCell ⟨N,0,none⟩ px)/\eX.length<=gs.length+257:=by
 obtain ⟨r,row,eX,fp',h1,⟨h2,h3,h4⟩,h5,h6,h7,h8,h9⟩:=hE;have hlt:=hma.lt;have IJ:=hma.keep h6;have aiJ:=h5.lt;have FR:=gO.size;obtain ⟨q1,q2⟩:=IJ.lQ (λk hk=>(aiJ k hk).2) h2 (λg hg hm=>by have:=(h4 g hg).1;have:=(hlt g hm).2;omega) h3 (λg hg=>⟨by have:=(h4 g hg).1;omega,(h4 g hg).2⟩) ho hg hf
 refine ⟨row,eX,fp',⟨h5.apart q2 (λk hk=>IJ.out k hk) IJ.types,q1,(Zi.keep (h6.aiI _)).keep (q2.ab0 _),vV.step hi (λp=>(h1.2 p).trans (hL p)) h1.1 (λp hp=>hLb p ((h1.2 p).1 hp)) h8 h7 pg,?_⟩,h9⟩;exact (gO.trans (h6.below vP FR)).trans (q2.below (λk hk=>(hlt k hk).1) (by have:=h6.size;omega))
theorem Qw.later{w0:World}{s:Nat}{x2 x3 x4:Value}{b:Pb}{fp:List Nat}{Lg:LA}{n K:Nat}{w:World}{e:Ending}{w' w'':World}(h:Qw w0 s x2 x3 x4 b fp Lg n K w e w')(hb:Below w'.heap.size w' w''):Qw w0 s x2 x3 x4 b fp Lg n K w e w'':=by
 obtain ⟨b',x,fp',v1,v2,h1,h2,h3,⟨h4,h5⟩,⟨h6,h7⟩,h8⟩:=h;have hk:=aj.aa (fp:=fp') hb;exact ⟨b',x,fp',v1,v2,h1,h2.later hb,h3.trans hk,h4.keep h5 hk,h6.keep h7 hk,h8⟩
theorem pq.pP{w0:World}{s:Nat}{x2 x3 x4:Value}{b:Pb}{fp:List Nat}{w:World}(h:pq w0 s x2 x3 x4 b fp w){g:Nat}{cs:Array Value}{m:Nat×Nat}(hg:w.heap[g]?=some (.cells cs 184 m)):g∉fp:=by
 obtain ⟨vs,vf,rows,sv,rfl,h⟩:=h;intro hm;unfold jE at hm;have key:∀{cs':Array Value} {e:TypeId} {m':Nat×Nat},w.heap[g]?=some (.cells cs' e m')->e≠184->False:=λ{cs' e m'} h1 hne=>by
  rw[hg]at h1;injection h1 with h1;injection h1 with _ h2 _;exact hne h2.symm
 rcases List.mem_cons.1 hm with rfl|hm
 .exact key h.cs O
 .rcases List.mem_append.1 hm with hm|hm
  .obtain ⟨cs',m',h1⟩:=dk h.sets g (aI.1 hm);exact key h1 O
  .rcases List.mem_append.1 hm with hm|hm
   .obtain ⟨cs',m',h1⟩:=dk h.fol g (aI.1 hm);exact key h1 O
   .obtain ⟨v,hv,Bb⟩:=List.mem_flatMap.1 hm;obtain ⟨i,hi,he⟩:=List.getElem_of_mem hv;have lA:rows.length=b.fol.length:=by have:=h.fol.1;omega
    obtain ⟨v',h1,h2⟩:=h.DB i Y;rw[List.getElem?_eq_getElem hi,he]at h1;obtain rfl:=Option.some.inj h1;obtain ⟨cs',m',h3⟩:=dk h2 g (aI.1 Bb);exact key h3 O
theorem BD{w:World}{B B' k n:Nat}{e:TypeId}{v:Value}{xs:List Value}(h:w.ownsRow B e k v n xs)(hB:B'<=B):w.ownsRow B' e k v n xs:=
 ⟨h.1,h.2.imp id λ⟨g,cap,cur,h1,h2,h3⟩=>⟨g,cap,cur,h1,Nat.le_trans hB h2,h3⟩⟩
def jT(last:List Nat)(n k:Nat):List Bool:=(List.range n).map λp=>decide (p∈last.take k)
theorem Ee(last:List Nat)(n:Nat):jT last n 0=List.replicate n false:=by
 unfold jT;rw[List.eq_replicate_iff];refine ⟨ξ,λx hx=>?_⟩;obtain ⟨p,-,rfl⟩:=List.mem_map.1 hx;simp
theorem nh(last:List Nat)(n k:Nat):(jT last n k).length=n:=by simp[jT]
theorem mZ(last:List Nat){n p:Nat}(k:Nat)(h:p<n):(jT last n k)[p]?=some (decide (p∈last.take k)):=by
 unfold jT;rw[List.getElem?_map,List.getElem?_range h];rfl
theorem Ef{last:List Nat}{n k:Nat}(hk:k<last.length):(jT last n k).set last[k] true=jT last n (k+1):=by
 apply List.ext_getElem?;intro p;by_cases hp:p<n
 .rw[mZ last (k+1) hp,List.getElem?_set,List.take_succ_eq_append_getElem hk];by_cases e:last[k]=p
  .rw[if_pos e,if_pos (by rw[nh,e];exact hp)]
   simp[e]
  .rw[if_neg e,mZ last k hp]
   congr 1
   rw[decide_eq_decide,List.mem_append,List.mem_singleton];exact ⟨.inl,λh=>h.resolve_right λe2=>e e2.symm⟩
 .rw[List.getElem?_eq_none (by rw[List.length_set,nh];omega),List.getElem?_eq_none (by rw[nh];omega)]
theorem qZ(w:World)(n:Nat)(hn:n<=1000000):OR 4 1 bC w.heap.size (.slice (some ⟨w.heap.size,0,none⟩) n n) (List.replicate n false) (w.alloc (.cells (Array.replicate n (.bool false)) 4)):=by
 have hrow:bF bC (List.replicate n false)=List.replicate n (.bool false):=by
  unfold bF
  induction n with
  |zero=>rfl
  |succ n ih=>rw[List.replicate_succ,List.map_cons,List.flatten_cons,ih Y,List.replicate_succ];rfl
 refine ⟨by rw[hrow];simp,.inr ⟨w.heap.size,n,Array.replicate n (.bool false),ξ,I,heap_alloc_new w _,ξ,by unfold maxLen;omega,ξ,?_⟩⟩
 rw[hrow,List.length_replicate];simp
def jU(b:Pb)(g:List Nat):List Nat:=g.flatMap λp=>dp b p
theorem IP(b:Pb)(g:List Nat)(p:Nat):jU b (g++[p])=jU b g++dp b p:=by unfold jU;simp
theorem BG{b:Pb}{g:List Nat}{p:Nat}:p∈jU b g↔∃q∈g,p∈dp b q:=by unfold jU;exact List.mem_flatMap
theorem BF{b:Pb}{K:Nat}(hK:∀l∈b.fol,l.length<=K):∀g:List Nat,(jU b g).length<=g.length*K
 | []=>by simp[jU]
 |p::r=>by
  have ih:=BF hK r;have h1:(dp b p).length<=K:=by
   unfold dp
   cases h:b.fol[p]? with
   |none=>simp
   |some l=>exact hK l (List.mem_of_getElem? h)
  unfold jU at ih|-;rw[List.flatMap_cons,List.length_append,List.length_cons,Nat.succ_mul];omega
end
section
open Go.Maps (Keyed)
theorem pH(n:Nat)(hn:n<=1000000)(w:World):(Instr.makeSlice 70 (.int .i64 (n:Int)) (.int .i64 (n:Int))).run Tryz.prog w=.ok (.slice (some ⟨w.heap.size,0,none⟩) n n) (w.alloc (.cells (Array.replicate n (.bool false)) 4)):=by
 obtain ⟨i0,hi,hz0,hz1,hz2⟩:=info_parts mY;have h:=run_makeSlice (P:=Tryz.prog) (w:=w) 70 4 i0 (.bool false) Tryz.underlying70 hi hz0 .i64 .i64 (n:Int) (n:Int) Y (Int.le_refl _) (by rw[hz1];omega) (by rw[hz2];omega) Y
 rw[hz1,Int.toNat_natCast]at h;rw[show madeCells (Value.bool false).cells (n*1)=Array.replicate n (.bool false) from Array.toList_inj.1 (by
  simp only[madeCells,Value.cells,Nat.mul_one,Array.toList_map,Array.toList_range,Array.toList_replicate];rw[List.eq_replicate_iff];refine ⟨ξ,λx hx=>?_⟩;obtain ⟨i,-,rfl⟩:=List.mem_map.1 hx;simp[Nat.mod_one])]at h
 exact h
def abp(s:Nat)(W:World)(c:Nat)(w':World):Prop:=Below s W w'/\(c=0->Below W.heap.size W w')
def Vo(w0:World)(s:Nat)(x2 x3 x4:Value)(Lg:LA)(pk KK:Nat)(W:World)(kv:Value):Nat->Nat->Value->World->Prop
 |c,0,x,w=>x=.pointer (some ⟨s,0,none⟩)
 |c,1,x,w=>x=.pointer (some ⟨s,0,none⟩)
 |c,2,x,w=>x=.pointer (some ⟨s,0,none⟩)
 |c,3,x,w=>x=kv
 |c,4,x,w=>c=1->Qw w0 s x2 x3 x4 ⟨[],[]⟩ [s] Lg pk KK W (.returned x) w
 |c,5,x,w=>∃g,x=.pointer (some ⟨g,0,none⟩)/\W.heap.size<=g/\g<w.heap.size/\w.heap[g]?=some (.cells #[.slice none 0 0,.slice none 0 0,.bool false] 184 (0,0))
 |_,_,_,_=>True
def Gc(N:Nat)(W:World)(c:Nat)(w':World):Prop:=W.heap.size<=w'.heap.size/\w'.heap[N]?=W.heap[N]?/\(c<=1->Below W.heap.size W w')
def Gd(w0:World)(s mb:Nat)(v0 v1 v2:Value)(b:Pb)(gs:List (List Nat))(fp L:List Nat)(N i cE nL cL:Nat)(AE AL:Option Addr)(gv:List Value)(W:World):Nat->Nat->Value->World->Prop
 |c,0,x,w=>x=.pointer (some ⟨N,0,none⟩)
 |c,1,x,w=>x=.slice AE i cE
 |c,2,x,w=>x=.pointer (some ⟨s,0,none⟩)
 |c,3,x,w=>x=.slice AL nL cL
 |c,4,x,w=>c=1->∃A r c',x=.slice A r.length c'/\ku L r/\w.ownsRow W.heap.size 3 1 x r.length (bV r)/\IL w x r
 |c,5,x,w=>c=2->Vp w0 s mb v0 v1 v2 b gs fp L W x w
 |c,6,x,w=>c=3->∃g rv,x=.slice (some ⟨g,0,none⟩) 1 1/\W.heap.size<=g/\g<w.heap.size/\w.cell? ⟨g,0,none⟩=some rv/\rv.oneCell'=true/\Vp w0 s mb v0 v1 v2 b gs fp L W rv w
 |c,7,x,w=>c=4->∃rv w6 A c',x=.slice A (i+1) c'/\Vp w0 s mb v0 v1 v2 b gs fp L W rv w6/\w6.grownBy w (Value.slice AE i cE).ownBlock/\w.ownsRow w0.heap.size 187 1 x (i+1) (gv++[rv])/\di x (.slice AE i cE) w6.heap.size
 |c,8,x,w=>x=.pointer (some ⟨N,0,none⟩)
 |_,_,_,_=>True
theorem rV(nd:Nd)(vs:List Value)(w:World)(hn:bT w nd vs)(jL:dn w):Calls Tryz.prog 109 #[.agg vs.toArray] w (DA nd w):=by
 have HV:=Z (λW (hW:Below w.heap.size w W)=>jS nd vs W (hn.later hW));have HP:=Z (λW (hW:Below w.heap.size w W) (h:au nd<=200) (hR:aA nd=true)=>wG _ nd vs W I h hR (hn.later hW));have HW:=Z (λ(W:World) (s:Nat) (x2 x3 x4:Value) (hW:Below w.heap.size w W) (hR:aA nd=true) (hp:aW nd<=600)=>IE W s x2 x3 x4 _ nd vs I hR hp (hn.later hW));have sJ:=Z jL;have hmm:=@run_makeMap Tryz.prog;obtain ⟨ie,rJ,he0,he1,TD⟩:=info_parts Ge;obtain ⟨ib,oL,hb0,hb1,aJ⟩:=info_parts mY;obtain ⟨ii,Y7,Gf,tv,pJ⟩:=info_parts gp;obtain ⟨A1,c1,A2,c2,rfl,hr,qD,hk⟩:=hn.form;have HB:=Z (show Below w.heap.size w ((w.alloc (.cells #[.int .i64 nd.op,.slice A1 nd.rs.length c1,.slice A2 nd.kids.length c2,.int .i64 nd.mn,.int .i64 nd.mx] 41)).alloc (.cells #[.slice none 0 0,.slice none 0 0] 93)) from (υ.alloc I _).alloc ξ _);have Y8:=Z (show ((w.alloc (.cells #[.int .i64 nd.op,.slice A1 nd.rs.length c1,.slice A2 nd.kids.length c2,.int .i64 nd.mn,.int .i64 nd.mx] 41)).alloc (.cells #[.slice none 0 0,.slice none 0 0] 93)).heap[w.heap.size]?=some (.cells #[.int .i64 nd.op,.slice A1 nd.rs.length c1,.slice A2 nd.kids.length c2,.int .i64 nd.mn,.int .i64 nd.mx] 41 (0,0)) from (aB _ _ _ ξ).trans (heap_alloc_new w _));have IG:=Z (show ((w.alloc (.cells #[.int .i64 nd.op,.slice A1 nd.rs.length c1,.slice A2 nd.kids.length c2,.int .i64 nd.mn,.int .i64 nd.mx] 41)).alloc (.cells #[.slice none 0 0,.slice none 0 0] 93)).heap[w.heap.size+1]?=some (.cells #[.slice none 0 0,.slice none 0 0] 93 (0,0)) from by simpa using heap_alloc_new (w.alloc _) (.cells #[.slice none 0 0,.slice none 0 0] 93))
 clear hr hk hn jL
 go_enter Tryz.func109,Tryz.ntmps109
 go_wp2_with fail;refine (HV.out _ HB.out).mono ?_;rintro e w1 ⟨rfl,hb1⟩;have hz1:=hb1.size;simp only[World.size_alloc]at hz1;have lC:=Z (show Below w.heap.size w w1 from HB.out.trans (hb1.mono HB.out.size));have tC:=(hb1.block w.heap.size ψ).trans Y8.out;have jt:=(hb1.block (w.heap.size+1) ξ).trans IG.out;obtain ⟨n0,n1,n2,n3,n4⟩:=aw tC;obtain ⟨r0,r1⟩:w1.cell? ⟨w.heap.size+1,0,none⟩=some (.slice none 0 0)/\w1.cell? ⟨w.heap.size+1,1,none⟩=some (.slice none 0 0):=by constructor <;> (rw[cell_of_row _ _ _ _ _ _ jt]; rfl)
 have f0:w1.frozen? ⟨w.heap.size+1,0,none⟩=false:=by simp[World.frozen?,jt]
 have f1:w1.frozen? ⟨w.heap.size+1,1,none⟩=false:=by simp[World.frozen?,jt]
 have lR:w.heap.size+1<w1.heap.size:=(γ jt).1;have HY0:=Z tC;have HY1:=Z jt;obtain ⟨q,hq⟩:=ν (aR nd);rw[hq];clear tC jt hb1;by_cases rN:q=0
 case neg=>
  have d1:(q != 0)=true:=by simpa using rN
  have HQ:=Z (H hq rN);clear hq rN;go_wp2_with fail;refine az λWf bY=>?_;refine bodyPost_ret (v:=.tuple #[iG,.int .i64 q]) (by rw[bY];simp[results,Tryz.results109,go_sem,r0,r1,lR,iG];try rfl) rfl ?_
  refine ⟨?_,.inl ⟨by rw[HQ.out.1];exact HQ.out.2,by rw[HQ.out.1]⟩⟩
  rw[bY];exact (lC.out.sc (w.heap.size+1) 0 (by show w.heap.size<=w.heap.size+1;omega) _).sc (w.heap.size+1) 1 (by show w.heap.size<=w.heap.size+1;omega) _
 case pos=>
 subst rN;have d1:((0:Int) != 0)=false:=rfl;obtain ⟨kB,hdp,hR,abr⟩:=iE hq;have HQ:=Z (H hq (H hR kB));clear hq hdp hR abr kB;go_wp2_with fail;refine (HP.out _ lC.out HQ.out.2.2 HQ.out.2.1).mono ?_;rintro e w2 ⟨rfl,aJ⟩;have hz2:=aJ.size;have wH:=Z (lC.out.trans (aJ.mono lC.out.size));have tC:=(aJ.block w.heap.size Y).trans HY0.out;have jt:=(aJ.block (w.heap.size+1) lR).trans HY1.out;clear n0 n1 n2 n3 n4 r0 r1 f0 f1;obtain ⟨n0,n1,n2,n3,n4⟩:=aw tC;obtain ⟨r0,r1⟩:w2.cell? ⟨w.heap.size+1,0,none⟩=some (.slice none 0 0)/\w2.cell? ⟨w.heap.size+1,1,none⟩=some (.slice none 0 0):=by constructor <;> (rw[cell_of_row _ _ _ _ _ _ jt]; rfl)
 have f0:w2.frozen? ⟨w.heap.size+1,0,none⟩=false:=by simp[World.frozen?,jt]
 have f1:w2.frozen? ⟨w.heap.size+1,1,none⟩=false:=by simp[World.frozen?,jt]
 have lR2:w.heap.size+1<w2.heap.size:=Y;have HZ0:=Z tC;have Qx:=Z jt;obtain ⟨pn,xr⟩:∃p,aW nd=p:=⟨_,rfl⟩;rw[xr];clear tC jt aJ;by_cases hp6:600<pn
 .have d2:decide (600<(pn:Int))=true:=τ;have HPN:=Z (H xr hp6);clear xr hp6;go_wp2_with fail;refine az λWf bY=>?_;refine bodyPost_ret (v:=.tuple #[iG,.int .i64 3]) (by rw[bY];simp[results,Tryz.results109,go_sem,r0,r1,lR2,iG];try rfl) rfl ?_
  refine ⟨?_,.inr (.inl ⟨HQ.out.1,by rw[HPN.out.1];exact HPN.out.2,rfl⟩)⟩
  rw[bY];exact (wH.out.sc (w.heap.size+1) 0 (by show w.heap.size<=w.heap.size+1;omega) _).sc (w.heap.size+1) 1 (by show w.heap.size<=w.heap.size+1;omega) _
 .have d2:decide (600<(pn:Int))=false:=θ;have jf:aW nd<=600/\eU nd<=10000000000:=by
   refine ⟨Y,?_⟩;have h1:=Vq _ nd I HQ.out.2.1 Y;have h2:bP nd<=20:=(iE HQ.out.1).2.1;have h3:bP nd*aW nd<=20*600:=Nat.mul_le_mul h2 Y;omega
  have fJ:=Z jf;have Vr:=Z (HW.out w2 (w2.heap.size+1) (.slice none 0 0) (.map (some w2.heap.size)) (.slice none 0 0) wH.out HQ.out.2.1 jf.1);have HPN:=Z xr;have Y9:=Z (MV.made Tryz.prog 9 w2);clear xr jf;go_wp2_with fail;refine dB λW hW=>?_;have rL:W.heap.size=w2.heap.size+2:=by rw[hW];simp
  have eY:Below w2.heap.size w2 W:=by rw[hW];exact (υ.alloc I _).alloc ξ _
  have DS:W.heap[w2.heap.size+1]?=some (.cells #[.slice none 0 0,.slice none 0 0,.slice none 0 0,.map (some w2.heap.size),.slice none 0 0] 182 (0,0)):=by rw[hW];simpa using heap_alloc_new (w2.alloc (.map #[] 0)) (.cells #[.slice none 0 0,.slice none 0 0,.slice none 0 0,.map (some w2.heap.size),.slice none 0 0] 182)
  have hmW:MV Tryz.prog 9 w2.heap.size 0 (λ_=>none) W:=by rw[hW];exact Y9.out.kept (aB _ _ _ ξ)
  have oN:pq w2 (w2.heap.size+1) (.slice none 0 0) (.map (some w2.heap.size)) (.slice none 0 0) ⟨[],[]⟩ [w2.heap.size+1] W:=
   ⟨.slice none 0 0,.slice none 0 0,[],[],rfl,⟨by simp[blk,Value.ownBlock],Y,DS,World.ownsRow_nil _ _ _ _,λi hi=>(by cases hi),World.ownsRow_nil _ _ _ _,λi hi=>(by cases hi),eY⟩⟩
  have O7:=Z oN;have Eb:=Z hmW;have b8:=Z eY;have lnd:w.heap.size<w2.heap.size+1:=Y;have m0:=(eY.cl w.heap.size 0 (by show w.heap.size<w2.heap.size;omega)).trans n0
  have m1:=(eY.cl w.heap.size 1 (by show w.heap.size<w2.heap.size;omega)).trans n1
  have m2:=(eY.cl w.heap.size 2 (by show w.heap.size<w2.heap.size;omega)).trans n2
  have m3:=(eY.cl w.heap.size 3 (by show w.heap.size<w2.heap.size;omega)).trans n3
  have m4:=(eY.cl w.heap.size 4 (by show w.heap.size<w2.heap.size;omega)).trans n4
  have jH:abp (w2.heap.size+1) W 0 W.drew:=⟨υ.drew,λ_=>υ.drew⟩;clear hW eY DS hmW oN n0 n1 n2 n3 n4 r0 r1 f0 f1;refine aQ 6 [4] (Vo w2 (w2.heap.size+1) (.slice none 0 0) (.map (some w2.heap.size)) (.slice none 0 0) (gN nd) (aW nd) (eU nd) W (.agg #[.int .i64 nd.op,.slice A1 nd.rs.length c1,.slice A2 nd.kids.length c2,.int .i64 nd.mn,.int .i64 nd.mx])) (λc w'=>abp (w2.heap.size+1) W c w') κ κ κ κ κ κ O jH ?_ ?_
  .simp only[eK,eL];refine ag.pure O ?_ (ag.pure O ?_ (ag.pure O ?_ (ag.pure O ?_ (ag.ur 0 rfl ?_ (ag.free O ?_ (ag.nil))))))
   all_goals first | (with_reducible intro v wz c dy hS hE K hK;simp only[ay,Act.put,gU,gV,gW,Nat.zero_add,Nat.reduceAdd,eK,eL]at hK|-) | (intro v wz hS hE K hK;simp only[ay,Act.put,gU,gV,gW,Nat.zero_add,Nat.reduceAdd,eK,eL]at hK|-)
   .exact ζ
   .have e0:v 0=_:=hE.1 rfl;rw[e0]at hK|-;exact ζ
   .have e1:v 1=_:=hE.1 rfl;rw[e1]at hK|-;exact ζ
   .have b0z:=(hS.1.cl w.heap.size 0 lnd).trans m0;have b1z:=(hS.1.cl w.heap.size 1 lnd).trans m1;have b2z:=(hS.1.cl w.heap.size 2 lnd).trans m2;have b3z:=(hS.1.cl w.heap.size 3 lnd).trans m3;have b4z:=(hS.1.cl w.heap.size 4 lnd).trans m4;have l1:w.heap.size<wz.heap.size:=by have:=hS.1.size;omega
    exact ζ
   .have e2:v 2=_:=hE.1 rfl;have e3:v 3=_:=hE.2.1 rfl;rw[e2,e3]at hK|-;have hz:=hS.2 rfl;have aK:=Vr.out wz ⟨[],[]⟩ [w2.heap.size+1] 0 (O7.out.later hz) rfl (by have:=fJ.out.1;show 0+_<=_;omega) (λl hl=>by cases hl) (by have:=fJ.out.2;omega)
    have HC:=Z aK;have HX:=Z hS;clear hS hE aK hz;go_wp2_with fail;refine HC.out.mono ?_;rintro e wy ⟨b',y,fp',v1,v2,rfl,hb',hk',iW,eS,hw',iV,dW,eV,hK'⟩;have HP:=Z (H hb' (H hk' (H iW (H eS (H hw' (H iV (H dW (H eV hK'))))))));clear hb' hk' iW eS hw' iV dW eV hK';go_wp2_with fail;refine hK.out _ _ (λj z hj h=>?_) ⟨HX.out.1.trans (HP.out.2.1.below (λk hk=>by rw[List.mem_singleton]at hk;omega) (by have:=HX.out.1.size;omega)),λh=>by cases h⟩ (λ_=>⟨b',y,fp',v1,v2,rfl,HP.out.1,(aj.aa (HX.out.2 rfl)).trans HP.out.2.1,HP.out.2.2.1,HP.out.2.2.2.1,HP.out.2.2.2.2.1,HP.out.2.2.2.2.2.1,HP.out.2.2.2.2.2.2.1,HP.out.2.2.2.2.2.2.2.1,λl hl=>by have:=HP.out.2.2.2.2.2.2.2.2 l hl;omega⟩)
    match j with
    |0|1|2|3=>exact h
    |4=>exact absurd rfl hj
    |5=>
     obtain ⟨g,e,h1,h2,h3⟩:=h;exact ⟨g,e,h1,Nat.lt_of_lt_of_le h2 HP.out.2.1.size,(HP.out.2.1.blk g h2 (by rw[List.mem_singleton];omega)).trans h3⟩
    |_+6=>exact trivial
   .have dA:Below wz.heap.size wz (wz.alloc (.cells #[.slice none 0 0,.slice none 0 0,.bool false] 184)):=υ.alloc I _;have rL:=hS.1.size;have dL:Below (w2.heap.size+1) W (wz.alloc (.cells #[.slice none 0 0,.slice none 0 0,.bool false] 184)):=hS.1.alloc Y _;have hb0:c=0->Below W.heap.size W (wz.alloc (.cells #[.slice none 0 0,.slice none 0 0,.bool false] 184)):=λhc=>(hS.2 hc).alloc rL _;have HX:=Z (H dL hb0);have vU:=Z dA;clear hS hE dy dA dL hb0;go_wp2_with fail;refine hK.out _ _ (λj z hj h=>?_) HX.out ⟨wz.heap.size,rfl,rL,ξ,by simpa using heap_alloc_new wz (.cells #[.slice none 0 0,.slice none 0 0,.bool false] 184)⟩
    match j with
    |0|1|2|3=>exact h
    |4=>exact λhc=>(h hc).later vU.out
    |5=>exact absurd rfl hj
    |_+6=>exact trivial
  .intro v wz hS hF;have e0:v 0=_:=hF 0 O;have e1:v 1=_:=hF 1 O;have e2:v 2=_:=hF 2 O;have e3:v 3=_:=hF 3 O;have E4:=hF 4 O;have E5:=hF 5 O;simp only[ay,Act.put,gU,gV,gW,Nat.zero_add,Nat.reduceAdd,eK,eL,List.drop_succ_cons,List.drop_zero,e0,e1,e2,e3];clear hF e0 e1 e2 e3;obtain ⟨wZ,rfl⟩:∃W:World,W=wz:=⟨_,rfl⟩;obtain ⟨gP,e5,arv,arw,Ec⟩:=E5;obtain ⟨b,x,fp,v1,v2,ev,abv,ox,⟨iW,yM⟩,⟨eS,sM⟩,hwr,qG,abw,zQ,hK⟩:=E4 rfl;injection ev with ev;rw[ev,e5];have hgn:gP∉fp:=abv.pP Ec;obtain ⟨B1,Dn,rfl,hd1⟩:=iW.form;obtain ⟨B2,Qy,rfl,kc⟩:=eS.form;obtain ⟨vs,vf,rows,sv,vP,dL⟩:=abv;obtain ⟨dN,L4⟩:∃n,b.fol.length=n:=⟨_,rfl⟩;have hsl:b.sets.length=dN:=by rw[hwr.len,L4]
   have aby:dN=aW nd:=by rw[<-L4,qG];show 0+_=_;omega
   have Qz:=Gg _ nd I HQ.out.2.1;have wI:dN<=600:=by have:=fJ.out.1;omega
   have uu:=dL.sets;have uv:=dL.fol;rw[hsl]at uu;rw[L4]at uv;obtain ⟨gS,cS,rfl,TE,hoS,Vt,L5⟩:=pQ uu Y;obtain ⟨gF,cF,rfl,Vu,hoF,hgF,L6⟩:=pQ uv Y;obtain ⟨z0,z1,z2⟩:=cells3 Ec;have y0:wZ.frozen? ⟨gP,0,none⟩=false:=by simp[World.frozen?,Ec]
   have y1:wZ.frozen? ⟨gP,1,none⟩=false:=by simp[World.frozen?,Ec]
   have y2:wZ.frozen? ⟨gP,2,none⟩=false:=by simp[World.frozen?,Ec]
   obtain ⟨s0,s1,s2,s3,s4⟩:=aw dL.cs;have t2:wZ.frozen? ⟨w2.heap.size+1,2,none⟩=false:=by simp[World.frozen?,dL.cs]
   have lsz:w2.heap.size+1<wZ.heap.size:=(γ dL.cs).1;have ne1:¬gP=w2.heap.size+1:=Y;have ne2:¬w2.heap.size+1=gP:=Y;have arx:w2.heap.size+1<wZ.heap.size+1:=Y;have ary:gP<wZ.heap.size+1:=Y;have hmk:=pH dN Y;obtain ⟨nl,kr⟩:∃n,x.last.length=n:=⟨_,rfl⟩;rw[kr];obtain ⟨nf,Le⟩:∃n,x.first.length=n:=⟨_,rfl⟩;rw[Le];obtain ⟨ee,hee⟩:∃e,x.emp=e:=⟨_,rfl⟩;rw[hee];have arz:nl<=600/\nf<=600:=by have:=fJ.out.1;have:=zQ.1;have:=zQ.2;omega
   have xj:=Z (H dL (H hwr (H abw zQ)));have QA:=Z (H iW yM);have qB:=Z (H eS sM);have YO:=Z (H ox hgn);have HN:=Z (H L4 (H hsl (H aby (H kr (H Le (H hee vP))))));have Za:=Z hK;have To:=Z hS;have HP3:=Z Ec;clear dL hwr abw zQ iW yM eS sM ox hgn L4 hsl aby kr Le hee vP hK hS Ec ev e5 E4 qG uu uv;go_wp2_with fail;refine dB λW9 qT=>?_;have F9:W9.heap[wZ.heap.size]?=some (.cells (Array.replicate dN (.bool false)) 4 (0,0)):=by
    rw[qT];have h1:=heap_alloc_new ((((wZ.setCell ⟨gP,0,none⟩ (.slice B1 nf Dn)).setCell ⟨gP,1,none⟩ (.slice B2 nl Qy)).setCell ⟨gP,2,none⟩ (.bool ee)).setCell ⟨w2.heap.size+1,2,none⟩ (.slice (some ⟨wZ.heap.size,0,none⟩) dN dN)) (.cells (Array.replicate dN (.bool false)) 4);simpa [World.setCell] using h1
   obtain ⟨W3,mK⟩:∃W3,W3=((wZ.setCell ⟨gP,0,none⟩ (.slice B1 nf Dn)).setCell ⟨gP,1,none⟩ (.slice B2 nl Qy)).setCell ⟨gP,2,none⟩ (.bool ee):=⟨_,rfl⟩;rw[<-mK]at qT;have Dl:W3.heap.size=wZ.heap.size:=by rw[mK];simp[World.setCell]
   have hP3:W3.heap[gP]?=some (.cells #[.slice B1 nf Dn,.slice B2 nl Qy,.bool ee] 184 (0,0)):=by
    rw[mK];have h1:=aS (aS (aS HP3.out 0 (.slice B1 nf Dn)) 1 (.slice B2 nl Qy)) 2 (.bool ee);simpa using h1
   have U6:aj [gP] [] wZ W3:=by
    rw[mK];have hne:∀k,k∉[gP]->k≠gP:=λk hn e=>hn (List.mem_singleton.2 e);exact ⟨rfl,rfl,rfl,by simp[World.setCell],λk _ hn=>(Below.heap_setCell _ ⟨gP,2,none⟩ _ k (hne k hn)).trans ((Below.heap_setCell _ ⟨gP,1,none⟩ _ k (hne k hn)).trans (Below.heap_setCell wZ ⟨gP,0,none⟩ _ k (hne k hn))),λk hk=>by cases hk⟩
   have Ho:W3.heap[w2.heap.size+1]?=some (.cells #[.slice (some ⟨gS,0,none⟩) dN cS,.slice (some ⟨gF,0,none⟩) dN cF,.slice none 0 0,.map (some w2.heap.size),.slice none 0 0] 182 (0,0)):=(U6.blk _ lsz (λh=>ne2 (List.mem_singleton.1 h))).trans xj.out.1.cs;have hs9:W9.heap[w2.heap.size+1]?=some (.cells #[.slice (some ⟨gS,0,none⟩) dN cS,.slice (some ⟨gF,0,none⟩) dN cF,.slice (some ⟨wZ.heap.size,0,none⟩) dN dN,.map (some w2.heap.size),.slice none 0 0] 182 (0,0)):=by
    rw[qT,aB _ _ _ (by simp[World.setCell];omega)]
    have h1:=aS Ho 2 (.slice (some ⟨wZ.heap.size,0,none⟩) dN dN);simpa using h1
   have pR:aj [w2.heap.size+1] [w2.heap.size+1,wZ.heap.size] W3 W9:=by
    rw[qT];refine ⟨rfl,rfl,rfl,by simp[World.setCell],λk hk hn=>(aB _ _ _ (by simp[World.setCell];exact hk)).trans (Below.heap_setCell _ _ _ _ (λe=>hn (List.mem_singleton.2 e))),λk hk=>?_⟩
    simp only[List.mem_cons,List.not_mem_nil,or_false]at hk|-;exact hk.imp id λh=>Y
   have hP9:=(pR.blk gP Y (λh=>ne1 (List.mem_singleton.1 h))).trans hP3;have pS:OR 4 1 bC wZ.heap.size (.slice (some ⟨wZ.heap.size,0,none⟩) dN dN) (jT x.last dN 0) W9:=by
    have h1:=qZ (W3.setCell ⟨w2.heap.size+1,2,none⟩ (.slice (some ⟨wZ.heap.size,0,none⟩) dN dN)) dN Y;rw[show (W3.setCell ⟨w2.heap.size+1,2,none⟩ (.slice (some ⟨wZ.heap.size,0,none⟩) dN dN)).heap.size=wZ.heap.size by simp[World.setCell];exact Dl]at h1
    rw[Ee,qT];exact h1
   obtain ⟨gl,fl,cl,ev2,-,dR,-,bB⟩:=qB.out.1.resolve_left (λh=>xj.out.2.2.1.2 h.1);obtain rfl:B2=some ⟨gl,fl,none⟩:=by injection ev2
   have ahZ:gl≠gP:=λe=>qB.out.1.pP xj.out.2.2.1.2 HP3.out (by rw[<-e];rfl)
   have ah0:gl≠w2.heap.size+1:=λe=>qB.out.2 gl rfl (by rw[HN.out.2.2.2.2.2.2,e];simp[jE])
   have abB:∀i (h:i<x.last.length),W9.cell? ⟨gl,fl+i,none⟩=some (.int .i64 (x.last[i]:Int)):=λi h=>(χ gl (fl+i) ((pR.blk gl Y (λh=>ah0 (List.mem_singleton.1 h))).trans (U6.blk gl dR (λh=>ahZ (List.mem_singleton.1 h))))).trans (bB i h);have hz9:W9.heap.size=wZ.heap.size+1:=by rw[qT];simp[World.setCell];exact Dl
   have abC:W9.heap[w2.heap.size]?=W.heap[w2.heap.size]?:=((pR.blk _ Y ξ).trans (U6.blk _ Y ψ)).trans (To.out.1.block _ Y);have HA0:=Z (show vL W9 wZ.heap.size wZ.heap.size dN dN (jT x.last dN 0) W9 from ⟨pS,aj.refl _ _⟩);have HC9:=Z abB;have HS9:=Z (H hs9 (H hP9 abC));have HK9:=Z (H U6 pR);have HW9:=Z (H mK qT);have abD:w2.heap.size+1<W9.heap.size:=Y;clear qT mK F9 hP3 U6 Ho hs9 pR hP9 pS bB abB abC ev2 z0 z1 z2 y0 y1 y2 s0 s1 s2 s3 s4 t2 hmk;go_wp2_with fail;go_loopw [46] (λiv wr=>∃k:Nat,k<=nl/\iv=.int .i64 (k:Int)/\Hid (vL W9 wZ.heap.size wZ.heap.size dN dN (jT x.last dN k) wr)) (λiv _=>nl - (intOf iv).toNat)
   case atStart=>exact ⟨0,Nat.zero_le _,rfl,HA0⟩
   case round=>
    obtain ⟨k,hk,rfl,HA⟩:=hrel;have hwr:=HA.out.kf.size;have vQ:=(HA.out.kf.blk (w2.heap.size+1) abD ψ).trans HS9.out.1;by_cases hlt:k<nl
    .have hd:decide ((k:Int)<(nl:Int))=true:=τ;have cX:decide (k<nl)=true:=decide_eq_true hlt;have aU:k<x.last.length:=by rw[HN.out.2.2.2.1];exact hlt
     obtain ⟨p,hp⟩:=ν (x.last[k]);have xr:p<dN:=by
      have:=(xj.out.2.1.good.ka x.last[k] (List.getElem_mem aU)).2;rw[hp,HN.out.1]at this;exact this
     have c0:=(χ gl (fl+k) (HA.out.kf.blk gl Y ψ)).trans (HC9.out k aU);rw[hp]at c0;have lgl:gl<wr.heap.size:=Y;have c2:wr.cell? ⟨w2.heap.size+1,2,none⟩=some (.slice (some ⟨wZ.heap.size,0,none⟩) dN dN):=by rw[cell_of_row _ _ _ _ _ _ vQ];rfl
     have lsr:w2.heap.size+1<wr.heap.size:=Y;obtain ⟨e1,e2,e3⟩:=HA.out.cell (mZ x.last k xr);have hpd:decide (p<dN)=true:=decide_eq_true xr;have bo:=HA.out.set (nh _ _ _) p;rw[<-hp,Ef aU,hp]at bo;have HS:=Z bo;clear hp aU vQ bo;go_wp2_with fail;go_roundw
     case rel=>exact ⟨k+1,Y,by go_num,HS⟩
     case measure=>exact μ
    .have hkn:k=nl:=Y;have hd:decide ((k:Int)<(nl:Int))=false:=θ;have hal:=HA.out;rw[show jT x.last dN k=jT x.last dN x.last.length from by rw[HN.out.2.2.2.1,hkn]]at hal
     have hkw:aj [w2.heap.size+1] [] W3 wr:=by
      have h1:=HK9.out.2.trans (f3:=[]) ⟨hal.kf.os,hal.kf.tape,hal.kf.output,hal.kf.size,λq hq hn=>hal.kf.blk q hq (λh=>hn (by simp at h|-;exact .inr h)),λq hq=>by cases hq⟩
      exact h1
     have abE:Below w2.heap.size w2 W3:=xj.out.1.eP.trans (HK9.out.1.below (λq hq=>by rw[List.mem_singleton]at hq;omega) Y)
     have abF:=xj.out.1.same (w':=W3) (λq hq=>HK9.out.1.blk q (xj.out.1.lt q hq).2 (λh=>YO.out.2 (by rw[HN.out.2.2.2.2.2.2,<-List.mem_singleton.1 h];exact hq))) abE
     have Be:MV Tryz.prog 9 w2.heap.size 0 (λ_=>none) wr:=Eb.out.kept ((hal.kf.blk _ Y ψ).trans HS9.out.2.2);have arC:W3.heap.size=wZ.heap.size:=Dl;obtain ⟨q1,q2,q3,q4⟩:=L7 abF hkw vQ Be I Y (by rw[HN.out.1];have:=HN.out.2.2.1;omega) (by rw[HN.out.2.1];have:=HN.out.2.2.1;omega)
     have Zb:=(hal.kf.blk gP Y ψ).trans HS9.out.2.1;have hEn:EnC (iH (w2.heap.size+1) w2.heap.size (.slice none 0 0)) wr (.slice (some ⟨wZ.heap.size,0,none⟩) dN dN) dN x.last:=by
      refine ⟨wZ.heap.size,rfl,Y,by simp[iH,blk,Value.ownBlock];omega,λp hp=>?_⟩
      have:=(hal.cell (mZ x.last x.last.length hp)).1;rw[List.take_length]at this;exact this
     have Vv:IL wr (.slice B1 x.first.length Dn) x.first/\aL (iH (w2.heap.size+1) w2.heap.size (.slice none 0 0)) (.slice B1 x.first.length Dn):=by
      obtain ⟨j1,j2⟩:=QA.out.1.keep (fp:=[gP]) (fp':=[]) (λg hg hm=>by
       have TF:g=gP:=List.mem_singleton.1 hm;exact QA.out.1.pP xj.out.2.2.1.1 HP3.out (by rw[hg,TF])) HK9.out.1
      have hos:∀g,(Value.slice B1 x.first.length Dn).ownBlock=some g->g≠w2.heap.size+1:=λg hg e=>QA.out.2 g hg (by rw[HN.out.2.2.2.2.2.2,e];simp[jE])
      obtain ⟨j3,-⟩:=j1.keep (fp:=[w2.heap.size+1]) (fp':=[]) (λg hg hm=>hos g hg (List.mem_singleton.1 hm)) hkw;refine ⟨j3,λg hg hm=>?_⟩;simp[iH,blk,Value.ownBlock]at hm;rcases hm with hm|hm
      .exact hos g hg hm
      .obtain ⟨gx,fx,cx,ex,-,-,-,iY⟩:=j3.resolve_left (λh=>xj.out.2.2.1.1 h.1);rw[ex]at hg;simp[Value.ownBlock]at hg;have tC:=iY 0 (List.length_pos_iff.2 xj.out.2.2.1.1);obtain ⟨D,⟨es,c,hmq,-⟩,-⟩:=Be;simp[World.cell?,hg,hm,hmq]at tC
     rw[HN.out.2.2.2.2.1]at Vv;have abH:QB w2 (iH (w2.heap.size+1) w2.heap.size (.slice none 0 0)) (.slice (some ⟨gS,0,none⟩) dN cS) (.slice (some ⟨gF,0,none⟩) dN cF) (.slice (some ⟨wZ.heap.size,0,none⟩) dN dN) b x gP (.slice B1 nf Dn) (.slice (some ⟨gl,fl,none⟩) nl Qy) wr:=
      ⟨q2,q3,by rw[HN.out.2.1];exact hEn,⟨by rw[HN.out.2.2.2.2.2.1];exact Zb,by simp[iH,blk,Value.ownBlock];omega⟩,Vv⟩
     have II:Below w.heap.size w wr:=wH.out.trans (q4.mono (by have:=wH.out.size;omega))
     have ra:=uw w2.heap.size (w2.heap.size+1) w2.heap.size (.slice (some ⟨gS,0,none⟩) dN cS) (.slice (some ⟨gF,0,none⟩) dN cF) (.slice (some ⟨wZ.heap.size,0,none⟩) dN dN) [] (iH (w2.heap.size+1) w2.heap.size (.slice none 0 0)) wr [] (.slice none 0 0) q1 (.inl ⟨rfl,rfl⟩) (λg hg=>by simp[Value.ownBlock]at hg) (TI.nil _) ξ (λp hp=>by cases hp) ξ (sJ.out.below II sJ.out.low)
     have HNU:=Z ra;have ah9:=Z abH;have HQ4:=Z q4;clear hal hkw abE abF Be q1 q2 q3 q4 Zb hEn Vv abH II ra vQ hkn;go_wp2_with fail;refine HNU.out.mono ?_;rintro e w5 ⟨fp5,rfl,Vw,Vx⟩;rw[show ia ([]:List (List Nat)) []=[[]] by simp[ia]]at Vw
     have Vy:=ah9.out.keep Vx;have Kl:=Vy.prt.1;rw[HN.out.2.2.2.2.2.1]at Kl;obtain ⟨u0,u1,u2⟩:=cells3 Kl;have lP5:gP<w5.heap.size:=(γ Kl).1;have jq:Below w2.heap.size w2 w5:=HQ4.out.trans (Vx.below (λq hq=>by simp[iH,blk,Value.ownBlock]at hq;omega) HQ4.out.size)
     have abI:=Z Vw;have abJ:=Z Vy;have Vz:=Z jq;clear Vw Vx Vy Kl jq;go_wp2_with fail;refine dB λW6 BC=>?_;have hz6:W6.heap.size=w5.heap.size+2:=by rw[BC];simp
     have oQ:Below w5.heap.size w5 W6:=by rw[BC];exact (υ.alloc I _).alloc ξ _
     have hN6:W6.heap[w5.heap.size+1]?=some (.cells #[.slice none 0 0,.slice (some ⟨w5.heap.size,0,none⟩) 1 1] 93 (0,0)):=by rw[BC];simpa using heap_alloc_new (w5.alloc (.cells #[.bool ee] 4)) (.cells #[.slice none 0 0,.slice (some ⟨w5.heap.size,0,none⟩) 1 1] 93)
     have h25:=Vz.out.size;have abL:OR 4 1 bC w5.heap.size (.slice (some ⟨w5.heap.size,0,none⟩) 1 1) [ee] (w5.alloc (.cells #[.bool ee] 4)):=⟨rfl,.inr ⟨w5.heap.size,1,#[.bool ee],rfl,I,heap_alloc_new w5 _,ξ,by unfold maxLen;omega,ξ,by simp[bF,bC]⟩⟩
     have abM:OR 4 1 bC w2.heap.size (.slice (some ⟨w5.heap.size,0,none⟩) 1 1) [ee] W6:=by rw[BC];exact (abL.later (υ.alloc ξ _)).mono h25
     have hfm:∀k,k∈lG (w5.heap.size+1) (.slice none 0 0) (.slice (some ⟨w5.heap.size,0,none⟩) 1 1)->w5.heap.size<=k:=λk hk=>by
      rcases bp.1 hk with h|h|h
      .omega
      .simp[Value.ownBlock]at h
      .simp[Value.ownBlock]at h;omega
     have IJ:iI w2.heap.size (w5.heap.size+1) fp5 (.slice none 0 0) (.slice (some ⟨w5.heap.size,0,none⟩) 1 1) [] [] [ee] W6:=
      ⟨hN6,Y,World.ownsRow_nil _ _ _ _,λi hi=>(by cases hi),abM,λk hk hx=>by have:=hfm k hk;have:=(abI.out.lt k hx).2;omega⟩
     have abO:Eg b x [[]] [] [ee] 0:=by rw[<-HN.out.2.2.2.2.2.1];exact Eg.start b x
     have abP:CpL w2 (w2.heap.size+1) w2.heap.size (.slice (some ⟨gS,0,none⟩) dN cS) (.slice (some ⟨gF,0,none⟩) dN cF) (.slice (some ⟨wZ.heap.size,0,none⟩) dN dN) b x gP (.slice B1 nf Dn) (.slice (some ⟨gl,fl,none⟩) nl Qy) (w5.heap.size+1) 0 [[]] fp5 [] [ee] (.slice none 0 0) (.slice (some ⟨w5.heap.size,0,none⟩) 1 1) [] W6:=
      ⟨abI.out.later oQ,IJ,abJ.out.keep ⟨oQ.os,oQ.tape,oQ.output,oQ.size,λk hk _=>oQ.block k hk,λk hk=>(List.mem_append.1 hk).imp id (hfm k)⟩,abO,Vz.out.trans (oQ.mono h25)⟩
     have aic:=Z abP;have Po:=Z (show ∀rs∈b.sets,dU rs=true from λrs h=>by
      obtain ⟨i,hi,rfl⟩:=List.getElem_of_mem h;obtain ⟨v,-,-,h3⟩:=xj.out.1.Ax i hi;exact h3)
     have QC:=Z (show ∀rs∈b.sets,∀r∈rs,r.2<256 from λrs h r hr=>(abJ.out.set.lt rs h r hr).2);have bq:=Z (show nG<=w2.heap.size from Nat.le_trans sJ.out.low wH.out.size);have IK:=wH.out.size;clear BC oQ hN6 abL abM hfm IJ abO abP u0 u1 u2;go_wp2_with fail;go_loopw [10] (λiv wr=>∃(i:Nat) (gs:List (List Nat)) (fp:List Nat) (rs:List (List Ed)) (bL:List Bool) (vE vA:Value) (gv:List Value),iv=.int .i64 (i:Int)/\i<=gs.length/\gs.length<=2000/\Hid (CpL w2 (w2.heap.size+1) w2.heap.size (.slice (some ⟨gS,0,none⟩) dN cS) (.slice (some ⟨gF,0,none⟩) dN cF) (.slice (some ⟨wZ.heap.size,0,none⟩) dN dN) b x gP (.slice B1 nf Dn) (.slice (some ⟨gl,fl,none⟩) nl Qy) (w5.heap.size+1) i gs fp rs bL vE vA gv wr)) (λiv _=>2001 - (intOf iv).toNat)
     case atStart=>exact ⟨0,[[]],fp5,[],[ee],_,_,[],rfl,Nat.zero_le _,ξ,aic⟩
     case round=>
      obtain ⟨i,gs,fp,rs,bL,vE,vA,gv,rfl,eW,mg,HL⟩:=hrel;obtain ⟨ng,Pp⟩:∃n,gs.length=n:=⟨_,rfl⟩;rw[Pp]at eW mg;have hwr:=HL.out.bl.size;obtain ⟨Ag,cg,x4,hcg,abQ⟩:=HL.out.sb.Eh;rw[Pp]at x4;obtain ⟨lsr,-,-,-⟩:=HL.out.sb.cells;have IM:=Z Pp;have aid:=Z abQ;clear Pp abQ;by_cases hlt:i<ng
      .have hd:decide ((i:Int)<(ng:Int))=true:=τ;have Zb:=HL.out.cp.prt.1;obtain ⟨z0,z1,z2⟩:=cells3 Zb;have lPr:gP<wr.heap.size:=(γ Zb).1;clear Zb;by_cases Ir:i=0
       .have d3:decide ((0:Int)<(i:Int))=false:=θ;have d3':decide (0<i)=false:=θ;have lA:=HL.out.ci.rl;have jx:=HL.out.ma.own;rw[lA]at jx;obtain ⟨AE,cE,rfl,-,-⟩:=ar jx;have Km:=Z HL.out.ma;have QD:=Z HL.out.sb;have VA:=Z HL.out.cp;have BB:=Z HL.out.ci;have yA:=Z HL.out.bl;have Pc:=Z lA;have Ko:=Z jx;have Pg:=Z Ir;have HGF:=Z (show ∀p,p∈x.first↔nQ b x gs i p from λp=>by unfold nQ;rw[if_pos Ir])
        have TG:=Z (show ∀p∈x.first,p<b.sets.length from λp hp=>by have:=(xj.out.2.1.good.fst p hp).2;rw[xj.out.2.1.len];exact this)
        have HLL:=Z (show x.first.length<=10000000000000 by rw[HN.out.2.2.2.2.1];omega)
        have HFV:=Z (show IL wr (.slice B1 nf Dn) x.first/\aL fp (.slice B1 nf Dn) from ⟨HL.out.cp.fst.1,λg hg hm=>HL.out.cp.fst.2 g hg (List.mem_append_left _ hm)⟩);clear lA jx Ir;obtain ⟨W,D9⟩:∃W:World,W=wr:=⟨_,rfl⟩;subst D9;have D8:=Km.out.hN;have TB:=Z D8;have QE:W.cell? ⟨w5.heap.size+1,0,none⟩=some (.slice AE i cE):=by rw[cell_of_row _ _ _ _ _ _ D8];rfl
        have lN:w5.heap.size+1<W.heap.size:=(γ D8).1;have HNF:=Z (show w5.heap.size+1∉fp from Km.out.out _ (bp.2 (.inl rfl)));have VB:=Z (sJ.out.below (wH.out.trans (yA.out.mono IK)) sJ.out.low);have HG0:=Z BB.out.g0;have HGL:=Z (show gs.length<=2000 by rw[IM.out];exact mg)
        have eS:i<=2000:=Y;have jH:Gc (w5.heap.size+1) W 0 W.drew:=⟨I,rfl,λ_=>υ.drew⟩;have lsW:w2.heap.size+1<W.heap.size:=(QD.out.cells).1;clear D8 HL;go_wp2_with fail;clear x4 lsr z0 z1 z2 lPr;refine aQ 9 [4,5,6,7] (Gd w2 (w2.heap.size+1) w2.heap.size (.slice (some ⟨gS,0,none⟩) dN cS) (.slice (some ⟨gF,0,none⟩) dN cF) (.slice (some ⟨wZ.heap.size,0,none⟩) dN dN) b gs fp x.first (w5.heap.size+1) i cE nf Dn AE B1 gv W) (λc w'=>Gc (w5.heap.size+1) W c w') κ κ κ κ κ κ O jH ?_ ?_
        .simp only[eK,eL];refine ag.pure O ?_ (ag.pure O ?_ (ag.pure O ?_ (ag.pure O ?_ (ag.ur 0 rfl ?_ (ag.ur 1 rfl ?_ (ag.ur 2 rfl ?_ (ag.ur 3 rfl ?_ (ag.pure O ?_ (ag.nil)))))))))
         all_goals first | (with_reducible intro v wz c dy hS hE K hK;simp only[ay,Act.put,gU,gV,gW,Nat.zero_add,Nat.reduceAdd,eK,eL]at hK|-) | (intro v wz hS hE K hK;simp only[ay,Act.put,gU,gV,gW,Nat.zero_add,Nat.reduceAdd,eK,eL]at hK|-)
         .exact ζ
         .have e0:v 0=_:=hE.1 rfl;rw[e0]at hK|-;have c1:=(χ (w5.heap.size+1) 0 hS.2.1).trans QE;have l1:w5.heap.size+1<wz.heap.size:=by have:=hS.1;omega
          exact ζ
         .exact ζ
         .exact ζ
         .have e3:v 3=_:=hE.1 rfl;rw[e3]at hK|-;have hb:=hS.2.2 Y;have aK:=iF (.slice B1 nf Dn) x.first wz (HFV.out.1.later hb) HLL.out;have HC:=Z aK;have HX:=Z hS;clear hS hE aK hb;go_wp2_with fail;refine HC.out.mono ?_;rintro e wy ⟨v',r,rfl,ub,how,eW,aY⟩;obtain ⟨A',c',rfl,-,-⟩:=ar how;have HP:=Z (H ub (H (BD how HX.out.1) (H eW aY)));clear ub how eW aY;go_wp2_with fail;refine hK.out _ _ (λj z hj h=>?_) ⟨Nat.le_trans HX.out.1 HP.out.2.2.2.size,(HP.out.2.2.2.block (w5.heap.size+1) (by have:=HX.out.1;omega)).trans HX.out.2.1,λ_=>(HX.out.2.2 Y).trans (HP.out.2.2.2.mono HX.out.1)⟩ (λ_=>⟨A',r,c',rfl,HP.out.1,HP.out.2.1,HP.out.2.2.1⟩)
          match j with
          |0|1|2|3|8=>exact h
          |4=>exact absurd rfl hj
          |5=>exact λhc=>Y
          |6=>exact λhc=>Y
          |7=>exact λhc=>Y
          |_+9=>exact trivial
         .have e2:v 2=_:=hE.1 rfl;rw[e2]at hK|-;have E4:=hE.2.1 rfl;obtain ⟨Ar,r,cr,e4,ub,how,eW⟩:=E4 rfl;rw[e4]at hK how eW|-;have hb:=hS.2.2 Y;have Pq:∀p∈r,p<b.sets.length:=λp hp=>TG.out p ((ub.2 p).1 hp);have aK:=xu w2 (w2.heap.size+1) w2.heap.size (.slice (some ⟨gS,0,none⟩) dN cS) (.slice (some ⟨gF,0,none⟩) dN cF) (.slice (some ⟨wZ.heap.size,0,none⟩) dN dN) b gs fp wz r _ (QD.out.later hb) ((VA.out.later hb).set.oR λk hk=>List.mem_append_left _ hk) (yA.out.trans (hb.mono yA.out.size)) Po.out eW (λg hg hm=>by have:=(how.lt g hg).1;have:=(QD.out.lt g hm).2;omega) Pq (kC (a:=0) ub.1 λp hp=>⟨Nat.zero_le _,by have:=Pq p hp;have:=HN.out.2.1;omega⟩) (by rw[HN.out.2.1];omega) (by have:=HGL.out;omega) HG0.out (VB.out.later hb) bq.out
          have HC:=Z aK;have HX:=Z (H hS (H ub hb));clear hS hE aK hb Pq ub how eW E4 e4;go_wp2_with fail;refine HC.out.mono ?_;rintro e wy ⟨row,eX,fp',rv,rfl,⟨nR,mP,Gh⟩,zW,ox,zV,TF,Dp,vO⟩;obtain ⟨A',c',AA,-,-⟩:=nR.form;have HP:=Z (H nR (H mP (H Gh (H zW (H ox (H zV (H TF Dp)))))));clear nR mP Gh zW ox zV TF Dp vO AA;go_wp2_with fail;have hz1:=HX.out.1.1;have hz2:=HP.out.2.2.2.2.1.size;refine hK.out _ _ (λj z hj h=>?_) ⟨Y,(HP.out.2.2.2.2.1.blk (w5.heap.size+1) Y HNF.out).trans HX.out.1.2.1,λh=>Y⟩ (λ_=>⟨r,row,eX,fp',HX.out.2.1,⟨HP.out.1,HP.out.2.1,λg hg=>⟨by have:=(HP.out.2.2.1 g hg).1;omega,(HP.out.2.2.1 g hg).2⟩⟩,HP.out.2.2.2.1,(aj.aa HX.out.2.2).trans HP.out.2.2.2.2.1,HP.out.2.2.2.2.2.1,HP.out.2.2.2.2.2.2.1,HP.out.2.2.2.2.2.2.2⟩)
          match j with
          |0|1|2|3|8=>exact h
          |5=>exact absurd rfl hj
          |4=>exact λhc=>Y
          |6=>exact λhc=>Y
          |7=>exact λhc=>Y
          |_+9=>exact trivial
         .have E5:=hE.1 rfl;have re:=E5 rfl;obtain ⟨r,row,eX,fp',q1,⟨q2,q3,q4⟩,q5⟩:=id re;obtain ⟨A5,c5,e5,-,-⟩:=q2.form;obtain ⟨n5,hn5⟩:∃n,row.length=n:=⟨_,rfl⟩;rw[hn5]at e5;rw[e5]at hK re|-;have VC:=Z re;have HX:=Z hS;clear hS hE re q1 q2 q3 q4 q5 E5 e5;have rL:=HX.out.1;go_wp2_with fail;have dA:Below wz.heap.size wz (wz.alloc (.cells #[.slice A5 n5 c5] 187)):=υ.alloc I _;refine hK.out _ _ (λj z hj h=>?_) ⟨ψ,(dA.block (w5.heap.size+1) Y).trans HX.out.2.1,λh=>Y⟩ (λ_=>⟨wz.heap.size,.slice A5 n5 c5,rfl,rL,ξ,by go_simp,rfl,VC.out.later dA⟩)
          match j with
          |0|1|2|3|8=>exact h
          |6=>exact absurd rfl hj
          |4=>exact λhc=>Y
          |5=>exact λhc=>Y
          |7=>exact λhc=>Y
          |_+9=>exact trivial
         .have e1:v 1=_:=hE.1 rfl;rw[e1]at hK|-;have E6:=hE.2.1 rfl;obtain ⟨g,rv,e6,Pr,dR,yP,h1c,re⟩:=E6 rfl;rw[e6]at hK|-;obtain ⟨r,row,eX,fp',q1,q2,q3,q4,q5⟩:=id re;have hown:wz.ownsRow w2.heap.size 187 1 (.slice AE i cE) i gv:=aG Ko.out λg hg=>q4.blk g (Ko.out.lt g hg).2 λhm=>Km.out.out g (bp.2 (.inr (.inl hg))) hm;have Gi:=hS.1;have hcell:∀j u,([rv]:List Value)[j]?=some u->wz.cell? ((⟨g,0,none⟩:Addr).add j)=some u:=λj u hj=>by
           match j,hj with
           |0,hj=>simp at hj;rw[<-hj,Addr.add_lit];exact yP
          have VC:=Z re;have HX:=Z hS;clear hS hE re q1 q2 q3 q4 q5 E6;go_wp2_with (at_builtin;refine cQ rfl _ _ 91 rfl w2.heap.size 187 ie (.slice none 0 0) 1 24 Tryz.underlying91 rJ he0 he1 TD rfl O _ i gv rfl hown ⟨g,0,none⟩ 1 1 [rv] rfl rfl hcell (by intro u hu;simp at hu;subst hu;exact h1c) (by unfold maxLen;omega) Y (by have:=yA.out.size;omega) ?_)
          intro v' wx hown1 fH dY;obtain ⟨A',c',rfl,-,-⟩:=ar hown1;refine hK.out _ _ (λj z hj h=>?_) ⟨Nat.le_trans HX.out.1 fH.size,(fH.block (w5.heap.size+1) Y (λe=>Km.out.Zc e.symm)).trans HX.out.2.1,λh=>Y⟩ (λ_=>⟨rv,wz,A',c',rfl,VC.out,fH,hown1,dY⟩)
          match j with
          |0|1|2|3|8=>exact h
          |7=>exact absurd rfl hj
          |4=>exact λhc=>Y
          |5=>exact λhc=>Y
          |6=>exact λhc=>Y
          |_+9=>exact trivial
         .exact ζ
        .intro v wz hS hF;have e0:v 0=_:=hF 0 O;have e1:v 1=_:=hF 1 O;have e2:v 2=_:=hF 2 O;have e3:v 3=_:=hF 3 O;have e8:v 8=_:=hF 8 O;have E4:=hF 4 O;have E5:=hF 5 O;have E6:=hF 6 O;have E7:=hF 7 O;simp only[ay,Act.put,gU,gV,gW,Nat.zero_add,Nat.reduceAdd,eK,eL,List.drop_succ_cons,List.drop_zero,e0,e1,e2,e3,e8];clear hF e0 e1 e2 e3 e8;obtain ⟨rv,w6,A7,c7,e7,re,hg7,VD,Ei⟩:=E7 rfl;rw[e7]at VD Ei|-;have QF:=hS.2.1.trans TB.out;have xz0:wz.cell? ⟨w5.heap.size+1,0,none⟩=some (.slice AE i cE):=by rw[cell_of_row _ _ _ _ _ _ QF];rfl
         have fz0:wz.frozen? ⟨w5.heap.size+1,0,none⟩=false:=by simp[World.frozen?,QF]
         have lNz:w5.heap.size+1<wz.heap.size:=(γ QF).1;obtain ⟨row,eX,fp',bB,VE⟩:=Gj (w0:=w2) Km.out VA.out BB.out (by rw[if_pos Pg.out]) (show i<gs.length by rw[IM.out];exact hlt) yA.out HGF.out TG.out re hg7 (by rw[Pc.out];exact VD) Ei (λk hk=>(QD.out.lt k hk).1)
         have L8:¬w5.heap.size+1=w2.heap.size+1:=λe=>by have:=bB.ma.out _ (bp.2 (.inl rfl));have h8:=bB.sb;obtain ⟨vg8,gv8,F8,VF,-⟩:=h8;rw[VF,e]at this;exact this (by simp[iH])
         have yQ:¬w2.heap.size+1=w5.heap.size+1:=λe=>L8 e.symm;have bo:∀k,k≠w5.heap.size+1->(wz.setCell ⟨w5.heap.size+1,0,none⟩ (.slice A7 (i+1) c7)).heap[k]?=wz.heap[k]?:=λk hk=>Below.heap_setCell _ _ _ _ hk;obtain ⟨Ag',cg',VG,aip,-⟩:=bB.sb.Eh;obtain ⟨L9,yR⟩:∃n,eX.length=n:=⟨_,rfl⟩;rw[yR]at VG;have x4z:wz.cell? ⟨w2.heap.size+1,4,none⟩=some (.slice Ag' L9 cg'):=(χ (w2.heap.size+1) 4 (bo _ yQ)).symm.trans VG;have aiq:w2.heap.size+1<wz.heap.size:=by have:=hS.1;omega
         have xn:L9<=100000:=by rw[<-yR];have:=IM.out;omega
         have mJ:=Z bB;have Ma:=Z yR;clear hS re hg7 VD Ei QF e7 E4 E5 E6 E7 bB VE VG yR;by_cases h2k:2000<L9
         .have d4:decide (2000<(L9:Int))=true:=τ;have QG:=(bo (w.heap.size+1) Y).symm.trans ((mJ.out.bl.block (w.heap.size+1) Y).trans Qx.out);obtain ⟨rz0,rz1⟩:wz.cell? ⟨w.heap.size+1,0,none⟩=some (.slice none 0 0)/\wz.cell? ⟨w.heap.size+1,1,none⟩=some (.slice none 0 0):=by constructor <;> (rw[cell_of_row _ _ _ _ _ _ QG]; rfl)
          have gz0:wz.frozen? ⟨w.heap.size+1,0,none⟩=false:=by simp[World.frozen?,QG]
          have gz1:wz.frozen? ⟨w.heap.size+1,1,none⟩=false:=by simp[World.frozen?,QG]
          have lRz:w.heap.size+1<wz.heap.size:=Y;have nRN:¬w.heap.size+1=w5.heap.size+1:=Y;have ait:¬w5.heap.size+1=w.heap.size+1:=Y;clear QG bo;go_wp2_with fail;refine az λWf bY=>?_;refine bodyPost_ret (v:=.tuple #[iG,.int .i64 3]) (by rw[bY];simp[results,Tryz.results109,go_sem,rz0,rz1,lRz,iG];try rfl) rfl ?_
          have pN:Below w.heap.size w Wf:=by
           rw[bY];have h1:=wH.out.trans (mJ.out.bl.mono IK);exact (h1.sc (w.heap.size+1) 0 (by show w.heap.size<=w.heap.size+1;omega) _).sc (w.heap.size+1) 1 (by show w.heap.size<=w.heap.size+1;omega) _
          exact ⟨pN,.inr (.inr ⟨HQ.out.1,fJ.out.1,b,x,eX,_,_,i+1,xj.out.2.1,by rw[HN.out.1,HN.out.2.2.1],QC.out,mJ.out.ci,.inl ⟨by rw[Ma.out];exact h2k,rfl⟩⟩)⟩
         .have d4:decide (2000<(L9:Int))=false:=θ;have VH:=mJ.out.ci.il;clear bo;go_wp2_with fail;go_roundw
          case rel=>exact ⟨i+1,eX,fp',_,_,_,_,_,by go_num,VH,by rw[Ma.out];omega,mJ⟩
          case measure=>exact μ
       .have d3:decide ((0:Int)<(i:Int))=true:=τ;have d3':decide (0<i)=true:=τ;obtain ⟨gg,gvv,rfl,TF,x5,VI,hog⟩:=aid.out i (by rw[IM.out];exact hlt)
        obtain ⟨pT,QH⟩:∃g,gs[i]'(by rw[IM.out];exact hlt)=g:=⟨_,rfl⟩
        rw[QH]at VI;have hgD:(gs[i]?).getD []=pT:=by rw[List.getElem?_eq_getElem (by rw[IM.out];exact hlt),QH];rfl
        have wF:pT∈gs:=by rw[<-QH];exact List.getElem_mem _
        have VJ:pT≠[]:=by
         have:=(HL.out.ci.rch i Y (by rw[IM.out];exact hlt)).1
         rwa [hgD]at this
        have hgp:∀p∈pT,p<dN:=λp hp=>by have:=HL.out.ci.gl pT wF p hp;rw[HN.out.2.1]at this;exact this
        obtain ⟨gb,fb,cb,rfl,-,xn,tZ,hcell⟩:=VI.resolve_left (λh=>VJ h.1);obtain ⟨np,hnp⟩:∃n,pT.length=n:=⟨_,rfl⟩;rw[hnp]at x5 tZ hog;have arM:np<=600:=by rw[<-hnp];exact kC (a:=0) (HL.out.ci.pd pT wF) λp hp=>⟨Nat.zero_le _,by have:=hgp p hp;omega⟩
        have hdi:decide (i<ng)=true:=decide_eq_true hlt;have Pg:=Z Ir;have Zd:=Z (H hgD (H VJ (H hgp (H hnp wF))));have HGC:=Z hcell;obtain ⟨WB,rfl⟩:∃W:World,W=wr:=⟨_,rfl⟩;clear Ir QH hgD wF VJ hgp hnp hcell VI;go_wp2_with fail;go_loopw [84,11,12] (λkv fv av wr=>∃k:Nat,k<=np/\kv=.int .i64 (k:Int)/\av=.bool ((pT.take k).any λp=>decide (p∈x.last))/\Hid (CU WB.heap.size fv (jU b (pT.take k)) wr)/\Hid (Below WB.heap.size WB wr)) (λkv _ _ _=>np - (intOf kv).toNat)
        case atStart=>exact ⟨0,Nat.zero_le _,rfl,rfl,⟨World.ownsRow_nil _ _ _ _,.inl rfl⟩,υ⟩
        case round=>
         obtain ⟨k,hk,rfl,rfl,Ze,b8⟩:=hrel;have FG:=b8.out.size;obtain ⟨AL,nL,cL,rfl⟩:∃A n c,u11=.slice A n c:=by
          obtain ⟨A,c,e,-⟩:=ar Ze.out.1;exact ⟨_,_,_,e⟩
         obtain ⟨acc,hacc⟩:∃a,((pT.take k).any λp=>decide (p∈x.last))=a:=⟨_,rfl⟩;rw[hacc];have VK:=Z hacc;clear hacc;have Gk:(jU b (pT.take k)).length<=k*10000000000:=by
          have h1:=BF Za.out (pT.take k);have h2:(pT.take k).length<=k:=List.length_take_le _ _;have h3:(pT.take k).length*eU nd<=k*10000000000:=Nat.mul_le_mul h2 (by have:=fJ.out.2;omega)
          omega
         by_cases rf:k<np
         .have kc:decide ((k:Int)<(np:Int))=true:=τ;have bS:decide (k<np)=true:=decide_eq_true rf;have aU:k<pT.length:=by rw[Zd.out.2.2.2.1];exact rf
          obtain ⟨p,hp⟩:=ν (pT[k]);have xr:p<dN:=by rw[<-hp];exact Zd.out.2.2.1 _ (List.getElem_mem aU)
          have c0:=(b8.out.cl gb (fb+k) xn).trans (HGC.out k aU);rw[hp]at c0;have lgb:gb<wr.heap.size:=Y;have VL:=HL.out.cp.later b8.out;obtain ⟨gF',cF',eF,-,arP,-,TH⟩:=VL.fol;have hpf:p<b.fol.length:=by rw[HN.out.1];exact xr
          obtain ⟨rvv,x6,QI,-,-,Mb⟩:=TH p hpf;obtain ⟨rfl,-⟩:gF=gF'/\True:=by
           injection eF with eF;injection eF with eF;injection eF with eF;exact ⟨eF,trivial⟩
          obtain ⟨A6,c6,rfl,-⟩:=QI.form;obtain ⟨n6,hn6⟩:∃n,b.fol[p].length=n:=⟨_,rfl⟩;rw[hn6]at QI x6 Mb;have DS:=HL.out.sb.cells;have s1w:=(b8.out.cl (w2.heap.size+1) 1 DS.1).trans DS.2.2.1;have s2w:=(b8.out.cl (w2.heap.size+1) 2 DS.1).trans DS.2.2.2;have lsw:w2.heap.size+1<wr.heap.size:=by have:=DS.1;omega
          obtain ⟨gE,eE,hgE,-,O6⟩:=VL.ends;obtain ⟨rfl,-⟩:wZ.heap.size=gE/\True:=by
           injection eE with eE;injection eE with eE;injection eE with eE;exact ⟨eE,trivial⟩
          have x7:=O6 p (by rw[HN.out.2.1];exact xr)
          have hpd:decide (p<dN)=true:=decide_eq_true xr;have hlk:(jU b (pT.take k)).length+(b.fol[p]).length<=10000000000000:=by
           have h1:=Za.out _ (List.getElem_mem hpf);have:=fJ.out.2;have:k*10000000000<=599*10000000000:=Nat.mul_le_mul_right _ Y;omega
          have cB:jU b (pT.take k)++b.fol[p]=jU b (pT.take (k+1)):=by
           rw[List.take_succ_eq_append_getElem aU,hp,IP];unfold dp;rw[List.getElem?_eq_getElem hpf];rfl
          have QJ:((pT.take (k+1)).any λp=>decide (p∈x.last))=(acc || decide (p∈x.last)):=by
           rw[List.take_succ_eq_append_getElem aU,hp,List.any_append,VK.out];simp
          have LZ:=Z QI;have jG:=Z (H cB (H QJ hlk));have TJ:=Z (λ(h:A6=none)=>Mb n6 c6 (by rw[h]))
          obtain ⟨dd,hdd⟩:∃d,decide (p∈x.last)=d:=⟨_,rfl⟩;rw[hdd]at x7;have HDD:=Z hdd;clear hp aU VL TH QI Mb DS O6 cB QJ hlk hdd Gk hn6 eF eE;go_wp2_with (at_builtin;refine VM Tryz.underlying22 Y7 Gf tv pJ rfl _ _ _ A6 n6 c6 (jU b (pT.take k)) _ WB.heap.size rfl rfl rfl rfl Ze.out LZ.out TJ.out jG.out.2.2 FG ?_);intro v' w3 IQ bW;obtain ⟨A3,n3,c3,rfl⟩:∃A n c,v'=.slice A n c:=by
           obtain ⟨A,c,e,-⟩:=ar IQ.1;exact ⟨_,_,_,e⟩
          have VN:=b8.out.trans (bW.mono I);have arR:=bW.size;have arS:WB.heap.size<=w3.heap.size:=VN.size;have arT:=(bW.cl (w2.heap.size+1) 2 (by show w2.heap.size+1<WB.heap.size;exact (HL.out.sb.cells).1)).trans s2w
          have x73:=(bW.cl wZ.heap.size p (by obtain ⟨g,e,h1,-⟩:=HL.out.cp.ends;injection e with e;injection e with e;injection e with e;show wZ.heap.size<WB.heap.size;omega)).trans x7
          have arU:w2.heap.size+1<w3.heap.size:=Y;have arV:wZ.heap.size<w3.heap.size:=Y;have abU:CU WB.heap.size (.slice A3 n3 c3) (jU b (pT.take (k+1))) w3:=by rw[<-jG.out.1];exact IQ
          have abV:=Z abU;have Md:=Z VN;clear IQ bW abU VN c0 x6 s1w s2w x7
          cases acc with
          |true=>
           go_wp2_with fail;go_roundw
           case rel=>exact ⟨k+1,Y,by go_num,by rw[jG.out.2.1];rfl,abV,Md⟩
           case measure=>exact μ
          |false=>
           go_wp2_with fail;go_roundw
           case rel=>exact ⟨k+1,Y,by go_num,by rw[jG.out.2.1,HDD.out];rfl,abV,Md⟩
           case measure=>exact μ
         .have hkn:k=np:=Y;have kc:decide ((k:Int)<(np:Int))=false:=θ;have tV:pT.take k=pT:=List.take_of_length_le (by rw[Zd.out.2.2.2.1];omega)
          rw[tV]at Ze VK Gk;have lA:=HL.out.ci.rl;have hal:bL.length=i:=by have:=Nat.pos_of_ne_zero Pg.out;rw[HL.out.ci.al];omega
          have jx:=HL.out.ma.own;rw[lA]at jx;have kD:WB.ownsRow w2.heap.size 4 1 vA bL.length (bF bC bL):=HL.out.ma.acc;rw[hal]at kD;obtain ⟨AE,cE,rfl,-,-⟩:=ar jx;obtain ⟨AV,cA,rfl,-,-⟩:=ar kD;have QL:=(b8.out.block (w5.heap.size+1) ((HL.out.ma.lt _ (bp.2 (.inl rfl))).2)).trans HL.out.ma.hN;obtain ⟨QE,xn1⟩:wr.cell? ⟨w5.heap.size+1,0,none⟩=some (.slice AE i cE)/\wr.cell? ⟨w5.heap.size+1,1,none⟩=some (.slice AV i cA):=by constructor <;> (rw[cell_of_row _ _ _ _ _ _ QL]; rfl)
          have fn1:wr.frozen? ⟨w5.heap.size+1,1,none⟩=false:=by simp[World.frozen?,QL]
          have lNw:w5.heap.size+1<wr.heap.size:=(γ QL).1;have cZ:=(bw kD b8.out).alloc (.cells #[.bool acc] 4);have iY:∀j u,([.bool acc]:List Value)[j]?=some u->(wr.alloc (.cells #[.bool acc] 4)).cell? ((⟨wr.heap.size,0,none⟩:Addr).add j)=some u:=λj u hj=>by
           match j,hj with
           |0,hj=>simp at hj;rw[<-hj,Addr.add_lit,cell_of_row _ _ _ _ _ _ (heap_alloc_new wr _)];rfl
          have dA:w2.heap.size<=(wr.alloc (.cells #[.bool acc] 4)).heap.size:=ψ;have IU:Below wr.heap.size wr (wr.alloc (.cells #[.bool acc] 4)):=υ.alloc I _;have Ps:=Z (b8.out.trans (IU.mono FG));have Pc:=Z (H lA hal);have HOA:=Z cZ;have HHE:=Z jx;have HHA:=Z kD;have aiy:=Z (show acc=true↔∃p∈(gs[i]?).getD [],p∈x.last from by
           rw[Zd.out.1,<-VK.out,List.any_eq_true];simp only[decide_eq_true_eq])
          have HLK:=Z Gk;clear lA hal jx kD QL cZ IU tV Gk hkn;go_wp2_with (at_builtin;refine cQ rfl _ _ 70 rfl w2.heap.size 4 ib _ 1 1 Tryz.underlying70 oL hb0 hb1 aJ rfl O _ i (bF bC bL) rfl HOA.out ⟨wr.heap.size,0,none⟩ 1 1 [.bool acc] rfl rfl iY (by intro u hu;simp at hu;subst hu;rfl) (by unfold maxLen;omega) Y dA ?_)
          intro rW w8 Me hg8 zX;obtain ⟨A8,c8,rfl,-,-⟩:=ar Me;have Y9:=Z (HL.out.ma.later Ps.out);have nNA:(Value.slice AV i cA).ownBlock≠some (w5.heap.size+1):=HL.out.ma.neA;have hN8:=(hg8.block (w5.heap.size+1) ψ (λe=>nNA e.symm)).trans Y9.out.hN;have x81:w8.cell? ⟨w5.heap.size+1,1,none⟩=some (.slice AV i cA):=by rw[cell_of_row _ _ _ _ _ _ hN8];rfl
          have f81:w8.frozen? ⟨w5.heap.size+1,1,none⟩=false:=by simp[World.frozen?,hN8]
          have lN8:w5.heap.size+1<w8.heap.size:=(γ hN8).1;have wJ:di (.slice A8 (i+1) c8) (.slice AV i cA) (wr.alloc (.cells #[.bool acc] 4)).heap.size:=by rw[show (wr.alloc (.cells #[.bool acc] 4)).heap.size=wr.heap.size+1 by simp];exact zX
          have abY:OR 4 1 bC w2.heap.size (.slice A8 (i+1) c8) (bL++[acc]) w8:=by
           show World.ownsRow _ _ _ _ _ _ _;rw[List.length_append,bU,bz,Pc.out.2];exact Me
          obtain ⟨q1,q2⟩:=Y9.out.aiB (λk hk=>by have:=(HL.out.sb.lt k hk).2;have:=Ps.out.size;omega) abY hg8 wJ
          have abZ:=Ze.out.il.later (show Below wr.heap.size wr (wr.alloc (.cells #[.bool acc] 4)) from υ.alloc I _);have TK:aL (lG (w5.heap.size+1) (.slice AE i cE) (.slice AV i cA)) (.slice AL nL cL):=λg hg hm=>by have:=(Ze.out.1.lt g hg).1;have:=(HL.out.ma.lt g hm).2;omega
          have IV:=(HL.out.sb.later Ps.out).apart q2 (λk hk=>Y9.out.out k hk) Y9.out.types;have VO:=(HL.out.cp.later Ps.out).keep (q2.ab0 fp);have VP:=(HL.out.bl.trans (Ps.out.mono HL.out.bl.size)).trans (q2.below (λk hk=>(HL.out.ma.lt k hk).1) dA);have VQ:=(abZ.keep TK q2).1;have TL:aL fp (.slice AL nL cL):=λg hg hm=>by have:=(Ze.out.1.lt g hg).1;have:=(HL.out.sb.lt g hm).2;omega
          obtain ⟨W9,qT⟩:∃W9,W9=w8.setCell ⟨w5.heap.size+1,1,none⟩ (.slice A8 (i+1) c8):=⟨_,rfl⟩;rw[<-qT]at q1 q2 IV VO VP VQ;have Km:=Z q1;have QD:=Z IV;have VA:=Z VO;have BB:=Z HL.out.ci;have yA:=Z VP;have aiC:=Z Pc.out;have HGF:=Z (show ∀p,p∈jU b pT↔nQ b x gs i p from λp=>by rw[BG];unfold nQ;rw[if_neg Pg.out,Zd.out.1])
          have TG:=Z (show ∀p∈jU b pT,p<b.sets.length from λp hp=>by
           obtain ⟨q,hq,hpq⟩:=BG.1 hp;have:=(xj.out.2.1.good.cls q (Nat.zero_le _) (by rw[HN.out.1];exact Zd.out.2.2.1 q hq) p hpq).2
           rw[xj.out.2.1.len];exact this)
          have HLL:=Z (show (jU b pT).length<=10000000000000 by have:=HLK.out;have:k*10000000000<=600*10000000000:=Nat.mul_le_mul_right _ Y;omega)
          have HFV:=Z (H VQ TL);have HWE:=Z qT;clear Me hg8 zX wJ hN8 abY q1 q2 abZ VQ TK TL IV VO VP iY dA QE xn1 fn1 lNw;go_wp2_with fail;refine dB λW hW=>?_;obtain rfl:W=W9:=hW.trans HWE.out.symm;have Pc:=Z aiC.out.1;have Ko:=Z (show W.ownsRow w2.heap.size 187 1 (.slice AE i cE) i gv from by have:=Km.out.own;rwa [Pc.out]at this)
          have D8:=Km.out.hN;have TB:=Z D8;have QE:W.cell? ⟨w5.heap.size+1,0,none⟩=some (.slice AE i cE):=by rw[cell_of_row _ _ _ _ _ _ D8];rfl
          have lN:w5.heap.size+1<W.heap.size:=(γ D8).1;have HNF:=Z (show w5.heap.size+1∉fp from Km.out.out _ (bp.2 (.inl rfl)));have VB:=Z (sJ.out.below (wH.out.trans (yA.out.mono IK)) sJ.out.low);have HG0:=Z BB.out.g0;have HGL:=Z (show gs.length<=2000 by rw[IM.out];exact mg)
          have eS:i<=2000:=Y;have jH:Gc (w5.heap.size+1) W 0 W.drew:=⟨I,rfl,λ_=>υ.drew⟩;have lsW:w2.heap.size+1<W.heap.size:=(QD.out.cells).1;clear D8 hW x4 lsr z0 z1 z2 lPr x5 x81 f81 lN8;go_wp2_with fail;refine aQ 9 [4,5,6,7] (Gd w2 (w2.heap.size+1) w2.heap.size (.slice (some ⟨gS,0,none⟩) dN cS) (.slice (some ⟨gF,0,none⟩) dN cF) (.slice (some ⟨wZ.heap.size,0,none⟩) dN dN) b gs fp (jU b pT) (w5.heap.size+1) i cE nL cL AE AL gv W) (λc w'=>Gc (w5.heap.size+1) W c w') κ κ κ κ κ κ O jH ?_ ?_
          .simp only[eK,eL];refine ag.pure O ?_ (ag.pure O ?_ (ag.pure O ?_ (ag.pure O ?_ (ag.ur 0 rfl ?_ (ag.ur 1 rfl ?_ (ag.ur 2 rfl ?_ (ag.ur 3 rfl ?_ (ag.pure O ?_ (ag.nil)))))))))
           all_goals first | (with_reducible intro v wz c dy hS hE K hK;simp only[ay,Act.put,gU,gV,gW,Nat.zero_add,Nat.reduceAdd,eK,eL]at hK|-) | (intro v wz hS hE K hK;simp only[ay,Act.put,gU,gV,gW,Nat.zero_add,Nat.reduceAdd,eK,eL]at hK|-)
           .exact ζ
           .have e0:v 0=_:=hE.1 rfl;rw[e0]at hK|-;have c1:=(χ (w5.heap.size+1) 0 hS.2.1).trans QE;have l1:w5.heap.size+1<wz.heap.size:=by have:=hS.1;omega
            exact ζ
           .exact ζ
           .exact ζ
           .have e3:v 3=_:=hE.1 rfl;rw[e3]at hK|-;have hb:=hS.2.2 Y;have aK:=iF (.slice AL nL cL) (jU b pT) wz (HFV.out.1.later hb) HLL.out;have HC:=Z aK;have HX:=Z hS;clear hS hE aK hb;go_wp2_with fail;refine HC.out.mono ?_;rintro e wy ⟨v',r,rfl,ub,how,eW,aY⟩;obtain ⟨A',c',rfl,-,-⟩:=ar how;have HP:=Z (H ub (H (BD how HX.out.1) (H eW aY)));clear ub how eW aY;go_wp2_with fail;refine hK.out _ _ (λj z hj h=>?_) ⟨Nat.le_trans HX.out.1 HP.out.2.2.2.size,(HP.out.2.2.2.block (w5.heap.size+1) (by have:=HX.out.1;omega)).trans HX.out.2.1,λ_=>(HX.out.2.2 Y).trans (HP.out.2.2.2.mono HX.out.1)⟩ (λ_=>⟨A',r,c',rfl,HP.out.1,HP.out.2.1,HP.out.2.2.1⟩)
            match j with
            |0|1|2|3|8=>exact h
            |4=>exact absurd rfl hj
            |5=>exact λhc=>Y
            |6=>exact λhc=>Y
            |7=>exact λhc=>Y
            |_+9=>exact trivial
           .have e2:v 2=_:=hE.1 rfl;rw[e2]at hK|-;have E4:=hE.2.1 rfl;obtain ⟨Ar,r,cr,e4,ub,how,eW⟩:=E4 rfl;rw[e4]at hK how eW|-;have hb:=hS.2.2 Y;have Pq:∀p∈r,p<b.sets.length:=λp hp=>TG.out p ((ub.2 p).1 hp);have aK:=xu w2 (w2.heap.size+1) w2.heap.size (.slice (some ⟨gS,0,none⟩) dN cS) (.slice (some ⟨gF,0,none⟩) dN cF) (.slice (some ⟨wZ.heap.size,0,none⟩) dN dN) b gs fp wz r _ (QD.out.later hb) ((VA.out.later hb).set.oR λk hk=>List.mem_append_left _ hk) (yA.out.trans (hb.mono yA.out.size)) Po.out eW (λg hg hm=>by have:=(how.lt g hg).1;have:=(QD.out.lt g hm).2;omega) Pq (kC (a:=0) ub.1 λp hp=>⟨Nat.zero_le _,by have:=Pq p hp;have:=HN.out.2.1;omega⟩) (by rw[HN.out.2.1];omega) (by have:=HGL.out;omega) HG0.out (VB.out.later hb) bq.out
            have HC:=Z aK;have HX:=Z (H hS (H ub hb));clear hS hE aK hb Pq ub how eW E4 e4;go_wp2_with fail;refine HC.out.mono ?_;rintro e wy ⟨row,eX,fp',rv,rfl,⟨nR,mP,Gh⟩,zW,ox,zV,TF,Dp,vO⟩;obtain ⟨A',c',AA,-,-⟩:=nR.form;have HP:=Z (H nR (H mP (H Gh (H zW (H ox (H zV (H TF Dp)))))));clear nR mP Gh zW ox zV TF Dp vO AA;go_wp2_with fail;have hz1:=HX.out.1.1;have hz2:=HP.out.2.2.2.2.1.size;refine hK.out _ _ (λj z hj h=>?_) ⟨Y,(HP.out.2.2.2.2.1.blk (w5.heap.size+1) Y HNF.out).trans HX.out.1.2.1,λh=>Y⟩ (λ_=>⟨r,row,eX,fp',HX.out.2.1,⟨HP.out.1,HP.out.2.1,λg hg=>⟨by have:=(HP.out.2.2.1 g hg).1;omega,(HP.out.2.2.1 g hg).2⟩⟩,HP.out.2.2.2.1,(aj.aa HX.out.2.2).trans HP.out.2.2.2.2.1,HP.out.2.2.2.2.2.1,HP.out.2.2.2.2.2.2.1,HP.out.2.2.2.2.2.2.2⟩)
            match j with
            |0|1|2|3|8=>exact h
            |5=>exact absurd rfl hj
            |4=>exact λhc=>Y
            |6=>exact λhc=>Y
            |7=>exact λhc=>Y
            |_+9=>exact trivial
           .have E5:=hE.1 rfl;have re:=E5 rfl;obtain ⟨r,row,eX,fp',q1,⟨q2,q3,q4⟩,q5⟩:=id re;obtain ⟨A5,c5,e5,-,-⟩:=q2.form;obtain ⟨n5,hn5⟩:∃n,row.length=n:=⟨_,rfl⟩;rw[hn5]at e5;rw[e5]at hK re|-;have VC:=Z re;have HX:=Z hS;clear hS hE re q1 q2 q3 q4 q5 E5 e5;have rL:=HX.out.1;go_wp2_with fail;have dA:Below wz.heap.size wz (wz.alloc (.cells #[.slice A5 n5 c5] 187)):=υ.alloc I _;refine hK.out _ _ (λj z hj h=>?_) ⟨ψ,(dA.block (w5.heap.size+1) Y).trans HX.out.2.1,λh=>Y⟩ (λ_=>⟨wz.heap.size,.slice A5 n5 c5,rfl,rL,ξ,by go_simp,rfl,VC.out.later dA⟩)
            match j with
            |0|1|2|3|8=>exact h
            |6=>exact absurd rfl hj
            |4=>exact λhc=>Y
            |5=>exact λhc=>Y
            |7=>exact λhc=>Y
            |_+9=>exact trivial
           .have e1:v 1=_:=hE.1 rfl;rw[e1]at hK|-;have E6:=hE.2.1 rfl;obtain ⟨g,rv,e6,Pr,dR,yP,h1c,re⟩:=E6 rfl;rw[e6]at hK|-;obtain ⟨r,row,eX,fp',q1,q2,q3,q4,q5⟩:=id re;have hown:wz.ownsRow w2.heap.size 187 1 (.slice AE i cE) i gv:=aG Ko.out λg hg=>q4.blk g (Ko.out.lt g hg).2 λhm=>Km.out.out g (bp.2 (.inr (.inl hg))) hm;have Gi:=hS.1;have hcell:∀j u,([rv]:List Value)[j]?=some u->wz.cell? ((⟨g,0,none⟩:Addr).add j)=some u:=λj u hj=>by
             match j,hj with
             |0,hj=>simp at hj;rw[<-hj,Addr.add_lit];exact yP
            have VC:=Z re;have HX:=Z hS;clear hS hE re q1 q2 q3 q4 q5 E6;go_wp2_with (at_builtin;refine cQ rfl _ _ 91 rfl w2.heap.size 187 ie (.slice none 0 0) 1 24 Tryz.underlying91 rJ he0 he1 TD rfl O _ i gv rfl hown ⟨g,0,none⟩ 1 1 [rv] rfl rfl hcell (by intro u hu;simp at hu;subst hu;exact h1c) (by unfold maxLen;omega) Y (by have:=yA.out.size;omega) ?_)
            intro v' wx hown1 fH dY;obtain ⟨A',c',rfl,-,-⟩:=ar hown1;refine hK.out _ _ (λj z hj h=>?_) ⟨Nat.le_trans HX.out.1 fH.size,(fH.block (w5.heap.size+1) Y (λe=>Km.out.Zc e.symm)).trans HX.out.2.1,λh=>Y⟩ (λ_=>⟨rv,wz,A',c',rfl,VC.out,fH,hown1,dY⟩)
            match j with
            |0|1|2|3|8=>exact h
            |7=>exact absurd rfl hj
            |4=>exact λhc=>Y
            |5=>exact λhc=>Y
            |6=>exact λhc=>Y
            |_+9=>exact trivial
           .exact ζ
          .intro v wz hS hF;have e0:v 0=_:=hF 0 O;have e1:v 1=_:=hF 1 O;have e2:v 2=_:=hF 2 O;have e3:v 3=_:=hF 3 O;have e8:v 8=_:=hF 8 O;have E4:=hF 4 O;have E5:=hF 5 O;have E6:=hF 6 O;have E7:=hF 7 O;simp only[ay,Act.put,gU,gV,gW,Nat.zero_add,Nat.reduceAdd,eK,eL,List.drop_succ_cons,List.drop_zero,e0,e1,e2,e3,e8];clear hF e0 e1 e2 e3 e8;obtain ⟨rv,w6,A7,c7,e7,re,hg7,VD,Ei⟩:=E7 rfl;rw[e7]at VD Ei|-;have QF:=hS.2.1.trans TB.out;have xz0:wz.cell? ⟨w5.heap.size+1,0,none⟩=some (.slice AE i cE):=by rw[cell_of_row _ _ _ _ _ _ QF];rfl
           have fz0:wz.frozen? ⟨w5.heap.size+1,0,none⟩=false:=by simp[World.frozen?,QF]
           have lNz:w5.heap.size+1<wz.heap.size:=(γ QF).1;obtain ⟨row,eX,fp',bB,VE⟩:=Gj (w0:=w2) Km.out VA.out BB.out (by rw[if_neg Pg.out];exact ⟨_,rfl,aiy.out⟩) (show i<gs.length by rw[IM.out];exact hlt) yA.out HGF.out TG.out re hg7 (by rw[Pc.out];exact VD) Ei (λk hk=>(QD.out.lt k hk).1)
           have L8:¬w5.heap.size+1=w2.heap.size+1:=λe=>by have:=bB.ma.out _ (bp.2 (.inl rfl));have h8:=bB.sb;obtain ⟨vg8,gv8,F8,VF,-⟩:=h8;rw[VF,e]at this;exact this (by simp[iH])
           have yQ:¬w2.heap.size+1=w5.heap.size+1:=λe=>L8 e.symm;have bo:∀k,k≠w5.heap.size+1->(wz.setCell ⟨w5.heap.size+1,0,none⟩ (.slice A7 (i+1) c7)).heap[k]?=wz.heap[k]?:=λk hk=>Below.heap_setCell _ _ _ _ hk;obtain ⟨Ag',cg',VG,aip,-⟩:=bB.sb.Eh;obtain ⟨L9,yR⟩:∃n,eX.length=n:=⟨_,rfl⟩;rw[yR]at VG;have x4z:wz.cell? ⟨w2.heap.size+1,4,none⟩=some (.slice Ag' L9 cg'):=(χ (w2.heap.size+1) 4 (bo _ yQ)).symm.trans VG;have aiq:w2.heap.size+1<wz.heap.size:=by have:=hS.1;omega
           have xn:L9<=100000:=by rw[<-yR];have:=IM.out;omega
           have mJ:=Z bB;have Ma:=Z yR;clear hS re hg7 VD Ei QF e7 E4 E5 E6 E7 bB VE VG yR;by_cases h2k:2000<L9
           .have d4:decide (2000<(L9:Int))=true:=τ;have QG:=(bo (w.heap.size+1) Y).symm.trans ((mJ.out.bl.block (w.heap.size+1) Y).trans Qx.out);obtain ⟨rz0,rz1⟩:wz.cell? ⟨w.heap.size+1,0,none⟩=some (.slice none 0 0)/\wz.cell? ⟨w.heap.size+1,1,none⟩=some (.slice none 0 0):=by constructor <;> (rw[cell_of_row _ _ _ _ _ _ QG]; rfl)
            have gz0:wz.frozen? ⟨w.heap.size+1,0,none⟩=false:=by simp[World.frozen?,QG]
            have gz1:wz.frozen? ⟨w.heap.size+1,1,none⟩=false:=by simp[World.frozen?,QG]
            have lRz:w.heap.size+1<wz.heap.size:=Y;have nRN:¬w.heap.size+1=w5.heap.size+1:=Y;have ait:¬w5.heap.size+1=w.heap.size+1:=Y;clear QG bo;go_wp2_with fail;refine az λWf bY=>?_;refine bodyPost_ret (v:=.tuple #[iG,.int .i64 3]) (by rw[bY];simp[results,Tryz.results109,go_sem,rz0,rz1,lRz,iG];try rfl) rfl ?_
            have pN:Below w.heap.size w Wf:=by
             rw[bY];have h1:=wH.out.trans (mJ.out.bl.mono IK);exact (h1.sc (w.heap.size+1) 0 (by show w.heap.size<=w.heap.size+1;omega) _).sc (w.heap.size+1) 1 (by show w.heap.size<=w.heap.size+1;omega) _
            exact ⟨pN,.inr (.inr ⟨HQ.out.1,fJ.out.1,b,x,eX,_,_,i+1,xj.out.2.1,by rw[HN.out.1,HN.out.2.2.1],QC.out,mJ.out.ci,.inl ⟨by rw[Ma.out];exact h2k,rfl⟩⟩)⟩
           .have d4:decide (2000<(L9:Int))=false:=θ;have VH:=mJ.out.ci.il;clear bo;go_wp2_with fail;go_roundw
            case rel=>exact ⟨i+1,eX,fp',_,_,_,_,_,by go_num,VH,by rw[Ma.out];omega,mJ⟩
            case measure=>exact μ
      .have rJ:i=ng:=Y;have hd:decide ((i:Int)<(ng:Int))=false:=θ;have vV:=HL.out.ci;rw[rJ,<-IM.out]at vV;obtain ⟨ab1,lH,-⟩:=vV.done QC.out;have lA:=HL.out.ci.rl;have h0:1<=i:=by have:=(List.getElem?_eq_some_iff.1 HL.out.ci.g0).1;have:=IM.out;omega
       have j9:sF ⟨rs,bL⟩:=⟨λr hr=>(lH r hr).2,λr hr=>Nat.le_trans (lH r hr).1 O,by show rs.length<=_;omega⟩
       have Mf:=sJ.out.below (wH.out.trans (HL.out.bl.mono IK)) sJ.out.low;have jx:=HL.out.ma.own;have kD:wr.ownsRow w2.heap.size 4 1 vA bL.length (bF bC bL):=HL.out.ma.acc;obtain ⟨AE,cE,rfl,-,-⟩:=ar jx;obtain ⟨AV,cA,rfl,-,-⟩:=ar kD;have hle:=IW _ ⟨rs,bL⟩ wr HL.out.ma.ab2 ab1 j9 (by show 1<=rs.length;omega) Mf
       obtain ⟨nE,Zf⟩:∃n,rs.length=n:=⟨_,rfl⟩;obtain ⟨nV,Zg⟩:∃n,bL.length=n:=⟨_,rfl⟩;have QL:=HL.out.ma.hN;rw[Zf,Zg]at hle QL;obtain ⟨QE,xn1⟩:wr.cell? ⟨w5.heap.size+1,0,none⟩=some (.slice AE nE cE)/\wr.cell? ⟨w5.heap.size+1,1,none⟩=some (.slice AV nV cA):=by constructor <;> (rw[cell_of_row _ _ _ _ _ _ QL]; rfl)
       have lNw:w5.heap.size+1<wr.heap.size:=(γ QL).1;have TM:=Z hle;have BB:=Z vV;clear vV ab1 lH lA j9 Mf jx kD hle Zf Zg QL rJ;go_wp2_with fail;refine TM.out.mono ?_;rintro e w9 ⟨rv,m',rfl,lK,ja,hok⟩;obtain ⟨ve9,va9,rfl,he9,ha9⟩:=lK.mc;obtain ⟨A9,c9,rfl,-⟩:=he9.form;obtain ⟨B9,d9,rfl,-⟩:=ha9.form;obtain ⟨n9,hn9⟩:∃n,m'.ed.length=n:=⟨_,rfl⟩;obtain ⟨m9,hm9⟩:∃n,m'.ac.length=n:=⟨_,rfl⟩;rw[hn9,hm9]at lK|-;have hz9:=ja.size;have Pt:=(ja.block (w.heap.size+1) Y).trans ((HL.out.bl.block (w.heap.size+1) Y).trans Qx.out);obtain ⟨rz0,rz1⟩:w9.cell? ⟨w.heap.size+1,0,none⟩=some (.slice none 0 0)/\w9.cell? ⟨w.heap.size+1,1,none⟩=some (.slice none 0 0):=by constructor <;> (rw[cell_of_row _ _ _ _ _ _ Pt]; rfl)
       have gz0:w9.frozen? ⟨w.heap.size+1,0,none⟩=false:=by simp[World.frozen?,Pt]
       have gz1:w9.frozen? ⟨w.heap.size+1,1,none⟩=false:=by simp[World.frozen?,Pt]
       have lR9:w.heap.size+1<w9.heap.size:=Y;have HUP:=Z (H lK (H ja hok));clear lK ja hok he9 ha9 Pt hn9 hm9;go_wp2_with fail;refine az λWf bY=>?_;refine bodyPost_ret (v:=.tuple #[.agg #[.slice A9 n9 c9,.slice B9 m9 d9],.int .i64 0]) (by rw[bY];simp[results,Tryz.results109,go_sem,rz0,rz1,lR9];try rfl) rfl ?_
       have aU:aj [w.heap.size+1] [] w9 Wf:=by
        rw[bY];have hne:∀k,k∉[w.heap.size+1]->k≠w.heap.size+1:=λk hn e=>hn (List.mem_singleton.2 e);exact ⟨rfl,rfl,rfl,by simp[World.setCell],λk _ hn=>(Below.heap_setCell (w9.setCell ⟨w.heap.size+1,0,none⟩ _) ⟨w.heap.size+1,1,none⟩ _ k (hne k hn)).trans (Below.heap_setCell w9 ⟨w.heap.size+1,0,none⟩ _ k (hne k hn)),λk hk=>by cases hk⟩
       have aY:Below w.heap.size w wr:=wH.out.trans (HL.out.bl.mono IK);have pN:Below w.heap.size w Wf:=(aY.trans (HUP.out.2.1.mono aY.size)).trans (aU.below (λk hk=>by rw[List.mem_singleton]at hk;omega) Y)
       have aiE:=(HUP.out.1.keep aU (λk hk=>by rw[List.mem_singleton]at hk;omega)).mono aY.size
       exact ⟨pN,.inr (.inr ⟨HQ.out.1,fJ.out.1,b,x,gs,rs,bL,gs.length,xj.out.2.1,by rw[HN.out.1,HN.out.2.2.1],QC.out,BB.out,.inr ⟨rfl,by rw[IM.out];exact mg,_,m',rfl,aiE,HUP.out.2.2⟩⟩)⟩
end
def oI:Nd:=.mk 4 [] [.mk 1 [(97,97)] [] 0 0] 1 2
theorem tL:aR oI=0:=O
def eR:Mc:=⟨[[⟨97,97,1⟩],[⟨97,97,2⟩],[]],[false,true,true]⟩
theorem aaT(c t:Nat):bO [⟨97,97,t⟩] c=if 97<=c/\c<=97 then some t else none:=rfl
theorem aa2:∀w,dG eR w 2=true↔w=[]
 | []=>O
 |c::w=>by
  rw[cC];show (match bO [] c with|none=>false|some t=>dG eR w t)=true↔_
  simp[bO]
theorem aa1:∀w,dG eR w 1=true↔w=[]\/w=[97]
 | []=>O
 |c::w=>by
  rw[cC];show (match bO [⟨97,97,2⟩] c with|none=>false|some t=>dG eR w t)=true↔_
  rw[aaT];by_cases h:97<=c/\c<=97
  .rw[if_pos h];show dG eR w 2=true↔_;rw[aa2];obtain rfl:c=97:=Y;simp
  .rw[if_neg h];constructor
   .intro h1;cases h1
   .rintro (h1|h1)
    .cases h1
    .injection h1 with h1 _;omega
theorem aa0:∀w,dG eR w 0=true↔w=[97]\/w=[97,97]
 | []=>O
 |c::w=>by
  rw[cC];show (match bO [⟨97,97,1⟩] c with|none=>false|some t=>dG eR w t)=true↔_
  rw[aaT];by_cases h:97<=c/\c<=97
  .rw[if_pos h];show dG eR w 1=true↔_;rw[aa1];obtain rfl:c=97:=Y;simp
  .rw[if_neg h];constructor
   .intro h1;cases h1
   .rintro (h1|h1)
    .injection h1 with h1 _;omega
    .injection h1 with h1 _;omega
theorem pA:Canon eR where
 len:=rfl
 pd:=by
  intro r hr;simp only[eR,List.mem_cons,List.not_mem_nil,or_false]at hr;rcases hr with rfl|rfl|rfl <;> simp[cm]
 mx:=by
  intro r hr;simp only[eR,List.mem_cons,List.not_mem_nil,or_false]at hr;rcases hr with rfl|rfl|rfl <;> simp[oJ]
 to:=O
 live:=by
  intro s hs
  match s,hs with
  |0,_=>exact ⟨[97,97],O⟩
  |1,_=>exact ⟨[97],O⟩
  |2,_=>exact ⟨[],O⟩
  |s+3,hs=>exact absurd hs (by show ¬s+3<3;omega)
 Hn:=by
  intro s t hs ht h;have Ho:s<3:=hs;have Aq:t<3:=ht;have h1:=h [];have h2:=h [97];have h3:∀s,s<3->∀t,t<3->dG eR [] s=dG eR [] t->dG eR [97] s=dG eR [97] t->s=t:=O;exact h3 s Ho t Aq h1 h2
 meet:=by simp[eR,jJ,oc,oK]
theorem PJ(w:List Nat):bg oI w↔w=[97]\/w=[97,97]:=by
 have hk:∀u,bg (.mk 1 [(97,97)] [] 0 0) u↔u=[97]:=λu=>by
  rw[bg];show (if 1=1 then _ else _)↔_;rw[if_pos rfl];simp[lu];constructor
  .rintro ⟨c,rfl,h1,h2⟩;rw[show c=97 by omega]
  .rintro rfl;exact ⟨97,rfl,Y,Y⟩
 have h0:bg oI w↔∃j:Nat,(1:Int)<=(j:Int)/\(j:Int)<=2/\kh (bg (.mk 1 [(97,97)] [] 0 0)) j w:=by
  unfold oI;rw[bg];exact Iff.rfl
 rw[h0];constructor
 .rintro ⟨j,h1,h2,h⟩;rcases (show j=1\/j=2 by omega) with rfl|rfl
  .obtain ⟨u1,v1,rfl,h3,h4⟩:=h;have h3:u1=[]:=h3;subst h3;exact .inl ((hk _).1 h4)
  .obtain ⟨u,v,rfl,⟨u1,v1,rfl,h3,h4⟩,h5⟩:=h;have h3:u1=[]:=h3;subst h3;have e1:=(hk _).1 h4;have e2:=(hk _).1 h5;subst e1 e2;exact .inr rfl
 .rintro (rfl|rfl)
  .exact ⟨1,O,O,[],[97],rfl,rfl,(hk _).2 rfl⟩
  .exact ⟨2,O,O,[97],[97],rfl,⟨[],[97],rfl,rfl,(hk _).2 rfl⟩,(hk _).2 rfl⟩
theorem KH:aW oI=2:=O
theorem aaq{w w':World}{e:Ending}(h:DA oI w e w'):Below w.heap.size w w'/\∃rv,e=.returned (.tuple #[rv,.int .i64 0])/\iB w.heap.size w' rv eR:=by
 obtain ⟨hb,h⟩:=h;refine ⟨hb,?_⟩;rcases h with ⟨h1,-⟩|⟨-,h1,-⟩|⟨-,-,b,x,gs,rows,bL,i,hw,hf,hs,hc,h⟩
 .exact absurd tL h1
 .rw[KH]at h1;omega
 .have UB:=hc.count;rw[hw.len,hf,KH]at UB;rcases h with ⟨h1,-⟩|⟨rfl,-,rv,m',rfl,lK,hle⟩
  .omega
  .have hd:=(hc.done hs).2.2;have hl:∀u,dG ⟨rows,bL⟩ u 0=dG eR u 0:=λu=>by
    rw[Bool.eq_iff_iff,hd,hw.gG,show (gN oI).l u↔bg oI u from Iff.rfl,PJ,aa0]
   have Dc:br ⟨rows,bL⟩ 0:=⟨[97,97],by rw[hl];decide⟩
   rcases hle.1 with ⟨-,agR,zM⟩|⟨h1,-⟩
   .have:=Canon.unique agR pA λu=>by rw[zM,hl]
    subst this;exact ⟨rv,rfl,lK⟩
   .exact absurd Dc h1
end Go.Proofs.YtdmoogjddmdmbaaGreatDoor
