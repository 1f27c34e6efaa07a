/- Walks. -/
import Derived.Test.YtdmoogjddmdmbaaGreatDoorV20
import Derived.Test.YtdmoogjddmdmbaaGreatDoorV07
import Derived.Test.YtdmoogjddmdmbaaGreatDoorV13
import Derived.Test.YtdmoogjddmdmbaaGreatDoorV16
import Derived.Test.YtdmoogjddmdmbaaGreatDoorV04
import Derived.Laws.AppendOwnNone
set_option maxRecDepth 100000
set_option maxHeartbeats 16000000
set_option linter.unusedVariables false
set_option linter.unusedSimpArgs false
namespace Go.Proofs.YtdmoogjddmdmbaaGreatDoor
open Go.RowKit
section
set_option linter.unusedVariables false
set_option linter.unusedSimpArgs false
open Go.RowKit
def CU (B:Nat) (v:Value) (L:List Nat) (w:World):Prop:=w.ownsRow B 3 1 v L.length (bG L)/\(v = .slice none 0 0\/L≠[])
theorem CU.later {B:Nat} {v:Value} {L:List Nat} {w w':World} (h:CU B v L w) (hb:Below w.heap.size w w'):CU B v L w':=⟨bj h.1 hb,h.2⟩
theorem CU.il {B:Nat} {v:Value} {L:List Nat} {w:World} (h:CU B v L w):IL w v L:=IL.fS h.1 λhv=>h.2.resolve_left hv
structure EgR (w0:World) (s mb:Nat) (v0 v1 v2:Value) (b:Pb) (gs:List (List Nat)) (fp fo:List Nat) (wB:World) (cuts:List Nat) (i:Nat) (row:List Ed) (eZ:List (List Nat)) (fp':List Nat) (ov:Value) (wr:World):Prop where
 own:OR 195 3 ki wB.heap.size ov row wr
 out:aG fp' ov
 sb:rU w0.heap.size s mb v0 v1 v2 eZ fp' wr
 kf:ah fp fp' wB wr
 ri:eu b fo eZ row (jH cuts i)
 gg:mq b fo gs eZ
 ln:eZ.length<=gs.length+i/\row.length<=i
def V9 (w0:World) (s mb:Nat) (v0 v1 v2:Value) (b:Pb) (gs:List (List Nat)) (fp fo:List Nat) (w:World) (e:Ending) (w':World):Prop:=
 ∃row eZ fp' rv,e = .returned rv/\(dR w' rv row/\aG fp' rv/\∀g,rv.ownBlock=some g->w.heap.size<=g/\g<w'.heap.size)/\rU w0.heap.size s mb v0 v1 v2 eZ fp' w'/\ah fp fp' w w'/\eu b fo eZ row 256/\mq b fo gs eZ/\eZ.length<=gs.length+257/\row.length<=257
set_option maxHeartbeats 16000000 in
theorem xI (w0:World) (s mb:Nat) (v0 v1 v2:Value) (b:Pb) (gs:List (List Nat)) (fp:List Nat) (w:World) (fo:List Nat) (v:Value)
  (h:rU w0.heap.size s mb v0 v1 v2 gs fp w) (hs:nU w0 fp w v0 b.sets) (aI:Below w0.heap.size w0 w) (hR:∀rs∈b.sets,fN rs=true)
  (hv:IL w v fo) (ho:aG fp v) (Zq:∀p∈fo,p<b.sets.length) (kF:fo.length<=600) (hsl:b.sets.length<=600) (Ir:gs.length<=100000) (h0:gs[0]?=some []) (om:cd w) (fV:nG<=w0.heap.size) :
  Calls Tryz.prog 137 #[.pointer (some ⟨s,0,none⟩),v] w (V9 w0 s mb v0 v1 v2 b gs fp fo w):=by
 obtain ⟨Af,cf,rfl,aiU,aau⟩:=hv.form;obtain ⟨vg,gv,F,rfl,hb⟩:=h;obtain ⟨Av,cv,rfl,hcv,-⟩:=id hs;have hcs:=hb.cs;have hlt:=hb.lt;have ZE:s<w.heap.size:=(hlt s (by simp[iQ])).2
 obtain ⟨nf,LV⟩:∃n,fo.length=n:=⟨_,rfl⟩;obtain ⟨ns,E0⟩:∃n,b.sets.length=n:=⟨_,rfl⟩;obtain ⟨ii,Ze,GH,sY,pS⟩:=info_parts ft;have qe:=hs.lt;have My:=Lib.hid (show (∀rs∈b.sets,rs.length<=257)/\∀rs∈b.sets,∀r∈rs,r.1<256/\r.2<256 from ⟨λrs h=>Q5 (hR rs h) λr hr=>(qe rs h r hr).2,qe⟩);clear qe;rw[E0]at hs hb;have HV:=Lib.hid hv;have HO:=Lib.hid ho;have HS:=Lib.hid hs;have HB:=Lib.hid hb;have HR:=Lib.hid hR;have HFO:=Lib.hid Zq;have LU:=Lib.hid hlt;have acd:=Lib.hid aI;have H0:=Lib.hid h0;have qN:=Lib.hid om;have HN:=Lib.hid (And.intro LV E0);have HGS:=Lib.hid Ir;rw[E0]at hcs hsl hcv;rw[LV]at kF aiU|-;have PB:=Lib.hid hcs;rw[E0];have aiW:=aI.size;clear hv ho hs hb hR Zq hlt aI h0 om LV E0 Ir hcs
 go_enter Tryz.func137,Tryz.ntmps137
 go_wp2_with fail
 go_loopw [19,5] (λiv cu wr=>∃k:Nat,k<=nf/\iv = .int .i64 (k:Int)/\Hid (CU w.heap.size cu (kO b.sets (fo.take k)) wr)/\Hid (Below w.heap.size w wr)) (λiv _ _=>nf - (intOf iv).toNat)
 case atStart=>exact ⟨0,Nat.zero_le _,rfl,⟨World.ownsRow_nil _ _ _ _, .inl rfl⟩,Below.refl _ _⟩
 case round=>
  obtain ⟨k,hk,rfl,HC,bI⟩:=hrel;by_cases hlt:k<nf
  .have hd:decide ((k:Int)<(nf:Int))=true:=decide_eq_true (by omega)
   have di:k<fo.length:=by rw[HN.out.1];exact hlt
   obtain ⟨g,f,rfl,hg,hcell⟩:=HV.out.at_ di;have nP:=hcell wr (bI.out.block g hg);have hwr:=bI.out.size;have M8:g<wr.heap.size:=by omega
   obtain ⟨p,v8⟩:∃p,fo[k]=p:=⟨_,rfl⟩;have LQ:p∈fo:=by rw[<-v8];exact List.getElem_mem di
   have zA:=HFO.out p LQ;obtain ⟨gS,rv,rfl,-,Vt,TE,Gc⟩:=HS.out.at_ zA;have Wa:=(World.cell?_of_block (a:=⟨gS,p,none⟩) (bI.out.block gS Vt)).trans TE;have aiX:gS<wr.heap.size:=by omega
   rw[v8]at nP;have ast:s<wr.heap.size:=by omega
   have hrow:wr.heap[s]?=_:=(bI.out.block s ZE).trans PB.out;have d0:wr.cell? ⟨s,0,none⟩=some (.slice (some ⟨gS,0,none⟩) ns cv):=by rw[cell_of_row _ _ _ _ _ _ hrow];rfl
   have xH:p<ns:=by rw[<-HN.out.2];exact zA
   have QJ:decide (p<ns)=true:=decide_eq_true xH;obtain ⟨rs,GX⟩:∃rs,b.sets[p]=rs:=⟨_,rfl⟩;rw[GX]at Gc;obtain ⟨Ar,cr,rfl,hcr,ace⟩:=id Gc;have acf:rs=[]\/∃g f,Ar=some ⟨g,f,none⟩/\g<w0.heap.size/\∀i (h:i<rs.length),(w0.cell? ⟨g,f+i*2,none⟩=some (.int .u8 (rs[i].1:Int))/\w0.cell? ⟨g,f+i*2+1,none⟩=some (.int .u8 (rs[i].2:Int)))/\rs[i].1<256/\rs[i].2<256:=ace;have rJ:rs.length<=257:=My.out.1 rs (by rw[<-GX];exact List.getElem_mem zA)
   obtain ⟨nr,nZ⟩:∃n,rs.length=n:=⟨_,rfl⟩;have hsp:b.sets[p]?=some rs:=by rw[List.getElem?_eq_getElem zA,GX]
   have eb:kO b.sets (fo.take k)++iT rs=kO b.sets (fo.take (k+1)):=by rw[List.take_succ_eq_append_getElem di,v8,xS,hsp];rfl
   have lY:=Lib.hid eb;have HRD:=Lib.hid acf;have Y9:=Lib.hid nZ;rw[nZ]at hcr rJ Wa;have BU:(kO b.sets (fo.take k)).length<=2*257*k:=Nat.le_trans (uD My.out.1 _) (Nat.mul_le_mul_left _ (List.length_take_le _ _));obtain ⟨L0,hL0⟩:∃L,kO b.sets (fo.take k)=L:=⟨_,rfl⟩;rw[hL0]at HC lY BU;have aiZ:=Lib.hid bI.out;clear hcell v8 LQ zA TE Gc GX ace acf hsp eb hrow di hL0 bI;go_wp2_with fail;obtain ⟨WO,rfl⟩:∃W:World,W=wr:=⟨_,rfl⟩
   go_loopw [32,5] (λjv VZ wr=>∃j:Nat,j<=nr/\jv = .int .i64 (j:Int)/\Hid (CU w.heap.size VZ (L0++iT (rs.take j)) wr)/\Hid (Below w.heap.size w wr)) (λjv _ _=>nr - (intOf jv).toNat)
   case atStart=>exact ⟨0,Nat.zero_le _,rfl,by rw[List.take_zero];simp only[iT,List.append_nil];exact HC,aiZ⟩
   case round=>
    obtain ⟨j,hj,rfl,Ex,eO⟩:=hrel;by_cases uu:j<nr
    .have jO:decide ((j:Int)<(nr:Int))=true:=decide_eq_true (by omega)
     have oa:j<rs.length:=by rw[Y9.out];exact uu
     obtain ⟨g2,f2,rfl,jC,UQ⟩:=HRD.out.resolve_left (λe=>by rw[e]at oa;cases oa)
     obtain ⟨⟨q1,q2⟩,q3,q4⟩:=UQ j oa;have pq:=eO.out.size;have hblk:wr.heap[g2]?=w0.heap[g2]?:=(eO.out.block g2 (by omega)).trans (acd.out.block g2 jC)
     have r1:=(World.cell?_of_block (a:=⟨g2,f2+j*2,none⟩) hblk).trans q1;have r2:=(World.cell?_of_block (a:=⟨g2,f2+j*2+1,none⟩) hblk).trans q2;have asv:g2<wr.heap.size:=by omega
     obtain ⟨lo,hi,hx⟩:∃lo hi,rs[j]=(lo,hi):=⟨_,_,rfl⟩;rw[hx]at r1 r2 q3 q4;have ach:(L0++iT (rs.take j))++[lo,hi+1]=L0++iT (rs.take (j+1)):=by rw[List.take_succ_eq_append_getElem oa,hx,xR,List.append_assoc]
     have Vc:=Lib.hid ach;have Q4:(L0++iT (rs.take j)).length<=1000000:=by
      have:=List.length_take_le j rs;rw[List.length_append,uC];omega
     obtain ⟨Ac,nc,cc,rfl⟩:∃A n c,u5 = .slice A n c:=by
      obtain ⟨A,c,e,-⟩:=ag Ex.out.1;exact ⟨_,_,_,e⟩
     have GY:=Lib.hid Q4;clear UQ q1 q2 hblk hx ach Q4 oa;have cT:(wr.alloc (.cells #[.int .u8 (lo:Int), .int .u8 (hi:Int)] 84)).ownsRow w.heap.size 3 1 (.slice Ac nc cc) (L0++iT (rs.take j)).length (bG (L0++iT (rs.take j))):=Ex.out.1.alloc _;have ai0:(wr.alloc (.cells #[.int .u8 (lo:Int), .int .u8 (hi:Int)] 84)).heap.size=wr.heap.size+1:=by simp
     go_wp2_with (at_builtin; refine Gj (w:=wr.alloc (.cells #[.int .u8 (lo:Int), .int .u8 (hi:Int)] 84)) Tryz.underlying22 Ze GH sY pS rfl _ _ _ _ 2 2 _ [.int .i64 (lo:Int), .int .i64 ((hi:Int)+1)] w.heap.size rfl rfl rfl (by rw[ai0]; rfl) rfl cT (by intro u hu; simp at hu; rcases hu with rfl | rfl <;> rfl) (by have:=GY.out; omega) (by have:=GY.out; omega) (by omega) ?_)
     intro v' w3 bZ dc aci;obtain ⟨A',n',c',rfl⟩:∃A n c,v' = .slice A n c:=by
      obtain ⟨A,c,e,-⟩:=ag bZ;exact ⟨_,_,_,e⟩
     have Jj:CU w.heap.size (.slice A' n' c') (L0++iT (rs.take (j+1))) w3:=by
      rw[<-Vc.out];refine ⟨?_, .inr (by simp)⟩
      rw[jR,List.length_append,List.length_append];have:bG [lo,hi+1]=[.int .i64 (lo:Int), .int .i64 ((hi:Int)+1)]:=by simp[bG]
      rw[this];exact bZ
     have Zy:=Lib.hid Jj;have y7:=Lib.hid (eO.out.trans ((((Below.refl w.heap.size wr).alloc (by omega) _)).trans (dc.mono (Nat.le_refl _))))
     clear bZ dc aci Jj cT;go_wp2_with fail;go_roundw
     case rel=>exact ⟨j+1,by omega,by go_num,Zy,y7⟩
     case measure=>simp[intOf];omega
    .obtain rfl:j=nr:=by omega
     have jO:decide ((j:Int)<(j:Int))=false:=decide_eq_false (by omega)
     have hc4:=Ex.out;rw[List.take_of_length_le (by rw[Y9.out];exact Nat.le_refl _),lY.out]at hc4
     have HC4:=Lib.hid hc4;clear hc4;go_wp2_with fail;go_roundw
     case rel=>exact ⟨k+1,by omega,by go_num,HC4,eO⟩
     case measure=>simp[intOf];omega
  .obtain rfl:k=nf:=by omega
   have hd:decide ((k:Int)<(k:Int))=false:=decide_eq_false (by omega)
   have lQ:=HC.out;rw[List.take_of_length_le (by rw[HN.out.1];exact Nat.le_refl _)]at lQ
   have an9:(kO b.sets fo).length<=2*257*k:=by rw[<-HN.out.1];exact uD My.out.1 _
   have pC:=iM u5 _ wr lQ.il (by omega)
   have HSO:=Lib.hid pC;obtain ⟨Ac,nc,cc,rfl⟩:∃A n c,u5 = .slice A n c:=by
    obtain ⟨A,c,e,-⟩:=ag lQ.1;exact ⟨_,_,_,e⟩
   clear lQ pC HC;go_wp2_with fail;refine HSO.out.mono ?_;rintro e wB ⟨vc,cuts,rfl,ZF,hown,eY,hbB⟩;have xJ:rm b fo cuts:=⟨ZF.1,λp hp r hr=>by
    have:=Cs (sets:=b.sets) hp hr;exact ⟨(ZF.2 _).2 this.1,(ZF.2 _).2 this.2⟩,λv hv=>GU My.out.2 v ((ZF.2 v).1 hv)⟩
   have hB:=bI.out.trans (hbB.mono bI.out.size);have hout:aG (iQ s mb vg) vc:=λg hg hm=>by have:=(hown.lt g hg).1;have:=(LU.out g hm).2;have:=bI.out.size;omega
   have Na:EgR w0 s mb (.slice Av ns cv) v1 v2 b gs (iQ s mb vg) fo wB cuts 0 [] gs (iQ s mb vg) (.slice none 0 0) wB:=
    ⟨OR.ic _ _ _,λg hg=>by simp[Value.ownBlock]at hg,rU.later ⟨vg,gv,F,rfl,HB.out⟩ hB,ah.refl _ _,xJ.start gs,mq.refl _ _ _,⟨by omega,by simp⟩⟩
   obtain ⟨Av',cv',rfl,Wb,ai2⟩:=eY.form;obtain ⟨nc,Bu⟩:∃n,cuts.length=n:=⟨_,rfl⟩;have ai3:nc<=257:=by rw[<-Bu];exact kH (a:=0) ZF.1 λp hp=>⟨Nat.zero_le _,by have:=xJ.le p hp;omega⟩
   rw[Bu]at Wb;have lY:=Lib.hid Na;have Ci:=Lib.hid xJ;have PH:=Lib.hid (And.intro eY hout);have Ep:=Lib.hid hB;have HNC:=Lib.hid Bu;rw[Bu];have hwB:=hB.size;clear ZF hown eY hbB xJ hB hout Na Bu;go_wp2_with fail
   go_loopw [10,11] (λov iv wr=>∃(i:Nat) (row:List Ed) (eZ:List (List Nat)) (fp':List Nat),(i=0\/i+1<=nc)/\iv = .int .i64 (i:Int)/\Hid (EgR w0 s mb (.slice Av ns cv) v1 v2 b gs (iQ s mb vg) fo wB cuts i row eZ fp' ov wr)) (λ_ iv _=>nc - (intOf iv).toNat)
   case atStart=>exact ⟨0,[],gs,iQ s mb vg, .inl rfl,rfl,lY⟩
   case round=>
    obtain ⟨i,row,eZ,fp',hi,rfl,HE⟩:=hrel;have km:=HE.out.kf;obtain ⟨ai4,d0,-,-⟩:=HE.out.sb.cells;obtain ⟨Ao,no,co,rfl⟩:∃A n c,u10 = .slice A n c:=by
     obtain ⟨A,c,e,-⟩:=ag HE.out.own;exact ⟨_,_,_,e⟩
    by_cases ai5:i+1<nc
    .have Ju:decide ((i:Int)+1<(nc:Int))=true:=decide_eq_true (by omega)
     have hic:i+1<cuts.length:=by rw[HNC.out];exact ai5
     obtain ⟨D6,kA⟩:=Ci.out.lt hic;have Q9:=(PH.out.1.keep PH.out.2 km).1;obtain ⟨gc,fc,rfl,TR,lK⟩:=Q9.at_ (show i<cuts.length by omega)
     obtain ⟨gc',fc',e',-,acm⟩:=Q9.at_ hic;obtain ⟨rfl,rfl⟩:gc=gc'/\fc=fc':=by injection e' with e';injection e' with e1 e2;exact ⟨e1,e2⟩
     have z0:=lK wr rfl;have z1:=acm wr rfl;have e1:jH cuts i=cuts[i]:=by unfold jH;rw[List.getElem?_eq_getElem (by omega)];rfl
     have e2:jH cuts (i+1)=cuts[i+1]:=by unfold jH;rw[List.getElem?_eq_getElem hic];rfl
     obtain ⟨lo,aD⟩:∃x,jH cuts i=x:=⟨_,rfl⟩;obtain ⟨hi',Lc⟩:∃x,jH cuts (i+1)=x:=⟨_,rfl⟩;rw[<-e1,aD]at z0;rw[<-e2,Lc]at z1;rw[aD,Lc]at D6;rw[Lc]at kA;have w1:IntKind.u8.wrap (lo:Int)=(lo:Int):=IntWalk.u8_in _ (by omega)
     have w2:IntKind.u8.wrap ((hi':Int) - 1)=(hi':Int) - 1:=IntWalk.u8_in _ (by omega)
     have w3:IntKind.i64.wrap ((i:Int)+1)=(i:Int)+1:=IntWalk.i64_in _ (by omega)
     have w4:((i:Int)+1).toNat=i+1:=by omega
     have w5:IntKind.i64.wrap ((hi':Int) - 1)=(hi':Int) - 1:=IntWalk.i64_in _ (by omega)
     have Ra:=Lib.hid (And.intro aD Lc);have ZC:=Lib.hid Q9;clear lK acm e' e1 e2 Q9 aD Lc;go_wp2_with fail
     go_quiet (fail)
     go_wp2_with fail;obtain ⟨WO,rfl⟩:∃W:World,W=wr:=⟨_,rfl⟩
     go_loopw [71,14] (λjv gvv wr=>∃j:Nat,j<=k/\jv = .int .i64 (j:Int)/\Hid (CU WO.heap.size gvv (gz b (fo.take j) lo) wr)/\Hid (Below WO.heap.size WO wr)) (λjv _ _=>k - (intOf jv).toNat)
     case atStart=>exact ⟨0,Nat.zero_le _,rfl,⟨World.ownsRow_nil _ _ _ _, .inl rfl⟩,⟨rfl,rfl,rfl,Nat.le_refl _,λ_ _=>rfl⟩⟩
     case round=>
      obtain ⟨j,hj,rfl,HC4,PI⟩:=hrel;have PJ:=PI.out.size;by_cases Wc:j<k
      .have PK:decide ((j:Int)<(k:Int))=true:=decide_eq_true (by omega)
       have oa:j<fo.length:=by rw[HN.out.1];exact Wc
       have acn:=((HV.out.later Ep.out).keep HO.out km).1;obtain ⟨gf,ff,rfl,DX,xr⟩:=acn.at_ oa;have nP:=xr wr (PI.out.block gf DX);obtain ⟨p,v8⟩:∃p,fo[j]=p:=⟨_,rfl⟩;have LQ:p∈fo:=by rw[<-v8];exact List.getElem_mem oa
       have zA:=HFO.out p LQ;obtain ⟨gS,rv,rfl,-,Vt,TE,Gc⟩:=((HS.out.later Ep.out).keep km).at_ zA;have Wa:=(World.cell?_of_block (a:=⟨gS,p,none⟩) (PI.out.block gS Vt)).trans TE;rw[v8]at nP;have xH:p<ns:=by rw[<-HN.out.2];exact zA
       have QJ:decide (p<ns)=true:=decide_eq_true xH;obtain ⟨rs,GX⟩:∃rs,b.sets[p]=rs:=⟨_,rfl⟩;rw[GX]at Gc;have d04:=(World.cell?_of_block (a:=⟨s,0,none⟩) (PI.out.block s ai4)).trans d0;have hb0:Below w0.heap.size w0 wr:=by
        have h1:=acd.out.trans (Ep.out.mono aiW);have h2:Below w0.heap.size wB WO:=km.below (λq hq=>(LU.out q hq).1) (by omega)
        exact (h1.trans h2).trans (PI.out.mono (by have:=h2.size;omega))
       have uI:=Gc.later hb0;have Ld:yR rs lo=bU b p lo:=by unfold bU;rw[List.getElem?_eq_getElem zA,GX];rfl
       have Wd:gz b (fo.take (j+1)) lo=if bU b p lo=true then gz b (fo.take j) lo++[p] else gz b (fo.take j) lo:=by
        unfold gz;rw[List.take_succ_eq_append_getElem oa,v8,List.filter_append];by_cases hx:bU b p lo=true <;> simp[hx]
       have HH:=Lib.hid (λW (h:oB W rv rs)=>Jv rv rs lo W h);have HRW:=Lib.hid uI;obtain ⟨q,hq⟩:∃q,yR rs lo=q:=⟨_,rfl⟩;rw[hq]at HH Ld;rw[<-Ld]at Wd;have HSE:=Lib.hid Wd;have aco:(gz b (fo.take j) lo).length<=1000:=by
        have h1:(gz b (fo.take j) lo).length<=(fo.take j).length:=List.length_filter_le _ _;have h2:=List.length_take_le j fo;omega
       obtain ⟨Ag4,ng4,cg4,rfl⟩:∃A n c,u14 = .slice A n c:=by
        obtain ⟨A,c,e,-⟩:=ag HC4.out.1;exact ⟨_,_,_,e⟩
       obtain ⟨Ar,cr,Bw,-⟩:=id uI;obtain ⟨nr4,ai6⟩:∃n,rs.length=n:=⟨_,rfl⟩;rw[ai6]at Bw;subst Bw;have aiX:gS<wr.heap.size:=by omega
       have asA:gf<wr.heap.size:=by omega
       have vV:s<wr.heap.size:=by omega
       have acp:=Lib.hid aco;clear xr v8 LQ zA TE Gc GX hb0 uI Ld Wd hq aco oa acn;go_wp2_with fail;refine (HH.out _ HRW.out).mono ?_;rintro e w5 ⟨rfl,gH⟩;have HC5:=Lib.hid (HC4.out.later gH);have Vy:=Lib.hid (PI.out.trans (gH.mono PJ));have hw5:=gH.size;clear gH
       cases q with
       | false=>
        have Pq:=HSE.out;rw[if_neg (by decide)]at Pq
        have hc6:=HC5.out;rw[<-Pq]at hc6;have HC6:=Lib.hid hc6;clear hc6 Pq;go_wp2_with fail;go_roundw
        case rel=>exact ⟨j+1,by omega,by go_num,HC6,Vy⟩
        case measure=>simp[intOf];omega
       | true=>
        have Pq:=HSE.out;rw[if_pos rfl]at Pq;have M9:=Lib.hid Pq;clear Pq;have lD:=HC5.out.1;go_wp2_with (at_builtin;refine Gj (w:=w5) Tryz.underlying22 Ze GH sY pS rfl _ _ _ _ 1 1 _ [.int .i64 (p:Int)] WO.heap.size rfl rfl rfl rfl rfl lD (by intro u hu;simp at hu;subst hu;rfl) (by have:=acp.out;omega) (by have:=acp.out;omega) (by omega) ?_)
        intro v' w6 Cw rh acq;obtain ⟨A',n',c',rfl⟩:∃A n c,v' = .slice A n c:=by
         obtain ⟨A,c,e,-⟩:=ag Cw;exact ⟨_,_,_,e⟩
        have acr:CU WO.heap.size (.slice A' n' c') (gz b (fo.take (j+1)) lo) w6:=by
         rw[M9.out];refine ⟨?_, .inr (by simp)⟩
         rw[jR,List.length_append];exact Cw
        have HC6:=Lib.hid acr;have HB6:=Lib.hid (Vy.out.trans rh);clear Cw rh acq acr lD;go_wp2_with fail;go_roundw
        case rel=>exact ⟨j+1,by omega,by go_num,HC6,HB6⟩
        case measure=>simp[intOf];omega
      .obtain rfl:j=k:=by omega
       have PK:decide ((j:Int)<(j:Int))=false:=decide_eq_false (by omega)
       have TS:=HC4.out;rw[List.take_of_length_le (by rw[HN.out.1];exact Nat.le_refl _)]at TS
       have Rb:=HE.out.sb.later PI.out;have eS:OR 195 3 ki wB.heap.size (.slice Ao no co) row wr:=HE.out.own.later PI.out;have Rc:=km.trans (ah.aa PI.out);have Re:=TS.il;have We:=TI.fS TS.1;have Wh:aG fp' (u14):=λg hg hm=>by have:=(TS.1.lt g hg).1;have:=(HE.out.sb.lt g hm).2;omega
       have dV:=HE.out.ln;by_cases eU:gz b fo lo=[]
       .have PL:=Ci.out.skip hic HE.out.ri (by rw[Ra.out.1];exact eU)
        obtain ⟨A7,c7,e7,-⟩:=ag TS.1;rw[eU,List.length_nil]at e7;subst e7;have HEN:Hid (EgR w0 s mb (.slice Av ns cv) v1 v2 b gs (iQ s mb vg) fo wB cuts (i+1) row eZ fp' (.slice Ao no co) wr):=⟨eS,HE.out.out,Rb,Rc,PL,HE.out.gg,by omega⟩
        clear TS Rb eS Rc Re We Wh eU PL;go_wp2_with fail;go_roundw
        case rel=>exact ⟨i+1,row,eZ,fp', .inr (by omega),by go_num,HEN⟩
        case measure=>simp[intOf];omega
       .obtain ⟨A7,c7,e7,aja,asC⟩:=ag TS.1;obtain ⟨SS,Wi⟩:∃x,gz b fo lo=x:=⟨_,rfl⟩;obtain ⟨n7,hn7⟩:∃n,SS.length=n:=⟨_,rfl⟩;rw[Wi,hn7]at e7 aja;subst e7;have asD:0<n7:=by rw[<-hn7];rw[Wi]at eU;cases SS with | nil=>exact absurd rfl eU | cons a r=>simp
        have hd7:decide ((0:Int)<(n7:Int))=true:=decide_eq_true (by omega)
        have asE:n7<=1000:=by
         rw[<-hn7,<-Wi];have h1:(gz b fo lo).length<=fo.length:=List.length_filter_le _ _;rw[HN.out.1]at h1;omega
        have MR:cd wr:=by
         have h1:=qN.out.later Ep.out;have fV:=qN.out.low;have h2:Below w.heap.size wB WO->cd WO:=λh=>h1.below h fV;have h3:cd WO:=h1.Nb km.size λq hq=>km.blk q (by omega) λhm=>by have:=(LU.out q hm).1;omega
         exact h3.later PI.out
        rw[Wi]at Re;have rf:=uq w0.heap.size s mb _ v1 v2 eZ fp' wr SS _ Rb Re Wh We (by omega) (λp hp=>by rw[<-Wi]at hp;have:=HFO.out p (jZ.1 hp).1;have:=HN.out.2;omega) (by have:=HGS.out;omega) MR
        have HNU:=Lib.hid rf;have HO4:=Lib.hid eS;have HK4:=Lib.hid Rc;have Eb:=Lib.hid (And.intro Wi eU);have aof:s<wr.heap.size:=by omega
        clear TS rf eS Rc Rb Re We Wh Wi eU hn7 MR;go_wp2_with fail;refine HNU.out.mono ?_;rintro e w8 ⟨fp8,rfl,Jk,Nc⟩;obtain ⟨n8,hn8⟩:∃n,(ir eZ SS).idxOf SS=n:=⟨_,rfl⟩;rw[hn8];have ho8:OR 195 3 ki wB.heap.size (.slice Ao no co) row w8:=HO4.out.keep λq hq=>Nc.blk q (World.ownsRow.lt HO4.out q hq).2 (HE.out.out q hq);have TT:=oL HE.out.out (λq hq=>(World.ownsRow.lt HO4.out q hq).2) Nc;have HK8:=Lib.hid (HK4.out.trans Nc);have HS8:=Lib.hid Jk;have HO8:=Lib.hid ho8;have HU8:=Lib.hid TT;have HN8:=Lib.hid hn8;have hz8:=Nc.size;have cT:(w8.alloc (.cells #[.int .u8 (lo:Int), .int .u8 ((hi':Int) - 1), .int .i64 (n8:Int)] 195)).ownsRow wB.heap.size 195 3 (.slice Ao no co) row.length (aY ki row):=World.ownsRow.alloc ho8 _;have mZ:∀j u,[Value.int .u8 (lo:Int), .int .u8 ((hi':Int) - 1), .int .i64 (n8:Int)][j]?=some u->(w8.alloc (.cells #[.int .u8 (lo:Int), .int .u8 ((hi':Int) - 1), .int .i64 (n8:Int)] 195)).cell? ((⟨w8.heap.size,0,none⟩:Addr).add j)=some u:=by
         intro j u hj;rw[Addr.add_lit,Nat.zero_add,World.cell?_alloc_mark];simpa using hj
        obtain ⟨i3,Ec,oq,gY,bM⟩:=info_parts GW;clear Jk Nc ho8 TT hn8;have dh:wB.heap.size<=(w8.alloc (.cells #[.int .u8 (lo:Int), .int .u8 ((hi':Int) - 1), .int .i64 (n8:Int)] 195)).heap.size:=by have:=HK8.out.size;simp;omega
        go_wp2_with (at_builtin; refine cN rfl _ _ 187 rfl wB.heap.size 195 i3 _ 3 16 Tryz.underlying187 Ec oq gY bM rfl (by decide) _ row.length (aY ki row) rfl cT ⟨w8.heap.size,0,none⟩ 1 1 [.int .u8 (lo:Int), .int .u8 ((hi':Int) - 1), .int .i64 (n8:Int)] rfl rfl mZ (by intro u hu; simp at hu; rcases hu with rfl | rfl | rfl <;> rfl) (by unfold maxLen; omega) (by omega) dh ?_)
        intro v' w9 ec we xW;obtain ⟨A9,n9,c9,rfl⟩:∃A n c,v' = .slice A n c:=by
         obtain ⟨A,c,e,-⟩:=ag ec;exact ⟨_,_,_,e⟩
        have hEN:EgR w0 s mb (.slice Av ns cv) v1 v2 b gs (iQ s mb vg) fo wB cuts (i+1) (row++[⟨lo,hi' - 1,n8⟩]) (ir eZ SS) fp8 (.slice A9 n9 c9) w9:=by
         have hBA:Below w8.heap.size w8 (w8.alloc (.cells #[.int .u8 (lo:Int), .int .u8 ((hi':Int) - 1), .int .i64 (n8:Int)] 195)):=(Below.refl _ _).alloc (Nat.le_refl _) _;have Wj:(w8.alloc (.cells #[.int .u8 (lo:Int), .int .u8 ((hi':Int) - 1), .int .i64 (n8:Int)] 195)).heap.size=w8.heap.size+1:=by simp
         refine ⟨?_,?_,(HS8.out.later hBA).grown cT (by decide) HU8.out we,((HK8.out.trans (ah.aa hBA)).grown we λq hq=>(cT.lt q hq).1),?_,?_,?_⟩
         .show w9.ownsRow _ _ _ _ (row++[_]).length (aY ki (row++[_]));rw[bA,bf,List.length_append];have:ki ⟨lo,hi' - 1,n8⟩=[Value.int .u8 (lo:Int), .int .u8 ((hi':Int) - 1), .int .i64 (n8:Int)]:=by
           unfold ki;simp only[List.cons.injEq,Value.int.injEq,true_and,and_true];omega
          rw[this];exact ec
         .intro q hq;rcases xW with hf | ⟨q',hf,TU⟩
          .rw[hf]at hq;exact HU8.out q hq
          .rw[hf]at hq;injection hq with hq;subst hq;intro hm;have:=(HS8.out.lt q' hm).2;omega
         .have:=Ci.out.add hic HE.out.ri (by
           have hg:=HE.out.gg;obtain ⟨more,e,-,-⟩:=hg;rw[e];have hl:0<gs.length:=(List.getElem?_eq_some_iff.1 H0.out).1;rw[List.getElem?_append_left hl];exact H0.out) (by rw[Ra.out.1];exact Eb.out.2)
          rw[Ra.out.1,Ra.out.2,Eb.out.1,HN8.out]at this;rw[Ra.out.2];exact this
         .have:=HE.out.gg.add (c:=lo) (by omega) Eb.out.2
          rw[Eb.out.1]at this;exact this
         .have h1:=(M5 eZ SS).2;rw[List.length_append,List.length_singleton];omega
        have HEN:=Lib.hid hEN;clear ec we xW hEN cT mZ dh;go_wp2_with fail;go_roundw
        case rel=>exact ⟨i+1,_,_,fp8, .inr (by omega),by go_num,HEN⟩
        case measure=>simp[intOf];omega
    .have Ju:decide ((i:Int)+1<(nc:Int))=false:=decide_eq_false (by omega)
     have w3:IntKind.i64.wrap ((i:Int)+1)=(i:Int)+1:=IntWalk.i64_in _ (by omega)
     go_wp2_with fail;refine ar λWf cH=>?_;subst cH;refine bodyPost_ret (v:=.slice Ao no co) (by simp[results,Tryz.results137,go_sem];try rfl) rfl ?_
     have Bh:=Ci.out.done (by rw[HNC.out];omega) HE.out.ri
     exact ⟨row,eZ,fp',_,rfl,⟨dR.gW HE.out.own,HE.out.out,λg hg=>⟨Nat.le_trans Ep.out.size (World.ownsRow.lt HE.out.own g hg).1,(World.ownsRow.lt HE.out.own g hg).2⟩⟩,HE.out.sb,(ah.aa Ep.out).trans km,Bh,HE.out.gg,by have:=HE.out.ln;omega,by have:=HE.out.ln;omega⟩
end
section
set_option linter.unusedVariables false
set_option linter.unusedSimpArgs false
open Go.RowKit
open Go.Maps (Keyed)
theorem ah.ais {f1 f2:List Nat} (g:List Nat) {a b:World} (h:ah f1 f2 a b):ah (f1++g) (f2++g) a b:=
 ⟨h.os,h.tape,h.output,h.size,λk hk hn=>h.blk k hk λhm=>hn (List.mem_append_left _ hm),λk hk=>(List.mem_append.1 hk).elim (λhm=>(h.new k hm).imp (List.mem_append_left _) id) λhm=>.inl (List.mem_append_right _ hm)⟩
theorem ah.abP {f1 f2:List Nat} (g:List Nat) {a b:World} (h:ah f1 f2 a b):ah (g++f1) (g++f2) a b:=
 ⟨h.os,h.tape,h.output,h.size,λk hk hn=>h.blk k hk λhm=>hn (List.mem_append_right _ hm),λk hk=>(List.mem_append.1 hk).elim (λhm=>.inl (List.mem_append_left _ hm)) λhm=>(h.new k hm).imp (List.mem_append_right _) id⟩
theorem SL.out {fp fp':List Nat} {w w':World} {v:Value} {l:List Nat} (h:SL w v l) (ho:aG fp v) (hk:ah fp fp' w w') (hl:∀g,v.ownBlock=some g->g<w.heap.size):SL w' v l/\aG fp' v:=
 ⟨h.keep ho hk,λg hg hm=>(hk.new g hm).elim (ho g hg) λhz=>by have:=hl g hg;omega⟩
def MU (L:List Nat) (w:World) (v:Value) (fol:List (List Nat)):Prop:=∃g c,v = .slice (some ⟨g,0,none⟩) fol.length c/\(fol.length<=c/\c<=9223372036854775807)/\g<w.heap.size/\g∉L/\
 ∀i (h:i<fol.length),∃rv,w.cell? ⟨g,i,none⟩=some rv/\SL w rv fol[i]/\aG L rv/\(∀k,rv.ownBlock=some k->k<w.heap.size)/\∀n c,rv = .slice none n c->c=0
def EnC (L:List Nat) (w:World) (v:Value) (n:Nat) (last:List Nat):Prop:=∃g,v = .slice (some ⟨g,0,none⟩) n n/\g<w.heap.size/\g∉L/\∀p,p<n->w.cell? ⟨g,p,none⟩=some (.bool (decide (p∈last)))
theorem MU.keep {L L':List Nat} {w w':World} {v:Value} {fol:List (List Nat)} (h:MU L w v fol) (hk:ah L L' w w'):MU L' w' v fol:=by
 obtain ⟨g,c,rfl,hc,hg,hn,hcell⟩:=h;refine ⟨g,c,rfl,hc,Nat.lt_of_lt_of_le hg hk.size,λhm=>(hk.new g hm).elim hn (λh=>by omega),λi hi=>?_⟩
 obtain ⟨rv,h1,h2,h3,h4,h5⟩:=hcell i hi;obtain ⟨q1,q2⟩:=h2.out h3 hk h4;exact ⟨rv,(World.cell?_of_block (a:=⟨g,i,none⟩) (hk.blk g hg hn)).trans h1,q1,q2,λk bM=>Nat.lt_of_lt_of_le (h4 k bM) hk.size,h5⟩
theorem EnC.keep {L L':List Nat} {w w':World} {v:Value} {n:Nat} {last:List Nat} (h:EnC L w v n last) (hk:ah L L' w w'):EnC L' w' v n last:=by
 obtain ⟨g,rfl,hg,hn,hcell⟩:=h;exact ⟨g,rfl,Nat.lt_of_lt_of_le hg hk.size,λhm=>(hk.new g hm).elim hn (λh=>by omega),λp hp=>(World.cell?_of_block (a:=⟨g,p,none⟩) (hk.blk g hg hn)).trans (hcell p hp)⟩
structure QP (w0:World) (L:List Nat) (v0 v1 v2:Value) (b:Pb) (x:dw) (P:Nat) (vx vy:Value) (w:World):Prop where
 set:nU w0 L w v0 b.sets
 fol:MU L w v1 b.fol
 ends:EnC L w v2 b.sets.length x.last
 prt:w.heap[P]?=some (.cells #[vx,vy, .bool x.emp] 184 (0,0))/\P∉L
 fst:IL w vx x.first/\aG L vx
theorem QP.keep {w0:World} {L L':List Nat} {v0 v1 v2:Value} {b:Pb} {x:dw} {P:Nat} {vx vy:Value} {w w':World} (h:QP w0 L v0 v1 v2 b x P vx vy w) (hk:ah L L' w w'):QP w0 L' v0 v1 v2 b x P vx vy w':=by
 have hP:=(Array.getElem?_eq_some_iff.1 h.prt.1).1;exact ⟨h.set.keep hk,h.fol.keep hk,h.ends.keep hk,⟨(hk.blk P hP h.prt.2).trans h.prt.1,λhm=>(hk.new P hm).elim h.prt.2 (λh=>by omega)⟩,h.fst.1.keep h.fst.2 hk⟩
theorem QP.later {w0:World} {L:List Nat} {v0 v1 v2:Value} {b:Pb} {x:dw} {P:Nat} {vx vy:Value} {w w':World} (h:QP w0 L v0 v1 v2 b x P vx vy w) (hb:Below w.heap.size w w'):QP w0 L v0 v1 v2 b x P vx vy w':=h.keep (ah.aa hb)
theorem rU.apart {B s mb:Nat} {v0 v1 v2:Value} {gs:List (List Nat)} {fp L L':List Nat} {w w':World} (h:rU B s mb v0 v1 v2 gs fp w) (hk:ah L L' w w') (hd:∀k∈L,k∉fp) (ht:∀k∈L,∃cs e m,w.heap[k]?=some (.cells cs e m)/\e≠3):rU B s mb v0 v1 v2 gs fp w':=by
 obtain ⟨vg,gv,F,rfl,h⟩:=h;refine ⟨vg,gv,F,rfl,h.same (λk hm=>hk.blk k (h.lt k hm).2 λhl=>hd k hl hm) hk.size λv l hi _ hti=>?_⟩;have ho:aG L v:=λg hg hl=>by
  obtain ⟨cs,m,e1⟩:=hti g hg;obtain ⟨cs',e',m',e2,hne⟩:=ht g hl;rw[e1]at e2;injection e2 with e2;injection e2 with _ e3 _;exact hne e3.symm
 exact ⟨(hi.keep ho hk).1,hti.keep ho hk⟩
theorem iR.types {B N:Nat} {fx:List Nat} {vE vA:Value} {gv:List Value} {rs:List (List Ed)} {bE:List Bool} {w:World} (h:iR B N fx vE vA gv rs bE w):∀k∈lA N vE vA,∃cs e m,w.heap[k]?=some (.cells cs e m)/\e≠3:=λk hk=>by
 rcases aV.1 hk with rfl | hk | hk
 .exact ⟨_,_,_,h.hN,by decide⟩
 .obtain ⟨cs,m,e⟩:=aT h.own k hk;exact ⟨cs,_,m,e,by decide⟩
 .obtain ⟨cs,m,e⟩:=aT (show w.ownsRow _ _ _ _ _ _ from h.acc) k hk;exact ⟨cs,_,m,e,by decide⟩
theorem VK {P:Program} {i0:TypeInfo} {T e:TypeId} (ht:P.underlying T=some (.slice e)) (hi:P.info? e=some i0) (hz0:i0.zero=some (.int .i64 0)) (hz1:i0.size=1) (hz2:i0.bytes=8) (he:e=3)
  {w:World} {ops:Array Oper} {rest:List Oper} {o:Oper} {a:Act} {Q:Exit->Act->World->Prop} (s x:Operand) (v:Value) (A:Option Addr) (n c:Nat) (L l:List Nat) (B:Nat)
  (gV:o.guard=none) (ho:o.op = .call { callee:=.builtin .append,args:=#[s,x],argTypes:=#[T,T] }) (hs:a.eval s=v) (hx:a.eval x = .slice A n c) (hown:CU B v L w) (hl:SL w (.slice A n c) l) (hA:A=none->c=0) (hlen:L.length+l.length<=10000000000000) (hB:B<=w.heap.size)
  (h:∀v' w1,CU B v' (L++l) w1->Below B w w1->wpList P ops Q rest (a.put o.dst v') w1):wpList P ops Q (o::rest) a w:=by
 subst he;obtain ⟨A',c',e',hc,eA⟩:=hl;injection e' with e1 e2 e3;subst e1 e2 e3;rcases eA with rfl | ⟨g,f,rfl,hg,hcell⟩
 .cases A with
  | none=>
   obtain rfl:=hA rfl;refine wpList_append_own_none gV s x T ho B _ i0 1 ht hi v L.length _ hs hown.1 hx ?_;exact h v w (by rw[List.append_nil];exact hown) (Below.refl B w)
  | some ad=>
   refine wpList_append_own _ gV s x T ho B _ i0 _ 1 8 ht hi hz0 hz1 hz2 rfl (by decide) v L.length _ hs hown.1 ad 0 c [] hx rfl (by intro j u hj;simp at hj) (by intro u hu;cases hu) (by unfold maxLen;simp at hlen;omega) (by simp at hlen;omega) hB ?_
   intro v' w1 hown1 hg hn;refine h v' w1 ⟨by rw[List.append_nil];simpa using hown1,?_⟩ ((Below.refl B w).grown hg hB λk hk=>(hown.1.lt k hk).1)
   rcases hown.2 with h1 | h1
   .exact .inl (hn.2 ⟨h1,rfl⟩)
   .exact .inr (by simpa using h1)
 .refine wpList_append_own _ gV s x T ho B _ i0 _ 1 8 ht hi hz0 hz1 hz2 rfl (by decide) v L.length _ hs hown.1 ⟨g,f,none⟩ l.length c (bG l) hx (by rw[iL,Nat.mul_one]) (λj u hj=>?_) (λu hu=>?_) (by unfold maxLen;omega) (by omega) hB ?_
  .unfold bG at hj;rw[List.getElem?_map]at hj
   cases hq:l[j]? with
   | none=>rw[hq]at hj;cases hj
   | some y=>
    rw[hq]at hj;obtain ⟨oa,hje⟩:=List.getElem?_eq_some_iff.1 hq;rw[Addr.add_lit,hcell j oa,hje];exact hj
  .unfold bG at hu;obtain ⟨y,-,rfl⟩:=List.mem_map.1 hu;rfl
  .intro v' w1 hown1 hg hn;refine h v' w1 ⟨by rw[jR,List.length_append];exact hown1,?_⟩ ((Below.refl B w).grown hg hB λk hk=>(hown.1.lt k hk).1)
   by_cases hl0:L++l=[]
   .obtain ⟨h1,h2⟩:=List.append_eq_nil_iff.1 hl0;exact .inl (hn.2 ⟨hown.2.resolve_right (λh=>h h1),by rw[h2];rfl⟩)
   .exact .inr hl0
end
section
set_option linter.unusedVariables false
set_option linter.unusedSimpArgs false
open Go.RowKit
open Go.Maps (Keyed)
theorem RS {cs:List (Option Nat)} {m:Mc} (h:ue m (bR cs)) (h1:1<=m.ed.length) (hc:bR cs 0=none):¬bc m 0:=(h.dC 0 (by omega)).1 hc
theorem NR:sf ⟨[[]],[false]⟩:=⟨λr hr e he=>(by simp at hr;subst hr;cases he),λr hr=>(by simp at hr;subst hr;simp),by simp⟩
theorem GG:(Tryz.prog.info? 187).map (λi=>(i.zero,i.size,i.bytes))=some (some (.slice none 0 0),1,24):=by kernel_rfl
theorem th {w:World} {B n c:Nat} {e:TypeId} {xs:List Value} {A:Option Addr} (h:w.ownsRow B e 1 (.slice A n c) n xs) (hn:0<n):∃g,A=some ⟨g,0,none⟩/\B<=g/\g<w.heap.size/\∀i,i<n->w.cell? ⟨g,i,none⟩=xs[i]?:=by
 rcases h.2 with ⟨h1,h2⟩ | ⟨g,cap,cur,h1,hB,hg,-⟩
 .exfalso;injection h1 with h1 h1';omega
 .injection h1 with h1 _ h3;subst h1;exact ⟨g,rfl,hB,(Array.getElem?_eq_some_iff.1 hg).1,λi hi=>World.ownsRow.cellAt h i (by omega)⟩
def RT (M gs zP cst i s ge fe n ce zk cr g3 cc:Nat) (Ar:Option Addr) (J:List Ed) (W:World):Nat->Nat->Value->World->Prop
 | c,0,x,w=>x = .pointer (some ⟨M,0,none⟩)
 | c,1,x,w=>x = .slice (some ⟨ge,fe,none⟩) n ce
 | c,2,x,w=>x = .slice (some ⟨gs,0,none⟩) zP cst
 | c,3,x,w=>x = .int .i64 (i:Int)
 | c,4,x,w=>x = .pointer (some ⟨gs,i,none⟩)
 | c,5,x,w=>x = .int .i64 (s:Int)
 | c,6,x,w=>x = .pointer (some ⟨ge,fe+s,none⟩)
 | c,7,x,w=>x = .slice Ar zk cr
 | c,8,x,w=>x = .slice (some ⟨g3,0,none⟩) n cc
 | c,9,x,w=>1<=c->∃A c',x = .slice A J.length c'/\OR 195 3 ki W.heap.size x J w
 | _,_,_,_=>True
def iz (N M gs zP cst i s ga fa n ca nj cj cE cA B0:Nat) (AE AV Aj:Option Addr) (gv av:List Value) (a:Bool) (W:World):Nat->Nat->Value->World->Prop
 | c,0,x,w=>x = .pointer (some ⟨N,0,none⟩)
 | c,1,x,w=>x = .slice AE i cE
 | c,2,x,w=>x = .slice Aj nj cj
 | c,3,x,w=>∃g,x = .slice (some ⟨g,0,none⟩) 1 1/\W.heap.size<=g/\g<w.heap.size/\w.cell? ⟨g,0,none⟩=some (.slice Aj nj cj)
 | c,4,x,w=>1<=c->∃A c',x = .slice A (i+1) c'/\w.ownsRow B0 187 1 x (i+1) (gv++[.slice Aj nj cj])/\cW x (.slice AE i cE) W.heap.size
 | c,5,x,w=>x = .pointer (some ⟨N,1,none⟩)
 | c,6,x,w=>x = .slice AV i cA
 | c,7,x,w=>x = .pointer (some ⟨M,1,none⟩)
 | c,8,x,w=>x = .slice (some ⟨ga,fa,none⟩) n ca
 | c,9,x,w=>x = .slice (some ⟨gs,0,none⟩) zP cst
 | c,10,x,w=>x = .int .i64 (i:Int)
 | c,11,x,w=>x = .pointer (some ⟨gs,i,none⟩)
 | c,12,x,w=>x = .int .i64 (s:Int)
 | c,13,x,w=>x = .pointer (some ⟨ga,fa+s,none⟩)
 | c,14,x,w=>x = .bool a
 | c,15,x,w=>∃g,x = .slice (some ⟨g,0,none⟩) 1 1/\W.heap.size<=g/\g<w.heap.size/\w.cell? ⟨g,0,none⟩=some (.bool a)
 | c,16,x,w=>2<=c->∃A c',x = .slice A (i+1) c'/\w.ownsRow B0 4 1 x (i+1) (av++[.bool a])/\cW x (.slice AV i cA) W.heap.size
 | c,17,x,w=>x = .pointer (some ⟨N,0,none⟩)
 | c,18,x,w=>3<=c->∃A c',w.ownsRow B0 187 1 (.slice A (i+1) c') (i+1) (gv++[.slice Aj nj cj])/\cW (.slice A (i+1) c') (.slice AE i cE) W.heap.size/\w.heap[N]?=some (.cells #[.slice A (i+1) c', .slice AV i cA] 93 (0,0))
 | c,19,x,w=>x = .pointer (some ⟨N,1,none⟩)
 | _,_,_,_=>True
section
variable {N M gs zP cst i s ga fa n ca nj cj cE cA B0:Nat} {AE AV Aj:Option Addr} {gv av:List Value} {a:Bool} {W u u':World}
theorem u6 (hb:Below u.heap.size u u') {c j:Nat} {x:Value} (h:iz N M gs zP cst i s ga fa n ca nj cj cE cA B0 AE AV Aj gv av a W c j x u):iz N M gs zP cst i s ga fa n ca nj cj cE cA B0 AE AV Aj gv av a W c j x u':=by
 match j with
 | 0 | 1 | 2 | 5 | 6 | 7 | 8 | 9 | 10 | 11 | 12 | 13 | 14 | 17 | 19=>exact h
 | 3 | 15=>
  obtain ⟨g,e,h1,hg,h0⟩:=h;exact ⟨g,e,h1,Nat.lt_of_lt_of_le hg hb.size,(hb.cell (p:=⟨g,0,none⟩) hg).trans h0⟩
 | 4 | 16=>
  intro hc;obtain ⟨A,c',e,ho,hf⟩:=h hc;exact ⟨A,c',e,bj ho hb,hf⟩
 | 18=>
  intro hc;obtain ⟨A,c',ho,hf,hr⟩:=h hc;exact ⟨A,c',bj ho hb,hf,(hb.block _ (Array.getElem?_eq_some_iff.1 hr).1).trans hr⟩
 | _+20=>exact trivial
theorem Ft (hg:u.grownBy u' (Value.slice AE i cE).ownBlock) (hv:∀g,(Value.slice AE i cE).ownBlock=some g->g<W.heap.size) (j:Nat) (x:Value) (hj:j≠4) (h:iz N M gs zP cst i s ga fa n ca nj cj cE cA B0 AE AV Aj gv av a W 0 j x u):iz N M gs zP cst i s ga fa n ca nj cj cE cA B0 AE AV Aj gv av a W 1 j x u':=by
 match j with
 | 0 | 1 | 2 | 5 | 6 | 7 | 8 | 9 | 10 | 11 | 12 | 13 | 14 | 17 | 19=>exact h
 | 3 | 15=>exact RU hg hv h
 | 4=>exact absurd rfl hj
 | 16 | 18=>exact λhc=>by omega
 | _+20=>exact trivial
theorem Fu (hg:u.grownBy u' (Value.slice AV i cA).ownBlock) (hv:∀g,(Value.slice AV i cA).ownBlock=some g->g<W.heap.size) (hd:∀g,(Value.slice AV i cA).ownBlock=some g->(Value.slice AE i cE).ownBlock≠some g) (j:Nat) (x:Value) (hj:j≠16) (h:iz N M gs zP cst i s ga fa n ca nj cj cE cA B0 AE AV Aj gv av a W 1 j x u):iz N M gs zP cst i s ga fa n ca nj cj cE cA B0 AE AV Aj gv av a W 2 j x u':=by
 match j with
 | 0 | 1 | 2 | 5 | 6 | 7 | 8 | 9 | 10 | 11 | 12 | 13 | 14 | 17 | 19=>exact h
 | 3 | 15=>exact RU hg hv h
 | 4=>
  intro _;obtain ⟨A,c',e,ho,hf⟩:=h (by decide)
  refine ⟨A,c',e,ak ho λg iy=>hg.block g (ho.lt g iy).2 (λe2=>?_),hf⟩;rcases hf with hf | ⟨g',hf,h2⟩
  .rw[hf]at iy;exact hd g e2.symm iy
  .rw[hf]at iy;injection iy with iy;have:=hv g e2.symm;omega
 | 16=>exact absurd rfl hj
 | 18=>exact λhc=>by omega
 | _+20=>exact trivial
theorem Fv (hs:N<W.heap.size) (hsS:(Value.slice AE i cE).ownBlock≠some N) (hsF:(Value.slice AV i cA).ownBlock≠some N) (v:Value) (j:Nat) (x:Value) (hj:j≠18) (h:iz N M gs zP cst i s ga fa n ca nj cj cE cA B0 AE AV Aj gv av a W 2 j x u):iz N M gs zP cst i s ga fa n ca nj cj cE cA B0 AE AV Aj gv av a W 3 j x (u.setCell ⟨N,0,none⟩ v):=by
 have bg:∀k,k≠N->(u.setCell ⟨N,0,none⟩ v).heap[k]?=u.heap[k]?:=λk hk=>Below.heap_setCell _ _ _ _ hk
 match j with
 | 0 | 1 | 2 | 5 | 6 | 7 | 8 | 9 | 10 | 11 | 12 | 13 | 14 | 17 | 19=>exact h
 | 3 | 15=>
  obtain ⟨g,e,h1,h2,h3⟩:=h;exact ⟨g,e,h1,by simpa [World.setCell] using h2,(World.cell?_of_block (a:=⟨g,0,none⟩) (bg g (by omega))).trans h3⟩
 | 4=>
  intro _;obtain ⟨A,c',e,ho,hf⟩:=h (by decide)
  refine ⟨A,c',e,ak ho λg iy=>bg g (λe2=>?_),hf⟩;subst e2;rcases hf with hf | ⟨g',hf,h2⟩
  .rw[hf]at iy;exact hsS iy
  .rw[hf]at iy;injection iy with iy;omega
 | 16=>
  intro _;obtain ⟨A,c',e,ho,hf⟩:=h (by decide)
  refine ⟨A,c',e,ak ho λg iy=>bg g (λe2=>?_),hf⟩;subst e2;rcases hf with hf | ⟨g',hf,h2⟩
  .rw[hf]at iy;exact hsF iy
  .rw[hf]at iy;injection iy with iy;omega
 | 18=>exact absurd rfl hj
 | _+20=>exact trivial
end
set_option maxHeartbeats 16000000 in
theorem NS (v:Value) (m:Mc) (w:World) (hm:ia w v m) (hv:pL m) (eQ:sf m) (h1:1<=m.ed.length)
  (nQ:∀W,Below w.heap.size w W->Calls Tryz.prog 170 #[v] W (Mp m m.ed.length W)):Calls Tryz.prog 139 #[v] w (NN m w):=by
 obtain ⟨ve,va,rfl,he,ha⟩:=hm;obtain ⟨Ae,ce,rfl,qO,Ix⟩:=he.form;obtain ⟨Aa,ca,rfl,Ek,UH⟩:=ha.form;obtain ⟨n,hn⟩:∃n,m.ed.length=n:=⟨_,rfl⟩;have sS:m.ac.length=n:=by rw[hv.len,hn]
 have DV:=eQ.n;rw[sS]at ha Ek;rw[hn]at he qO h1 DV;rw[hn,sS]at nQ;have HAL:=Lib.hid nQ;have HE:=Lib.hid he;have HA:=Lib.hid ha;have HV:=Lib.hid hv;have KO:=Lib.hid eQ;have HN:=Lib.hid (And.intro hn sS);have mN:=Lib.hid h1;have K:Keyed Tryz.prog 3:=Maps.int_keyed Tryz.underlying3;have hz:∀w,(zeroValue 3).run Tryz.prog w = .ok (.int .i64 0) w:=λ_=>by kernel_rfl
 have hmm:=@run_makeMap Tryz.prog;obtain ⟨ie,sR,he0,he1,TD⟩:=info_parts GG;obtain ⟨ib,xn,hb0,hb1,aL⟩:=info_parts mW;obtain ⟨ii,Ze,GH,sY,pS⟩:=info_parts ft;rw[sS,hn];clear nQ he ha hv eQ hn sS
 go_enter Tryz.func139,Tryz.ntmps139
 go_wp2_with fail;refine (HAL.out _ ?hb0).mono ?_
 case hb0=>exact ((Below.refl w.heap.size w).alloc (Nat.le_refl _) _).alloc (by simp) _
 rintro e w1 ⟨rv,cs,rfl,hown1,hb1,D6,Xp,ac7⟩;have wU:((w.alloc (.cells #[.slice Ae n ce, .slice Aa n ca] 93)).alloc (.cells #[.slice none 0 0, .slice none 0 0] 93)).heap.size=w.heap.size+2:=by simp
 rw[wU]at hown1 hb1;have sJ:w1.heap[w.heap.size]?=some (.cells #[.slice Ae n ce, .slice Aa n ca] 93 (0,0)):=(hb1.block _ (by omega)).trans ((au _ _ _ (by simp)).trans (heap_alloc_new w _))
 have Cg:w1.heap[w.heap.size+1]?=some (.cells #[.slice none 0 0, .slice none 0 0] 93 (0,0)):=(hb1.block _ (by omega)).trans (by simpa using heap_alloc_new (w.alloc (.cells #[.slice Ae n ce, .slice Aa n ca] 93)) (.cells #[.slice none 0 0, .slice none 0 0] 93))
 have hz1:=hb1.size;rw[wU]at hz1;have mo:Below w.heap.size w w1:=(((Below.refl w.heap.size w).alloc (Nat.le_refl _) _).alloc (by simp) _).trans (hb1.mono (by omega))
 obtain ⟨Ac,cc,rfl,lK,-⟩:∃A c,rv = .slice A n c/\n<=c/\True:=by
  obtain ⟨A,c,e,h,-⟩:=hown1.cells GA;exact ⟨A,c,by rw[e,D6],by omega,trivial⟩
 obtain ⟨g3,rfl⟩:∃g,Ac=some ⟨g,0,none⟩:=by
  obtain ⟨A,c,e,-,eA⟩:=hown1.cells GA;obtain ⟨g,hA,-⟩:=eA.resolve_left (by rintro rfl;simp at D6;omega)
  injection e with e1 _ _;exact ⟨g,by rw[e1,hA]⟩
 obtain ⟨QE,-⟩:=hown1.ug 0 (by omega)
 have rQ:=hown1.lt1;have hd0:decide (0<n)=true:=decide_eq_true (by omega)
 have HC:=Lib.hid hown1;have bH:=Lib.hid mo;have Zf:=Lib.hid sJ;have Vo:=Lib.hid Cg;have lL:=Lib.hid (And.intro D6 (And.intro Xp ac7));have lx1:w.heap.size+1<w1.heap.size:=by omega
 have lx2:w.heap.size+1<w1.heap.size+1:=by omega
 obtain ⟨r0,r1⟩:w1.cell? ⟨w.heap.size+1,0,none⟩=some (.slice none 0 0)/\w1.cell? ⟨w.heap.size+1,1,none⟩=some (.slice none 0 0):=by constructor <;> (rw[cell_of_row _ _ _ _ _ _ Cg]; rfl)
 have RJ:w1.frozen? ⟨w.heap.size+1,0,none⟩=false:=by simp[World.frozen?,Cg]
 have sI:w1.frozen? ⟨w.heap.size+1,1,none⟩=false:=by simp[World.frozen?,Cg]
 clear hown1 hb1 wU sJ Cg mo D6 Xp ac7
 cases nP:bR cs 0 with
 | none=>
  rw[nP]at QE;have QF:w1.cell? ⟨g3,0,none⟩=some (.int .i64 (-1)):=QE;have Ml:=Lib.hid nP;clear QE nP;go_wp2_with fail;refine ar λWf cH=>?_;refine bodyPost_ret (v:=.agg #[.slice (some ⟨w1.heap.size,0,none⟩) 1 1, .slice (some ⟨w1.heap.size+1,0,none⟩) 1 1]) (by rw[cH];simp[results,Tryz.results139,go_sem,r0,r1,lx1,lx2];try rfl) rfl ?_
  have ur:Wf.heap[w1.heap.size]?=some (.cells #[.slice none 0 0] 187 (0,0)):=by
   rw[cH,au _ _ _ (by simp[World.setCell])]
   have h1:=heap_alloc_new ((w1.setCell ⟨w.heap.size+1,0,none⟩ (.slice (some ⟨w1.heap.size,0,none⟩) 1 1)).setCell ⟨w.heap.size+1,1,none⟩ (.slice (some ⟨w1.heap.size+1,0,none⟩) 1 1)) (.cells #[.slice none 0 0] 187);simpa [World.setCell] using h1
  have et:Wf.heap[w1.heap.size+1]?=some (.cells #[.bool false] 4 (0,0)):=by
   rw[cH];have h1:=heap_alloc_new (((w1.setCell ⟨w.heap.size+1,0,none⟩ (.slice (some ⟨w1.heap.size,0,none⟩) 1 1)).setCell ⟨w.heap.size+1,1,none⟩ (.slice (some ⟨w1.heap.size+1,0,none⟩) 1 1)).alloc (.cells #[.slice none 0 0] 187)) (.cells #[.bool false] 4);simpa [World.setCell] using h1
  have oH:Below w.heap.size w Wf:=by
   rw[cH];exact (((bH.out.setCell (p:=⟨w.heap.size+1,0,none⟩) (by show w.heap.size<=w.heap.size+1;omega) _).setCell (p:=⟨w.heap.size+1,1,none⟩) (by show w.heap.size<=w.heap.size+1;omega) _).alloc (by simp[World.setCell];omega) _).alloc (by simp[World.setCell];omega) _
  have Xq:=bH.out.size;have vZ:j0 w.heap.size Wf (.agg #[.slice (some ⟨w1.heap.size,0,none⟩) 1 1, .slice (some ⟨w1.heap.size+1,0,none⟩) 1 1]) ⟨[[]],[false]⟩:=λW' hk=>by
   have ac8:=(hk.blk w1.heap.size (Array.getElem?_eq_some_iff.1 ur).1 (λh=>by have:=List.mem_range.1 h;omega)).trans ur
   have ac9:=(hk.blk (w1.heap.size+1) (Array.getElem?_eq_some_iff.1 et).1 (λh=>by have:=List.mem_range.1 h;omega)).trans et
   refine ⟨_,_,rfl,⟨_,_,rfl,⟨by simp,by simp⟩, .inr ⟨w1.heap.size,0,rfl,(Array.getElem?_eq_some_iff.1 ac8).1,λi hi=>?_⟩⟩,⟨_,_,rfl,⟨by simp,by simp⟩, .inr ⟨w1.heap.size+1,0,rfl,(Array.getElem?_eq_some_iff.1 ac9).1,λi hi=>?_⟩⟩⟩
   .simp at hi;subst hi;exact ⟨_,by rw[cell_of_row _ _ _ _ _ _ ac8];rfl,⟨none,0,rfl,⟨by simp,by simp⟩, .inl rfl⟩⟩
   .simp at hi;subst hi;rw[cell_of_row _ _ _ _ _ _ ac9];rfl
  refine ⟨_,⟨[[]],[false]⟩,rfl,vZ,oH, .inr ⟨RS lL.out.2.1 (by rw[HN.out.1];exact mN.out) Ml.out,rfl⟩,by simp;have:=mN.out;have:=HN.out.1;omega,NR⟩
 | some c0=>
  rw[nP]at QE;have QF:w1.cell? ⟨g3,0,none⟩=some (.int .i64 (c0:Int)):=QE;have ui:decide ((c0:Int)<0)=false:=decide_eq_false (by omega)
  have Ml:=Lib.hid nP;have atn:c0<n:=lL.out.2.2 0 c0 nP;have T4:keyOf Tryz.prog 3 (.int .i64 (c0:Int))=some (.int .i64 (c0:Int)):=Maps.keyOf_int_mk Tryz.underlying3 (WalkArith.wf_i64 (by omega))
  have ada:=MV.made Tryz.prog 3;clear QE nP;go_wp2_with (refine wS _ rfl _ _ _ 213 rfl 3 3 K Tryz.underlying213 w1.heap.size 0 (λ_=>none) rfl (ada _) (by decide) _ _ (.int .i64 (c0:Int)) rfl rfl T4 trivial ?_)
  intro w2 adb jC;have ade:(w1.alloc (.map #[] 0)).heap.size=w1.heap.size+1:=by simp
  have hz2:=jC.size;rw[ade]at hz2;have aL:Below w1.heap.size w1 w2:=((Below.refl _ w1).alloc (Nat.le_refl _) (.map #[] 0)).grown jC (by omega) (λq hq=>by injection hq with hq;omega)
  have adf:=Lib.hid adb;have eO:=Lib.hid aL;clear adb jC aL ade ada;go_wp2_with fail;refine dv λW hW=>?_;have cJ:Below w2.heap.size w2 W:=by rw[hW];exact ((Below.refl _ _).alloc (Nat.le_refl _) _).alloc (by simp) _
  have po:W.heap.size=w2.heap.size+2:=by rw[hW];simp
  have NT:OR 3 1 zf w2.heap.size (.slice (some ⟨w2.heap.size,0,none⟩) 1 1) [some 0] W:=by rw[hW];exact OR.later (qW w2 1 (by omega)) ((Below.refl _ _).alloc (by simp) _)
  have Vl:W.heap[w2.heap.size+1]?=some (.cells #[.slice none 0 0, .slice none 0 0] 93 (0,0)):=by rw[hW];simpa using heap_alloc_new (w2.alloc _) (.cells #[.slice none 0 0, .slice none 0 0] 93)
  have Va:=adf.out.lt;have hL0:ym m (bR cs) w1.heap.size (w2.heap.size+1) w1.heap.size 0 [] [] [] (.slice none 0 0) (.slice none 0 0) [] [] 0 [0] (jV (λ_=>none) (.int .i64 (c0:Int)) (some (.int .i64 0))) (.slice (some ⟨w2.heap.size,0,none⟩) 1 1) W:=by
   refine ⟨⟨Vl,by omega,World.ownsRow_nil _ _ _ _,λi hi=>(by cases hi),OR.ic _ _ _,λk hk hx=>?_⟩,adf.out.kept (cJ.block _ Va),Nat.le_refl _,rY.first Ml.out,?_,zO.start (by rw[Ml.out];simp) (by rw[HN.out.1];exact mN.out),rfl⟩
   .have h1:k=w2.heap.size+1:=by rcases aV.1 hk with h | h | h;exact h;cases h;cases h
    rcases List.mem_cons.1 hx with h | h
    .omega
    .simp[blk,Value.ownBlock]at h;omega
   .have:=(OR.mono NT (show w1.heap.size<=w2.heap.size by omega))
    exact this
  have HL0:=Lib.hid hL0;have bI:=Lib.hid (eO.out.trans (cJ.mono (by omega)))
  clear hW cJ NT Vl hL0 QF Ml ui T4 hd0;go_wp2_with fail
  go_loopw [7,5] (λiv kX wr=>∃(i:Nat) (st:List Nat) (rs:List (List Ed)) (bE:List Bool) (vE vA:Value) (gv:List Value) (t:Nat) (F:Lit->Option Value),iv = .int .i64 (i:Int)/\i<=n/\Hid (ym m (bR cs) w1.heap.size (w2.heap.size+1) w1.heap.size i [] rs bE vE vA gv [] t st F kX wr)/\Hid (Below w1.heap.size w1 wr)) (λiv _ _=>n - (intOf iv).toNat)
  case atStart=>exact ⟨0,[0],[],[],_,_,[],0,_,rfl,Nat.zero_le _,HL0,bI⟩
  case round=>
   obtain ⟨i,st,rs,bE,vE,vA,gv,t,F,rfl,dk,HL,HB⟩:=hrel;have eY:=HL.out.le.il;have adg:=HL.out.le.nodup;rw[HN.out.1]at adg;obtain ⟨As,cst,rfl,ajT,-⟩:=ag HL.out.own;obtain ⟨zP,RV⟩:∃x,st.length=x:=⟨_,rfl⟩;rw[RV]at eY adg ajT;have NV:=Lib.hid RV;rw[RV]at HL|-;clear RV;have hwr:=HB.out.size;by_cases hlt:i<zP
   .have hd:decide ((i:Int)<(zP:Int))=true:=decide_eq_true (by omega)
    have hdi:decide (i<zP)=true:=decide_eq_true hlt;obtain ⟨s,hs⟩:∃s,st[i]?=some s:=⟨_,List.getElem?_eq_getElem (show i<st.length by rw[NV.out];exact hlt)⟩
    obtain ⟨JR,-⟩:=HL.out.le.lv s (List.mem_of_getElem? hs);have sT:s<n:=by rw[HN.out.1]at JR;exact JR
    have hown:=HL.out.own;rw[NV.out]at hown;obtain ⟨gs,rfl,adh,lgs,TR⟩:=th hown (by omega)
    have xst:wr.cell? ⟨gs,i,none⟩=some (.int .i64 (s:Int)):=by rw[TR i hlt];unfold bG;rw[List.getElem?_map,hs];rfl
    have aP:Below w.heap.size w wr:=bH.out.trans (HB.out.mono bH.out.size);obtain ⟨ge,fe,rv0,rfl,-,Vk,adi,Ms⟩:=HE.out.at_ JR;obtain ⟨ga,fa,rfl,-,KU,C5⟩:=HA.out.at_ (show s<m.ac.length by rw[HN.out.2];exact sT)
    have adj:=(World.cell?_of_block (a:=⟨ge,fe+s,none⟩) (aP.block ge Vk)).trans adi;have Xr:=(World.cell?_of_block (a:=⟨ga,fa+s,none⟩) (aP.block ga KU)).trans C5;have vR:=Ms.later aP;obtain ⟨row,hrow⟩:∃r,m.ed[s]=r:=⟨_,rfl⟩;obtain ⟨a,haa⟩:∃b,m.ac[s]'(by rw[HN.out.2];exact sT)=b:=⟨_,rfl⟩
    rw[hrow]at vR;rw[haa]at Xr;have jN:row∈m.ed:=by rw[<-hrow];exact List.getElem_mem JR
    have hrM:br m s=row:=by unfold br;rw[List.getElem?_eq_getElem JR,hrow];rfl
    have haM:(m.ac[s]?).getD false=a:=by rw[List.getElem?_eq_getElem (by rw[HN.out.2];exact sT),haa];rfl
    have Y7:=uj (cls:=bR cs) (HV.out.rR row jN) (KO.out.ku row jN);have Y8:=Lib.hid (show ∀e∈row,e.to<cs.length from λe he=>by rw[lL.out.1,<-HN.out.1];exact HV.out.to row jN e he)
    have D5:=Lib.hid (KO.out.ku row jN);obtain ⟨J,hJ⟩:∃J,bJ (bR cs) row=J:=⟨_,rfl⟩;have hJl:=Nat.le_trans (qZ (bR cs) row) (KO.out.rl row jN);rw[hJ]at Y7 hJl;have QG:=Lib.hid (show ∀e∈J,∃f,f<n/\bR cs f=some e.to from λe he=>by
     obtain ⟨-,-,f,hf,h3⟩:=Y7 e he;exact ⟨f.to,by rw[<-HN.out.1];exact HV.out.to row jN f hf,h3⟩)
    have HJE:=Lib.hid hJ;have rJ:=KO.out.rl row jN;obtain ⟨Ar,cr,Bw,-⟩:=vR.form;obtain ⟨zk,xG⟩:∃n,row.length=n:=⟨_,rfl⟩;rw[xG]at Bw rJ;have Y9:=Lib.hid xG;subst Bw;have Mu:dR wr (.slice Ar zk cr) row:=vR;have hM:=(HB.out.block w.heap.size (by omega)).trans Zf.out
    obtain ⟨xm0,xm1⟩:wr.cell? ⟨w.heap.size,0,none⟩=some (.slice (some ⟨ge,fe,none⟩) n ce)/\wr.cell? ⟨w.heap.size,1,none⟩=some (.slice (some ⟨ga,fa,none⟩) n ca):=by constructor <;> (rw[cell_of_row _ _ _ _ _ _ hM]; rfl)
    have xp:=aP.size;have lM:w.heap.size<wr.heap.size:=(Array.getElem?_eq_some_iff.1 hM).1;have lge:ge<wr.heap.size:=by omega
    have lga:ga<wr.heap.size:=by omega
    have HED:=Lib.hid Mu;have Ci:=Lib.hid ((wE.gW HC.out).later (HB.out.mono (Nat.le_refl _)));have hit:i<=t:=by have:=HL.out.le.top;have h9:t+1=st.length:=this;have:=NV.out;omega
    have HS:=Lib.hid (And.intro hs (And.intro hrM (And.intro haM hit)));have HXA:=Lib.hid (And.intro xm1 Xr);have HGA:=Lib.hid (And.intro KU adh);obtain ⟨W,EJ⟩:∃W:World,W=wr:=⟨_,rfl⟩;subst EJ;have eU:Below W.heap.size W W.drew:=(Below.refl _ _).drew;clear JR hown TR aP Vk KU adi C5 vR Ms Mu hrow haa jN hrM haM Y7 hJ xG hM hs adh hit xm1 Xr;go_wp2_with fail;refine aq 10 [9] (RT w.heap.size gs zP cst i s ge fe n ce zk cr g3 cc Ar J W) (λ_ w'=>Below W.heap.size W w') (by kernel_rfl) (by kernel_rfl) (by kernel_rfl) (by kernel_rfl) (by kernel_rfl) (by kernel_rfl) (by decide) eU ?_ ?_
    .simp only[cP,cQ];refine ae.pure (by decide) ?_ (ae.pure (by decide) ?_ (ae.pure (by decide) ?_ (ae.pure (by decide) ?_ (ae.pure (by decide) ?_ (ae.pure (by decide) ?_ (ae.pure (by decide) ?_ (ae.pure (by decide) ?_ (ae.pure (by decide) ?_ (ae.oJ 0 rfl ?_ (ae.nil))))))))))
     all_goals first | (with_reducible intro v wz c aD hS hE K hK;simp only[ai,Act.put,eh,ek,ep,Nat.zero_add,Nat.reduceAdd,cP,cQ]at hK|-) | (intro v wz hS hE K hK;simp only[ai,Act.put,eh,ek,ep,Nat.zero_add,Nat.reduceAdd,cP,cQ]at hK|-)
     .have HX:=Lib.hid hS;clear hS hE aD;go_wp2_with fail;exact hK.out _ rfl
     .have e0:v 0=_:=hE.1 rfl;rw[e0]at hK|-;have c1:=(hS.cell (p:=⟨w.heap.size,0,none⟩) lM).trans xm0;have l1:w.heap.size<wz.heap.size:=by have:=hS.size;omega
      have HX:=Lib.hid hS;clear hS hE aD;go_wp2_with fail;exact hK.out _ rfl
     .have HX:=Lib.hid hS;clear hS hE aD;go_wp2_with fail;exact hK.out _ rfl
     .have HX:=Lib.hid hS;clear hS hE aD;go_wp2_with fail;exact hK.out _ rfl
     .have e2:v 2=_:=hE.1 rfl;have e3:v 3=_:=hE.2.1 rfl;rw[e2,e3]at hK|-;have HX:=Lib.hid hS;clear hS hE aD;go_wp2_with fail;exact hK.out _ rfl
     .have e4:v 4=_:=hE.1 rfl;rw[e4]at hK|-;have c1:=(hS.cell (p:=⟨gs,i,none⟩) lgs).trans xst;have l1:gs<wz.heap.size:=by have:=hS.size;omega
      have HX:=Lib.hid hS;clear hS hE aD;go_wp2_with fail;exact hK.out _ rfl
     .have e1:v 1=_:=hE.1 rfl;have e5:v 5=_:=hE.2.1 rfl;rw[e1,e5]at hK|-;have HX:=Lib.hid hS;clear hS hE aD;go_wp2_with fail;exact hK.out _ rfl
     .have e6:v 6=_:=hE.1 rfl;rw[e6]at hK|-;have c1:=(hS.cell (p:=⟨ge,fe+s,none⟩) lge).trans adj;have l1:ge<wz.heap.size:=by have:=hS.size;omega
      have HX:=Lib.hid hS;clear hS hE aD;go_wp2_with fail;exact hK.out _ rfl
     .have HX:=Lib.hid hS;clear hS hE aD;go_wp2_with fail;exact hK.out _ rfl
     .have e7:v 7=_:=hE.1 rfl;have e8:v 8=_:=hE.2.1 rfl;rw[e7,e8]at hK|-;have aF:=uk (.slice Ar zk cr) (.slice (some ⟨g3,0,none⟩) n cc) row cs wz (HED.out.later hS) (Ci.out.later hS) Y8.out D5.out (by rw[Y9.out];omega)
      have HC:=Lib.hid aF;have HX:=Lib.hid hS;clear hS hE aF;go_wp2_with fail;refine HC.out.mono ?_;rintro e wy ⟨jv,rfl,ho,hb⟩;obtain ⟨Aj,cj,rfl,-⟩:=(dR.gW ho).form;have Mv:=Lib.hid (HX.out.trans (hb.mono HX.out.size));have HJ:=Lib.hid (ho.mono HX.out.size);rw[HJE.out]at HJ|-;clear ho hb;go_wp2_with fail;refine hK.out _ _ (λj z hj h=>?_) Mv.out (λ_=>⟨Aj,cj,rfl,HJ.out⟩)
      match j with
      | 0 | 1 | 2 | 3 | 4 | 5 | 6 | 7 | 8=>exact h
      | 9=>exact absurd rfl hj
      | _+10=>exact trivial
    .intro v wz hS hF;have e0:v 0=_:=hF 0 (by decide)
     have e1:v 1=_:=hF 1 (by decide)
     have e2:v 2=_:=hF 2 (by decide)
     have e3:v 3=_:=hF 3 (by decide)
     have e4:v 4=_:=hF 4 (by decide)
     have e5:v 5=_:=hF 5 (by decide)
     have e6:v 6=_:=hF 6 (by decide)
     have e7:v 7=_:=hF 7 (by decide)
     have e8:v 8=_:=hF 8 (by decide)
     have E9:=hF 9 (by decide)
     simp only[ai,Act.put,eh,ek,ep,Nat.zero_add,Nat.reduceAdd,cP,cQ,List.drop_succ_cons,List.drop_zero,e0,e1,e2,e3,e4,e5,e6,e7,e8];clear hF e0 e1 e2 e3 e4 e5 e6 e7 e8;obtain ⟨Aj,cj,e9,ZI⟩:=E9 (Nat.le_refl _);rw[e9]at ZI|-;have tl:=HL.out.begin hS HB.out ZI;obtain ⟨nj,hnj⟩:∃n,J.length=n:=⟨_,rfl⟩;rw[hnj]at tl hJl|-;have Zx:=Lib.hid tl;have Xs:=Lib.hid hnj;obtain ⟨BL,hBL⟩:∃B,W.heap.size=B:=⟨_,rfl⟩;rw[hBL]at Zx;clear hS ZI tl hnj e9 E9 adj xst xm0 HL HB eU HED Ci Y8 D5;go_wp2_with fail
     go_loopw [46,5] (λkv kX wr=>∃(k:Nat) (st':List Nat) (F':Lit->Option Value),kv = .int .i64 (k:Int)/\k<=nj/\Hid (C0 m (bR cs) (w2.heap.size+1) w1.heap.size i BL rs bE vE vA gv J t st (.slice Aj nj cj) w1 k k st' F' kX wr)) (λkv _ _=>nj - (intOf kv).toNat)
     case atStart=>exact ⟨0,st,F,rfl,Nat.zero_le _,Zx⟩
     case round=>
      obtain ⟨k,st',F',rfl,hk,HK⟩:=hrel;have T5:=HK.out.le.le.nodup;rw[HN.out.1]at T5;have Xt:=HK.out.bl.size;obtain ⟨As2,RW,rfl,adk,-⟩:=ag HK.out.le.own;obtain ⟨Ba,zm⟩:∃x,st'.length=x:=⟨_,rfl⟩;have aQ:=HK.out.le.own;rw[zm]at aQ adk T5 HK|-;have HOW:=Lib.hid aQ;have ZW:=Lib.hid zm;clear zm aQ;by_cases uu:k<nj
      .have jO:decide ((k:Int)<(nj:Int))=true:=decide_eq_true (by omega)
       have cR:decide (k<nj)=true:=decide_eq_true uu;have Xu:k<J.length:=by rw[Xs.out];exact uu
       obtain ⟨gl,rfl⟩:∃g,Aj=some ⟨g,0,none⟩:=by
        obtain ⟨A,c,e,-,eA⟩:=HK.out.row.cells yh;obtain ⟨g,hA,-⟩:=eA.resolve_left (by intro e2;have:=Hg (bV (bR cs) st') J k (by omega);rw[e2]at this;simp at this;omega)
        injection e with e1 _ _;exact ⟨g,by rw[e1,hA]⟩
       have HKJ:Hid (C0 m (bR cs) (w2.heap.size+1) w1.heap.size i BL rs bE vE vA gv J t st (.slice (some ⟨gl,0,none⟩) J.length cj) w1 k k st' F' (.slice As2 Ba RW) wr):=by rw[Xs.out];exact HK
       obtain ⟨⟨e0,e1,e2⟩,ef,lgl⟩:=HKJ.out.cells Xu;obtain ⟨q,hq⟩:∃e,J[k]=e:=⟨_,rfl⟩;have ZX:q∈J:=by rw[<-hq];exact List.getElem_mem Xu
       obtain ⟨f0,Xv,CT⟩:=QG.out q ZX;have hqc:=lL.out.2.2 _ _ CT;obtain ⟨lo,hi,cl⟩:=q;rw[hq]at e0 e1 e2;simp only at e0 e1 e2 CT hqc;have hb0:Below wr.heap.size wr (wr.alloc (.cells #[.int .u8 (lo:Int), .int .u8 (hi:Int), .int .i64 (cl:Int)] 195)):=(Below.refl _ _).alloc (Nat.le_refl _) _;have Fw:=HKJ.out.later hb0;have jD:keyOf Tryz.prog 3 (.int .i64 (cl:Int))=some (.int .i64 (cl:Int)):=Maps.keyOf_int_mk Tryz.underlying3 (WalkArith.wf_i64 (by omega))
       have hmv:=Fw.le.mv;have Mx:=Fw.le.say cl;have adm:gl≠wr.heap.size:=by omega
       have HQ:=Lib.hid hq;by_cases JS:some cl∈st'.map (bR cs)
       .rw[if_pos JS]at Mx;have rS:(Instr.lookup 213 (.map (some w1.heap.size)) (.int .i64 (cl:Int)) true).run Tryz.prog (wr.alloc (.cells #[.int .u8 (lo:Int), .int .u8 (hi:Int), .int .i64 (cl:Int)] 195)) = .ok (.tuple #[.int .i64 ((bV (bR cs) st' cl:Nat):Int), .bool true]) (wr.alloc (.cells #[.int .u8 (lo:Int), .int .u8 (hi:Int), .int .i64 (cl:Int)] 195)):=by
         have h1:=hmv.look_ok K Tryz.underlying213 hz jD trivial;rw[Mx]at h1;exact h1
        obtain ⟨x,hx⟩:∃x,bV (bR cs) st' cl=x:=⟨_,rfl⟩;rw[hx]at rS;have pF:Below (wr.setCell ⟨gl,k*3+2,none⟩ (.int .i64 (x:Int))).heap.size (wr.setCell ⟨gl,k*3+2,none⟩ (.int .i64 (x:Int))) ((wr.setCell ⟨gl,k*3+2,none⟩ (.int .i64 (x:Int))).alloc (.cells #[.int .u8 (lo:Int), .int .u8 (hi:Int), .int .i64 (cl:Int)] 195)):=(Below.refl _ _).alloc (Nat.le_refl _) _;have hK3:=((HKJ.out.old Xu (by rw[hq];exact JS)).put Xu (x:=(x:Int)) (by rw[hq,<-hx])).later pF
        rw[Xs.out]at hK3;have HK3:=Lib.hid hK3;clear Fw hmv Mx JS hx hK3 pF hq ZX CT Xv hb0 HKJ;go_wp2_with fail;go_roundw
        case rel=>exact ⟨k+1,st',F',by go_num,by omega,HK3⟩
        case measure=>simp[intOf];omega
       .rw[if_neg JS]at Mx;have rS:(Instr.lookup 213 (.map (some w1.heap.size)) (.int .i64 (cl:Int)) true).run Tryz.prog (wr.alloc (.cells #[.int .u8 (lo:Int), .int .u8 (hi:Int), .int .i64 (cl:Int)] 195)) = .ok (.tuple #[.int .i64 0, .bool false]) (wr.alloc (.cells #[.int .u8 (lo:Int), .int .u8 (hi:Int), .int .i64 (cl:Int)] 195)):=by
         have h1:=hmv.look_ok K Tryz.underlying213 hz jD trivial;rw[Mx]at h1;exact h1
        have HMV:=Lib.hid hmv;have HK1:=Lib.hid Fw;have HNI:=Lib.hid JS;have HEX:=Lib.hid (show ∃s,s<n/\bR cs s=some cl from ⟨f0,Xv,CT⟩);have aj1:st'.length<maxLen:=by unfold maxLen;have:=ZW.out;omega
        have adn:MV Tryz.prog 3 w1.heap.size Ba F' (wr.alloc (.cells #[.int .u8 (lo:Int), .int .u8 (hi:Int), .int .i64 (cl:Int)] 195)):=by rw[<-ZW.out];exact hmv
        have ado:=Lib.hid adn;have T6:=World.ownsRow.alloc HOW.out (.cells #[.int .u8 (lo:Int), .int .u8 (hi:Int), .int .i64 (cl:Int)] 195);have ZL:=Lib.hid T6;have atu:w1.heap.size<wr.heap.size:=HKJ.out.le.mv.lt;clear Fw hmv adn Mx JS hq ZX CT Xv hb0 T6 aj1;go_wp2_with (at_mapUpdate;refine oy _ rfl _ _ _ 213 rfl 3 3 K Tryz.underlying213 w1.heap.size Ba F' rfl ado.out (by unfold maxLen;omega) _ _ _ rfl rfl jD trivial ?_)
        intro wm adp wH;have hzm:=wH.size;have wU:(wr.alloc (.cells #[.int .u8 (lo:Int), .int .u8 (hi:Int), .int .i64 (cl:Int)] 195)).heap.size=wr.heap.size+1:=by simp
        rw[wU]at hzm;have hec:wm.cell? ⟨wr.heap.size,2,none⟩=some (.int .i64 (cl:Int)):=(World.cell?_of_block (a:=⟨wr.heap.size,2,none⟩) (wH.block _ (by simp) (λe=>by injection e with e;have e':wr.heap.size=w1.heap.size:=e;omega))).trans (by rw[cell_of_row _ _ _ _ _ _ (heap_alloc_new wr _)];rfl)
        have T7:wm.ownsRow w1.heap.size 3 1 (.slice As2 Ba RW) Ba (bG st'):=ak ZL.out λg hg=>wH.block g (ZL.out.lt g hg).2 λe=>He ado.out ZL.out (by rw[hg,e])
        have hbm:Below w1.heap.size w1 wm:=HK1.out.bl.grown wH HK1.out.bl.size (λq hq=>by injection hq with hq;omega)
        have ED:=JQ _ g3 n cc cl cs wm (OR.later HC.out hbm) lL.out.1 (by omega) HEX.out
        have HIX:=Lib.hid ED;have HGM:=Lib.hid (And.intro adp wH);have HOM:=Lib.hid T7;clear ED adp wH T7 hbm wU;go_wp2_with fail;refine HIX.out.mono ?_;rintro e wy ⟨s2,rfl,Cq,aj2,aj3⟩;rw[Cq];clear Cq;have cT:=World.ownsRow.alloc HOM.out (.cells #[.int .i64 (s2:Int)] 3);have mZ:∀j u,([.int .i64 (s2:Int)]:List Value)[j]?=some u->(wm.alloc (.cells #[.int .i64 (s2:Int)] 3)).cell? ((⟨wm.heap.size,0,none⟩:Addr).add j)=some u:=λj u hj=>by
         match j,hj with
         | 0,hj=>simp at hj;rw[<-hj,Addr.add_lit,cell_of_row _ _ _ _ _ _ (heap_alloc_new wm _)];rfl
        have dh:w1.heap.size<=(wm.alloc (.cells #[.int .i64 (s2:Int)] 3)).heap.size:=by simp;omega
        have HB7:=Lib.hid (show Below wm.heap.size wm (wm.alloc (.cells #[.int .i64 (s2:Int)] 3)) from (Below.refl _ _).alloc (Nat.le_refl _) _);go_wp2_with (at_builtin;refine cN rfl _ _ 22 rfl w1.heap.size 3 ii _ 1 8 Tryz.underlying22 Ze GH sY pS rfl (by decide) _ Ba (bG st') rfl cT ⟨wm.heap.size,0,none⟩ 1 1 [.int .i64 (s2:Int)] rfl rfl mZ (by intro u hu;simp at hu;subst hu;rfl) (by unfold maxLen;omega) (by omega) dh ?_)
        intro uX w4 eS Fe zL;have adq:cW uX (.slice As2 Ba RW) (wm.alloc (.cells #[.int .i64 (s2:Int)] 3)).heap.size:=by rw[show (wm.alloc (.cells #[.int .i64 (s2:Int)] 3)).heap.size=wm.heap.size+1 by simp];exact zL
        obtain ⟨Xw,rf⟩:=HK1.out.new Xu HGM.out.2 (by rw[HQ.out,ZW.out];exact HGM.out.1) HB7.out Fe (by rw[ZW.out];exact eS) adq (by rw[HQ.out];exact HNI.out) (by rw[HN.out.1];exact aj2) (by rw[HQ.out];exact aj3)
        rw[ZW.out]at Xw rf;obtain ⟨A4,c4,rfl,-,-⟩:=ag eS;obtain ⟨⟨-,-,f2⟩,ff,aty⟩:=Xw.cells Xu;have hk6:=Xw.put Xu (x:=(Ba:Int)) (by rw[rf])
        rw[Xs.out]at hk6;have HK6:=Lib.hid hk6;clear eS Fe zL adq Xw rf hk6 cT mZ dh hec;go_wp2_with fail;go_roundw
        case rel=>exact ⟨k+1,st'++[s2],_,by go_num,by omega,HK6⟩
        case measure=>simp[intOf];omega
      .have hkn:k=nj:=by omega
       have jO:decide ((k:Int)<(nj:Int))=false:=decide_eq_false (by omega)
       have hle:=HK.out.le;have hrow:=HK.out.row;rw[List.take_of_length_le (by rw[Xs.out];omega)]at hle
       rw[List.take_of_length_le (by rw[Xs.out];omega),List.drop_of_length_le (by rw[Xs.out];omega),List.append_nil]at hrow
       have zA:∃more,st'=st++more:=HK.out.pre;have aj5:=hle.le.il;have xu:st'[i]?=some s:=by
        obtain ⟨more,e⟩:=zA;rw[e,List.getElem?_append_left (by have:=NV.out;omega)]
        exact HS.out.1
       have Xx:rs.length=i:=by rw[hle.le.rows,List.length_map,List.length_take];omega
       have Xy:bE.length=i:=by rw[hle.ac,List.length_map,List.length_take];omega
       have jF:=hle.ma.own;have kJ:wr.ownsRow w1.heap.size 4 1 vA bE.length (aY bC bE):=hle.ma.acc;rw[Xx]at jF;rw[Xy]at kJ;obtain ⟨AE,cE,rfl,-,-⟩:=ag jF;obtain ⟨AV,cA,rfl,-,-⟩:=ag kJ;obtain ⟨av,hav⟩:∃av,aY bC bE=av:=⟨_,rfl⟩;rw[hav]at kJ;have ez:i<Ba:=by have:=(List.getElem?_eq_some_iff.1 xu).1;rw[ZW.out]at this;exact this
       obtain ⟨gs2,rfl,-,lgs,TR⟩:=th HOW.out (by omega)
       have xst:wr.cell? ⟨gs2,i,none⟩=some (.int .i64 (s:Int)):=by rw[TR i (by omega)];unfold bG;rw[List.getElem?_map,xu];rfl
       have hM:=(HK.out.bl.block w.heap.size (by omega)).trans Zf.out
       have xm1:wr.cell? ⟨w.heap.size,1,none⟩=some (.slice (some ⟨ga,fa,none⟩) n ca):=by rw[cell_of_row _ _ _ _ _ _ hM];rfl
       have aP:Below w.heap.size w wr:=bH.out.trans (HK.out.bl.mono bH.out.size);have ads:(m.ac[s]?).getD false=a:=HS.out.2.2.1;have C5:w.cell? ⟨ga,fa+s,none⟩=some (.bool a):=by
        obtain ⟨ga',fa',e,-,-,h0⟩:=HA.out.at_ (show s<m.ac.length by rw[HN.out.2];exact sT)
        injection e with e;injection e with e1 e2;rw[e1,e2,h0,<-ads,List.getElem?_eq_getElem (by rw[HN.out.2];exact sT)];rfl
       have xac:=(World.cell?_of_block (a:=⟨ga,fa+s,none⟩) (aP.block ga HGA.out.1)).trans C5;have Xz:=hle.ma.hN;obtain ⟨QS,xn1⟩:wr.cell? ⟨w2.heap.size+1,0,none⟩=some (.slice AE i cE)/\wr.cell? ⟨w2.heap.size+1,1,none⟩=some (.slice AV i cA):=by constructor <;> (rw[cell_of_row _ _ _ _ _ _ Xz]; rfl)
       have RX:=hle.ma.lt;have agO:=aP.size;have hsl:w2.heap.size+1<wr.heap.size:=(RX _ (aV.2 (.inl rfl))).2;have lM:w.heap.size<wr.heap.size:=(Array.getElem?_eq_some_iff.1 hM).1;have lga:ga<wr.heap.size:=by have:=HGA.out.1;omega
       have Xq:=bH.out.size;have nM:w.heap.size∉(w2.heap.size+1)::(blk (.slice AE i cE)++blk (.slice AV i cA)):=λhm=>by have:=(RX _ hm).1;omega
       have nga:ga∉(w2.heap.size+1)::(blk (.slice AE i cE)++blk (.slice AV i cA)):=λhm=>by have:=(RX _ hm).1;have:=HGA.out.1;omega
       have ngs:gs2∉(w2.heap.size+1)::(blk (.slice AE i cE)++blk (.slice AV i cA)):=λhm=>hle.ma.out _ hm (by simp[blk,Value.ownBlock])
       have hne:(∀g,(Value.slice AE i cE).ownBlock=some g->g<wr.heap.size)/\(∀g,(Value.slice AV i cA).ownBlock=some g->g<wr.heap.size)/\(∀g,(Value.slice AV i cA).ownBlock=some g->(Value.slice AE i cE).ownBlock≠some g)/\(Value.slice AE i cE).ownBlock≠some (w2.heap.size+1)/\(Value.slice AV i cA).ownBlock≠some (w2.heap.size+1)/\(∀g,(Value.slice AV i cA).ownBlock=some g->(Value.slice AE i cE).ownBlock≠some g/\g<wr.heap.size):=by
        have hd:∀g,(Value.slice AV i cA).ownBlock=some g->(Value.slice AE i cE).ownBlock≠some g:=λg hg e=>hle.ma.Xn g e hg;exact ⟨λg hg=>(jF.lt g hg).2,λg hg=>(kJ.lt g hg).2,hd,hle.ma.Zk,hle.ma.neA,λg hg=>⟨hd g hg,(kJ.lt g hg).2⟩⟩
       obtain ⟨W,EJ⟩:∃W:World,W=wr:=⟨_,rfl⟩;subst EJ;have eU:nY (w2.heap.size+1) (.slice AE i cE) (.slice AV i cA) W 0 W.drew:=⟨(ah.aa (Below.refl _ _).drew).oK,λ_=>rfl,λ_ _ _=>rfl,λ_=>(Below.refl _ _).drew⟩;have pH:=Lib.hid hne;have TC:=Lib.hid Xz;have K9:=Lib.hid jF;have T8:=Lib.hid kJ;have QL:=Lib.hid Xt;have TM:=Lib.hid (And.intro hle (And.intro hrow xu));have HBE:=Lib.hid (And.intro HK.out.bl HK.out.hB);have XA:=Lib.hid (And.intro hav (And.intro Xx Xy));clear hle hrow zA aj5 xu Xx Xy jF kJ hav TR hM aP ads C5 Xz RX hne hkn Xt;go_wp2_with fail;refine aq 20 [4,16,18] (iz (w2.heap.size+1) w.heap.size gs2 Ba RW i s ga fa n ca nj cj cE cA w1.heap.size AE AV Aj gv av a W) (λc w'=>nY (w2.heap.size+1) (.slice AE i cE) (.slice AV i cA) W c w') (by kernel_rfl) (by kernel_rfl) (by kernel_rfl) (by kernel_rfl) (by kernel_rfl) (by kernel_rfl) (by decide) eU ?_ ?_
       .simp only[cP,cQ];refine ae.pure (by decide) ?_ (ae.pure (by decide) ?_ (ae.pure (by decide) ?_ (ae.free (by decide) ?_ (ae.oJ 0 rfl ?_ (ae.pure (by decide) ?_ (ae.pure (by decide) ?_ (ae.pure (by decide) ?_ (ae.pure (by decide) ?_ (ae.pure (by decide) ?_ (ae.pure (by decide) ?_ (ae.pure (by decide) ?_ (ae.pure (by decide) ?_ (ae.pure (by decide) ?_ (ae.pure (by decide) ?_ (ae.free (by decide) ?_ (ae.oJ 1 rfl ?_ (ae.pure (by decide) ?_ (ae.oJ 2 rfl ?_ (ae.pure (by decide) ?_ (ae.nil))))))))))))))))))))
        all_goals first | (with_reducible intro v wz c aD hS hE K hK;simp only[ai,Act.put,eh,ek,ep,Nat.zero_add,Nat.reduceAdd,cP,cQ]at hK|-) | (intro v wz hS hE K hK;simp only[ai,Act.put,eh,ek,ep,Nat.zero_add,Nat.reduceAdd,cP,cQ]at hK|-)
        .have HX:=Lib.hid hS;clear hS hE aD;go_wp2_with fail;exact hK.out _ rfl
        .have e0:v 0=_:=hE.1 rfl;rw[e0]at hK|-;have hle:=aD 0 (by kernel_rfl)
         have c1:=(World.cell?_of_block (a:=⟨w2.heap.size+1,0,none⟩) (hS.2.1 (by omega))).trans QS
         have l1:w2.heap.size+1<wz.heap.size:=by have:=hS.1.size;omega
         have HX:=Lib.hid hS;clear hS hE aD;go_wp2_with fail;exact hK.out _ rfl
        .have HX:=Lib.hid hS;clear hS hE aD;go_wp2_with fail;exact hK.out _ rfl
        .have e2:v 2=_:=hE.1 rfl;rw[e2]at hK|-;have dh:Below wz.heap.size wz (wz.alloc (.cells #[.slice Aj nj cj] 187)):=(Below.refl _ _).alloc (Nat.le_refl _) _;have po:=hS.1.size;have HX:=Lib.hid hS;have vY:=Lib.hid dh;clear hS hE aD dh;go_wp2_with fail;exact hK.out _ _ (λj y _ h=>u6 vY.out h) (HX.out.later hsl pH.out.2.1 vY.out) ⟨wz.heap.size,rfl,po,by simp,by go_simp⟩
        .have e1:v 1=_:=hE.1 rfl;rw[e1]at hK|-;have E3:=hE.2.1 rfl;obtain ⟨g,e3,PF,dV,ur⟩:=E3;rw[e3]at hK|-;have hz:=hS.2.2.2 rfl;have hown:wz.ownsRow w1.heap.size 187 1 (.slice AE i cE) i gv:=bj K9.out hz;have Cl:=hz.size;clear hz;have hcell:∀j u,([.slice Aj nj cj]:List Value)[j]?=some u->wz.cell? ((⟨g,0,none⟩:Addr).add j)=some u:=λj u hj=>by
          match j,hj with
          | 0,hj=>simp at hj;rw[<-hj,Addr.add_lit];exact ur
         have HX:=Lib.hid hS;clear hS hE;go_wp2_with (at_builtin;refine cN rfl _ _ 91 rfl w1.heap.size 187 ie (.slice none 0 0) 1 24 Tryz.underlying91 sR he0 he1 TD rfl (by decide) _ i gv rfl hown ⟨g,0,none⟩ 1 1 [.slice Aj nj cj] rfl rfl hcell (by intro u hu;simp at hu;subst hu;rfl) (by unfold maxLen;omega) (by omega) (by have:=QL.out;omega) ?_)
         intro v' wx hown1 et eJ;obtain ⟨A',c',rfl,-,-⟩:=ag hown1;have Fx:cW (.slice A' (i+1) c') (.slice AE i cE) W.heap.size:=eJ.imp id λ⟨g,h1,h2⟩=>⟨g,h1,Nat.le_trans Cl h2⟩;refine hK.out _ _ (Ft et pH.out.1) (HX.out.s1 hsl et pH.out.2.2.2.1 pH.out.2.2.2.2.2) (λ_=>⟨A',c',rfl,hown1,Fx⟩)
        .have HX:=Lib.hid hS;clear hS hE aD;go_wp2_with fail;exact hK.out _ rfl
        .have e5:v 5=_:=hE.1 rfl;rw[e5]at hK|-;have hle:=aD 1 (by kernel_rfl)
         have c1:=(World.cell?_of_block (a:=⟨w2.heap.size+1,1,none⟩) (hS.2.1 (by omega))).trans xn1
         have l1:w2.heap.size+1<wz.heap.size:=by have:=hS.1.size;omega
         have HX:=Lib.hid hS;clear hS hE aD;go_wp2_with fail;exact hK.out _ rfl
        .have HX:=Lib.hid hS;clear hS hE aD;go_wp2_with fail;exact hK.out _ rfl
        .have e7:v 7=_:=hE.1 rfl;rw[e7]at hK|-;have c1:=(World.cell?_of_block (a:=⟨w.heap.size,1,none⟩) (hS.1.blk _ lM nM)).trans xm1;have l1:w.heap.size<wz.heap.size:=by have:=hS.1.size;omega
         have HX:=Lib.hid hS;clear hS hE aD;go_wp2_with fail;exact hK.out _ rfl
        .have HX:=Lib.hid hS;clear hS hE aD;go_wp2_with fail;exact hK.out _ rfl
        .have HX:=Lib.hid hS;clear hS hE aD;go_wp2_with fail;exact hK.out _ rfl
        .have e9:v 9=_:=hE.1 rfl;have pA:v 10=_:=hE.2.1 rfl;rw[e9,pA]at hK|-;have HX:=Lib.hid hS;clear hS hE aD;go_wp2_with fail;exact hK.out _ rfl
        .have tP:v 11=_:=hE.1 rfl;rw[tP]at hK|-;have c1:=(World.cell?_of_block (a:=⟨gs2,i,none⟩) (hS.1.blk _ lgs ngs)).trans xst;have l1:gs2<wz.heap.size:=by have:=hS.1.size;omega
         have HX:=Lib.hid hS;clear hS hE aD;go_wp2_with fail;exact hK.out _ rfl
        .have e8:v 8=_:=hE.1 rfl;have rM:v 12=_:=hE.2.1 rfl;rw[e8,rM]at hK|-;have HX:=Lib.hid hS;clear hS hE aD;go_wp2_with fail;exact hK.out _ rfl
        .have tQ:v 13=_:=hE.1 rfl;rw[tQ]at hK|-;have c1:=(World.cell?_of_block (a:=⟨ga,fa+s,none⟩) (hS.1.blk _ lga nga)).trans xac;have l1:ga<wz.heap.size:=by have:=hS.1.size;omega
         have HX:=Lib.hid hS;clear hS hE aD;go_wp2_with fail;exact hK.out _ rfl
        .have wa:v 14=_:=hE.1 rfl;rw[wa]at hK|-;have dh:Below wz.heap.size wz (wz.alloc (.cells #[.bool a] 4)):=(Below.refl _ _).alloc (Nat.le_refl _) _;have po:=hS.1.size;have HX:=Lib.hid hS;have vY:=Lib.hid dh;clear hS hE aD dh;go_wp2_with fail;exact hK.out _ _ (λj y _ h=>u6 vY.out h) (HX.out.later hsl pH.out.2.1 vY.out) ⟨wz.heap.size,rfl,po,by simp,by go_simp⟩
        .have e6:v 6=_:=hE.1 rfl;rw[e6]at hK|-;have ZY:=hE.2.1 rfl;obtain ⟨g,DY,PF,dV,ur⟩:=ZY;rw[DY]at hK|-;have hown:wz.ownsRow w1.heap.size 4 1 (.slice AV i cA) i av:=ak T8.out λg hg=>hS.2.2.1 (by decide) g hg
         have Cl:=hS.1.size;have hcell:∀j u,([.bool a]:List Value)[j]?=some u->wz.cell? ((⟨g,0,none⟩:Addr).add j)=some u:=λj u hj=>by
          match j,hj with
          | 0,hj=>simp at hj;rw[<-hj,Addr.add_lit];exact ur
         have HX:=Lib.hid hS;clear hS hE;go_wp2_with (at_builtin;refine cN rfl _ _ 70 rfl w1.heap.size 4 ib (.bool false) 1 1 Tryz.underlying70 xn hb0 hb1 aL rfl (by decide) _ i av rfl hown ⟨g,0,none⟩ 1 1 [.bool a] rfl rfl hcell (by intro u hu;simp at hu;subst hu;rfl) (by unfold maxLen;omega) (by omega) (by have:=QL.out;omega) ?_)
         intro v' wx hown1 et eJ;obtain ⟨A',c',rfl,-,-⟩:=ag hown1;have Fx:cW (.slice A' (i+1) c') (.slice AV i cA) W.heap.size:=eJ.imp id λ⟨g,h1,h2⟩=>⟨g,h1,Nat.le_trans Cl h2⟩;refine hK.out _ _ (Fu et pH.out.2.1 pH.out.2.2.1) (HX.out.s2 hsl et pH.out.2.2.2.2.1) (λ_=>⟨A',c',rfl,hown1,Fx⟩)
        .have HX:=Lib.hid hS;clear hS hE aD;go_wp2_with fail;exact hK.out _ rfl
        .have e17:v 17=_:=hE.1 rfl;rw[e17]at hK|-;have E4:=hE.2.1 rfl;obtain ⟨A,c',ev,ho,eJ⟩:=E4 (by decide)
         rw[ev]at hK ho eJ|-;have hrow:=(hS.2.1 (by decide)).trans TC.out
         have cz:wz.cell? ⟨w2.heap.size+1,0,none⟩=some (.slice AE i cE):=by rw[cell_of_row _ _ _ _ _ _ hrow];rfl
         have fz:wz.frozen? ⟨w2.heap.size+1,0,none⟩=false:=by simp[World.frozen?,hrow]
         have HX:=Lib.hid hS;have HO:=Lib.hid (And.intro ho (And.intro eJ hrow));clear hS hE ho eJ hrow ev;go_wp2_with fail;have E0:∀g,(Value.slice A (i+1) c').ownBlock=some g->g≠w2.heap.size+1:=λg hg=>HO.out.2.1.elim (λe=>by rw[e]at hg;intro e2;subst e2;exact pH.out.2.2.2.1 hg) λ⟨g',e,h2⟩=>by rw[e]at hg;injection hg with hg;omega
         refine hK.out undef _ (Fv hsl pH.out.2.2.2.1 pH.out.2.2.2.2.1 _) (HX.out.s3 _) (λ_=>⟨A,c',ak HO.out.1 λg hg=>Below.heap_setCell _ _ _ _ (E0 g hg),HO.out.2.1,by have:=bh HO.out.2.2 0 (.slice A (i+1) c');simpa using this⟩)
        .have HX:=Lib.hid hS;clear hS hE aD;go_wp2_with fail;exact hK.out _ rfl
       .intro v wz hS hF;have e0:v 0=_:=hF 0 (by decide)
        have e1:v 1=_:=hF 1 (by decide)
        have e2:v 2=_:=hF 2 (by decide)
        have e5:v 5=_:=hF 5 (by decide)
        have e6:v 6=_:=hF 6 (by decide)
        have e7:v 7=_:=hF 7 (by decide)
        have e8:v 8=_:=hF 8 (by decide)
        have e9:v 9=_:=hF 9 (by decide)
        have pA:v 10=_:=hF 10 (by decide)
        have tP:v 11=_:=hF 11 (by decide)
        have rM:v 12=_:=hF 12 (by decide)
        have tQ:v 13=_:=hF 13 (by decide)
        have wa:v 14=_:=hF 14 (by decide)
        have e17:v 17=_:=hF 17 (by decide)
        have e19:v 19=_:=hF 19 (by decide)
        have E3:=hF 3 (by decide)
        have E4:=hF 4 (by decide)
        have ZY:=hF 15 (by decide)
        have ZD:=hF 16 (by decide)
        have Wo:=hF 18 (by decide)
        simp only[ai,Act.put,eh,ek,ep,Nat.zero_add,Nat.reduceAdd,cP,cQ,List.drop_succ_cons,List.drop_zero,e0,e1,e2,e5,e6,e7,e8,e9,pA,tP,rM,tQ,wa,e17,e19];clear hF e0 e1 e2 e5 e6 e7 e8 e9 pA tP rM tQ wa e17 e19;obtain ⟨A18,c18,Fy,JT,sK⟩:=Wo (by decide)
        obtain ⟨A16,c16,adv,XB,RY⟩:=ZD (by decide)
        rw[adv]at XB RY|-;have RZ:=hS.1;have z1:wz.cell? ⟨w2.heap.size+1,1,none⟩=some (.slice AV i cA):=by rw[cell_of_row _ _ _ _ _ _ sK];rfl
        have fz1:wz.frozen? ⟨w2.heap.size+1,1,none⟩=false:=by simp[World.frozen?,sK]
        have lNz:w2.heap.size+1<wz.heap.size:=(Array.getElem?_eq_some_iff.1 sK).1;have bg:∀k,k≠w2.heap.size+1->(wz.setCell ⟨w2.heap.size+1,1,none⟩ (.slice A16 (i+1) c16)).heap[k]?=wz.heap[k]?:=λk hk=>Below.heap_setCell _ _ _ _ hk;have eJ:∀{v v':Value},cW v' v W.heap.size->v.ownBlock≠some (w2.heap.size+1)->∀g,v'.ownBlock=some g->g≠w2.heap.size+1:=λhf hn g hg e=>by
         subst e;rcases hf with hf | ⟨g',hf,h2⟩
         .rw[hf]at hg;exact hn hg
         .rw[hf]at hg;injection hg with hg;omega
        have hks:ah (lA (w2.heap.size+1) (.slice AE i cE) (.slice AV i cA)) [] W (wz.setCell ⟨w2.heap.size+1,1,none⟩ (.slice A16 (i+1) c16)):=
         ah.tr (show ah (lA (w2.heap.size+1) (.slice AE i cE) (.slice AV i cA)) [] W wz from RZ) ⟨rfl,rfl,rfl,by simp[World.setCell],λk _ hn=>bg k (λe=>hn (aV.2 (.inl e))),λk hk=>by cases hk⟩
        have bO:=TM.out.1.RM HBE.out.2 TM.out.2.1 hks (by have:=bh sK 1 (.slice A16 (i+1) c16);simpa using this) (by rw[XA.out.2.1];exact ak Fy λg hg=>bg g (eJ JT pH.out.2.2.2.1 g hg)) (a:=a) (by
         show World.ownsRow _ _ _ _ _ _ _;rw[List.length_append,bA,bf,XA.out.1,XA.out.2.2];exact ak XB λg hg=>bg g (eJ RY pH.out.2.2.2.2.1 g hg)) JT RY HS.out.2.2.2 TM.out.2.2 (by rw[HS.out.2.1,HJE.out]) HS.out.2.2.1.symm
        have oH:Below w1.heap.size w1 (wz.setCell ⟨w2.heap.size+1,1,none⟩ (.slice A16 (i+1) c16)):=HBE.out.1.trans (hks.below (λk hk=>(TM.out.1.ma.lt k hk).1) QL.out);have aj8:=Lib.hid bO;have HBF:=Lib.hid oH;clear hS RZ bg eJ hks bO oH Fy JT sK XB RY adv E3 E4 ZY ZD Wo;go_wp2_with fail;go_roundw
        case rel=>exact ⟨i+1,_,_,_,_,_,_,_,_,by go_num,by omega,aj8,HBF⟩
        case measure=>simp[intOf];omega
   .have sR:i=zP:=by omega
    have hd:decide ((i:Int)<(zP:Int))=false:=decide_eq_false (by omega)
    have hle:=HL.out;have adw:i=st.length:=by rw[NV.out];exact sR
    have jF:=hle.ma.own;have kJ:wr.ownsRow w1.heap.size 4 1 vA bE.length (aY bC bE):=hle.ma.acc;obtain ⟨AE,cE,rfl,-,-⟩:=ag jF;obtain ⟨AV,cA,rfl,-,-⟩:=ag kJ;obtain ⟨nE,Zo⟩:∃x,rs.length=x:=⟨_,rfl⟩;obtain ⟨nV,Zp⟩:∃x,bE.length=x:=⟨_,rfl⟩;rw[Zo,Zp]at HL;have Xz:=HL.out.ma.hN;obtain ⟨QS,xn1⟩:wr.cell? ⟨w2.heap.size+1,0,none⟩=some (.slice AE nE cE)/\wr.cell? ⟨w2.heap.size+1,1,none⟩=some (.slice AV nV cA):=by constructor <;> (rw[cell_of_row _ _ _ _ _ _ Xz]; rfl)
    have yi:=(HB.out.block (w.heap.size+1) lx1).trans Vo.out;obtain ⟨q0,q1⟩:wr.cell? ⟨w.heap.size+1,0,none⟩=some (.slice none 0 0)/\wr.cell? ⟨w.heap.size+1,1,none⟩=some (.slice none 0 0):=by constructor <;> (rw[cell_of_row _ _ _ _ _ _ yi]; rfl)
    have g0:wr.frozen? ⟨w.heap.size+1,0,none⟩=false:=by simp[World.frozen?,yi]
    have g1:wr.frozen? ⟨w.heap.size+1,1,none⟩=false:=by simp[World.frozen?,yi]
    have lNr:w2.heap.size+1<wr.heap.size:=(Array.getElem?_eq_some_iff.1 Xz).1;have lXr:w.heap.size+1<wr.heap.size:=by omega
    have HEI:=Lib.hid (And.intro adw (And.intro Zo Zp));clear hle adw jF kJ Xz yi Zo Zp sR;go_wp2_with fail;refine ar λWf cH=>?_;refine bodyPost_ret (v:=.agg #[.slice AE nE cE, .slice AV nV cA]) (by rw[cH];simp[results,Tryz.results139,go_sem,q0,q1,lXr];try rfl) rfl ?_
    have di:ah [w.heap.size+1] [] wr Wf:=by
     rw[cH];have hne:∀k,k∉[w.heap.size+1]->k≠w.heap.size+1:=λk hn e=>hn (List.mem_singleton.2 e);exact ⟨rfl,rfl,rfl,by simp[World.setCell],λk _ hn=>(Below.heap_setCell (wr.setCell ⟨w.heap.size+1,0,none⟩ (.slice AE nE cE)) ⟨w.heap.size+1,1,none⟩ (.slice AV nV cA) k (hne k hn)).trans (Below.heap_setCell wr ⟨w.heap.size+1,0,none⟩ (.slice AE nE cE) k (hne k hn)),λk hk=>by cases hk⟩
    have hmk:=HL.out.ma.low di (λk hk=>by rw[List.mem_singleton]at hk;omega)
    have hle:=HL.out.le;rw[HEI.out.1]at hle;obtain ⟨d1,d2,d3⟩:=hle.done HV.out lL.out.2.1;have QY:bE=(cG m (bR cs) (bV (bR cs) st) st).ac:=by rw[HL.out.ac,HEI.out.1,List.take_length];rfl
    have hm':(⟨rs,bE⟩:Mc)=cG m (bR cs) (bV (bR cs) st) st:=by rw[d1,QY]
    have Xq:=bH.out.size;have oH:Below w.heap.size w Wf:=(bH.out.trans (HB.out.mono bH.out.size)).trans (di.below (λk hk=>by rw[List.mem_singleton]at hk;omega) (by omega))
    refine ⟨_,⟨rs,bE⟩,rfl,hmk.up.mono Xq,oH, .inl ⟨?_,by rw[hm'];exact d2,by rw[hm'];exact d3⟩,?_,?_⟩
    .by_cases hx:bc m 0
     .exact hx
     .exact absurd ((lL.out.2.1.dC 0 (by rw[HN.out.1];exact mN.out)).2 hx) (HL.out.le.lv 0 (List.mem_of_getElem? HL.out.le.zero)).2
    .show rs.length<=_;rw[d1];unfold cG;simp;exact HL.out.le.nodup
    .rw[hm'];have hr:∀r∈(cG m (bR cs) (bV (bR cs) st) st).ed,∃s∈st,r=dy (bV (bR cs) st) (bJ (bR cs) (br m s)):=λr hr=>by
      unfold cG at hr;obtain ⟨s,h1,h2⟩:=List.mem_map.1 hr;exact ⟨s,h1,h2.symm⟩
     have jN:∀s∈st,br m s∈m.ed:=λs hs=>by
      obtain ⟨h1,-⟩:=HL.out.le.lv s hs;unfold br;rw[List.getElem?_eq_getElem h1];exact List.getElem_mem h1
     refine ⟨λr h e he=>?_,λr h=>?_,?_⟩
     .obtain ⟨s,h1,rfl⟩:=hr r h;unfold dy at he;obtain ⟨f,h2,rfl⟩:=List.mem_map.1 he;have:=uj (cls:=bR cs) (HV.out.rR _ (jN s h1)) (KO.out.ku _ (jN s h1)) f h2;exact ⟨this.1,this.2.1⟩
     .obtain ⟨s,h1,rfl⟩:=hr r h;rw[qt];exact Nat.le_trans (qZ _ _) (KO.out.rl _ (jN s h1))
     .unfold cG;simp;have:=HL.out.le.nodup;have:=KO.out.n;omega
end
section
set_option linter.unusedVariables false
set_option linter.unusedSimpArgs false
open Go.RowKit
def V8 (kb lo hi tq:Nat) (D0 D1 D2 S5 S6 ZA ZB S17:ByteArray):Nat->Nat->Value->World->Prop
 | c,0,x,w=>x = .pointer (some ⟨kb,0,none⟩)
 | c,1,x,w=>x = .pointer (some ⟨kb,0,none⟩)
 | c,2,x,w=>x = .int .u8 (lo:Int)
 | c,3,x,w=>x = .int .i64 (lo:Int)
 | c,4,x,w=>x = .string D0
 | c,5,x,w=>x = .string S5
 | c,6,x,w=>x = .string S6
 | c,7,x,w=>x = .pointer (some ⟨kb,0,none⟩)
 | c,8,x,w=>x = .pointer (some ⟨kb,1,none⟩)
 | c,9,x,w=>x = .int .u8 (hi:Int)
 | c,10,x,w=>x = .int .i64 (hi:Int)
 | c,11,x,w=>x = .string D1
 | c,12,x,w=>x = .string ZA
 | c,13,x,w=>x = .string ZB
 | c,14,x,w=>x = .pointer (some ⟨kb,2,none⟩)
 | c,15,x,w=>x = .int .i64 (tq:Int)
 | c,16,x,w=>x = .string D2
 | c,17,x,w=>x = .string S17
 | _,_,_,_=>True
theorem ra:∀l:List Ed,(∀e∈l,e.lo<256/\e.hi<256/\e.to<1000000)->(cU l).length<=20*l.length
 | [],_=>Nat.le_refl _
 | e::r,h=>by
  have h1:=ra r λx hx=>h x (by simp[hx])
  have h2:=h e (by simp)
  have d0:=jw e.lo 2 (by omega)
  have d1:=jw e.hi 2 (by omega)
  have d2:=jw e.to 6 (by omega)
  simp only[cU,List.length_cons,List.length_append];omega
theorem uF (a b:ByteArray):bl (a++b)=bl a++bl b:=by simp[bl]
set_option maxHeartbeats 8000000 in
theorem zl (b:Bool) (ev:Value) (l:List Ed) (w:World) (he:dR w ev l) (fO:∀e∈l,e.lo<256/\e.hi<256/\e.to<1000000) (hl:l.length<=100000) (om:cd w) :
  Calls Tryz.prog 195 #[.bool b,ev] w λe w'=>e = .returned (.string (bs (oh b l)))/\Below w.heap.size w w':=by
 obtain ⟨Ae,ce,rfl,qO,Ix⟩:=he.form;obtain ⟨nl,lZ⟩:∃n,l.length=n:=⟨_,rfl⟩;rw[lZ]at he qO hl|-;have HE:=Lib.hid he;have HY:=Lib.hid fO;have HN:=Lib.hid lZ;have qN:=Lib.hid om;have Jt:=Lib.hid (λw=>Tryz.strconv_FormatBool b w);clear he fO lZ om
 go_enter Tryz.func195,Tryz.ntmps195
 go_wp2_with (go_at_call 218;refine (Jt.out _).mono ?_;rintro e w1 ⟨rfl,rfl⟩);have DZ:Eu w.heap.size [] (w.alloc (.cells #[.pointer none, .slice none 0 0] 205)):=⟨Lib.fresh_isBuilder _ _ w,by simp⟩
 have La:((⟨(Lib.formatBool b).toArray⟩:ByteArray)).size<=1000000:=by cases b <;> decide
 refine (my _ _ _ _ DZ (by simp) La).mono ?_
 rintro e w1 ⟨rfl,iD,hb1⟩;have hfb:bl ⟨(Lib.formatBool b).toArray⟩=boolT b:=by cases b <;> rfl
 rw[hfb,List.nil_append]at iD;have GK:=Lib.hid iD;have bH:=Lib.hid (((Below.refl _ w).alloc (Nat.le_refl _) (.cells #[.pointer none, .slice none 0 0] 205)).trans hb1);clear DZ La iD hb1 hfb;go_wp2_with fail
 go_loopw [13] (λiv wr=>∃k:Nat,k<=nl/\iv = .int .i64 (k:Int)/\Hid (Eu w.heap.size (boolT b++cU (l.take k)) wr)/\Hid (Below w.heap.size w wr)) (λiv _=>nl - (intOf iv).toNat)
 case atStart=>exact ⟨0,Nat.zero_le _,rfl,by rw[List.take_zero];simp only[cU,List.append_nil];exact GK,bH⟩
 case round=>
  obtain ⟨k,hk,rfl,HI,bI⟩:=hrel;by_cases hlt:k<nl
  .have hd:decide ((k:Int)<(nl:Int))=true:=decide_eq_true (by omega)
   have di:k<l.length:=by rw[HN.out];exact hlt
   obtain ⟨g,f,rfl,-,hg,c0,c1,c2⟩:=HE.out.at_ di;obtain ⟨e,hle⟩:∃e,l[k]=e:=⟨_,rfl⟩;rw[hle]at c0 c1 c2;have KQ:e∈l:=by rw[<-hle];exact List.getElem_mem di
   have hblk:=bI.out.block g hg;have d0:=(World.cell?_of_block (a:=⟨g,f+k*3,none⟩) hblk).trans c0;have d1:=(World.cell?_of_block (a:=⟨g,f+k*3+1,none⟩) hblk).trans c1;have d2:=(World.cell?_of_block (a:=⟨g,f+k*3+2,none⟩) hblk).trans c2;have hwr:=bI.out.size;have M8:g<wr.heap.size:=by omega
   obtain ⟨hb0,hb1,aL⟩:=HY.out e KQ;have bT:cU (l.take (k+1))=cU (l.take k)++(32::(Lib.decDigits e.lo++45::(Lib.decDigits e.hi++58::Lib.decDigits e.to))):=by rw[List.take_succ_eq_append_getElem di,hle,uG]
   obtain ⟨lo,hi,tq⟩:=e;simp only at d0 d1 d2 hb0 hb1 aL bT;have aiJ:=jw lo 2 (by omega)
   have aiK:=jw hi 2 (by omega)
   have aiL:=jw tq 6 (by omega)
   obtain ⟨D0,hD0⟩:∃D,bs (Lib.decDigits lo)=D:=⟨_,rfl⟩;obtain ⟨D1,hD1⟩:∃D,bs (Lib.decDigits hi)=D:=⟨_,rfl⟩;obtain ⟨D2,hD2⟩:∃D,bs (Lib.decDigits tq)=D:=⟨_,rfl⟩;have z0:D0.size<=7:=by rw[<-hD0,dj];omega
   have z1:D1.size<=7:=by rw[<-hD1,dj];omega
   have z2:D2.size<=7:=by rw[<-hD2,dj];omega
   obtain ⟨S5,hS5⟩:∃S,(⟨#[32]⟩:ByteArray)++D0=S:=⟨_,rfl⟩;obtain ⟨S6,hS6⟩:∃S,S5++(⟨#[45]⟩:ByteArray)=S:=⟨_,rfl⟩;obtain ⟨ZA,Q6⟩:∃S,S6++D1=S:=⟨_,rfl⟩;obtain ⟨ZB,Q7⟩:∃S,ZA++(⟨#[58]⟩:ByteArray)=S:=⟨_,rfl⟩;obtain ⟨S17,Q8⟩:∃S,ZB++D2=S:=⟨_,rfl⟩;have q32:ByteArray.size ⟨#[32]⟩=1:=rfl;have q45:ByteArray.size ⟨#[45]⟩=1:=rfl;have q58:ByteArray.size ⟨#[58]⟩=1:=rfl;have z5:S5.size<=8:=by rw[<-hS5,ByteArray.size_append];omega
   have z6:S6.size<=9:=by rw[<-hS6,ByteArray.size_append];omega
   have z12:ZA.size<=16:=by rw[<-Q6,ByteArray.size_append];omega
   have z13:ZB.size<=17:=by rw[<-Q7,ByteArray.size_append];omega
   have z17:S17.size<=24:=by rw[<-Q8,ByteArray.size_append];omega
   have n5:¬(9223372036854775807:Nat)<ByteArray.size ⟨#[32]⟩+D0.size:=by omega
   have n6:¬(9223372036854775807:Nat)<S5.size+ByteArray.size ⟨#[45]⟩:=by omega
   have n12:¬(9223372036854775807:Nat)<S6.size+D1.size:=by omega
   have n13:¬(9223372036854775807:Nat)<ZA.size+ByteArray.size ⟨#[58]⟩:=by omega
   have n17:¬(9223372036854775807:Nat)<ZB.size+D2.size:=by omega
   have oc:bl S17=32::(Lib.decDigits lo++45::(Lib.decDigits hi++58::Lib.decDigits tq)):=by
    rw[<-Q8,uF,<-Q7,uF,<-Q6,uF,<-hS6,uF,<-hS5,uF,<-hD0,<-hD1,<-hD2,oo,oo,oo];show (([32]++_++[45])++_++[58])++_=_;simp
   have aiM:=Lib.hid (λW (h:cd W)=>hD0▸qd lo (by omega) W h)
   have aiN:=Lib.hid (λW (h:cd W)=>hD1▸qd hi (by omega) W h)
   have aiO:=Lib.hid (λW (h:cd W)=>hD2▸qd tq (by omega) W h)
   have HS5:=Lib.hid hS5;have M9:=Lib.hid hS6;have aiP:=Lib.hid Q6;have aiQ:=Lib.hid Q7;have aiR:=Lib.hid Q8;have lY:=Lib.hid (And.intro bT oc);have rk:(boolT b++cU (l.take k)).length<=1000000000:=by
    have h1:=ra (l.take k) λx hx=>HY.out x (List.mem_of_mem_take hx);have h2:=List.length_take_le k l;have h3:(boolT b).length<=5:=by cases b <;> decide
    rw[List.length_append];omega
   have Bl:=Lib.hid rk;have fV:=qN.out.low;clear hle KQ hblk c0 c1 c2 bT hD0 hD1 hD2 hS5 hS6 Q6 Q7 Q8 oc aiJ aiK aiL di rk q32 q45 q58;go_wp2_with fail;refine dv λW hW=>?_;have EZ:Below wr.heap.size wr W:=by rw[hW];exact (Below.refl _ _).alloc (Nat.le_refl _) _
   have po:W.heap.size=wr.heap.size+1:=by rw[hW];simp
   have Ti:W.heap[wr.heap.size]?=some (.cells #[.int .u8 (lo:Int), .int .u8 (hi:Int), .int .i64 (tq:Int)] 195 (0,0)):=by rw[hW];exact heap_alloc_new wr _
   obtain ⟨b0,b1,b2⟩:=aR Ti;have GV:wr.heap.size<W.heap.size:=by omega
   have hvW:cd W:=qN.out.below (bI.out.trans (EZ.mono hwr)) fV;have ZC:=Lib.hid (HI.out.later EZ);have MP:=Lib.hid (bI.out.trans (EZ.mono hwr));have KZ:=Lib.hid hvW;have eU:Below W.heap.size W W.drew:=(Below.refl _ _).drew;clear hW Ti EZ d0 d1 d2 hvW;refine aq 18 [] (V8 wr.heap.size lo hi tq D0 D1 D2 S5 S6 ZA ZB S17) (λ_ w'=>Below W.heap.size W w') (by kernel_rfl) (by kernel_rfl) (by kernel_rfl) (by kernel_rfl) (by kernel_rfl) (by kernel_rfl) (by decide) eU ?_ ?_
   .simp only[cP,cQ];refine ae.pure (by decide) ?_ (ae.pure (by decide) ?_ (ae.pure (by decide) ?_ (ae.pure (by decide) ?_ (ae.free (by decide) ?_ (ae.pure (by decide) ?_ (ae.pure (by decide) ?_ (ae.pure (by decide) ?_ (ae.pure (by decide) ?_ (ae.pure (by decide) ?_ (ae.pure (by decide) ?_ (ae.free (by decide) ?_ (ae.pure (by decide) ?_ (ae.pure (by decide) ?_ (ae.pure (by decide) ?_ (ae.pure (by decide) ?_ (ae.free (by decide) ?_ (ae.pure (by decide) ?_ (ae.nil))))))))))))))))))
    all_goals first | (with_reducible intro v wz c aD hS hE K hK;simp only[ai,Act.put,eh,ek,ep,Nat.zero_add,Nat.reduceAdd,cP,cQ]at hK|-) | (intro v wz hS hE K hK;simp only[ai,Act.put,eh,ek,ep,Nat.zero_add,Nat.reduceAdd,cP,cQ]at hK|-)
    .have HX:=Lib.hid hS;clear hS hE aD;go_wp2_with fail;exact hK.out _ rfl
    .have e0:v 0=_:=hE.1 rfl;rw[e0]at hK|-;have HX:=Lib.hid hS;clear hS hE aD;go_wp2_with fail;exact hK.out _ rfl
    .have e1:v 1=_:=hE.1 rfl;rw[e1]at hK|-;have cx0:=(hS.cell (p:=⟨wr.heap.size,0,none⟩) GV).trans b0;have lwz:wr.heap.size<wz.heap.size:=by have:=hS.size;omega
     have HX:=Lib.hid hS;clear hS hE aD;go_wp2_with fail;exact hK.out _ rfl
    .have e2:v 2=_:=hE.1 rfl;rw[e2]at hK|-;have HX:=Lib.hid hS;clear hS hE aD;go_wp2_with fail;exact hK.out _ rfl
    .have e3:v 3=_:=hE.1 rfl;rw[e3]at hK|-;have aF:=aiM.out wz (KZ.out.later hS);have HC:=Lib.hid aF;have HX:=Lib.hid hS;clear hS hE aD aF;go_wp2_with fail;refine HC.out.mono ?_;rintro e wy ⟨rfl,hb⟩;have D5:=Lib.hid (HX.out.trans (hb.mono HX.out.size));clear hb;go_wp2_with fail;refine hK.out _ _ (λj z hj h=>?_) D5.out rfl
     match j with
     | 0 | 1 | 2 | 3 | 5 | 6 | 7 | 8 | 9 | 10 | 11 | 12 | 13 | 14 | 15 | 16 | 17=>exact h
     | 4=>exact absurd rfl hj
     | _+18=>exact trivial
    .have E4:=hE.1 rfl;have e4:v 4=_:=E4;rw[e4]at hK|-;have HX:=Lib.hid hS;clear hS hE aD;go_wp2_with fail;exact hK.out _ (by rw[HS5.out];rfl)
    .have E5:=hE.1 rfl;have e5:v 5=_:=E5;rw[e5]at hK|-;have HX:=Lib.hid hS;clear hS hE aD;go_wp2_with fail;exact hK.out _ (by rw[M9.out];rfl)
    .have HX:=Lib.hid hS;clear hS hE aD;go_wp2_with fail;exact hK.out _ rfl
    .have e7:v 7=_:=hE.1 rfl;rw[e7]at hK|-;have HX:=Lib.hid hS;clear hS hE aD;go_wp2_with fail;exact hK.out _ rfl
    .have e8:v 8=_:=hE.1 rfl;rw[e8]at hK|-;have cx1:=(hS.cell (p:=⟨wr.heap.size,1,none⟩) GV).trans b1;have lwz:wr.heap.size<wz.heap.size:=by have:=hS.size;omega
     have HX:=Lib.hid hS;clear hS hE aD;go_wp2_with fail;exact hK.out _ rfl
    .have e9:v 9=_:=hE.1 rfl;rw[e9]at hK|-;have HX:=Lib.hid hS;clear hS hE aD;go_wp2_with fail;exact hK.out _ rfl
    .have pA:v 10=_:=hE.1 rfl;rw[pA]at hK|-;have aF:=aiN.out wz (KZ.out.later hS);have HC:=Lib.hid aF;have HX:=Lib.hid hS;clear hS hE aD aF;go_wp2_with fail;refine HC.out.mono ?_;rintro e wy ⟨rfl,hb⟩;have D5:=Lib.hid (HX.out.trans (hb.mono HX.out.size));clear hb;go_wp2_with fail;refine hK.out _ _ (λj z hj h=>?_) D5.out rfl
     match j with
     | 0 | 1 | 2 | 3 | 4 | 5 | 6 | 7 | 8 | 9 | 10 | 12 | 13 | 14 | 15 | 16 | 17=>exact h
     | 11=>exact absurd rfl hj
     | _+18=>exact trivial
    .have E6:=hE.1 rfl;have Mw:=hE.2.1 rfl;have e6:v 6=_:=E6;have tP:v 11=_:=Mw;rw[e6,tP]at hK|-;have HX:=Lib.hid hS;clear hS hE aD;go_wp2_with fail;exact hK.out _ (by rw[aiP.out];rfl)
    .have Za:=hE.1 rfl;have rM:v 12=_:=Za;rw[rM]at hK|-;have HX:=Lib.hid hS;clear hS hE aD;go_wp2_with fail;exact hK.out _ (by rw[aiQ.out];rfl)
    .have HX:=Lib.hid hS;clear hS hE aD;go_wp2_with fail;exact hK.out _ rfl
    .have wa:v 14=_:=hE.1 rfl;rw[wa]at hK|-;have cx2:=(hS.cell (p:=⟨wr.heap.size,2,none⟩) GV).trans b2;have lwz:wr.heap.size<wz.heap.size:=by have:=hS.size;omega
     have HX:=Lib.hid hS;clear hS hE aD;go_wp2_with fail;exact hK.out _ rfl
    .have DY:v 15=_:=hE.1 rfl;rw[DY]at hK|-;have aF:=aiO.out wz (KZ.out.later hS);have HC:=Lib.hid aF;have HX:=Lib.hid hS;clear hS hE aD aF;go_wp2_with fail;refine HC.out.mono ?_;rintro e wy ⟨rfl,hb⟩;have D5:=Lib.hid (HX.out.trans (hb.mono HX.out.size));clear hb;go_wp2_with fail;refine hK.out _ _ (λj z hj h=>?_) D5.out rfl
     match j with
     | 0 | 1 | 2 | 3 | 4 | 5 | 6 | 7 | 8 | 9 | 10 | 11 | 12 | 13 | 14 | 15 | 17=>exact h
     | 16=>exact absurd rfl hj
     | _+18=>exact trivial
    .have E13:=hE.1 rfl;have ZD:=hE.2.1 rfl;have tQ:v 13=_:=E13;have e16:v 16=_:=ZD;rw[tQ,e16]at hK|-;have HX:=Lib.hid hS;clear hS hE aD;go_wp2_with fail;exact hK.out _ (by rw[aiR.out];rfl)
   .intro v wz hS hF;have e0:v 0=_:=hF 0 (by decide)
    have e1:v 1=_:=hF 1 (by decide)
    have e2:v 2=_:=hF 2 (by decide)
    have e3:v 3=_:=hF 3 (by decide)
    have e7:v 7=_:=hF 7 (by decide)
    have e8:v 8=_:=hF 8 (by decide)
    have e9:v 9=_:=hF 9 (by decide)
    have pA:v 10=_:=hF 10 (by decide)
    have wa:v 14=_:=hF 14 (by decide)
    have DY:v 15=_:=hF 15 (by decide)
    have E4:=hF 4 (by decide)
    have E5:=hF 5 (by decide)
    have E6:=hF 6 (by decide)
    have Mw:=hF 11 (by decide)
    have Za:=hF 12 (by decide)
    have E13:=hF 13 (by decide)
    have ZD:=hF 16 (by decide)
    have E17:=hF 17 (by decide)
    simp only[ai,Act.put,eh,ek,ep,Nat.zero_add,Nat.reduceAdd,cP,cQ,List.drop_succ_cons,List.drop_zero,e0,e1,e2,e3,e7,e8,e9,pA,wa,DY];clear hF e0 e1 e2 e3 e7 e8 e9 pA wa DY;have e17:v 17=_:=E17;rw[e17];have dh:Below W.heap.size W wz:=hS;have HZ:=Lib.hid dh;clear hS dh E4 E5 E6 Mw Za E13 ZD E17 e17;go_wp2_with fail;refine (my _ _ _ _ (ZC.out.later HZ.out) Bl.out (by omega)).mono ?_
    rintro e w9 ⟨rfl,hi9,pF⟩;have acb:Eu w.heap.size (boolT b++cU (l.take (k+1))) w9:=by rw[lY.out.2,List.append_assoc,<-lY.out.1]at hi9;exact hi9
    have HI9:=Lib.hid acb;have zy:=Lib.hid (MP.out.trans ((HZ.out.mono MP.out.size).trans pF));clear hi9 acb pF;go_wp2_with fail;go_roundw
    case rel=>exact ⟨k+1,by omega,by go_num,HI9,zy⟩
    case measure=>simp[intOf];omega
  .obtain rfl:k=nl:=by omega
   have hd:decide ((k:Int)<(k:Int))=false:=decide_eq_false (by omega)
   have xn:=HI.out;rw[List.take_of_length_le (by rw[HN.out];exact Nat.le_refl _)]at xn
   have HSF:=Lib.hid (uH w.heap.size (oh b l) wr ⟨Lib.IsBuilderF.of xn.1,xn.2⟩);clear xn;go_wp2_with fail;refine HSF.out.mono ?_;rintro e w1 ⟨rfl,-,hb1⟩;go_wp2_with fail;go_ret;exact ⟨rfl,bI.out.trans hb1⟩
end
section
set_option linter.unusedVariables false
set_option linter.unusedSimpArgs false
structure OwI (n:Nat) (p:List Ed) (a:Nat):Prop where
 rR:cB 0 p
 top:∀e∈p,e.hi<a/\e.lo<256/\e.hi<256/\e.to<n
 a:a<=256
theorem NM {m m':Mc} (h:Jo m m'):pL m'/\1<=m'.ed.length:=by
 rcases h.1 with ⟨hl,hc,he⟩ | ⟨-,rfl⟩
 .refine ⟨⟨hc.len,hc.rR,hc.to⟩,?_⟩;rcases Nat.eq_zero_or_pos m'.ed.length with h0 | h0
  .exfalso;obtain ⟨w,hw⟩:=hl;rw[<-he]at hw;have e1:m'.ed=[]:=List.length_eq_zero_iff.1 h0;have e2:m'.ac=[]:=List.length_eq_zero_iff.1 (by rw[hc.len,h0])
   cases w with
   | nil=>simp[jn,e2]at hw
   | cons c w=>simp[jn,br,e1,bS]at hw
  .exact h0
 .exact ⟨⟨rfl,λr hr=>by simp at hr;subst hr;trivial,λr hr e he=>by simp at hr;subst hr;cases he⟩,Nat.le_refl _⟩
end
end Go.Proofs.YtdmoogjddmdmbaaGreatDoor
