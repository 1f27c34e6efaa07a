/- Walks. -/
import Derived.Test.YthamegenljmgmaaGreatDoorY23
import Derived.Test.YthamegenljmgmaaGreatDoorY05
import Derived.Test.YthamegenljmgmaaGreatDoorY13
import Derived.Test.YthamegenljmgmaaGreatDoorY15
import Derived.Test.YthamegenljmgmaaGreatDoorY04
import Derived.Test.YthamegenljmgmaaGreatDoorY21
import Derived.Laws.AppendOwnNone
import Derived.Test.YthamegenljmgmaaGreatDoorY16
import Derived.Shelf.Slices.Turned
import Derived.Test.YthamegenljmgmaaGreatDoorY14
set_option maxRecDepth 100000
set_option maxHeartbeats 16000000
set_option linter.unusedVariables false
set_option linter.unusedSimpArgs false
namespace Go.Proofs.YthamegenljmgmaaGreatDoor
open Go.RowKit
def CU(B:Nat)(v:Value)(L:List Nat)(w:World):Prop:=w.ownsRow B 3 1 v L.length (b9 L)/\(v=.slice none 0 0\/L≠[])
theorem CU.later{B:Nat}{v:Value}{L:List Nat}{w w':World}(h:CU B v L w)(hb:Below w w w'):CU B v L w':=⟨aR h.1 hb,h.2⟩
theorem CU.il{B:Nat}{v:Value}{L:List Nat}{w:World}(h:CU B v L w):IL w v L:=IL.ia h.1 λhv=>h.2.resolve_left hv
structure EgR (w0:World) (s mb:Nat) (v0 v1 v2:Value) (b:Pb) (gs:List (List Nat)) (fp fo:List Nat) (wB:World) (bM:List Nat) (i:Nat) (row:List Ed) (eW:List (List Nat)) (fp':List Nat) (ov:Value) (wr:World):Prop where
 own:OR 74 3 gm wB ov row wr
 out:aO fp' ov
 sb:sX w0 s mb v0 v1 v2 eW fp' wr
 kf:ab fp fp' wB wr
 ri:ft b fo eW row (fm bM i)
 gg:kz b fo gs eW
 ln:eW.length<=gs.length+i/\row.length<=i
def Vx(w0:World)(s mb:Nat)(v0 v1 v2:Value)(b:Pb)(gs:List (List Nat))(fp fo:List Nat)(w:World)(e:Ending)(w':World):Prop:=
 ∃row eW fp' rv,e=.returned rv/\(eQ w' rv row/\aO fp' rv/\∀g,rv.ownBlock=some g->w.heap.size<=g/\g<w'.heap.size)/\sX w0 s mb v0 v1 v2 eW fp' w'/\ab fp fp' w w'/\ft b fo eW row 256/\kz b fo gs eW/\eW.length<=gs.length+257/\row.length<=257
theorem xZ(w0:World)(s mb:Nat)(v0 v1 v2:Value)(b:Pb)(gs:List (List Nat))(fp:List Nat)(w:World)(fo:List Nat)(v:Value)
  (h:sX w0 s mb v0 v1 v2 gs fp w) (hs:pw w0 fp w v0 b.sets) (eI:Below w0 w0 w) (hR:∀rs∈b.sets,ep rs=true)
  (hv:IL w v fo) (ho:aO fp v) (DY:∀p∈fo,p<b.sets.length) (nO:fo.length<=600) (eP:b.sets.length<=600) (Bb:gs.length<=100000) (h0:gs[0]?=some []) (pD:eU w) (kM:nG<=w0) :
  Calls Tryz.prog 21 #[.pointer (Z s 0),v] w (Vx w0 s mb v0 v1 v2 b gs fp fo w):=by
 obtain ⟨Af,cf,rfl,ahR,PN⟩:=hv.form;obtain ⟨vg,gv,F,rfl,hb⟩:=h;obtain ⟨Av,cv,rfl,dx,-⟩:=id hs;have bH:=hb.cs;have aB:=hb.lt;have s5:s<w:=(aB s (by simp[jT])).2
 obtain ⟨nf,pW⟩:∃n,fo.length=n:=⟨_,rfl⟩;obtain ⟨ns,qV⟩:∃n,b.sets.length=n:=⟨_,rfl⟩;obtain ⟨ii,P6,r5,iI,j9⟩:=info_parts dF;have Vy:=hs.lt;have DN:=Y (show (∀rs∈b.sets,rs.length<=257)/\∀rs∈b.sets,∀r∈rs,r.1<256/\r.2<256 from ⟨λrs h=>Qu (hR rs h) λr hr=>(Vy rs h r hr).2,Vy⟩);clear Vy;rw[qV]at hs hb;have HV:=Y hv;have HO:=Y ho;have HS:=Y hs;have HB:=Y hb;have HR:=Y hR;have HFO:=Y DY;have C8:=Y aB;have aaM:=Y eI;have H0:=Y h0;have qD:=Y pD;have HN:=Y (I pW qV);have HGS:=Y Bb;rw[qV]at bH eP dx;rw[pW]at nO ahR|-;have wN:=Y bH;rw[qV];have ahT:=eI.size;clear hv ho hs hb hR DY aB eI h0 pD pW qV Bb bH
 go_enter Tryz.func21,Tryz.ntmps21
 go_wp2_with fail;go_loopw [19,5] (λiv cu wr=>∃k:Nat,k<=nf/\iv=.int .i64 (k:Int)/\Hid (CU w cu (kQ b.sets (fo.take k)) wr)/\Hid (Below w w wr)) (λiv _ _=>nf - (intOf iv).toNat)
 case atStart=>exact ⟨0,Nat.zero_le _,rfl,⟨World.ownsRow_nil _ _ _ _,.inl rfl⟩,D⟩
 case round=>
  obtain ⟨k,hk,rfl,HC,dc⟩:=hrel;by_cases aB:k<nf
  .have hd:decide ((k:Int)<(nf:Int))=true:=τ;have aV:k<fo.length:=by rw[HN.1];exact aB
   obtain ⟨g,f,rfl,hg,ak⟩:=HV.jL aV;have tJ:=ak wr (dc.block g hg);have p5:=dc.size;have xq:g<wr:=U;obtain ⟨p,qe⟩:=ν (fo[k]);have Hn:p∈fo:=by rw[<-qe];exact List.getElem_mem aV
   have yg:=HFO p Hn;obtain ⟨gS,rv,rfl,-,UR,S2,rJ⟩:=HS.jL yg;have Eb:=(χ gS p (dc.block gS UR)).t S2;have ahU:gS<wr:=U;rw[qe]at tJ;have aqM:s<wr:=U;have aC:wr.heap[s]?=_:=(dc.block s s5).t wN.o;have d0:wr.cell? (Z s 0)=some (.slice (Z gS 0) ns cv):=by rw[Φ aC];rfl
   have sL:p<ns:=by rw[<-HN.2];exact yg
   have Z6:decide (p<ns)=true:=decide_eq_true sL;obtain ⟨rs,lU⟩:=ν (b.sets[p]);rw[lU]at rJ;obtain ⟨Ar,cr,rfl,Tm,aaN⟩:=id rJ;have aaO:rs=[]\/∃g f,Ar=some ⟨g,f,none⟩/\g<w0.heap.size/\∀i (h:i<rs.length),(w0.cell? (Z g (f+i*2))=some (.int .u8 (rs[i].1:Int))/\w0.cell? (Z g (f+i*2+1))=some (.int .u8 (rs[i].2:Int)))/\rs[i].1<256/\rs[i].2<256:=aaN;have iy:rs.length<=257:=DN.1 rs (by rw[<-lU];exact List.getElem_mem yg)
   obtain ⟨nr,uu⟩:∃n,rs.length=n:=⟨_,rfl⟩;have hsp:b.sets[p]?=some rs:=by rw[List.getElem?_eq_getElem yg,lU]
   have iR:kQ b.sets (fo.take k)++fV rs=kQ b.sets (fo.take (k+1)):=by rw[List.take_succ_eq_append_getElem aV,qe,si,hsp];rfl
   have j8:=Y iR;have HRD:=Y aaO;have Yq:=Y uu;rw[uu]at Tm iy Eb;have aaP:(kQ b.sets (fo.take k)).length<=2*257*k:=Nat.le_trans (vp DN.1 _) (Nat.mul_le_mul_left _ (List.length_take_le _ _));obtain ⟨L0,Tn⟩:∃L,kQ b.sets (fo.take k)=L:=⟨_,rfl⟩;rw[Tn]at HC j8 aaP;have ahV:=Y dc.o;clear ak qe Hn yg S2 rJ lU aaN aaO hsp iR aC aV Tn dc;go_wp2_with fail;obtain ⟨WO,rfl⟩:∃W:World,W=wr:=⟨_,rfl⟩;go_loopw [32,5] (λjv L4 wr=>∃j:Nat,j<=nr/\jv=.int .i64 (j:Int)/\Hid (CU w L4 (L0++fV (rs.take j)) wr)/\Hid (Below w w wr)) (λjv _ _=>nr - (intOf jv).toNat)
   case atStart=>exact ⟨0,Nat.zero_le _,rfl,by rw[List.take_zero];simp only[fV,List.append_nil];exact HC,ahV⟩
   case round=>
    obtain ⟨j,hj,rfl,FW,fS⟩:=hrel;by_cases qa:j<nr
    .have nw:decide ((j:Int)<(nr:Int))=true:=τ;have hU:j<rs.length:=by rw[Yq.o];exact qa
     obtain ⟨g2,f2,rfl,dZ,Hs⟩:=HRD.resolve_left (λe=>by rw[e]at hU;cases hU)
     obtain ⟨⟨q1,q2⟩,q3,q4⟩:=Hs j hU;have eh:=fS.size;have kR:wr.heap[g2]?=w0.heap[g2]?:=(fS.block g2 U).t (aaM.block g2 dZ);have r1:=(χ g2 (f2+j*2) kR).t q1;have r2:=(χ g2 (f2+j*2+1) kR).t q2;have Qy:g2<wr:=U;obtain ⟨lo,hi,hx⟩:∃lo hi,rs[j]=(lo,hi):=⟨_,_,rfl⟩;rw[hx]at r1 r2 q3 q4;have aaQ:(L0++fV (rs.take j))++[lo,hi+1]=L0++fV (rs.take (j+1)):=by rw[List.take_succ_eq_append_getElem hU,hx,sf,List.append_assoc]
     have AJ:=Y aaQ;have Qt:(L0++fV (rs.take j)).length<=1000000:=by
      have:=List.length_take_le j rs;rw[List.length_append,vn];omega
     obtain ⟨Ac,nc,cc,rfl⟩:∃A n c,u5=.slice A n c:=by
      obtain ⟨A,c,e,-⟩:=ae FW.1;exact ⟨_,_,_,e⟩
     have O0:=Y Qt;clear Hs q1 q2 kR hx aaQ Qt hU;have bL:(wr.alloc (.cells #[.int .u8 (lo:Int),.int .u8 (hi:Int)] 72)).ownsRow w 3 1 (.slice Ac nc cc) (L0++fV (rs.take j)).length (b9 (L0++fV (rs.take j))):=FW.1.alloc _;have ahW:(wr.alloc (.cells #[.int .u8 (lo:Int),.int .u8 (hi:Int)] 72)).heap.size=wr.heap.size+1:=H;go_wp2_with (at_builtin; refine FO (w:=wr.alloc (.cells #[.int .u8 (lo:Int),.int .u8 (hi:Int)] 72)) Tryz.underlying22 P6 r5 iI j9 rfl _ _ _ _ 2 2 _ [.int .i64 (lo:Int),.int .i64 ((hi:Int)+1)] w rfl rfl rfl (by rw[ahW]; rfl) rfl bL (by intro u hu; simp at hu; rcases hu with rfl|rfl <;> rfl) (by have:=O0.o; omega) (by have:=O0.o; omega) U ?_)
     intro v' w3 pI pZ aaR;obtain ⟨A',n',c',rfl⟩:∃A n c,v'=.slice A n c:=by
      obtain ⟨A,c,e,-⟩:=ae pI;exact ⟨_,_,_,e⟩
     have Ig:CU w (.slice A' n' c') (L0++fV (rs.take (j+1))) w3:=by
      rw[<-AJ.o];refine ⟨?_,.inr H⟩;rw[jP,List.length_append,List.length_append];have:b9 [lo,hi+1]=[.int .i64 (lo:Int),.int .i64 ((hi:Int)+1)]:=by simp[b9]
      rw[this];exact pI
     have Yy:=Y Ig;have oq:=Y (fS.t ((((Below.refl w.heap.size wr).alloc U _)).t (pZ.mono V)));clear pI pZ aaR Ig bL;go_wp2_with fail;go_roundw
     case rel=>exact ⟨j+1,U,by go_num,Yy,oq⟩
     case measure=>exact μ
    .obtain rfl:j=nr:=U;have nw:decide ((j:Int)<(j:Int))=false:=θ;have hc4:=FW.o;rw[List.take_of_length_le (by rw[Yq.o];exact V),j8.o]at hc4
     have HC4:=Y hc4;clear hc4;go_wp2_with fail;go_roundw
     case rel=>exact ⟨k+1,U,by go_num,HC4,fS⟩
     case measure=>exact μ
  .obtain rfl:k=nf:=U;have hd:decide ((k:Int)<(k:Int))=false:=θ;have yh:=HC.o;rw[List.take_of_length_le (by rw[HN.1];exact V)]at yh
   have amw:(kQ b.sets fo).length<=2*257*k:=by rw[<-HN.1];exact vp DN.1 _
   have uN:=jR u5 _ wr yh.il U;have HSO:=Y uN;obtain ⟨Ac,nc,cc,rfl⟩:∃A n c,u5=.slice A n c:=by
    obtain ⟨A,c,e,-⟩:=ae yh.1;exact ⟨_,_,_,e⟩
   clear yh uN HC;go_wp2_with fail;refine HSO.mono ?_;rintro e wB ⟨vc,bM,rfl,YD,ao,dE,hbB⟩;have qw:qU b fo bM:=⟨YD.1,λp hp r hr=>by
    have:=vm (sets:=b.sets) hp hr;exact ⟨(YD.2 _).2 this.1,(YD.2 _).2 this.2⟩,λv hv=>Gm DN.2 v ((YD.2 v).1 hv)⟩
   have hB:=dc.t (hbB.mono dc.size);have py:aO (jT s mb vg) vc:=λg hg hm=>by have:=(ao.lt g hg).1;have:=(C8 g hm).2;have:=dc.size;omega
   have Mf:EgR w0 s mb (.slice Av ns cv) v1 v2 b gs (jT s mb vg) fo wB bM 0 [] gs (jT s mb vg) () wB:=
    ⟨OR.iG _ _ _,λg hg=>by simp[Value.ownBlock]at hg,sX.later ⟨vg,gv,F,rfl,HB.o⟩ hB,ab.refl _ _,qw.start gs,kz.refl _ _ _,⟨U,H⟩⟩
   obtain ⟨Av',cv',rfl,ahY,ahZ⟩:=dE.form;obtain ⟨nc,AG⟩:∃n,bM.length=n:=⟨_,rfl⟩;have ah0:nc<=257:=by rw[<-AG];exact mD (a:=0) YD.1 λp hp=>⟨Nat.zero_le _,by have:=qw.le p hp;omega⟩
   rw[AG]at ahY;have j8:=Y Mf;have xX:=Y qw;have O2:=Y (I dE py);have pj:=Y hB;have Qz:=Y AG;rw[AG];have Yl:=hB.size;clear YD ao dE hbB qw hB py Mf AG;go_wp2_with fail;go_loopw [10,11] (λov iv wr=>∃(i:Nat) (row:List Ed) (eW:List (List Nat)) (fp':List Nat),(i=0\/i+1<=nc)/\iv=.int .i64 (i:Int)/\Hid (EgR w0 s mb (.slice Av ns cv) v1 v2 b gs (jT s mb vg) fo wB bM i row eW fp' ov wr)) (λ_ iv _=>nc - (intOf iv).toNat)
   case atStart=>exact ⟨0,[],gs,jT s mb vg,.inl rfl,rfl,j8⟩
   case round=>
    obtain ⟨i,row,eW,fp',hi,rfl,HE⟩:=hrel;have jr:=HE.kf;obtain ⟨ah1,d0,-,-⟩:=HE.sb.cells;obtain ⟨Ao,no,co,rfl⟩:∃A n c,u10=.slice A n c:=by
     obtain ⟨A,c,e,-⟩:=ae HE.own;exact ⟨_,_,_,e⟩
    by_cases ah2:i+1<nc
    .have AN:decide ((i:Int)+1<(nc:Int))=true:=τ;have hic:i+1<bM.length:=by rw[Qz.o];exact ah2
     obtain ⟨DV,wI⟩:=xX.lt hic;have QA:=(O2.1.keep O2.2 jr).1;obtain ⟨gc,fc,rfl,Kh,nZ⟩:=QA.jL (show i<bM.length by omega)
     obtain ⟨gc',fc',e',-,aaU⟩:=QA.jL hic;obtain ⟨rfl,rfl⟩:gc=gc'/\fc=fc':=by injection e' with e';injection e' with e1 e2;exact ⟨e1,e2⟩
     have z0:=nZ wr rfl;have z1:=aaU wr rfl;have e1:fm bM i=bM[i]:=by unfold fm;rw[List.getElem?_eq_getElem U];rfl
     have e2:fm bM (i+1)=bM[i+1]:=by unfold fm;rw[List.getElem?_eq_getElem hic];rfl
     obtain ⟨lo,bX⟩:∃x,fm bM i=x:=⟨_,rfl⟩;obtain ⟨fQ,sj⟩:∃x,fm bM (i+1)=x:=⟨_,rfl⟩;rw[<-e1,bX]at z0;rw[<-e2,sj]at z1;rw[bX,sj]at DV;rw[sj]at wI;have w1:IntKind.u8.wrap (lo:Int)=(lo:Int):=IntWalk.u8_in _ U;have w2:IntKind.u8.wrap ((fQ:Int) - 1)=(fQ:Int) - 1:=IntWalk.u8_in _ U;have w3:IntKind.i64.wrap ((i:Int)+1)=(i:Int)+1:=IntWalk.i64_in _ U;have w4:((i:Int)+1).toNat=i+1:=U;have w5:IntKind.i64.wrap ((fQ:Int) - 1)=(fQ:Int) - 1:=IntWalk.i64_in _ U;have HVA:=Y (I bX sj);have HIW:=Y QA;clear nZ aaU e' e1 e2 QA bX sj;go_wp2_with fail
     go_quiet (fail)
     go_wp2_with fail;obtain ⟨WO,rfl⟩:∃W:World,W=wr:=⟨_,rfl⟩;go_loopw [71,14] (λjv gvv wr=>∃j:Nat,j<=k/\jv=.int .i64 (j:Int)/\Hid (CU WO gvv (gW b (fo.take j) lo) wr)/\Hid (Below WO WO wr)) (λjv _ _=>k - (intOf jv).toNat)
     case atStart=>exact ⟨0,Nat.zero_le _,rfl,⟨World.ownsRow_nil _ _ _ _,.inl rfl⟩,⟨rfl,rfl,rfl,V,λ_ _=>rfl⟩⟩
     case round=>
      obtain ⟨j,hj,rfl,HC4,sk⟩:=hrel;have hw4:=sk.size;by_cases ah3:j<k
      .have To:decide ((j:Int)<(k:Int))=true:=τ;have hU:j<fo.length:=by rw[HN.1];exact ah3
       have aaX:=((HV.later pj.o).keep HO.o jr).1;obtain ⟨gf,ff,rfl,rK,Bg⟩:=aaX.jL hU;have tJ:=Bg wr (sk.block gf rK);obtain ⟨p,qe⟩:=ν (fo[j]);have Hn:p∈fo:=by rw[<-qe];exact List.getElem_mem hU
       have yg:=HFO p Hn;obtain ⟨gS,rv,rfl,-,UR,S2,rJ⟩:=((HS.later pj.o).keep jr).jL yg;have Eb:=(χ gS p (sk.block gS UR)).t S2;rw[qe]at tJ;have sL:p<ns:=by rw[<-HN.2];exact yg
       have Z6:decide (p<ns)=true:=decide_eq_true sL;obtain ⟨rs,lU⟩:=ν (b.sets[p]);rw[lU]at rJ;have d04:=(χ s 0 (sk.block s ah1)).t d0;have hb0:Below w0 w0 wr:=by
        have h1:=aaM.t (pj.mono ahT);have h2:Below w0 wB WO:=jr.below (λq hq=>(C8 q hq).1) U;exact (h1.t h2).t (sk.mono (by have:=h2.size;omega))
       have nW:=rJ.later hb0;have zw:qq rs lo=cH b p lo:=by unfold cH;rw[List.getElem?_eq_getElem yg,lU];rfl
       have Vz:gW b (fo.take (j+1)) lo=if cH b p lo=true then gW b (fo.take j) lo++[p] else gW b (fo.take j) lo:=by
        unfold gW;rw[List.take_succ_eq_append_getElem hU,qe,List.filter_append];by_cases hx:cH b p lo=true <;> simp[hx]
       have HH:=Y (λW (h:gD W rv rs)=>It rv rs lo W h);have YE:=Y nW;obtain ⟨q,hq⟩:=ν (qq rs lo);rw[hq]at HH zw;rw[<-zw]at Vz;have HSE:=Y Vz;have aaY:(gW b (fo.take j) lo).length<=1000:=by
        have h1:(gW b (fo.take j) lo).length<=(fo.take j).length:=List.length_filter_le _ _;have h2:=List.length_take_le j fo;omega
       obtain ⟨Ag4,ng4,cg4,rfl⟩:∃A n c,u14=.slice A n c:=by
        obtain ⟨A,c,e,-⟩:=ae HC4.1;exact ⟨_,_,_,e⟩
       obtain ⟨Ar,cr,wH,-⟩:=id nW;obtain ⟨nr4,ah4⟩:∃n,rs.length=n:=⟨_,rfl⟩;rw[ah4]at wH;subst wH;have ahU:gS<wr:=U;have aqR:gf<wr:=U;have nT:s<wr:=U;have aaZ:=Y aaY;clear Bg qe Hn yg S2 rJ lU hb0 nW zw Vz hq aaY hU aaX;go_wp2_with fail;refine (HH _ YE.o).mono ?_;rintro e w5 ⟨rfl,mj⟩;have HC5:=Y (HC4.later mj);have js:=Y (sk.t (mj.mono hw4));have hw5:=mj.size;clear mj
       cases q with
       |false=>
        have Hh:=HSE.o;rw[if_neg O]at Hh;have Tp:=HC5.o;rw[<-Hh]at Tp;have HC6:=Y Tp;clear Tp Hh;go_wp2_with fail;go_roundw
        case rel=>exact ⟨j+1,U,by go_num,HC6,js⟩
        case measure=>exact μ
       |true=>
        have Hh:=HSE.o;rw[if_pos rfl]at Hh;have HS6:=Y Hh;clear Hh;have Tq:=HC5.1;go_wp2_with (at_builtin;refine FO (w:=w5) Tryz.underlying22 P6 r5 iI j9 rfl _ _ _ _ 1 1 _ [.int .i64 (p:Int)] WO rfl rfl rfl rfl rfl Tq (by intro u hu;simp at hu;subst hu;rfl) (by have:=aaZ.o;omega) (by have:=aaZ.o;omega) U ?_)
        intro v' w6 dw xc aa0;obtain ⟨A',n',c',rfl⟩:∃A n c,v'=.slice A n c:=by
         obtain ⟨A,c,e,-⟩:=ae dw;exact ⟨_,_,_,e⟩
        have aa1:CU WO (.slice A' n' c') (gW b (fo.take (j+1)) lo) w6:=by
         rw[HS6.o];refine ⟨?_,.inr H⟩;rw[jP,List.length_append];exact dw
        have HC6:=Y aa1;have tK:=Y (js.t xc);clear dw xc aa0 aa1 Tq;go_wp2_with fail;go_roundw
        case rel=>exact ⟨j+1,U,by go_num,HC6,tK⟩
        case measure=>exact μ
      .obtain rfl:j=k:=U;have To:decide ((j:Int)<(j:Int))=false:=θ;have Ki:=HC4.o;rw[List.take_of_length_le (by rw[HN.1];exact V)]at Ki
       have QB:=HE.sb.later sk.o;have jj:OR 74 3 gm wB (.slice Ao no co) row wr:=HE.own.later sk.o;have QC:=jr.t (ab.aj sk.o);have QD:=Ki.il;have VA:=TI.ia Ki.1;have VB:aO fp' (u14):=λg hg hm=>by have:=(Ki.1.lt g hg).1;have:=(HE.sb.lt g hm).2;omega
       have jm:=HE.ln;by_cases dN:gW b fo lo=[]
       .have hR1:=xX.skip hic HE.ri (by rw[HVA.1];exact dN)
        obtain ⟨A7,c7,e7,-⟩:=ae Ki.1;rw[dN,List.length_nil]at e7;subst e7;have VC:Hid (EgR w0 s mb (.slice Av ns cv) v1 v2 b gs (jT s mb vg) fo wB bM (i+1) row eW fp' (.slice Ao no co) wr):=⟨jj,HE.o.out,QB,QC,hR1,HE.gg,U⟩;clear Ki QB jj QC QD VA VB dN hR1;go_wp2_with fail;go_roundw
        case rel=>exact ⟨i+1,row,eW,fp',.inr U,by go_num,VC⟩
        case measure=>exact μ
       .obtain ⟨A7,c7,e7,ah6,aqS⟩:=ae Ki.1;obtain ⟨SS,VD⟩:∃x,gW b fo lo=x:=⟨_,rfl⟩;obtain ⟨n7,hn7⟩:∃n,SS.length=n:=⟨_,rfl⟩;rw[VD,hn7]at e7 ah6;subst e7;have aqT:0<n7:=by rw[<-hn7];rw[VD]at dN;cases SS with|nil=>exact absurd rfl dN|cons a r=>simp
        have hd7:decide ((0:Int)<(n7:Int))=true:=τ;have aqU:n7<=1000:=by
         rw[<-hn7,<-VD];have h1:(gW b fo lo).length<=fo.length:=List.length_filter_le _ _;rw[HN.1]at h1;omega
        have LO:eU wr:=by
         have h1:=qD.later pj.o;have kM:=qD.low;have h2:Below w wB WO->eU WO:=λh=>h1.below h kM;have h3:eU WO:=h1.Ec jr.size λq hq=>jr.aq q U λhm=>by have:=(C8 q hm).1;omega
         exact h3.later sk.o
        rw[VD]at QD;have kO:=uY w0 s mb _ v1 v2 eW fp' wr SS _ QB QD VB VA U (λp hp=>by rw[<-VD]at hp;have:=HFO p (iN.1 hp).1;have:=HN.2;omega) (by have:=HGS.o;omega) LO
        have ub:=Y kO;have HO4:=Y jj;have HK4:=Y QC;have Kj:=Y (I VD dN);have amC:s<wr:=U;clear Ki kO jj QC QB QD VA VB VD dN hn7 LO;go_wp2_with fail;refine ub.mono ?_;rintro e w8 ⟨fp8,rfl,Ii,BX⟩;obtain ⟨n8,hn8⟩:∃n,(iL eW SS).idxOf SS=n:=⟨_,rfl⟩;rw[hn8];have O3:OR 74 3 gm wB (.slice Ao no co) row w8:=HO4.keep λq hq=>BX.aq q (World.ownsRow.lt HO4.o q hq).2 (HE.o.out q hq);have Tr:=qf HE.o.out (λq hq=>(World.ownsRow.lt HO4.o q hq).2) BX;have HK8:=Y (HK4.t BX);have HS8:=Y Ii;have HO8:=Y O3;have HU8:=Y Tr;have HN8:=Y hn8;have hz8:=BX.size;have bL:(w8.alloc (.cells #[.int .u8 (lo:Int),.int .u8 ((fQ:Int) - 1),(n8:Int)] 74)).ownsRow wB 74 3 (.slice Ao no co) row.length (a8 gm row):=World.ownsRow.alloc O3 _;have iY:∀j u,[Value.int .u8 (lo:Int),.int .u8 ((fQ:Int) - 1),.int .i64 (n8:Int)][j]?=some u->(w8.alloc (.cells #[.int .u8 (lo:Int),.int .u8 ((fQ:Int) - 1),(n8:Int)] 74)).cell? (((Z w8 0):Addr).add j)=some u:=by
         intro j u hj;rw[Addr.add_lit,Nat.zero_add,World.cell?_alloc_mark];simpa using hj
        obtain ⟨i3,BZ,mJ,bQ,bE⟩:=info_parts uh;clear Ii BX O3 Tr hn8;have bw:wB.heap.size<=(w8.alloc (.cells #[.int .u8 (lo:Int),.int .u8 ((fQ:Int) - 1),(n8:Int)] 74)).heap.size:=by have:=HK8.size;simp;omega
        go_wp2_with (at_builtin; refine bn rfl _ _ 59 rfl wB 74 i3 _ 3 16 Tryz.underlying59 BZ mJ bQ bE rfl O _ row.length (a8 gm row) rfl bL (Z w8 0) 1 1 [.int .u8 (lo:Int),.int .u8 ((fQ:Int) - 1),.int .i64 (n8:Int)] rfl rfl iY (by intro u hu; simp at hu; rcases hu with rfl|rfl|rfl <;> rfl) (by unfold maxLen; omega) U bw ?_)
        intro v' w9 da qx kT;obtain ⟨A9,n9,c9,rfl⟩:∃A n c,v'=.slice A n c:=by
         obtain ⟨A,c,e,-⟩:=ae da;exact ⟨_,_,_,e⟩
        have hEN:EgR w0 s mb (.slice Av ns cv) v1 v2 b gs (jT s mb vg) fo wB bM (i+1) (row++[⟨lo,fQ - 1,n8⟩]) (iL eW SS) fp8 (.slice A9 n9 c9) w9:=by
         have hBA:Below w8 w8 (w8.alloc (.cells #[.int .u8 (lo:Int),.int .u8 ((fQ:Int) - 1),(n8:Int)] 74)):=D.alloc V _;have Ts:(w8.alloc (.cells #[.int .u8 (lo:Int),.int .u8 ((fQ:Int) - 1),(n8:Int)] 74)).heap.size=w8.heap.size+1:=H;refine ⟨?_,?_,(HS8.later hBA).grown bL O HU8.o qx,((HK8.t (ab.aj hBA)).grown qx λq hq=>(bL.lt q hq).1),?_,?_,?_⟩
         .show w9.ownsRow _ _ _ _ (row++[_]).length (a8 gm (row++[_]));rw[bV,bF,List.length_append];have:gm ⟨lo,fQ - 1,n8⟩=[Value.int .u8 (lo:Int),.int .u8 ((fQ:Int) - 1),.int .i64 (n8:Int)]:=by
           unfold gm;simp only[List.cons.injEq,Value.int.injEq,true_and,and_true];omega
          rw[this];exact da
         .intro q hq;rcases kT with hf|⟨q',hf,VE⟩
          .rw[hf]at hq;exact HU8 q hq
          .rw[hf]at hq;injection hq with hq;subst hq;intro hm;have:=(HS8.lt q' hm).2;omega
         .have:=xX.add hic HE.ri (by
           have hg:=HE.gg;obtain ⟨more,e,-,-⟩:=hg;rw[e];have hl:0<gs.length:=(List.getElem?_eq_some_iff.1 H0.o).1;rw[List.getElem?_append_left hl];exact H0.o) (by rw[HVA.1];exact Kj.2)
          rw[HVA.1,HVA.2,Kj.1,HN8.o]at this;rw[HVA.2];exact this
         .have:=HE.gg.add (c:=lo) U Kj.2;rw[Kj.1]at this;exact this
         .have h1:=(Ma eW SS).2;rw[List.length_append,List.length_singleton];omega
        have VC:=Y hEN;clear da qx kT hEN bL iY bw;go_wp2_with fail;go_roundw
        case rel=>exact ⟨i+1,_,_,fp8,.inr U,by go_num,VC⟩
        case measure=>exact μ
    .have AN:decide ((i:Int)+1<(nc:Int))=false:=θ;have w3:IntKind.i64.wrap ((i:Int)+1)=(i:Int)+1:=IntWalk.i64_in _ U;go_wp2_with fail;refine au λWf bG=>?_;subst bG;refine bodyPost_ret (v:=.slice Ao no co) (by simp[results,Tryz.results21,go_sem];try rfl) rfl ?_
     have qA:=xX.done (by rw[Qz.o];omega) HE.ri
     exact ⟨row,eW,fp',_,rfl,⟨eQ.eu HE.own,HE.o.out,λg hg=>⟨Nat.le_trans pj.size (World.ownsRow.lt HE.own g hg).1,(World.ownsRow.lt HE.own g hg).2⟩⟩,HE.sb,(ab.aj pj.o).t jr,qA,HE.gg,by have:=HE.ln;omega,by have:=HE.ln;omega⟩
section
open Go.Maps (Keyed)
theorem ab.aho{f1 f2:List Nat}(g:List Nat){a b:World}(h:ab f1 f2 a b):ab (f1++g) (f2++g) a b:=
 ⟨h.os,h.tape,h.output,h.size,λk hk hn=>h.aq k hk λhm=>hn (List.mem_append_left _ hm),λk hk=>(List.mem_append.1 hk).elim (λhm=>(h.new k hm).imp (List.mem_append_left _) id) λhm=>.inl (List.mem_append_right _ hm)⟩
theorem ab.aaw{f1 f2:List Nat}(g:List Nat){a b:World}(h:ab f1 f2 a b):ab (g++f1) (g++f2) a b:=
 ⟨h.os,h.tape,h.output,h.size,λk hk hn=>h.aq k hk λhm=>hn (List.mem_append_right _ hm),λk hk=>(List.mem_append.1 hk).elim (λhm=>.inl (List.mem_append_left _ hm)) λhm=>(h.new k hm).imp (List.mem_append_right _) id⟩
theorem SL.out{fp fp':List Nat}{w w':World}{v:Value}{l:List Nat}(h:SL w v l)(ho:aO fp v)(hk:ab fp fp' w w')(hl:∀g,v.ownBlock=some g->g<w.heap.size):SL w' v l/\aO fp' v:=
 ⟨h.keep ho hk,λg hg hm=>(hk.new g hm).elim (ho g hg) λhz=>by have:=hl g hg;omega⟩
def LW(L:List Nat)(w:World)(v:Value)(fol:List (List Nat)):Prop:=∃g c,v=.slice (Z g 0) fol.length c/\(fol.length<=c/\c<=9223372036854775807)/\g<w.heap.size/\g∉L/\
 ∀i (h:i<fol.length),∃rv,w.cell? (Z g i)=some rv/\SL w rv fol[i]/\aO L rv/\(∀k,rv.ownBlock=some k->k<w.heap.size)/\∀n c,rv=.slice none n c->c=0
def EnC(L:List Nat)(w:World)(v:Value)(n:Nat)(last:List Nat):Prop:=∃g,v=.slice (Z g 0) n n/\g<w.heap.size/\g∉L/\∀p,p<n->w.cell? (Z g p)=some (.bool (decide (p∈last)))
theorem LW.keep{L L':List Nat}{w w':World}{v:Value}{fol:List (List Nat)}(h:LW L w v fol)(hk:ab L L' w w'):LW L' w' v fol:=by
 obtain ⟨g,c,rfl,hc,hg,hn,ak⟩:=h;refine ⟨g,c,rfl,hc,Nat.lt_of_lt_of_le hg hk.size,λhm=>(hk.new g hm).elim hn (λh=>U),λi hi=>?_⟩;obtain ⟨rv,h1,h2,h3,h4,h5⟩:=ak i hi;obtain ⟨q1,q2⟩:=h2.out h3 hk h4;exact ⟨rv,(χ g i (hk.aq g hg hn)).t h1,q1,q2,λk bE=>Nat.lt_of_lt_of_le (h4 k bE) hk.size,h5⟩
theorem EnC.keep{L L':List Nat}{w w':World}{v:Value}{n:Nat}{last:List Nat}(h:EnC L w v n last)(hk:ab L L' w w'):EnC L' w' v n last:=by
 obtain ⟨g,rfl,hg,hn,ak⟩:=h;exact ⟨g,rfl,Nat.lt_of_lt_of_le hg hk.size,λhm=>(hk.new g hm).elim hn (λh=>U),λp hp=>(χ g p (hk.aq g hg hn)).t (ak p hp)⟩
structure P7 (w0:World) (L:List Nat) (v0 v1 v2:Value) (b:Pb) (x:cI) (P:Nat) (vx vy:Value) (w:World):Prop where
 set:pw w0 L w v0 b.sets
 fol:LW L w v1 b.fol
 ends:EnC L w v2 b.sets.length x.last
 prt:w.heap[P]?=some (.cells #[vx,vy,.bool x.emp] 56)/\P∉L
 fst:IL w vx x.first/\aO L vx
theorem P7.keep{w0:World}{L L':List Nat}{v0 v1 v2:Value}{b:Pb}{x:cI}{P:Nat}{vx vy:Value}{w w':World}(h:P7 w0 L v0 v1 v2 b x P vx vy w)(hk:ab L L' w w'):P7 w0 L' v0 v1 v2 b x P vx vy w':=by
 have hP:=(γ h.prt.1).1;exact ⟨h.set.keep hk,h.fol.keep hk,h.ends.keep hk,⟨(hk.aq P hP h.prt.2).t h.prt.1,λhm=>(hk.new P hm).elim h.prt.2 (λh=>U)⟩,h.fst.1.keep h.fst.2 hk⟩
theorem P7.later{w0:World}{L:List Nat}{v0 v1 v2:Value}{b:Pb}{x:cI}{P:Nat}{vx vy:Value}{w w':World}(h:P7 w0 L v0 v1 v2 b x P vx vy w)(hb:Below w w w'):P7 w0 L v0 v1 v2 b x P vx vy w':=h.keep (ab.aj hb)
theorem sX.apart{B s mb:Nat}{v0 v1 v2:Value}{gs:List (List Nat)}{fp L L':List Nat}{w w':World}(h:sX B s mb v0 v1 v2 gs fp w)(hk:ab L L' w w')(hd:∀k∈L,k∉fp)(ht:∀k∈L,∃cs e m,w.heap[k]?=some (.cells cs e m)/\e≠3):sX B s mb v0 v1 v2 gs fp w':=by
 obtain ⟨vg,gv,F,rfl,h⟩:=h;refine ⟨vg,gv,F,rfl,h.same (λk hm=>hk.aq k (h.lt k hm).2 λhl=>hd k hl hm) hk.size λv l hi _ hti=>?_⟩;have ho:aO L v:=λg hg hl=>by
  obtain ⟨cs,m,e1⟩:=hti g hg;obtain ⟨Hl,e',m',e2,bf⟩:=ht g hl;rw[e1]at e2;injection e2 with e2;injection e2 with _ e3 _;exact bf e3.symm
 exact ⟨(hi.keep ho hk).1,hti.keep ho hk⟩
theorem jt.types{B N:Nat}{fx:List Nat}{vE vA:Value}{gv:List Value}{rs:List (List Ed)}{aN:List Bool}{w:World}(h:jt B N fx vE vA gv rs aN w):∀k∈ki N vE vA,∃cs e m,w.heap[k]?=some (.cells cs e m)/\e≠3:=λk hk=>by
 rcases bj.1 hk with rfl|hk|hk
 .exact ⟨_,_,_,h.hN,O⟩
 .obtain ⟨cs,m,e⟩:=eX h.own k hk;exact ⟨cs,_,m,e,O⟩
 .obtain ⟨cs,m,e⟩:=eX (show w.ownsRow _ _ _ _ _ _ from h.acc) k hk;exact ⟨cs,_,m,e,O⟩
theorem Vl{P:Program}{i0:TypeInfo}{T e:TypeId}(ht:P.underlying T=some (.slice e))(hi:P.info? e=some i0)(dY:i0.zero=some (.int .i64 0))(dh:i0.size=1)(cT:i0.bytes=8)(he:e=3)
  {w:World} {ops:Array Oper} {rest:List Oper} {o:Oper} {a:Act} {Q:Exit->Act->World->Prop} (s x:Operand) (v:Value) (A:Option Addr) (n c:Nat) (L l:List Nat) (B:Nat)
  (tE:o.guard=none) (ho:o.op=.call { callee:=.builtin .append,args:=#[s,x],argTypes:=#[T,T] }) (hs:a.eval s=v) (hx:a.eval x=.slice A n c) (ao:CU B v L w) (hl:SL w (.slice A n c) l) (hA:A=none->c=0) (hlen:L.length+l.length<=10000000000000) (hB:B<=w)
  (h:∀v' w1,CU B v' (L++l) w1->Below B w w1->wpList P ops Q rest (a.put o.dst v') w1):wpList P ops Q (o::rest) a w:=by
 subst he;obtain ⟨A',c',e',hc,dt⟩:=hl;injection e' with e1 e2 e3;subst e1 e2 e3;rcases dt with rfl|⟨g,f,rfl,hg,ak⟩
 .cases A with
  |none=>
   obtain rfl:=hA rfl;refine wpList_append_own_none tE s x T ho B _ i0 1 ht hi v L.length _ hs ao.1 hx ?_;exact h v w (by rw[List.append_nil];exact ao) (Below.refl B w)
  |some ad=>
   refine wpList_append_own _ tE s x T ho B _ i0 _ 1 8 ht hi dY dh cT rfl O v L.length _ hs ao.1 ad 0 c [] hx rfl (by intro j u hj;simp at hj) (by intro u hu;cases hu) (by unfold maxLen;simp at hlen;omega) (by simp at hlen;omega) hB ?_
   intro v' w1 ai hg hn;refine h v' w1 ⟨by rw[List.append_nil];simpa using ai,?_⟩ ((Below.refl B w).grown hg hB λk hk=>(ao.1.lt k hk).1)
   rcases ao.2 with h1|h1
   .exact .inl (hn.2 ⟨h1,rfl⟩)
   .exact .inr (by simpa using h1)
 .refine wpList_append_own _ tE s x T ho B _ i0 _ 1 8 ht hi dY dh cT rfl O v L.length _ hs ao.1 (Z g f) l.length c (b9 l) hx (by rw[jO,Nat.mul_one]) (λj u hj=>?_) (λu hu=>?_) (by unfold maxLen;omega) U hB ?_
  .unfold b9 at hj;rw[List.getElem?_map]at hj
   cases hq:l[j]? with
   |none=>rw[hq]at hj;cases hj
   |some y=>
    rw[hq]at hj;obtain ⟨hU,hje⟩:=List.getElem?_eq_some_iff.1 hq;rw[Addr.add_lit,ak j hU,hje];exact hj
  .unfold b9 at hu;obtain ⟨y,-,rfl⟩:=List.mem_map.1 hu;rfl
  .intro v' w1 ai hg hn;refine h v' w1 ⟨by rw[jP,List.length_append];exact ai,?_⟩ ((Below.refl B w).grown hg hB λk hk=>(ao.1.lt k hk).1)
   by_cases D3:L++l=[]
   .obtain ⟨h1,h2⟩:=List.append_eq_nil_iff.1 D3;exact .inl (hn.2 ⟨ao.2.resolve_right (λh=>h h1),by rw[h2];rfl⟩)
   .exact .inr D3
end
section
open Go.Maps (Keyed)
theorem Cg{α:Type}(p:α->Prop)[DecidablePred p]:∀(l:List α),(∃x∈l,p x)->∃k,∃h:k<l.length,p l[k]/\∀j,(hj:j<k)->¬p (l[j]'U)
 | [],h=>by obtain ⟨x,hx,-⟩:=h;cases hx
 |a::l,h=>by
  by_cases ha:p a
  .exact ⟨0,H,ha,λj hj=>absurd hj (Nat.not_lt_zero _)⟩
  .obtain ⟨k,hk,h1,h2⟩:=Cg p l (by
    obtain ⟨x,hx,hp⟩:=h;rcases List.mem_cons.1 hx with rfl|hx
    .exact absurd hp ha
    .exact ⟨x,hx,hp⟩)
   refine ⟨k+1,by simpa using hk,by simpa using h1,λj hj=>?_⟩
   cases j with
   |zero=>simpa using ha
   |succ j=>simpa using h2 j U
theorem ID(B g n c cl:Nat)(cs:List (Option Nat))(w:World)(h:OR 3 1 qv B (.slice (Z g 0) n c) cs w)(hn:cs.length=n)(xj:n<=1000000)(hex:∃s,s<n/\cY cs s=some cl):
  Calls Tryz.prog 47 #[.slice (Z g 0) n c,(cl:Int)] w λe w'=>∃s:Nat,e=.returned (.int .i64 (s:Int))/\w'=w/\s<n/\cY cs s=some cl:=by
 have hz:∀j,j<n->(cs.map FX).getD j 0=FX (cY cs j):=λj hj=>by
  unfold cY;simp only[List.getD_eq_getElem?_getD,List.getElem?_map,List.getElem?_eq_getElem (show j<cs.length by omega),Option.map_some,Option.getD_some]
 have ak:∀j,j<(cs.map FX).length->w.cell? (Z g (0+j))=some (.int .i64 ((cs.map FX).getD j 0)):=λj hj=>by
  rw[List.length_map]at hj;rw[Nat.zero_add,hz j U];exact (h.gY j hj).1
 refine (Tryz.slices_Index_int g 0 n c (cs.map FX) (cl:Int) w ψ U ak).mono ?_;rintro e w' ⟨rfl,rfl⟩;obtain ⟨s,hs,hsc⟩:=hex;obtain ⟨k,hk,h1,h2⟩:=Cg (λx=>x=some cl) cs ⟨cs[s]'U,List.getElem_mem _,by
  have:=hsc;unfold cY at this;rwa [List.getElem?_eq_getElem (by omega:s<cs.length),Option.getD_some]at this⟩
 have nU:cY cs k=some cl:=by unfold cY;rw[List.getElem?_eq_getElem hk,h1];rfl
 refine ⟨k,?_,rfl,U,nU⟩;rw[Lib.idxOf_hit (cs.map FX) n k (cl:Int) U ψ (by rw[hz k U,nU];rfl) λj hj=>?_]
 rw[hz j U];intro hc;have h3:=h2 j hj;have hjc:cY cs j=cs[j]'U:=by unfold cY;rw[List.getElem?_eq_getElem (by omega:j<cs.length)];rfl
 rw[hjc]at hc
 cases hq:cs[j]'U with
 |none=>rw[hq]at hc;have h9:(-1:Int)=(cl:Int):=hc;omega
 |some y=>
  rw[hq]at hc;have h9:(y:Int)=(cl:Int):=hc;have h8:y=cl:=U;subst h8;exact h3 hq
def th(F:Lit->Option Value)(c:Nat->Option Nat)(st:List Nat):Prop:=∀cl:Nat,F (.int .i64 (cl:Int))=if some cl∈st.map c then some (.int .i64 ((aZ c st cl:Nat):Int)) else none
theorem th.first{c:Nat->Option Nat}{c0:Nat}(h:c 0=some c0):th (je (λ_=>none) (.int .i64 (c0:Int)) (some (.int .i64 0))) c [0]:=λcl=>by
 unfold je;by_cases e:cl=c0
 .subst e;rw[if_pos (by simp[Lit.sameKey]),if_pos (by simp[h])]
  simp[aZ,h]
 .rw[if_neg (by simp[Lit.sameKey];omega),if_neg (by simp[h];omega)]
theorem th.put{F:Lit->Option Value}{c:Nat->Option Nat}{st:List Nat}(h:th F c st){cl s:Nat}(hn:¬some cl∈st.map c)(hc:c s=some cl)(x:Int)(hx:x=(st.length:Int)):th (je F (.int .i64 (cl:Int)) (some (.int .i64 x))) c (st++[s]):=λy=>by
 subst hx;unfold je;by_cases e:y=cl
 .subst e;rw[if_pos (by simp[Lit.sameKey]),if_pos (by simp[hc]),vN hn hc]
 .rw[if_neg (by simp[Lit.sameKey];omega),h y]
  by_cases hy:some y∈st.map c
  .rw[if_pos hy,if_pos (by rw[List.map_append];exact List.mem_append_left _ hy),oY s hy]
  .rw[if_neg hy,if_neg];intro hm;rw[List.map_append,List.mem_append]at hm;rcases hm with hm|hm
   .exact hy hm
   .simp[hc]at hm;exact e hm
theorem xx{P:Program}(w:World){ops:Array Oper}{rest:List Oper}{o:Oper}{a:Act}{Q:Exit->Act->World->Prop}
  (hg:o.guard=none) (m x v:Operand) (t:TypeId) (jE:o.op=Op.insert t m x v) (k e:TypeId) (K:Keyed P k) (ht:P.underlying t=some (.map k e)) (b n:Nat) (f:Lit->Option Value)
  (hm:a.eval m=.map (some b)) (h:MV P k b n f w) (hn:n<maxLen) (key b8:Value) (kl:Lit) (hx:a.eval x=key) (hv:a.eval v=b8) (jq:keyOf P k key=some kl) (aV:WideAt.IsKeyLit kl)
  (hK:∀w',MV P k b (n+1) (je f kl (some b8)) w'->w.grownBy w' (some b)->wpList P ops Q rest (a.put o.dst undef) w') :
  wpList P ops Q (o::rest) a w:=by
 refine wpList_plain hg λK' gz=>?_;obtain ⟨w',Lf,r1,r2⟩:=h.put K ht hn jq aV b8;unfold Oper.wp;simp[execOp,jE,hm,hx,hv,Lf,Result.andThen];exact gz _ _ (hK w' r1 r2)
theorem Gy{P:Program}{k e:TypeId}{b n B q n':Nat}{f:Lit->Option Value}{w:World}{v:Value}{xs:List Value}(h:MV P k b n f w)(ho:w.ownsRow B e q v n' xs):v.ownBlock≠some b:=λhv=>by
 obtain ⟨awP,⟨es,c,h1,-⟩,-⟩:=h;obtain ⟨cs,md,h2⟩:=eX ho b hv;rw[h1]at h2;injection h2 with h2
 cases h2
theorem jt.sub{B N:Nat}{fx fx':List Nat}{vE vA:Value}{gv:List Value}{rs:List (List Ed)}{aN:List Bool}{w:World}(h:jt B N fx vE vA gv rs aN w)(hs:∀k∈fx',k∈fx):jt B N fx' vE vA gv rs aN w:=
 h.keep ⟨rfl,rfl,rfl,V,λ_ _ _=>rfl,λk hk=>.inl (hs k hk)⟩
structure yq (m:Mc) (c:Nat->Option Nat) (B N mb i:Nat) (bl:List Nat) (rs:List (List Ed)) (aN:List Bool) (vE vA:Value) (gv:List Value) (p:List Ed) (t:Nat) (st:List Nat) (F:Lit->Option Value) (dP:Value) (w:World):Prop where
 ma:jt B N (mb::(aq dP++bl)) vE vA gv rs aN w
 mv:MV Tryz.prog 3 mb st.length F w
 bm:B<=mb
 say:th F c st
 own:w.ownsRow B 3 1 dP st.length (b9 st)
 le:su m c st i rs p t
 ac:aN=(st.take i).map λs=>(m.ac[s]?).getD false
section
variable {m:Mc} {c:Nat->Option Nat} {B N mb i:Nat} {bl:List Nat} {rs:List (List Ed)} {aN:List Bool} {vE vA:Value} {gv:List Value} {p:List Ed} {t:Nat} {st:List Nat} {F:Lit->Option Value} {dP:Value} {w w':World}
theorem yq.later(h:yq m c B N mb i bl rs aN vE vA gv p t st F dP w)(hb:Below w w w'):yq m c B N mb i bl rs aN vE vA gv p t st F dP w':=
 ⟨h.ma.later hb,h.mv.iJ (hb.block _ h.mv.lt),h.bm,h.say,aR h.own hb,h.le,h.ac⟩
theorem yq.abt(h:yq m c B N mb i [] rs aN vE vA gv p t st F dP w)(hb:Below w w w')(lv:Value)(hl:∀g,lv.ownBlock=some g->w.heap.size<=g):yq m c B N mb i (aq lv) rs aN vE vA gv p t st F dP w':=
 ⟨h.ma.keep ⟨hb.os,hb.tape,hb.output,hb.size,λk hk _=>hb.block k hk,λk hk=>by
  rcases List.mem_cons.1 hk with rfl|hk
  .exact .inl H
  .rcases List.mem_append.1 hk with hk|hk
   .exact .inl (by simp[hk])
   .exact .inr (hl k (af.1 hk))⟩,h.mv.iJ (hb.block _ h.mv.lt),h.bm,h.say,aR h.own hb,h.le,h.ac⟩
theorem yq.Eo{lv:Value}{g:Nat}{a:Addr}(h:yq m c B N mb i (aq lv) rs aN vE vA gv p t st F dP w)(hg:lv.ownBlock=some g)(ha:a.block=g)(bH:∃cs md,w.heap[g]?=some (.cells cs 74 md))(x:Value){p':List Ed}(hp:su m c st i rs p' t):yq m c B N mb i (aq lv) rs aN vE vA gv p' t st F dP (w.setCell a x):=by
 have aH:∀k,k≠g->(w.setCell a x).heap[k]?=w.heap[k]?:=λk hk=>Below.heap_setCell _ _ _ _ (by rw[ha];exact hk)
 obtain ⟨cs,md,bH⟩:=bH;have hm:g≠mb:=by
  rintro rfl;obtain ⟨awP,⟨es,c,h1,-⟩,-⟩:=h.mv;rw[bH]at h1;injection h1 with h1
  cases h1
 have jm:=(γ bH).1;refine ⟨h.ma.keep ⟨rfl,rfl,rfl,by simp[World.setCell],λk _ hn=>aH k (λe=>hn (by simp[af,e,hg])),λk hk=>.inl hk⟩,h.mv.iJ (aH mb (Ne.symm hm)),h.bm,h.say,ar h.own λq hq=>aH q ?_,hp,h.ac⟩
 rintro rfl;exact Ep h.own bH O hq
theorem yq.meet{w1 w2 w3:World}{lv lZ:Value}{F':Lit->Option Value}{st':List Nat}(h:yq m c B N mb i (aq lv) rs aN vE vA gv p t st F dP w)(bg:w.grownBy w1 (some mb))(qd:MV Tryz.prog 3 mb st'.length F' w1)
  (aS:Below w1 w1 w2) (iF:w2.grownBy w3 dP.ownBlock) (Kl:w3.ownsRow B 3 1 lZ st'.length (b9 st')) (yr:aT lZ dP w2) (yO:∀g,lv.ownBlock=some g->g<w.heap.size)
  (zt:th F' c st') {p':List Ed} (hle:su m c st' i rs p' t) (tG:st'.take i=st.take i):yq m c B N mb i (aq lv) rs aN vE vA gv p' t st' F' lZ w3:=by
 have bf:=Gy h.mv h.own;have z1:=bg.size;have z2:=aS.size;have z3:=iF.size;have Tu:=h.mv.lt;have hk:ab (mb::(aq dP++aq lv)) (mb::(aq lZ++aq lv)) w w3:=by
  refine ⟨iF.os.t (aS.os.t bg.os),iF.tape.t (aS.tape.t bg.tape),iF.output.t (aS.output.t bg.output),U,λk hk hn=>?_,λk hk=>?_⟩
  .exact (iF.block k U (λe=>hn (by simp[af,e.symm]))).t ((aS.block k U).t (bg.block k hk (λe=>hn (by injection e with e;simp[e]))))
  .rcases List.mem_cons.1 hk with rfl|hk
   .exact .inl H
   .rcases List.mem_append.1 hk with hk|hk
    .exact (eZ yr (af.1 hk)).imp (λh=>by simp[af,h]) (λh=>U)
    .exact .inl (by simp[hk])
 exact ⟨h.ma.keep hk,qd.iJ ((iF.block mb U (λe=>bf e.symm)).t (aS.block mb U)),h.bm,zt,Kl,hle,by rw[tG];exact h.ac⟩
end
def BN(m m':Mc):Prop:=((aW m 0/\ld m'/\∀w,eM m' w 0=eM m w 0)\/(¬aW m 0/\m'=⟨[[]],[false]⟩))/\m'.ed.length<=m.ed.length/\iE m'
def Er(m:Mc)(w:World)(e:Ending)(w':World):Prop:=∃rv m',e=.returned rv/\nI w w' rv m'/\Below w w w'/\BN m m'
end
section
open Go.Maps (Keyed)
theorem QZ(f:Nat->Nat)(J:List Ed)(k:Nat)(h:k<J.length):(bO f (J.take k)++J.drop k).set k ⟨J[k].lo,J[k].hi,f J[k].to⟩=bO f (J.take (k+1))++J.drop (k+1):=by
 have hl:(bO f (J.take k)).length=k:=by rw[ez,List.length_take];omega
 rw[List.set_append_right _ _ U,hl,Nat.sub_self,List.drop_eq_getElem_cons h,List.set_cons_zero,List.take_succ_eq_append_getElem h,gh,List.append_assoc]
 rfl
theorem MA(f:Nat->Nat)(J:List Ed)(k:Nat)(h:k<J.length):∃h2,(bO f (J.take k)++J.drop k)[k]'h2=J[k]:=by
 have hl:(bO f (J.take k)).length=k:=by rw[ez,List.length_take];omega
 refine ⟨by rw[List.length_append,hl,List.length_drop];omega,?_⟩
 rw[List.getElem_append_right U];simp[hl]
theorem Gz(f:Nat->Nat)(J:List Ed)(k:Nat)(h:k<=J.length):(bO f (J.take k)++J.drop k).length=J.length:=by
 rw[List.length_append,ez,List.length_take,List.length_drop];omega
theorem yq.zI{m:Mc}{c:Nat->Option Nat}{B N mb i:Nat}{rs:List (List Ed)}{aN:List Bool}{vE vA oB qb lv:Value}{gv:List Value}{p:List Ed}{t:Nat}{st:List Nat}{F:Lit->Option Value}{dP:Value}{w w':World}{B1 s:Nat}{a:Bool}
  (h:yq m c B N mb i (aq lv) rs aN vE vA gv p t st F dP w) (vO:B<=B1) (yO:OR 74 3 gm B1 lv (bO (aZ c st) p) w) (hk:ab (ki N vE vA) [] w w')
  (hN:w'.heap[N]?=some (.cells #[oB,qb] 35)) (hE:w'.ownsRow B 59 1 oB (rs.length+1) (gv++[lv])) (hA:OR 4 1 bC B qb (aN++[a]) w') (fE:aT oB vE w) (fA:aT qb vA w)
  (hit:i<=t) (hs:st[i]?=some s) (hp:p=cD c (aU m s)) (ha:a=(m.ac[s]?).getD false) :
  yq m c B N mb (i+1) [] (rs++[bO (aZ c st) p]) (aN++[a]) oB qb (gv++[lv]) [] (lp t (bO (aZ c st) p)) st F dP w':=by
 have py:aO (ki N vE vA) lv:=λg hg hm=>h.ma.out g hm (by simp[af,hg])
 have hx:aO (mb::(aq dP++[])) lv:=λg hg hm=>by
  rcases List.mem_cons.1 hm with rfl|hm
  .exact Gy h.mv (show w.ownsRow _ _ _ _ _ _ from yO) hg
  .rw[List.append_nil]at hm;exact l5 (show w.ownsRow _ _ _ _ _ _ from yO) h.own O g hg (af.1 hm)
 have hl:∀g,lv.ownBlock=some g->B<=g/\g<w.heap.size:=λg hg=>⟨Nat.le_trans vO (World.ownsRow.lt yO g hg).1,(World.ownsRow.lt yO g hg).2⟩;have qK:=h.ma.sub (fx':=mb::(aq dP++[])) (λk hk=>by
  rw[List.append_nil]at hk;rcases List.mem_cons.1 hk with rfl|hk
  .simp
  .simp[hk])
 have Dw:mb∉ki N vE vA:=λhm=>qK.out mb hm H;have hvm:∀k∈aq dP,k∉ki N vE vA:=λk hk hm=>qK.out k hm (by simp[hk])
 obtain ⟨q1,q2⟩:=qK.put (rs':=rs++[bO (aZ c st) p]) (λk hk=>by
  rw[List.append_nil]at hk;rcases List.mem_cons.1 hk with rfl|hk
  .exact h.mv.lt
  .exact (h.own.lt k (af.1 hk)).2) hk hN (by rw[List.length_append];exact hE) hA fE fA (qK.zJ (eQ.eu yO) py hx hl)
 refine ⟨q1,h.mv.iJ (hk.aq mb h.mv.lt Dw),h.bm,h.say,ar h.own λg hg=>hk.aq g (h.own.lt g hg).2 (hvm g (af.2 hg)),h.le.row hit hs hp,?_⟩;rw[h.ac,ha,List.take_add_one,hs,List.map_append];rfl
structure Ch (m:Mc) (c:Nat->Option Nat) (N mb i BL:Nat) (rs:List (List Ed)) (aN:List Bool) (vE vA:Value) (gv:List Value) (J:List Ed) (t:Nat) (st:List Nat) (lv:Value) (w1:World) (kp k:Nat) (st':List Nat) (F:Lit->Option Value) (dP:Value) (wr:World):Prop where
 le:yq m c w1 N mb i (aq lv) rs aN vE vA gv (J.take kp) t st' F dP wr
 row:OR 74 3 gm BL lv (bO (aZ c st') (J.take k)++J.drop k) wr
 pre:∃more,st'=st++more
 bl:Below w1 w1 wr
 hB:w1<=BL
section
variable {m:Mc} {c:Nat->Option Nat} {N mb i BL:Nat} {rs:List (List Ed)} {aN:List Bool} {vE vA:Value} {gv:List Value} {J:List Ed} {t:Nat} {st:List Nat} {lv:Value} {w1:World} {kp k:Nat} {st':List Nat} {F:Lit->Option Value} {dP:Value} {wr wr':World}
theorem Ch.later(h:Ch m c N mb i BL rs aN vE vA gv J t st lv w1 kp k st' F dP wr)(hb:Below wr wr wr'):Ch m c N mb i BL rs aN vE vA gv J t st lv w1 kp k st' F dP wr':=
 ⟨h.le.later hb,h.row.later hb,h.pre,h.bl.t (hb.mono h.bl.size),h.hB⟩
theorem Ch.Li(h:Ch m c N mb i BL rs aN vE vA gv J t st lv w1 k k st' F dP wr)(hk:k<J.length)(he:some J[k].to∈st'.map c):Ch m c N mb i BL rs aN vE vA gv J t st lv w1 (k+1) k st' F dP wr:=
 ⟨⟨h.le.ma,h.le.mv,h.le.bm,h.le.say,h.le.own,by rw[List.take_succ_eq_append_getElem hk];exact h.le.le.Li J[k] he,h.le.ac⟩,h.row,h.pre,h.bl,h.hB⟩
theorem Ch.new{w2 w3 wm:World}{s2:Nat}{lZ:Value}(h:Ch m c N mb i BL rs aN vE vA gv J t st lv w1 k k st' F dP wr)(hk:k<J.length)(kN:wr.grownBy wm (some mb))(qd:MV Tryz.prog 3 mb (st'.length+1) (je F (.int .i64 (J[k].to:Int)) (some (.int .i64 (st'.length:Int)))) wm)
  (aS:Below wm wm w2) (iF:w2.grownBy w3 dP.ownBlock) (Kl:w3.ownsRow w1 3 1 lZ (st'.length+1) (b9 st'++[.int .i64 (s2:Int)])) (yr:aT lZ dP w2) (bf:¬some J[k].to∈st'.map c) (hs:s2<m.ed.length) (hc:c s2=some J[k].to) :
  Ch m c N mb i BL rs aN vE vA gv J t st lv w1 (k+1) k (st'++[s2]) (je F (.int .i64 (J[k].to:Int)) (some (.int .i64 (st'.length:Int)))) lZ w3/\aZ c (st'++[s2]) J[k].to=st'.length:=by
 obtain ⟨q1,q2⟩:=h.le.le.new J[k] s2 bf hs hc;have hr:w3.ownsRow w1 3 1 lZ (st'++[s2]).length (b9 (st'++[s2])):=by rw[jP,List.length_append];exact Kl
 have aC:wr.ownsRow _ _ _ _ _ _:=h.row;have yO:∀g,lv.ownBlock=some g->g<wr.heap.size:=λg hg=>(World.ownsRow.lt h.row g hg).2;have z1:=kN.size;have z2:=aS.size;have z3:=iF.size;have zb:=h.bl.size;have hle:=h.le.meet kN (st':=st'++[s2]) (by rw[List.length_append];exact qd) aS iF hr yr yO (h.le.say.put bf hc _ rfl) (by rw[<-List.take_succ_eq_append_getElem hk]at q1;exact q1) (List.take_append_of_le_length h.le.le.il)
 refine ⟨⟨hle,?_,?_,?_,h.hB⟩,q2⟩
 .rw[ra s2 h.le.le.ptg];refine OR.keep h.row λg hg=>(iF.block g (by have:=yO g hg;omega) λe=>l5 aC h.le.own O g hg e.symm).t ((aS.block g (by have:=yO g hg;omega)).t (kN.block g (yO g hg) λe=>Gy h.le.mv aC (by rw[hg,e])))
 .obtain ⟨more,e⟩:=h.pre;exact ⟨more++[s2],by rw[e,List.append_assoc]⟩
 .exact ((h.bl.grown kN zb (λq hq=>by injection hq with hq;have:=h.le.bm;omega)).t (aS.mono U)).grown iF U (λq hq=>(h.le.own.lt q hq).1)
theorem Ch.put{gl cc:Nat}(h:Ch m c N mb i BL rs aN vE vA gv J t st (.slice (Z gl 0) J.length cc) w1 (k+1) k st' F dP wr)(hk:k<J.length){x:Int}(hx:x=(aZ c st' J[k].to:Int)):
  Ch m c N mb i BL rs aN vE vA gv J t st (.slice (Z gl 0) J.length cc) w1 (k+1) (k+1) st' F dP (wr.setCell (Z gl (k*3+2)) (.int .i64 x)):=by
 subst hx;have aC:wr.ownsRow _ _ _ _ _ _:=h.row;have jm:=(aC.lt gl rfl).1;have hl:=Gz (aZ c st') J k (Nat.le_of_lt hk);obtain ⟨bE,Es⟩:=MA (aZ c st') J k hk;refine ⟨h.le.Eo (g:=gl) rfl rfl (eX aC gl rfl) _ h.le.le,?_,h.pre,h.bl.sc gl (k*3+2) (Nat.le_trans h.hB jm) _,h.hB⟩;have h1:=h.row;rw[<-QZ _ _ _ hk];have h2:OR 74 3 gm BL (.slice (Z gl 0) (bO (aZ c st') (J.take k)++J.drop k).length cc) (bO (aZ c st') (J.take k)++J.drop k) wr:=by rw[hl];exact h1
 have h3:=h2.setAt tc k 2 bE O ⟨J[k].lo,J[k].hi,aZ c st' J[k].to⟩ (.int .i64 (aZ c st' J[k].to:Int)) (by rw[Es];rfl)
 rw[hl]at h3;exact h3
theorem Ch.cells{gl cc:Nat}(h:Ch m c N mb i BL rs aN vE vA gv J t st (.slice (Z gl 0) J.length cc) w1 kp k st' F dP wr)(hk:k<J.length):
  (wr.cell? (Z gl (k*3))=some (.int .u8 (J[k].lo:Int))/\wr.cell? (Z gl (k*3+1))=some (.int .u8 (J[k].hi:Int))/\wr.cell? (Z gl (k*3+2))=some (.int .i64 (J[k].to:Int)))/\wr.frozen? (Z gl (k*3+2))=false/\gl<wr:=by
 obtain ⟨bE,Es⟩:=MA (aZ c st') J k hk;obtain ⟨A,c',e,-,dt⟩:=h.row.cells tc;obtain ⟨g',hA,-,hg,nZ⟩:=dt.resolve_left (by intro e2;rw[e2]at bE;cases bE)
 injection e with e1 _ _;rw[hA]at e1;injection e1 with e1;injection e1 with e1;subst e1;have h0:=(nZ k bE 0 O).1;have h1:=(nZ k bE 1 O).1;obtain ⟨h2,f2⟩:=nZ k bE 2 O;rw[Es]at h0 h1 h2;exact ⟨⟨h0,h1,h2⟩,f2,hg⟩
theorem yq.begin{lv:Value}{w':World}{dP:Value}(h:yq m c w1 N mb i [] rs aN vE vA gv [] t st F dP wr)(hb:Below wr wr w')(j7:Below w1 w1 wr)(ho:OR 74 3 gm wr lv J w'):Ch m c N mb i wr rs aN vE vA gv J t st lv w1 0 0 st F dP w':=
 ⟨h.abt hb lv λg hg=>(World.ownsRow.lt ho g hg).1,by simpa [bO] using ho,⟨[],H⟩,j7.t (hb.mono j7.size),j7.size⟩
end
end
section
open Go.Maps (Keyed)
theorem Q3{cs:List (Option Nat)}{m:Mc}(h:sT m (cY cs))(h1:1<=m.ed.length)(hc:cY cs 0=none):¬aW m 0:=(h.eJ 0 U).1 hc
theorem MD:iE ⟨[[]],[false]⟩:=⟨λr hr e he=>(by simp at hr;subst hr;cases he),λr hr=>(by simp at hr;subst hr;simp),H⟩
theorem zj:(Tryz.prog.info? 59).map (λi=>(i.zero,i.size,i.bytes))=some (some (.slice none 0 0),1,24):=R
theorem qR{w:World}{B n c:Nat}{e:TypeId}{xs:List Value}{A:Option Addr}(h:w.ownsRow B e 1 (.slice A n c) n xs)(hn:0<n):∃g,A=some ⟨g,0,none⟩/\B<=g/\g<w.heap.size/\∀i,i<n->w.cell? (Z g i)=xs[i]?:=by
 rcases h.2 with ⟨h1,h2⟩|⟨g,cap,cur,h1,hB,hg,-⟩
 .exfalso;injection h1 with h1 h1';omega
 .injection h1 with h1 _ h3;subst h1;exact ⟨g,rfl,hB,(γ hg).1,λi hi=>World.ownsRow.cellAt h i U⟩
def Q4(M gs ti Et i s ge fe n ce zf cr g3 cc:Nat)(Ar:Option Addr)(J:List Ed)(W:World):Nat->Nat->Value->World->Prop
 |c,0,x,w=>x=.pointer (Z M 0)
 |c,1,x,w=>x=.slice (Z ge fe) n ce
 |c,2,x,w=>x=.slice (Z gs 0) ti Et
 |c,3,x,w=>x=.int .i64 (i:Int)
 |c,4,x,w=>x=.pointer (Z gs i)
 |c,5,x,w=>x=.int .i64 (s:Int)
 |c,6,x,w=>x=.pointer (Z ge (fe+s))
 |c,7,x,w=>x=.slice Ar zf cr
 |c,8,x,w=>x=.slice (Z g3 0) n cc
 |c,9,x,w=>1<=c->∃A c',x=.slice A J.length c'/\OR 74 3 gm W x J w
 |_,_,_,_=>True
def jy(N M gs ti Et i s ga fa n ca nj cj cE cA B0:Nat)(AE AV Aj:Option Addr)(gv av:List Value)(a:Bool)(W:World):Nat->Nat->Value->World->Prop
 |c,0,x,w=>x=.pointer (Z N 0)
 |c,1,x,w=>x=.slice AE i cE
 |c,2,x,w=>x=.slice Aj nj cj
 |c,3,x,w=>∃g,x=.slice (Z g 0) 1 1/\W.heap.size<=g/\g<w.heap.size/\w.cell? (Z g 0)=some (.slice Aj nj cj)
 |c,4,x,w=>1<=c->∃A c',x=.slice A (i+1) c'/\w.ownsRow B0 59 1 x (i+1) (gv++[.slice Aj nj cj])/\aT x (.slice AE i cE) W
 |c,5,x,w=>x=.pointer (Z N 1)
 |c,6,x,w=>x=.slice AV i cA
 |c,7,x,w=>x=.pointer (Z M 1)
 |c,8,x,w=>x=.slice (Z ga fa) n ca
 |c,9,x,w=>x=.slice (Z gs 0) ti Et
 |c,10,x,w=>x=.int .i64 (i:Int)
 |c,11,x,w=>x=.pointer (Z gs i)
 |c,12,x,w=>x=.int .i64 (s:Int)
 |c,13,x,w=>x=.pointer (Z ga (fa+s))
 |c,14,x,w=>x=.bool a
 |c,15,x,w=>∃g,x=.slice (Z g 0) 1 1/\W.heap.size<=g/\g<w.heap.size/\w.cell? (Z g 0)=some (.bool a)
 |c,16,x,w=>2<=c->∃A c',x=.slice A (i+1) c'/\w.ownsRow B0 4 1 x (i+1) (av++[.bool a])/\aT x (.slice AV i cA) W
 |c,17,x,w=>x=.pointer (Z N 0)
 |c,18,x,w=>3<=c->∃A c',w.ownsRow B0 59 1 (.slice A (i+1) c') (i+1) (gv++[.slice Aj nj cj])/\aT (.slice A (i+1) c') (.slice AE i cE) W.heap.size/\w.heap[N]?=some (.cells #[.slice A (i+1) c',.slice AV i cA] 35)
 |c,19,x,w=>x=.pointer (Z N 1)
 |_,_,_,_=>True
section
variable {N M gs ti Et i s ga fa n ca nj cj cE cA B0:Nat} {AE AV Aj:Option Addr} {gv av:List Value} {a:Bool} {W u u':World}
theorem vP(hb:Below u u u'){c j:Nat}{x:Value}(h:jy N M gs ti Et i s ga fa n ca nj cj cE cA B0 AE AV Aj gv av a W c j x u):jy N M gs ti Et i s ga fa n ca nj cj cE cA B0 AE AV Aj gv av a W c j x u':=by
 match j with
 |0|1|2|5|6|7|8|9|10|11|12|13|14|17|19=>exact h
 |3|15=>
  obtain ⟨g,e,h1,hg,h0⟩:=h;exact ⟨g,e,h1,Nat.lt_of_lt_of_le hg hb.size,(hb.cl g 0 hg).t h0⟩
 |4|16=>
  intro hc;obtain ⟨A,c',e,ho,hf⟩:=h hc;exact ⟨A,c',e,aR ho hb,hf⟩
 |18=>
  intro hc;obtain ⟨A,c',ho,hf,hr⟩:=h hc;exact ⟨A,c',aR ho hb,hf,(hb.block _ (γ hr).1).t hr⟩
 |_+20=>exact trivial
theorem Eu(hg:u.grownBy u' (Value.slice AE i cE).ownBlock)(hv:∀g,(Value.slice AE i cE).ownBlock=some g->g<W.heap.size)(j:Nat)(x:Value)(hj:j≠4)(h:jy N M gs ti Et i s ga fa n ca nj cj cE cA B0 AE AV Aj gv av a W 0 j x u):jy N M gs ti Et i s ga fa n ca nj cj cE cA B0 AE AV Aj gv av a W 1 j x u':=by
 match j with
 |0|1|2|5|6|7|8|9|10|11|12|13|14|17|19=>exact h
 |3|15=>exact xy hg hv h
 |4=>exact absurd rfl hj
 |16|18=>exact λhc=>U
 |_+20=>exact trivial
theorem Ev(hg:u.grownBy u' (Value.slice AV i cA).ownBlock)(hv:∀g,(Value.slice AV i cA).ownBlock=some g->g<W.heap.size)(hd:∀g,(Value.slice AV i cA).ownBlock=some g->(Value.slice AE i cE).ownBlock≠some g)(j:Nat)(x:Value)(hj:j≠16)(h:jy N M gs ti Et i s ga fa n ca nj cj cE cA B0 AE AV Aj gv av a W 1 j x u):jy N M gs ti Et i s ga fa n ca nj cj cE cA B0 AE AV Aj gv av a W 2 j x u':=by
 match j with
 |0|1|2|5|6|7|8|9|10|11|12|13|14|17|19=>exact h
 |3|15=>exact xy hg hv h
 |4=>
  intro _;obtain ⟨A,c',e,ho,hf⟩:=h O;refine ⟨A,c',e,ar ho λg bJ=>hg.block g (ho.lt g bJ).2 (λe2=>?_),hf⟩;rcases hf with hf|⟨g',hf,h2⟩
  .rw[hf]at bJ;exact hd g e2.symm bJ
  .rw[hf]at bJ;injection bJ with bJ;have:=hv g e2.symm;omega
 |16=>exact absurd rfl hj
 |18=>exact λhc=>U
 |_+20=>exact trivial
theorem Ew(hs:N<W)(Q5:(Value.slice AE i cE).ownBlock≠some N)(Q6:(Value.slice AV i cA).ownBlock≠some N)(v:Value)(j:Nat)(x:Value)(hj:j≠18)(h:jy N M gs ti Et i s ga fa n ca nj cj cE cA B0 AE AV Aj gv av a W 2 j x u):jy N M gs ti Et i s ga fa n ca nj cj cE cA B0 AE AV Aj gv av a W 3 j x (u.setCell (Z N 0) v):=by
 have aH:∀k,k≠N->(u.setCell (Z N 0) v).heap[k]?=u.heap[k]?:=λk hk=>Below.heap_setCell _ _ _ _ hk
 match j with
 |0|1|2|5|6|7|8|9|10|11|12|13|14|17|19=>exact h
 |3|15=>
  obtain ⟨g,e,h1,h2,h3⟩:=h;exact ⟨g,e,h1,by simpa [World.setCell] using h2,(χ g 0 (aH g U)).t h3⟩
 |4=>
  intro _;obtain ⟨A,c',e,ho,hf⟩:=h O;refine ⟨A,c',e,ar ho λg bJ=>aH g (λe2=>?_),hf⟩;subst e2;rcases hf with hf|⟨g',hf,h2⟩
  .rw[hf]at bJ;exact Q5 bJ
  .rw[hf]at bJ;injection bJ with bJ;omega
 |16=>
  intro _;obtain ⟨A,c',e,ho,hf⟩:=h O;refine ⟨A,c',e,ar ho λg bJ=>aH g (λe2=>?_),hf⟩;subst e2;rcases hf with hf|⟨g',hf,h2⟩
  .rw[hf]at bJ;exact Q6 bJ
  .rw[hf]at bJ;injection bJ with bJ;omega
 |18=>exact absurd rfl hj
 |_+20=>exact trivial
end
theorem ME(v:Value)(m:Mc)(w:World)(hm:jb w v m)(hv:jB m)(eg:iE m)(h1:1<=m.ed.length)
  (ky:∀W,Below w w W->Calls Tryz.prog 45 #[v] W (Ll m m.ed.length W)):Calls Tryz.prog 23 #[v] w (Er m w):=by
 obtain ⟨ve,va,rfl,he,ha⟩:=hm;obtain ⟨Ae,ce,rfl,kG,tz⟩:=he.form;obtain ⟨Aa,ca,rfl,pT,yQ⟩:=ha.form;obtain ⟨n,hn⟩:=ν m.ed.length;have ej:m.ac.length=n:=by rw[hv.len,hn]
 have tS:=eg.n;rw[ej]at ha pT;rw[hn]at he kG h1 tS;rw[hn,ej]at ky;have Yk:=Y ky;have HE:=Y he;have HA:=Y ha;have HV:=Y hv;have tT:=Y eg;have HN:=Y (I hn ej);have tU:=Y h1;have K:Keyed Tryz.prog 3:=Maps.int_keyed Tryz.underlying3;have hz:∀w,(zeroValue 3).run Tryz.prog w=.ok (.int .i64 0) w:=λ_=>R;have Dw:=@run_makeMap Tryz.prog;obtain ⟨ie,nY,S1,DP,xi⟩:=info_parts zj;obtain ⟨ib,pe,hb0,aM,aS⟩:=info_parts ik;obtain ⟨ii,P6,r5,iI,j9⟩:=info_parts dF;rw[ej,hn];clear ky he ha hv eg hn ej
 go_enter Tryz.func23,Tryz.ntmps23
 go_wp2_with fail;refine (Yk _ ?hb0).mono ?_
 case hb0=>exact ((Below.refl w w).alloc V _).alloc H _
 rintro e w1 ⟨rv,cs,rfl,ai,aM,DV,abv,abw⟩;have oI:((w.alloc (.cells #[.slice Ae n ce,.slice Aa n ca] 35)).alloc (.cells #[(),()] 35)).heap.size=w.heap.size+2:=H;rw[oI]at ai aM;have zK:w1.heap[w.heap.size]?=some (.cells #[.slice Ae n ce,.slice Aa n ca] 35):=(aM.block _ U).t ((az _ _ _ H).t (heap_alloc_new w _));have nK:w1.heap[w.heap.size+1]?=some (.cells #[(),()] 35):=(aM.block _ U).t (by simpa using heap_alloc_new (w.alloc (.cells #[.slice Ae n ce,.slice Aa n ca] 35)) (.cells #[(),()] 35))
 have dh:=aM.size;rw[oI]at dh;have po:Below w w w1:=(((Below.refl w w).alloc V _).alloc H _).t (aM.mono U);obtain ⟨Ac,cc,rfl,nZ,-⟩:∃A c,rv=.slice A n c/\n<=c/\True:=by
  obtain ⟨A,c,e,h,-⟩:=ai.cells FY;exact ⟨A,c,by rw[e,DV],U,trivial⟩
 obtain ⟨g3,rfl⟩:∃g,Ac=some ⟨g,0,none⟩:=by
  obtain ⟨A,c,e,-,dt⟩:=ai.cells FY;obtain ⟨g,hA,-⟩:=dt.resolve_left (by rintro rfl;simp at DV;omega)
  injection e with e1 _ _;exact ⟨g,by rw[e1,hA]⟩
 obtain ⟨sU,-⟩:=ai.gY 0 U;have iF:=ai.JZ;have Be:decide (0<n)=true:=τ;have HC:=Y ai;have cM:=Y po;have BB:=Y zK;have DQ:=Y nK;have nJ:=Y (I DV (I abv abw));have lx1:w.heap.size+1<w1:=U;have lx2:w.heap.size+1<w1+1:=U;obtain ⟨r0,r1⟩:w1.cell? (Z (w+1) 0)=some (.slice none 0 0)/\w1.cell? (Z (w+1) 1)=some (.slice none 0 0):=by constructor <;> (rw[Φ nK]; rfl)
 have fr0:w1.frozen? (Z (w+1) 0)=false:=Ψ nK
 have fr1:w1.frozen? (Z (w+1) 1)=false:=Ψ nK
 clear ai aM oI zK nK po DV abv abw
 cases tJ:cY cs 0 with
 |none=>
  rw[tJ]at sU;have De:w1.cell? (Z g3 0)=some (.int .i64 (-1)):=sU;have O6:=Y tJ;clear sU tJ;go_wp2_with fail;refine au λWf bG=>?_;refine bodyPost_ret (v:=.agg #[.slice (Z w1 0) 1 1,.slice (Z (w1+1) 0) 1 1]) (by rw[bG];simp[results,Tryz.results23,go_sem,r0,r1,lx1,lx2];try rfl) rfl ?_
  have oz:Wf.heap[w1.heap.size]?=some (.cells #[()] 59):=by
   rw[bG,az _ _ _ (by simp[World.setCell])]
   have h1:=heap_alloc_new ((w1.setCell (Z (w+1) 0) (.slice (Z w1 0) 1 1)).setCell (Z (w+1) 1) (.slice (Z (w1+1) 0) 1 1)) (.cells #[()] 59);simpa [World.setCell] using h1
  have bg:Wf.heap[w1.heap.size+1]?=some (.cells #[.bool false] 4):=by
   rw[bG];have h1:=heap_alloc_new (((w1.setCell (Z (w+1) 0) (.slice (Z w1 0) 1 1)).setCell (Z (w+1) 1) (.slice (Z (w1+1) 0) 1 1)).alloc (.cells #[()] 59)) (.cells #[.bool false] 4);simpa [World.setCell] using h1
  have ju:Below w w Wf:=by
   rw[bG];exact (((cM.sc (w+1) 0 (by show w.heap.size<=w+1;omega) _).sc (w+1) 1 (by show w.heap.size<=w+1;omega) _).alloc (by simp[World.setCell];omega) _).alloc (by simp[World.setCell];omega) _
  have VX:=cM.size;have fB:nI w Wf (.agg #[.slice (Z w1 0) 1 1,.slice (Z (w1+1) 0) 1 1]) ⟨[[]],[false]⟩:=λW' hk=>by
   have abx:=(hk.aq w1 (γ oz).1 (λh=>by have:=List.mem_range.1 h;omega)).t oz
   have aby:=(hk.aq (w1+1) (γ bg).1 (λh=>by have:=List.mem_range.1 h;omega)).t bg
   refine ⟨_,_,rfl,⟨_,_,rfl,⟨H,H⟩,.inr ⟨w1.heap.size,0,rfl,(γ abx).1,λi hi=>?_⟩⟩,⟨_,_,rfl,⟨H,H⟩,.inr ⟨w1.heap.size+1,0,rfl,(γ aby).1,λi hi=>?_⟩⟩⟩
   .simp at hi;subst hi;exact ⟨_,by rw[Φ abx];rfl,⟨none,0,rfl,⟨H,H⟩,.inl rfl⟩⟩
   .simp at hi;subst hi;rw[Φ aby];rfl
  refine ⟨_,⟨[[]],[false]⟩,rfl,fB,ju,.inr ⟨Q3 nJ.2.1 (by rw[HN.1];exact tU.o) O6.o,rfl⟩,by simp;have:=tU.o;have:=HN.1;omega,MD⟩
 |some c0=>
  rw[tJ]at sU;have De:w1.cell? (Z g3 0)=some (.int .i64 (c0:Int)):=sU;have SY:decide ((c0:Int)<0)=false:=θ;have O6:=Y tJ;have arv:c0<n:=nJ.2.2 0 c0 tJ;have Tz:keyOf Tryz.prog 3 (.int .i64 (c0:Int))=some (.int .i64 (c0:Int)):=Maps.keyOf_int_mk Tryz.underlying3 (WalkArith.wf_i64 U);have abz:=MV.made Tryz.prog 3;clear sU tJ;go_wp2_with (refine xx _ rfl _ _ _ 95 rfl 3 3 K Tryz.underlying95 w1 0 (λ_=>none) rfl (abz _) O _ _ (.int .i64 (c0:Int)) rfl rfl Tz trivial ?_);intro w2 abA dZ;have Q7:(w1.alloc (.map #[] 0)).heap.size=w1.heap.size+1:=H;have cT:=dZ.size;rw[Q7]at cT;have aS:Below w1 w1 w2:=((Below.refl _ w1).alloc V (.map #[] 0)).grown dZ U (λq hq=>by injection hq with hq;omega)
  have abB:=Y abA;have fS:=Y aS;clear abA dZ aS Q7 abz;go_wp2_with fail;refine br λW hW=>?_;have du:Below w2 w2 W:=by rw[hW];exact (D.alloc V _).alloc H _
  have jc:W.heap.size=w2+2:=by rw[hW];simp
  have l7:OR 3 1 qv w2 (.slice (Z w2 0) 1 1) [some 0] W:=by rw[hW];exact OR.later (ig w2 1 U) (D.alloc H _)
  have Lq:W.heap[w2.heap.size+1]?=some (.cells #[(),()] 35):=by rw[hW];simpa using heap_alloc_new (w2.alloc _) (.cells #[(),()] 35)
  have Tu:=abB.lt;have Tn:yq m (cY cs) w1 (w2+1) w1 0 [] [] [] () () [] [] 0 [0] (je (λ_=>none) (.int .i64 (c0:Int)) (some (.int .i64 0))) (.slice (Z w2 0) 1 1) W:=by
   refine ⟨⟨Lq,U,World.ownsRow_nil _ _ _ _,λi hi=>(by cases hi),OR.iG _ _ _,λk hk hx=>?_⟩,abB.iJ (du.block _ Tu),V,th.first O6.o,?_,su.start (by rw[O6.o];simp) (by rw[HN.1];exact tU.o),rfl⟩
   .have h1:k=w2.heap.size+1:=by rcases bj.1 hk with h|h|h;exact h;cases h;cases h
    rcases List.mem_cons.1 hx with h|h
    .omega
    .simp[aq,Value.ownBlock]at h;omega
   .have:=(OR.mono l7 (show w1.heap.size<=w2 by omega))
    exact this
  have SD:=Y Tn;have dc:=Y (fS.t (du.mono U));clear hW du l7 Lq Tn De O6 SY Tz Be;go_wp2_with fail;go_loopw [7,5] (λiv dP wr=>∃(i:Nat) (st:List Nat) (rs:List (List Ed)) (aN:List Bool) (vE vA:Value) (gv:List Value) (t:Nat) (F:Lit->Option Value),iv=.int .i64 (i:Int)/\i<=n/\Hid (yq m (cY cs) w1 (w2+1) w1 i [] rs aN vE vA gv [] t st F dP wr)/\Hid (Below w1 w1 wr)) (λiv _ _=>n - (intOf iv).toNat)
  case atStart=>exact ⟨0,[0],[],[],_,_,[],0,_,rfl,Nat.zero_le _,SD,dc⟩
  case round=>
   obtain ⟨i,st,rs,aN,vE,vA,gv,t,F,rfl,bI,HL,HB⟩:=hrel;have dE:=HL.le.il;have abC:=HL.le.nodup;rw[HN.1]at abC;obtain ⟨As,Et,rfl,aiD,-⟩:=ae HL.own;obtain ⟨ti,Cj⟩:∃x,st.length=x:=⟨_,rfl⟩;rw[Cj]at dE abC aiD;have xz:=Y Cj;rw[Cj]at HL|-;clear Cj;have p5:=HB.size;by_cases aB:i<ti
   .have hd:decide ((i:Int)<(ti:Int))=true:=τ;have Yw:decide (i<ti)=true:=decide_eq_true aB;obtain ⟨s,hs⟩:∃s,st[i]?=some s:=⟨_,List.getElem?_eq_getElem (show i<st.length by rw[xz.o];exact aB)⟩
    obtain ⟨xA,-⟩:=HL.le.lv s (List.mem_of_getElem? hs);have ob:s<n:=by rw[HN.1]at xA;exact xA
    have ao:=HL.own;rw[xz.o]at ao;obtain ⟨gs,rfl,abD,VY,Kh⟩:=qR ao U;have xst:wr.cell? (Z gs i)=some (.int .i64 (s:Int)):=by rw[Kh i aB];unfold b9;rw[List.getElem?_map,hs];rfl
    have bT:Below w w wr:=cM.t (HB.mono cM.size);obtain ⟨ge,fe,rv0,rfl,-,Lo,abF,Lp⟩:=HE.jL xA;obtain ⟨ga,fa,rfl,-,DH,tN⟩:=HA.jL (show s<m.ac.length by rw[HN.2];exact ob)
    have abG:=(χ ge (fe+s) (bT.block ge Lo)).t abF;have VZ:=(χ ga (fa+s) (bT.block ga DH)).t tN;have ni:=Lp.later bT;obtain ⟨row,aC⟩:∃r,m.ed[s]=r:=⟨_,rfl⟩;obtain ⟨a,V0⟩:∃b,m.ac[s]'(by rw[HN.2];exact ob)=b:=⟨_,rfl⟩
    rw[aC]at ni;rw[V0]at VZ;have fW:row∈m.ed:=by rw[<-aC];exact List.getElem_mem xA
    have ZZ:aU m s=row:=by unfold aU;rw[List.getElem?_eq_getElem xA,aC];rfl
    have Z0:(m.ac[s]?).getD false=a:=by rw[List.getElem?_eq_getElem (by rw[HN.2];exact ob),V0];rfl
    have P2:=qL (cls:=cY cs) (HV.kE row fW) (tT.qM row fW);have Yo:=Y (show ∀e∈row,e.to<cs.length from λe he=>by rw[nJ.1,<-HN.1];exact HV.to row fW e he)
    have wO:=Y (tT.qM row fW);obtain ⟨J,hJ⟩:=ν (cD (cY cs) row);have hJl:=Nat.le_trans (oT (cY cs) row) (tT.rl row fW);rw[hJ]at P2 hJl;have HJB:=Y (show ∀e∈J,∃f,f<n/\cY cs f=some e.to from λe he=>by
     obtain ⟨-,-,f,hf,h3⟩:=P2 e he;exact ⟨f.to,by rw[<-HN.1];exact HV.to row fW f hf,h3⟩)
    have HJE:=Y hJ;have iy:=tT.rl row fW;obtain ⟨Ar,cr,wH,-⟩:=ni.form;obtain ⟨zf,xW⟩:∃n,row.length=n:=⟨_,rfl⟩;rw[xW]at wH iy;have Yq:=Y xW;subst wH;have Lr:eQ wr (.slice Ar zf cr) row:=ni;have hM:=(HB.block w U).t BB.o;obtain ⟨xm0,YO⟩:wr.cell? (Z w 0)=some (.slice (Z ge fe) n ce)/\wr.cell? (Z w 1)=some (.slice (Z ga fa) n ca):=by constructor <;> (rw[Φ hM]; rfl)
    have Hj:=bT.size;have lM:w.heap.size<wr:=(γ hM).1;have lge:ge<wr:=U;have lga:ga<wr:=U;have HED:=Y Lr;have xX:=Y ((xe.eu HC.o).later (HB.mono V));have hit:i<=t:=by have:=HL.le.top;have h9:t+1=st.length:=this;have:=xz.o;omega
    have HS:=Y (I hs (I ZZ (I Z0 hit)));have HXA:=Y (I YO VZ);have HGA:=Y (I DH abD);obtain ⟨W,zg⟩:∃W:World,W=wr:=⟨_,rfl⟩;subst zg;have dN:Below W W W.drew:=D.drew;clear xA ao Kh bT Lo DH abF tN ni Lp Lr aC V0 fW ZZ Z0 P2 hJ xW hM hs abD hit YO VZ;go_wp2_with fail;refine ay 10 [9] (Q4 w gs ti Et i s ge fe n ce zf cr g3 cc Ar J W) (λ_ w'=>Below W W w') R R R R R R O dN ?_ ?_
    .simp only[ck,ct];refine aa.pure O ?_ (aa.pure O ?_ (aa.pure O ?_ (aa.pure O ?_ (aa.pure O ?_ (aa.pure O ?_ (aa.pure O ?_ (aa.pure O ?_ (aa.pure O ?_ (aa.jg 0 rfl ?_ (aa.nil))))))))))
     all_goals first | (intro v wz c bX hS hE K hK;simp only[ah,Act.put,dk,dm,dn,Nat.zero_add,Nat.reduceAdd,ck,ct]at hK|-) | (intro v wz hS hE K hK;simp only[ah,Act.put,dk,dm,dn,Nat.zero_add,Nat.reduceAdd,ck,ct]at hK|-)
     .exact ζ
     .have e0:v 0=_:=hE.1 rfl;rw[e0]at hK|-;have c1:=(hS.cl w 0 lM).t xm0;have l1:w.heap.size<wz:=by have:=hS.size;omega
      exact ζ
     .exact ζ
     .exact ζ
     .have e2:v 2=_:=hE.1 rfl;have e3:v 3=_:=hE.2.1 rfl;rw[e2,e3]at hK|-;exact ζ
     .have e4:v 4=_:=hE.1 rfl;rw[e4]at hK|-;have c1:=(hS.cl gs i VY).t xst;have l1:gs<wz:=by have:=hS.size;omega
      exact ζ
     .have e1:v 1=_:=hE.1 rfl;have e5:v 5=_:=hE.2.1 rfl;rw[e1,e5]at hK|-;exact ζ
     .have e6:v 6=_:=hE.1 rfl;rw[e6]at hK|-;have c1:=(hS.cl ge (fe+s) lge).t abG;have l1:ge<wz:=by have:=hS.size;omega
      exact ζ
     .exact ζ
     .have e7:v 7=_:=hE.1 rfl;have e8:v 8=_:=hE.2.1 rfl;rw[e7,e8]at hK|-;have aG:=uT (.slice Ar zf cr) (.slice (Z g3 0) n cc) row cs wz (HED.later hS) (xX.later hS) Yo.o wO.o (by rw[Yq.o];omega)
      have HC:=Y aG;have HX:=Y hS;clear hS hE aG;go_wp2_with fail;refine HC.mono ?_;rintro e wy ⟨jv,rfl,ho,hb⟩;obtain ⟨Aj,cj,rfl,-⟩:=(eQ.eu ho).form;have Ls:=Y (HX.t (hb.mono HX.size));have HJ:=Y (ho.mono HX.size);rw[HJE.o]at HJ|-;clear ho hb;go_wp2_with fail;refine hK.out _ _ (λj z hj h=>?_) Ls.o (λ_=>⟨Aj,cj,rfl,HJ.o⟩)
      match j with
      |0|1|2|3|4|5|6|7|8=>exact h
      |9=>exact absurd rfl hj
      |_+10=>exact trivial
    .intro v wz hS hF;have e0:v 0=_:=hF 0 O;have e1:v 1=_:=hF 1 O;have e2:v 2=_:=hF 2 O;have e3:v 3=_:=hF 3 O;have e4:v 4=_:=hF 4 O;have e5:v 5=_:=hF 5 O;have e6:v 6=_:=hF 6 O;have e7:v 7=_:=hF 7 O;have e8:v 8=_:=hF 8 O;have E9:=hF 9 O;simp only[ah,Act.put,dk,dm,dn,Nat.zero_add,Nat.reduceAdd,ck,ct,List.drop_succ_cons,List.drop_zero,e0,e1,e2,e3,e4,e5,e6,e7,e8];clear hF e0 e1 e2 e3 e4 e5 e6 e7 e8;obtain ⟨Aj,cj,e9,YG⟩:=E9 V;rw[e9]at YG|-;have sa:=HL.begin hS HB.o YG;obtain ⟨nj,hnj⟩:∃n,J.length=n:=⟨_,rfl⟩;rw[hnj]at sa hJl|-;have LZ:=Y sa;have V1:=Y hnj;obtain ⟨BL,hBL⟩:∃B,W.heap.size=B:=⟨_,rfl⟩;rw[hBL]at LZ;clear hS YG sa hnj e9 E9 abG xst xm0 HL HB dN HED xX Yo wO;go_wp2_with fail;go_loopw [46,5] (λkv dP wr=>∃(k:Nat) (st':List Nat) (F':Lit->Option Value),kv=.int .i64 (k:Int)/\k<=nj/\Hid (Ch m (cY cs) (w2+1) w1 i BL rs aN vE vA gv J t st (.slice Aj nj cj) w1 k k st' F' dP wr)) (λkv _ _=>nj - (intOf kv).toNat)
     case atStart=>exact ⟨0,st,F,rfl,Nat.zero_le _,LZ⟩
     case round=>
      obtain ⟨k,st',F',rfl,hk,HK⟩:=hrel;have TA:=HK.le.le.nodup;rw[HN.1]at TA;have IE:=HK.bl.size;obtain ⟨TB,zL,rfl,abI,-⟩:=ae HK.le.own;obtain ⟨eH,pt⟩:∃x,st'.length=x:=⟨_,rfl⟩;have cC:=HK.le.own;rw[pt]at cC abI TA HK|-;have wL:=Y cC;have GB:=Y pt;clear pt cC;by_cases qa:k<nj
      .have nw:decide ((k:Int)<(nj:Int))=true:=τ;have bU:decide (k<nj)=true:=decide_eq_true qa;have V2:k<J.length:=by rw[V1.o];exact qa
       obtain ⟨gl,rfl⟩:∃g,Aj=some ⟨g,0,none⟩:=by
        obtain ⟨A,c,e,-,dt⟩:=HK.row.cells tc;obtain ⟨g,hA,-⟩:=dt.resolve_left (by intro e2;have:=Gz (aZ (cY cs) st') J k U;rw[e2]at this;simp at this;omega)
        injection e with e1 _ _;exact ⟨g,by rw[e1,hA]⟩
       have HKJ:Hid (Ch m (cY cs) (w2+1) w1 i BL rs aN vE vA gv J t st (.slice (Z gl 0) J.length cj) w1 k k st' F' (.slice TB eH zL) wr):=by rw[V1.o];exact HK
       obtain ⟨⟨e0,e1,e2⟩,ef,J5⟩:=HKJ.cells V2;obtain ⟨q,hq⟩:∃e,J[k]=e:=⟨_,rfl⟩;have V3:q∈J:=by rw[<-hq];exact List.getElem_mem V2
       obtain ⟨f0,V4,QX⟩:=HJB q V3;have JV:=nJ.2.2 _ _ QX;obtain ⟨lo,hi,cl⟩:=q;rw[hq]at e0 e1 e2;simp only at e0 e1 e2 QX JV;have hb0:Below wr wr (wr.alloc (.cells #[.int .u8 (lo:Int),.int .u8 (hi:Int),(cl:Int)] 74)):=D.alloc V _;have hK1:=HKJ.later hb0;have jq:keyOf Tryz.prog 3 (.int .i64 (cl:Int))=some (.int .i64 (cl:Int)):=Maps.keyOf_int_mk Tryz.underlying3 (WalkArith.wf_i64 U);have YP:=hK1.le.mv;have F5:=hK1.le.say cl;have aiF:gl≠wr.heap.size:=U;have HQ:=Y hq;by_cases IF:some cl∈st'.map (cY cs)
       .rw[if_pos IF]at F5;have lJ:(Instr.lookup 95 (.map (some w1.heap.size)) (.int .i64 (cl:Int)) true).run Tryz.prog (wr.alloc (.cells #[.int .u8 (lo:Int),.int .u8 (hi:Int),(cl:Int)] 74))=.ok (.tuple #[.int .i64 ((aZ (cY cs) st' cl:Nat):Int),.bool true]) (wr.alloc (.cells #[.int .u8 (lo:Int),.int .u8 (hi:Int),(cl:Int)] 74)):=by
         have h1:=YP.look_ok K Tryz.underlying95 hz jq trivial;rw[F5]at h1;exact h1
        obtain ⟨x,hx⟩:=ν (aZ (cY cs) st' cl);rw[hx]at lJ;have jF:Below (wr.setCell (Z gl (k*3+2)) (.int .i64 (x:Int))).heap.size (wr.setCell (Z gl (k*3+2)) (.int .i64 (x:Int))) ((wr.setCell (Z gl (k*3+2)) (.int .i64 (x:Int))).alloc (.cells #[.int .u8 (lo:Int),.int .u8 (hi:Int),(cl:Int)] 74)):=D.alloc V _;have Q8:=((HKJ.Li V2 (by rw[hq];exact IF)).put V2 (x:=(x:Int)) (by rw[hq,<-hx])).later jF
        rw[V1.o]at Q8;have YQ:=Y Q8;clear hK1 YP F5 IF hx Q8 jF hq V3 QX V4 hb0 HKJ;go_wp2_with fail;go_roundw
        case rel=>exact ⟨k+1,st',F',by go_num,U,YQ⟩
        case measure=>exact μ
       .rw[if_neg IF]at F5;have lJ:(Instr.lookup 95 (.map (some w1.heap.size)) (.int .i64 (cl:Int)) true).run Tryz.prog (wr.alloc (.cells #[.int .u8 (lo:Int),.int .u8 (hi:Int),(cl:Int)] 74))=.ok (.tuple #[(0:Int),.bool false]) (wr.alloc (.cells #[.int .u8 (lo:Int),.int .u8 (hi:Int),(cl:Int)] 74)):=by
         have h1:=YP.look_ok K Tryz.underlying95 hz jq trivial;rw[F5]at h1;exact h1
        have HMV:=Y YP;have GC:=Y hK1;have HNI:=Y IF;have HEX:=Y (show ∃s,s<n/\cY cs s=some cl from ⟨f0,V4,QX⟩);have aiG:st'.length<maxLen:=by unfold maxLen;have:=GB.o;omega
        have abL:MV Tryz.prog 3 w1 eH F' (wr.alloc (.cells #[.int .u8 (lo:Int),.int .u8 (hi:Int),(cl:Int)] 74)):=by rw[<-GB.o];exact YP
        have abM:=Y abL;have TC:=World.ownsRow.alloc wL.o (.cells #[.int .u8 (lo:Int),.int .u8 (hi:Int),(cl:Int)] 74);have YL:=Y TC;have arA:w1.heap.size<wr:=HKJ.le.mv.lt;clear hK1 YP abL F5 IF hq V3 QX V4 hb0 TC aiG;go_wp2_with (at_mapUpdate;refine pQ _ rfl _ _ _ 95 rfl 3 3 K Tryz.underlying95 w1 eH F' rfl abM.o (by unfold maxLen;omega) _ _ _ rfl rfl jq trivial ?_)
        intro wm abN kN;have hzm:=kN.size;have oI:(wr.alloc (.cells #[.int .u8 (lo:Int),.int .u8 (hi:Int),(cl:Int)] 74)).heap.size=wr.heap.size+1:=H;rw[oI]at hzm;have hec:wm.cell? (Z wr 2)=some (.int .i64 (cl:Int)):=(χ wr 2 (kN.block _ H (λe=>by injection e with e;have e':wr.heap.size=w1:=e;omega))).t (by rw[Φ (heap_alloc_new wr _)];rfl)
        have TD:wm.ownsRow w1 3 1 (.slice TB eH zL) eH (b9 st'):=ar YL.o λg hg=>kN.block g (YL.lt g hg).2 λe=>Gy abM.o YL.o (by rw[hg,e])
        have F0:Below w1 w1 wm:=GC.bl.grown kN GC.bl.size (λq hq=>by injection hq with hq;omega)
        have OP:=ID _ g3 n cc cl cs wm (OR.later HC.o F0) nJ.1 U HEX.o;have HIX:=Y OP;have HGM:=Y (I abN kN);have YR:=Y TD;clear OP abN kN TD F0 oI;go_wp2_with fail;refine HIX.mono ?_;rintro e wy ⟨s2,rfl,BR,aiH,aiI⟩;rw[BR];clear BR;have bL:=World.ownsRow.alloc YR.o (.cells #[(s2:Int)] 3);have iY:∀j u,([.int .i64 (s2:Int)]:List Value)[j]?=some u->(wm.alloc (.cells #[(s2:Int)] 3)).cell? (((Z wm 0):Addr).add j)=some u:=λj u hj=>by
         match j,hj with
         |0,hj=>simp at hj;rw[<-hj,Addr.add_lit,Φ (heap_alloc_new wm _)];rfl
        have bw:w1.heap.size<=(wm.alloc (.cells #[(s2:Int)] 3)).heap.size:=ψ;have td:=Y (show Below wm wm (wm.alloc (.cells #[(s2:Int)] 3)) from D.alloc V _);go_wp2_with (at_builtin;refine bn rfl _ _ 22 rfl w1 3 ii _ 1 8 Tryz.underlying22 P6 r5 iI j9 rfl O _ eH (b9 st') rfl bL (Z wm 0) 1 1 [.int .i64 (s2:Int)] rfl rfl iY (by intro u hu;simp at hu;subst hu;rfl) (by unfold maxLen;omega) U bw ?_)
        intro lZ w4 jj Em O7;have Ck:aT lZ (.slice TB eH zL) (wm.alloc (.cells #[(s2:Int)] 3)).heap.size:=by rw[show (wm.alloc (.cells #[(s2:Int)] 3)).heap.size=wm.heap.size+1 by simp];exact O7
        obtain ⟨IG,kO⟩:=GC.new V2 HGM.2 (by rw[HQ.o,GB.o];exact HGM.1) td.o Em (by rw[GB.o];exact jj) Ck (by rw[HQ.o];exact HNI.o) (by rw[HN.1];exact aiH) (by rw[HQ.o];exact aiI)
        rw[GB.o]at IG kO;obtain ⟨A4,c4,rfl,-,-⟩:=ae jj;obtain ⟨⟨-,-,f2⟩,ff,arD⟩:=IG.cells V2;have Q9:=IG.put V2 (x:=(eH:Int)) (by rw[kO])
        rw[V1.o]at Q9;have qy:=Y Q9;clear jj Em O7 Ck IG kO Q9 bL iY bw hec;go_wp2_with fail;go_roundw
        case rel=>exact ⟨k+1,st'++[s2],_,by go_num,U,qy⟩
        case measure=>exact μ
      .have jC:k=nj:=U;have nw:decide ((k:Int)<(nj:Int))=false:=θ;have hle:=HK.le;have aC:=HK.row;rw[List.take_of_length_le (by rw[V1.o];omega)]at hle
       rw[List.take_of_length_le (by rw[V1.o];omega),List.drop_of_length_le (by rw[V1.o];omega),List.append_nil]at aC
       have yg:∃more,st'=st++more:=HK.pre;have V5:=hle.le.il;have tV:st'[i]?=some s:=by
        obtain ⟨more,e⟩:=yg;rw[e,List.getElem?_append_left (by have:=xz.o;omega)]
        exact HS.1
       have Ex:rs.length=i:=by rw[hle.le.rows,List.length_map,List.length_take];omega
       have Ey:aN.length=i:=by rw[hle.ac,List.length_map,List.length_take];omega
       have gq:=hle.ma.own;have gw:wr.ownsRow w1 4 1 vA aN.length (a8 bC aN):=hle.ma.acc;rw[Ex]at gq;rw[Ey]at gw;obtain ⟨AE,cE,rfl,-,-⟩:=ae gq;obtain ⟨AV,cA,rfl,-,-⟩:=ae gw;obtain ⟨av,V6⟩:=ν (a8 bC aN);rw[V6]at gw;have ek:i<eH:=by have:=(List.getElem?_eq_some_iff.1 tV).1;rw[GB.o]at this;exact this
       obtain ⟨kj,rfl,-,VY,Kh⟩:=qR wL.o U;have xst:wr.cell? (Z kj i)=some (.int .i64 (s:Int)):=by rw[Kh i U];unfold b9;rw[List.getElem?_map,tV];rfl
       have hM:=(HK.bl.block w U).t BB.o;have YO:wr.cell? (Z w 1)=some (.slice (Z ga fa) n ca):=by rw[Φ hM];rfl
       have bT:Below w w wr:=cM.t (HK.bl.mono cM.size);have MF:(m.ac[s]?).getD false=a:=HS.2.2.1;have tN:w.cell? (Z ga (fa+s))=some (.bool a):=by
        obtain ⟨ga',fa',e,-,-,h0⟩:=HA.jL (show s<m.ac.length by rw[HN.2];exact ob)
        injection e with e;injection e with e1 e2;rw[e1,e2,h0,<-MF,List.getElem?_eq_getElem (by rw[HN.2];exact ob)];rfl
       have xac:=(χ ga (fa+s) (bT.block ga HGA.1)).t tN;have Ez:=hle.ma.hN;obtain ⟨J9,Tc⟩:wr.cell? (Z (w2+1) 0)=some (.slice AE i cE)/\wr.cell? (Z (w2+1) 1)=some (.slice AV i cA):=by constructor <;> (rw[Φ Ez]; rfl)
       have zM:=hle.ma.lt;have Zq:=bT.size;have eP:w2.heap.size+1<wr:=(zM _ (bj.2 (.inl rfl))).2;have lM:w.heap.size<wr:=(γ hM).1;have lga:ga<wr:=by have:=HGA.1;omega
       have VX:=cM.size;have nM:w.heap.size∉(w2.heap.size+1)::(aq (.slice AE i cE)++aq (.slice AV i cA)):=λhm=>by have:=(zM _ hm).1;omega
       have nga:ga∉(w2.heap.size+1)::(aq (.slice AE i cE)++aq (.slice AV i cA)):=λhm=>by have:=(zM _ hm).1;have:=HGA.1;omega
       have ngs:kj∉(w2.heap.size+1)::(aq (.slice AE i cE)++aq (.slice AV i cA)):=λhm=>hle.ma.out _ hm (by simp[aq,Value.ownBlock])
       have bf:(∀g,(Value.slice AE i cE).ownBlock=some g->g<wr.heap.size)/\(∀g,(Value.slice AV i cA).ownBlock=some g->g<wr.heap.size)/\(∀g,(Value.slice AV i cA).ownBlock=some g->(Value.slice AE i cE).ownBlock≠some g)/\(Value.slice AE i cE).ownBlock≠some (w2.heap.size+1)/\(Value.slice AV i cA).ownBlock≠some (w2.heap.size+1)/\(∀g,(Value.slice AV i cA).ownBlock=some g->(Value.slice AE i cE).ownBlock≠some g/\g<wr.heap.size):=by
        have hd:∀g,(Value.slice AV i cA).ownBlock=some g->(Value.slice AE i cE).ownBlock≠some g:=λg hg e=>hle.ma.Q1 g e hg;exact ⟨λg hg=>(gq.lt g hg).2,λg hg=>(gw.lt g hg).2,hd,hle.ma.U7,hle.ma.Yx,λg hg=>⟨hd g hg,(gw.lt g hg).2⟩⟩
       obtain ⟨W,zg⟩:∃W:World,W=wr:=⟨_,rfl⟩;subst zg;have dN:iS (w2+1) (.slice AE i cE) (.slice AV i cA) W 0 W.drew:=⟨(ab.aj D.drew).gV,λ_=>rfl,λ_ _ _=>rfl,λ_=>D.drew⟩;have dr:=Y bf;have OO:=Y Ez;have J8:=Y gq;have YS:=Y gw;have tH:=Y IE;have Im:=Y (I hle (I aC tV));have YT:=Y (I HK.bl HK.hB);have TE:=Y (I V6 (I Ex Ey));clear hle aC yg V5 tV Ex Ey gq gw V6 Kh hM bT MF tN Ez zM bf jC IE;go_wp2_with fail;refine ay 20 [4,16,18] (jy (w2+1) w kj eH zL i s ga fa n ca nj cj cE cA w1 AE AV Aj gv av a W) (λc w'=>iS (w2+1) (.slice AE i cE) (.slice AV i cA) W c w') R R R R R R O dN ?_ ?_
       .simp only[ck,ct];refine aa.pure O ?_ (aa.pure O ?_ (aa.pure O ?_ (aa.gp O ?_ (aa.jg 0 rfl ?_ (aa.pure O ?_ (aa.pure O ?_ (aa.pure O ?_ (aa.pure O ?_ (aa.pure O ?_ (aa.pure O ?_ (aa.pure O ?_ (aa.pure O ?_ (aa.pure O ?_ (aa.pure O ?_ (aa.gp O ?_ (aa.jg 1 rfl ?_ (aa.pure O ?_ (aa.jg 2 rfl ?_ (aa.pure O ?_ (aa.nil))))))))))))))))))))
        all_goals first | (intro v wz c bX hS hE K hK;simp only[ah,Act.put,dk,dm,dn,Nat.zero_add,Nat.reduceAdd,ck,ct]at hK|-) | (intro v wz hS hE K hK;simp only[ah,Act.put,dk,dm,dn,Nat.zero_add,Nat.reduceAdd,ck,ct]at hK|-)
        .exact ζ
        .have e0:v 0=_:=hE.1 rfl;rw[e0]at hK|-;have hle:=bX 0 R;have c1:=(χ (w2+1) 0 (hS.2.1 U)).t J9;have l1:w2.heap.size+1<wz:=by have:=hS.1.size;omega
         exact ζ
        .exact ζ
        .have e2:v 2=_:=hE.1 rfl;rw[e2]at hK|-;have bw:Below wz wz (wz.alloc (.cells #[.slice Aj nj cj] 59)):=D.alloc V _;have jc:=hS.1.size;have HX:=Y hS;have iZ:=Y bw;clear hS hE bX bw;go_wp2_with fail;exact hK.out _ _ (λj y _ h=>vP iZ.o h) (HX.later eP dr.2.1 iZ.o) ⟨wz.heap.size,rfl,jc,H,by go_simp⟩
        .have e1:v 1=_:=hE.1 rfl;rw[e1]at hK|-;have E3:=hE.2.1 rfl;obtain ⟨g,e3,zo,jm,oz⟩:=E3;rw[e3]at hK|-;have hz:=hS.2.2.2 rfl;have ao:wz.ownsRow w1 59 1 (.slice AE i cE) i gv:=aR J8.o hz;have iM:=hz.size;clear hz;have ak:∀j u,([.slice Aj nj cj]:List Value)[j]?=some u->wz.cell? (((Z g 0):Addr).add j)=some u:=λj u hj=>by
          match j,hj with
          |0,hj=>simp at hj;rw[<-hj,Addr.add_lit];exact oz
         have HX:=Y hS;clear hS hE;go_wp2_with (at_builtin;refine bn rfl _ _ 32 rfl w1 59 ie () 1 24 Tryz.underlying32 nY S1 DP xi rfl O _ i gv rfl ao (Z g 0) 1 1 [.slice Aj nj cj] rfl rfl ak (by intro u hu;simp at hu;subst hu;rfl) (by unfold maxLen;omega) U (by have:=tH.o;omega) ?_)
         intro v' wx ai bg dv;obtain ⟨A',c',rfl,-,-⟩:=ae ai;have mP:aT (.slice A' (i+1) c') (.slice AE i cE) W.heap.size:=dv.imp id λ⟨g,h1,h2⟩=>⟨g,h1,Nat.le_trans iM h2⟩;refine hK.out _ _ (Eu bg dr.1) (HX.s1 eP bg dr.2.2.2.1 dr.2.2.2.2.2) (λ_=>⟨A',c',rfl,ai,mP⟩)
        .exact ζ
        .have e5:v 5=_:=hE.1 rfl;rw[e5]at hK|-;have hle:=bX 1 R;have c1:=(χ (w2+1) 1 (hS.2.1 U)).t Tc;have l1:w2.heap.size+1<wz:=by have:=hS.1.size;omega
         exact ζ
        .exact ζ
        .have e7:v 7=_:=hE.1 rfl;rw[e7]at hK|-;have c1:=(χ w 1 (hS.1.aq _ lM nM)).t YO;have l1:w.heap.size<wz:=by have:=hS.1.size;omega
         exact ζ
        .exact ζ
        .exact ζ
        .have e9:v 9=_:=hE.1 rfl;have eR:v 10=_:=hE.2.1 rfl;rw[e9,eR]at hK|-;exact ζ
        .have fZ:v 11=_:=hE.1 rfl;rw[fZ]at hK|-;have c1:=(χ kj i (hS.1.aq _ VY ngs)).t xst;have l1:kj<wz:=by have:=hS.1.size;omega
         exact ζ
        .have e8:v 8=_:=hE.1 rfl;have fG:v 12=_:=hE.2.1 rfl;rw[e8,fG]at hK|-;exact ζ
        .have iH:v 13=_:=hE.1 rfl;rw[iH]at hK|-;have c1:=(χ ga (fa+s) (hS.1.aq _ lga nga)).t xac;have l1:ga<wz:=by have:=hS.1.size;omega
         exact ζ
        .have jw:v 14=_:=hE.1 rfl;rw[jw]at hK|-;have bw:Below wz wz (wz.alloc (.cells #[.bool a] 4)):=D.alloc V _;have jc:=hS.1.size;have HX:=Y hS;have iZ:=Y bw;clear hS hE bX bw;go_wp2_with fail;exact hK.out _ _ (λj y _ h=>vP iZ.o h) (HX.later eP dr.2.1 iZ.o) ⟨wz.heap.size,rfl,jc,H,by go_simp⟩
        .have e6:v 6=_:=hE.1 rfl;rw[e6]at hK|-;have GD:=hE.2.1 rfl;obtain ⟨g,pF,zo,jm,oz⟩:=GD;rw[pF]at hK|-;have ao:wz.ownsRow w1 4 1 (.slice AV i cA) i av:=ar YS.o λg hg=>hS.2.2.1 O g hg;have iM:=hS.1.size;have ak:∀j u,([.bool a]:List Value)[j]?=some u->wz.cell? (((Z g 0):Addr).add j)=some u:=λj u hj=>by
          match j,hj with
          |0,hj=>simp at hj;rw[<-hj,Addr.add_lit];exact oz
         have HX:=Y hS;clear hS hE;go_wp2_with (at_builtin;refine bn rfl _ _ 33 rfl w1 4 ib (.bool false) 1 1 Tryz.underlying33 pe hb0 aM aS rfl O _ i av rfl ao (Z g 0) 1 1 [.bool a] rfl rfl ak (by intro u hu;simp at hu;subst hu;rfl) (by unfold maxLen;omega) U (by have:=tH.o;omega) ?_)
         intro v' wx ai bg dv;obtain ⟨A',c',rfl,-,-⟩:=ae ai;have mP:aT (.slice A' (i+1) c') (.slice AV i cA) W.heap.size:=dv.imp id λ⟨g,h1,h2⟩=>⟨g,h1,Nat.le_trans iM h2⟩;refine hK.out _ _ (Ev bg dr.2.1 dr.2.2.1) (HX.s2 eP bg dr.2.2.2.2.1) (λ_=>⟨A',c',rfl,ai,mP⟩)
        .exact ζ
        .have nR:v 17=_:=hE.1 rfl;rw[nR]at hK|-;have E4:=hE.2.1 rfl;obtain ⟨A,c',ev,ho,dv⟩:=E4 O;rw[ev]at hK ho dv|-;have aC:=(hS.2.1 O).t OO.o;have cz:wz.cell? (Z (w2+1) 0)=some (.slice AE i cE):=by rw[Φ aC];rfl
         have fz:wz.frozen? (Z (w2+1) 0)=false:=Ψ aC
         have HX:=Y hS;have HO:=Y (I ho (I dv aC));clear hS hE ho dv aC ev;go_wp2_with fail;have qV:∀g,(Value.slice A (i+1) c').ownBlock=some g->g≠w2.heap.size+1:=λg hg=>HO.2.1.elim (λe=>by rw[e]at hg;intro e2;subst e2;exact dr.2.2.2.1 hg) λ⟨g',e,h2⟩=>by rw[e]at hg;injection hg with hg;omega
         refine hK.out undef _ (Ew eP dr.2.2.2.1 dr.2.2.2.2.1 _) (HX.s3 _) (λ_=>⟨A,c',ar HO.1 λg hg=>Below.heap_setCell _ _ _ _ (qV g hg),HO.2.1,by have:=aE HO.2.2 0 (.slice A (i+1) c');simpa using this⟩)
        .exact ζ
       .intro v wz hS hF;have e0:v 0=_:=hF 0 O;have e1:v 1=_:=hF 1 O;have e2:v 2=_:=hF 2 O;have e5:v 5=_:=hF 5 O;have e6:v 6=_:=hF 6 O;have e7:v 7=_:=hF 7 O;have e8:v 8=_:=hF 8 O;have e9:v 9=_:=hF 9 O;have eR:v 10=_:=hF 10 O;have fZ:v 11=_:=hF 11 O;have fG:v 12=_:=hF 12 O;have iH:v 13=_:=hF 13 O;have jw:v 14=_:=hF 14 O;have nR:v 17=_:=hF 17 O;have wS:v 19=_:=hF 19 O;have E3:=hF 3 O;have E4:=hF 4 O;have GD:=hF 15 O;have YC:=hF 16 O;have O4:=hF 18 O;simp only[ah,Act.put,dk,dm,dn,Nat.zero_add,Nat.reduceAdd,ck,ct,List.drop_succ_cons,List.drop_zero,e0,e1,e2,e5,e6,e7,e8,e9,eR,fZ,fG,iH,jw,nR,wS];clear hF e0 e1 e2 e5 e6 e7 e8 e9 eR fZ fG iH jw nR wS;obtain ⟨Km,Kn,pz,sw,jX⟩:=O4 O;obtain ⟨Ra,Rb,MG,EA,zN⟩:=YC O;rw[MG]at EA zN|-;have pR:=hS.1;have z1:wz.cell? (Z (w2+1) 1)=some (.slice AV i cA):=by rw[Φ jX];rfl
        have Qs:wz.frozen? (Z (w2+1) 1)=false:=Ψ jX
        have lNz:w2.heap.size+1<wz:=(γ jX).1;have aH:∀k,k≠w2.heap.size+1->(wz.setCell (Z (w2+1) 1) (.slice Ra (i+1) Rb)).heap[k]?=wz.heap[k]?:=λk hk=>Below.heap_setCell _ _ _ _ hk;have dv:∀{v v':Value},aT v' v W.heap.size->v.ownBlock≠some (w2.heap.size+1)->∀g,v'.ownBlock=some g->g≠w2.heap.size+1:=λhf hn g hg e=>by
         subst e;rcases hf with hf|⟨g',hf,h2⟩
         .rw[hf]at hg;exact hn hg
         .rw[hf]at hg;injection hg with hg;omega
        have Dl:ab (ki (w2+1) (.slice AE i cE) (.slice AV i cA)) [] W (wz.setCell (Z (w2+1) 1) (.slice Ra (i+1) Rb)):=
         ab.tr (show ab (ki (w2+1) (.slice AE i cE) (.slice AV i cA)) [] W wz from pR) ⟨rfl,rfl,rfl,by simp[World.setCell],λk _ hn=>aH k (λe=>hn (bj.2 (.inl e))),λk hk=>by cases hk⟩
        have dW:=Im.1.zI YT.2 Im.2.1 Dl (by have:=aE jX 1 (.slice Ra (i+1) Rb);simpa using this) (by rw[TE.2.1];exact ar pz λg hg=>aH g (dv sw dr.2.2.2.1 g hg)) (a:=a) (by
         show World.ownsRow _ _ _ _ _ _ _;rw[List.length_append,bV,bF,TE.1,TE.2.2];exact ar EA λg hg=>aH g (dv zN dr.2.2.2.2.1 g hg)) sw zN HS.2.2.2 Im.2.2 (by rw[HS.2.1,HJE.o]) HS.2.2.1.symm
        have ju:Below w1 w1 (wz.setCell (Z (w2+1) 1) (.slice Ra (i+1) Rb)):=YT.1.t (Dl.below (λk hk=>(Im.1.ma.lt k hk).1) tH.o);have V7:=Y dW;have HBF:=Y ju;clear hS pR aH dv Dl dW ju pz sw jX EA zN MG E3 E4 GD YC O4;go_wp2_with fail;go_roundw
        case rel=>exact ⟨i+1,_,_,_,_,_,_,_,_,by go_num,U,V7,HBF⟩
        case measure=>exact μ
   .have nY:i=ti:=U;have hd:decide ((i:Int)<(ti:Int))=false:=θ;have hle:=HL.o;have MH:i=st.length:=by rw[xz.o];exact nY
    have gq:=hle.ma.own;have gw:wr.ownsRow w1 4 1 vA aN.length (a8 bC aN):=hle.ma.acc;obtain ⟨AE,cE,rfl,-,-⟩:=ae gq;obtain ⟨AV,cA,rfl,-,-⟩:=ae gw;obtain ⟨nE,BI⟩:∃x,rs.length=x:=⟨_,rfl⟩;obtain ⟨nV,Il⟩:∃x,aN.length=x:=⟨_,rfl⟩;rw[BI,Il]at HL;have Ez:=HL.ma.hN;obtain ⟨J9,Tc⟩:wr.cell? (Z (w2+1) 0)=some (.slice AE nE cE)/\wr.cell? (Z (w2+1) 1)=some (.slice AV nV cA):=by constructor <;> (rw[Φ Ez]; rfl)
    have uk:=(HB.block (w+1) lx1).t DQ.o;obtain ⟨q0,q1⟩:wr.cell? (Z (w+1) 0)=some (.slice none 0 0)/\wr.cell? (Z (w+1) 1)=some (.slice none 0 0):=by constructor <;> (rw[Φ uk]; rfl)
    have g0:wr.frozen? (Z (w+1) 0)=false:=Ψ uk
    have g1:wr.frozen? (Z (w+1) 1)=false:=Ψ uk
    have lNr:w2.heap.size+1<wr:=(γ Ez).1;have lXr:w.heap.size+1<wr:=U;have HEI:=Y (I MH (I BI Il));clear hle MH gq gw Ez uk BI Il nY;go_wp2_with fail;refine au λWf bG=>?_;refine bodyPost_ret (v:=.agg #[.slice AE nE cE,.slice AV nV cA]) (by rw[bG];simp[results,Tryz.results23,go_sem,q0,q1,lXr];try rfl) rfl ?_
    have aV:ab [w.heap.size+1] [] wr Wf:=by
     rw[bG];have bf:∀k,k∉[w.heap.size+1]->k≠w.heap.size+1:=λk hn e=>hn (List.mem_singleton.2 e);exact ⟨rfl,rfl,rfl,by simp[World.setCell],λk _ hn=>(Below.heap_setCell (wr.setCell (Z (w+1) 0) (.slice AE nE cE)) (Z (w+1) 1) (.slice AV nV cA) k (bf k hn)).t (Below.heap_setCell wr (Z (w+1) 0) (.slice AE nE cE) k (bf k hn)),λk hk=>by cases hk⟩
    have qK:=HL.ma.low aV (λk hk=>by rw[List.mem_singleton]at hk;omega)
    have hle:=HL.le;rw[HEI.1]at hle;obtain ⟨d1,d2,d3⟩:=hle.done HV.o nJ.2.1;have BG:aN=(cQ m (cY cs) (aZ (cY cs) st) st).ac:=by rw[HL.ac,HEI.1,List.take_length];rfl
    have V8:(⟨rs,aN⟩:Mc)=cQ m (cY cs) (aZ (cY cs) st) st:=by rw[d1,BG]
    have VX:=cM.size;have ju:Below w w Wf:=(cM.t (HB.mono cM.size)).t (aV.below (λk hk=>by rw[List.mem_singleton]at hk;omega) U)
    refine ⟨_,⟨rs,aN⟩,rfl,qK.up.mono VX,ju,.inl ⟨?_,by rw[V8];exact d2,by rw[V8];exact d3⟩,?_,?_⟩
    .by_cases hx:aW m 0
     .exact hx
     .exact absurd ((nJ.2.1.eJ 0 (by rw[HN.1];exact tU.o)).2 hx) (HL.le.lv 0 (List.mem_of_getElem? HL.le.zero)).2
    .show rs.length<=_;rw[d1];unfold cQ;simp;exact HL.le.nodup
    .rw[V8];have hr:∀r∈(cQ m (cY cs) (aZ (cY cs) st) st).ed,∃s∈st,r=bO (aZ (cY cs) st) (cD (cY cs) (aU m s)):=λr hr=>by
      unfold cQ at hr;obtain ⟨s,h1,h2⟩:=List.mem_map.1 hr;exact ⟨s,h1,h2.symm⟩
     have fW:∀s∈st,aU m s∈m.ed:=λs hs=>by
      obtain ⟨h1,-⟩:=HL.le.lv s hs;unfold aU;rw[List.getElem?_eq_getElem h1];exact List.getElem_mem h1
     refine ⟨λr h e he=>?_,λr h=>?_,?_⟩
     .obtain ⟨s,h1,rfl⟩:=hr r h;unfold bO at he;obtain ⟨f,h2,rfl⟩:=List.mem_map.1 he;have:=qL (cls:=cY cs) (HV.kE _ (fW s h1)) (tT.qM _ (fW s h1)) f h2;exact ⟨this.1,this.2.1⟩
     .obtain ⟨s,h1,rfl⟩:=hr r h;rw[ez];exact Nat.le_trans (oT _ _) (tT.rl _ (fW s h1))
     .unfold cQ;simp;have:=HL.le.nodup;have:=tT.n;omega
end
structure YU where
 lo:Nat
 hi:Nat
 to:Int
structure Mz where
 ed:List (List YU)
 ac:List Bool
def abU(w:World)(v:Value)(l:List YU):Prop:=∃A c,v=.slice A l.length c/\(l.length<=c/\c<=9223372036854775807)/\(l=[]\/∃g f,A=some ⟨g,f,none⟩/\g<w.heap.size/\∀i (h:i<l.length),(w.cell? (Z g (f+i*3))=some (.int .u8 (l[i].lo:Int))/\w.cell? (Z g (f+i*3+1))=some (.int .u8 (l[i].hi:Int))/\w.cell? (Z g (f+i*3+2))=some (.int .i64 l[i].to))/\l[i].lo<256/\l[i].hi<256/\-9223372036854775808<=l[i].to/\l[i].to<9223372036854775808)
def abV(w:World)(v:Value)(l:List (List YU)):Prop:=∃A c,v=.slice A l.length c/\(l.length<=c/\c<=9223372036854775807)/\(l=[]\/∃g f,A=some ⟨g,f,none⟩/\g<w.heap.size/\∀i (h:i<l.length),∃rv,w.cell? (Z g (f+i))=some rv/\abU w rv l[i])
def amZ(w:World)(v:Value)(m:Mz):Prop:=∃ve va,v=.agg #[ve,va]/\abV w ve m.ed/\mA w va m.ac
def aiS(n:Nat)(r:List YU)(j:Nat):Prop:=∀(h:j<r.length),r[j].lo<=r[j].hi/\0<=r[j].to/\r[j].to<(n:Int)/\∀p (hp:p+1=j),(r[p]'U).hi<r[j].lo
structure aiT (m:Mz):Prop where
 n1:1<=m.ed.length
 n2:m.ed.length<=2000
 ac:m.ac.length=m.ed.length
 row:∀k (h:k<m.ed.length),∀j,j<m.ed[k].length->aiS m.ed.length m.ed[k] j
noncomputable def QE (m:Mz):Bool:=@decide (aiT m) (Classical.propDecidable _)
def cvE(e:YU):Ed:=⟨e.lo,e.hi,e.to.toNat⟩
def cvM(m:Mz):Mc:=⟨m.ed.map (·.map cvE),m.ac⟩
structure AtJ (row:List YU) (j lo hi:Nat) (to:Int):Prop where
 lt:j<row.length
 eq:row[j]=⟨lo,hi,to⟩
theorem AW(m:Mc):∀(bs:List Nat) (s k:Nat),(kF m bs s k).getLast?=some (k+bs.length)↔eM m bs s=true
 | [],s,k=>by
  rw[kF,eM]
  cases h:(m.ac[s]?).getD false <;> simp
 |c::w,s,k=>by
  rw[kF,eM]
  cases ht:bA (aU m s) c with
  |none=>cases h:(m.ac[s]?).getD false <;> simp
  |some t=>
   simp only;rw[<-AW m w t (k+1)];have e:k+(c::w).length=k+1+w.length:=ψ;rw[e,List.getLast?_append]
   cases hl:(kF m w t (k+1)).getLast? with
   |some x=>simp
   |none=>
    simp only[Option.none_or];constructor
    .intro h;split at h
     .simp at h;omega
     .simp at h
    .intro h;cases h
theorem FG(m:Mc):∀(bs:List Nat) (s k:Nat),(kF m bs s k).length<=bs.length+1
 | [],s,k=>by rw[kF]; split <;> simp
 |c::w,s,k=>by
  rw[kF,List.length_append];have h1:(if (m.ac[s]?).getD false=true then [k] else []).length<=1:=by split <;> simp
  cases ht:bA (aU m s) c with
  |none=>simp at h1|-;omega
  |some t=>have:=FG m w t (k+1);simp at h1 this|-;omega
theorem KB(v vb:Value)(m:Mc)(bs:List Nat)(i:Nat)(w:World)(hm:jb w v m)(hv:jB m)(eg:iE m)(h1:1<=m.ed.length)(h2:m.ed.length<=2000)(hb:yP w vb bs)(j7:bs.length<=900000)(jl:∀b∈bs,b<256)(hi:i<=bs.length):
  Calls Tryz.prog 58 #[v,vb,.int .i64 (i:Int)] w (rR (kF m (bs.drop i) 0 i) w):=by
 obtain ⟨ve,va,rfl,he,ha⟩:=id hm;obtain ⟨Ae,ce,rfl,kG,tz⟩:=he.form;obtain ⟨Aa,ca,rfl,pT,yQ⟩:=ha.form;obtain ⟨Ab,cb,rfl,X6,X7⟩:=id hb;have HV:=Y λW (h:Below w w W)=>Dr _ m W (hm.later h) hv eg h1 h2;have Pq:=Y λW (h:Below w w W)=>Hb _ _ m bs i W (hm.later h) hv eg h1 (hb.later h) j7 jl hi;have hb0:Below w w (w.alloc (.cells #[.slice Ae m.ed.length ce,.slice Aa m.ac.length ca] 35)):=D.alloc V _;have dA:=Y hb0;have aC:=heap_alloc_new w (.cells #[.slice Ae m.ed.length ce,.slice Aa m.ac.length ca] 35);have Pr:=Y aC;obtain ⟨n,hn⟩:=ν m.ed.length;obtain ⟨na,Hc⟩:∃n,m.ac.length=n:=⟨_,rfl⟩;obtain ⟨L,hL⟩:∃n,bs.length=n:=⟨_,rfl⟩;have t1:decide ((i:Int)<0)=false:=θ;have t2:decide ((L:Int)<(i:Int))=false:=θ;have X8:decide (L<i)=false:=θ;rw[hn,Hc]at HV Pq dA Pr;rw[hL]at Pq;rw[hn,Hc,hL];obtain ⟨awO,hR⟩:=ν (kF m (bs.drop i) 0 i);rw[hR]at Pq;have qA:rR (kF m (bs.drop i) 0 i) w=rR awO w:=by rw[hR]
 rw[qA];clear hm hv eg h1 h2 hb j7 jl hi he ha X7 aC hb0 hn Hc hL hR qA
 go_enter Tryz.func58,Tryz.ntmps58
 go_wp2_with fail;refine (HV _ dA.o).mono ?_;rintro e w1 ⟨rfl,aM⟩;have qB:=aM.size;simp only[World.size_alloc]at qB;have iw:=(aM.block w H).t Pr.o;obtain ⟨x0,x1⟩:w1.cell? (Z w 0)=some (.slice Ae n ce)/\w1.cell? (Z w 1)=some (.slice Aa na ca):=by
  constructor <;> (rw[Φ iw]; rfl)
 have cM:=Y (dA.t (aM.mono H));have Ps:w.heap.size<w1:=U;clear aM iw;go_wp2_with fail;refine (Pq _ cM.o).mono ?_;rintro e w2 ⟨rv,rfl,ao,aS⟩;have HX:=Y (I (ao.mono (show w.heap.size<=w1 by omega)) (cM.t (aS.mono U)))
 clear ao aS;go_wp2_with fail;go_ret;exact ⟨_,rfl,HX.1,HX.2⟩
theorem AX(v vb:Value)(m:Mc)(bs:List Nat)(w:World)(hm:jb w v m)(hv:jB m)(eg:iE m)(h1:1<=m.ed.length)(h2:m.ed.length<=2000)(hb:yP w vb bs)(j7:bs.length<=900000)(jl:∀b∈bs,b<256):
  Calls Tryz.prog 30 #[v,vb] w λe w'=>e=.returned (.bool (eM m bs 0))/\Below w w w':=by
 obtain ⟨ve,va,rfl,he,ha⟩:=id hm;obtain ⟨Ae,ce,rfl,kG,tz⟩:=he.form;obtain ⟨Aa,ca,rfl,pT,yQ⟩:=ha.form;obtain ⟨Ab,cb,rfl,X6,X7⟩:=id hb;have Pq:=Y λW (h:Below w w W)=>KB _ _ m bs 0 W (hm.later h) hv eg h1 h2 (hb.later h) j7 jl (Nat.zero_le _);have hb0:Below w w (w.alloc (.cells #[.slice Ae m.ed.length ce,.slice Aa m.ac.length ca] 35)):=D.alloc V _;have dA:=Y hb0;have SD:=Y (AW m bs 0 0);obtain ⟨n,hn⟩:=ν m.ed.length;obtain ⟨na,Hc⟩:∃n,m.ac.length=n:=⟨_,rfl⟩;obtain ⟨L,hL⟩:∃n,bs.length=n:=⟨_,rfl⟩;obtain ⟨q,hq⟩:=ν (eM m bs 0);have wG:=Y (FG m bs 0 0);rw[hn,Hc]at Pq dA;rw[List.drop_zero,hL]at Pq;rw[hL,hq,Nat.zero_add]at SD;rw[hL]at wG j7;rw[hn,Hc,hL,hq];obtain ⟨awO,hR⟩:=ν (kF m bs 0 0);rw[hR]at Pq SD wG;clear hm hv eg h1 h2 hb jl he ha X7 hb0 hn Hc hL hR hq
 go_enter Tryz.func30,Tryz.ntmps30
 go_wp2_with fail;refine (Pq _ dA.o).mono ?_;rintro e w1 ⟨rv,rfl,ao,aM⟩;obtain ⟨A1,c1,e1,kr,dt⟩:=ao.cells FH;subst e1;have cM:=Y (dA.t (aM.mono H));clear ao aM;by_cases Hd:awO.length=0
 .have hRn:awO=[]:=List.length_eq_zero_iff.1 Hd;subst hRn;have HQ:Hid (false=q):=by
   cases q with
   |false=>rfl
   |true=>have:=SD.2 rfl;simp at this
  have t1:decide (0<([]:List Nat).length)=false:=O;simp only[List.length_nil]at *;go_wp2_with fail;go_ret;exact ⟨aw HQ.o,cM.o⟩
 .obtain ⟨p,hp⟩:∃p,awO.length=p+1:=⟨awO.length - 1,U⟩;obtain ⟨g,rfl,hgB,jm,bH⟩:=dt.resolve_left (by intro e;rw[e]at Hd;simp at Hd)
  have He:=(bH p U 0 O).1;have Zn:awO.getLast?=some (awO[p]'U):=by
   rw[List.getLast?_eq_getElem?,show awO.length - 1=p by omega,List.getElem?_eq_getElem]
  obtain ⟨x,hx⟩:=ν (awO[p]'U);rw[hx]at Zn He;rw[Nat.mul_one,Nat.add_zero]at He;have apg:w1.cell? (Z g p)=some (.int .i64 (x:Int)):=by rw[He];rfl
  have HQ:Hid (((x:Int) == (L:Int))=q):=by
   have h3:=SD.o;rw[Zn]at h3
   cases q with
   |false=>
    rw[beq_eq_false_iff_ne];intro e;have:x=L:=U;have:=h3.1 (by rw[this])
    cases this
   |true=>
    have:=h3.2 rfl;injection this with this;show ((x:Int) == (L:Int))=true;rw[this];exact beq_self_eq_true _
  obtain ⟨nr,uu⟩:∃k,awO.length=k:=⟨_,rfl⟩;have X9:nr=p+1:=U;have mr:nr<=1000000:=by have:=wG.o;omega
  have afW:p<nr:=U;have sL:decide (p<nr)=true:=decide_eq_true afW;have hw:IntKind.i64.wrap ((nr:Int) - 1)=(p:Int):=by rw[IntWalk.i64_in _ U];omega
  have eh:(nr:Int) - 1=(p:Int):=U;have t1:decide ((0:Int)<(nr:Int))=true:=τ;have FI:decide (0<nr)=true:=τ;rw[uu];clear bH dt Hd He Zn hx hp uu X9;go_wp2_with fail;go_ret;exact ⟨aw HQ.o,cM.o⟩
end Go.Proofs.YthamegenljmgmaaGreatDoor
