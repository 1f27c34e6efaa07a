/- Walks: the edges of a group. Conditions: the variables read as laid. · The memory of a compile: what is read alone while groups and edges are made. · Walks: machine.least. Conditions: what machine.classes answers, as laid. · Walks: machine.describe. Conditions: the variables read as laid. · Walk: the library's binary search through edges. · Walk: machine.next. -/
import Derived.Test.YtdmoogjddmdmbaaGreatDoorY20
import Derived.Test.YtdmoogjddmdmbaaGreatDoorY07
import Derived.Test.YtdmoogjddmdmbaaGreatDoorY13
import Derived.Test.YtdmoogjddmdmbaaGreatDoorY16
import Derived.Test.YtdmoogjddmdmbaaGreatDoorY04
import Derived.Laws.AppendOwnNone
namespace Go.Proofs.YtdmoogjddmdmbaaGreatDoor
set_option linter.unusedVariables false
set_option linter.unusedSimpArgs false
set_option maxRecDepth 100000
open Go.RowKit
def CU (B:Nat) (v:Value) (L:List Nat) (w:World):Prop:=w.ownsRow B 3 1 v L.length (ints L)/\(v = .slice none 0 0\/L≠[])
theorem CU.later {B:Nat} {v:Value} {L:List Nat} {w w':World} (h:CU B v L w) (hb:Below w.heap.size w w'):CU B v L w':=⟨own_later h.1 hb,h.2⟩
theorem CU.il {B:Nat} {v:Value} {L:List Nat} {w:World} (h:CU B v L w):IL w v L:=IL.of_own h.1 λhv=>h.2.resolve_left hv
structure EgR (w0:World) (s mb:Nat) (v0 v1 v2:Value) (b:Pb) (gs:List (List Nat)) (fp fo:List Nat) (wB:World) (cuts:List Nat) (i:Nat) (row:List Ed) (gs':List (List Nat)) (fp':List Nat) (ov:Value) (wr:World):Prop where
 own:OR 195 3 edC wB.heap.size ov row wr
 out:outOf fp' ov
 sb:SbI w0.heap.size s mb v0 v1 v2 gs' fp' wr
 kf:KeepF fp fp' wB wr
 ri:RowI b fo gs' row (vAt cuts i)
 gg:GrowG b fo gs gs'
 ln:gs'.length<=gs.length+i/\row.length<=i
def EdPost (w0:World) (s mb:Nat) (v0 v1 v2:Value) (b:Pb) (gs:List (List Nat)) (fp fo:List Nat) (w:World) (e:Ending) (w':World):Prop:=
 ∃row gs' fp' rv,e = .returned rv/\(EdIn w' rv row/\outOf fp' rv/\∀g,rv.ownBlock=some g->w.heap.size<=g/\g<w'.heap.size)/\SbI w0.heap.size s mb v0 v1 v2 gs' fp' w'/\KeepF fp fp' w w'/\RowI b fo gs' row 256/\GrowG b fo gs gs'/\gs'.length<=gs.length+257/\row.length<=257
set_option maxHeartbeats 16000000 in
theorem edges_any (w0:World) (s mb:Nat) (v0 v1 v2:Value) (b:Pb) (gs:List (List Nat)) (fp:List Nat) (w:World) (fo:List Nat) (v:Value)
  (h:SbI w0.heap.size s mb v0 v1 v2 gs fp w) (hs:SetC w0 fp w v0 b.sets) (hbel:Below w0.heap.size w0 w) (hR:∀rs∈b.sets,rngF rs=true)
  (hv:IL w v fo) (ho:outOf fp v) (hfo:∀p∈fo,p<b.sets.length) (hfl:fo.length<=600) (hsl:b.sets.length<=600) (hgs:gs.length<=100000) (h0:gs[0]?=some []) (hvr:VrOK w) (hlow:nG<=w0.heap.size) :
  Calls Tryz.prog 137 #[.pointer (some ⟨s,0,none⟩),v] w (EdPost w0 s mb v0 v1 v2 b gs fp fo w):=by
 obtain ⟨Af,cf,rfl,hcf1,hcf2⟩:=hv.form;obtain ⟨vg,gv,F,rfl,hb⟩:=h;obtain ⟨Av,cv,rfl,hcv,-⟩:=id hs;have hcs:=hb.cs;have hlt:=hb.lt;have hls:s<w.heap.size:=(hlt s (by simp[fpG])).2
 obtain ⟨nf,hnf⟩:∃n,fo.length=n:=⟨_,rfl⟩;obtain ⟨ns,hns⟩:∃n,b.sets.length=n:=⟨_,rfl⟩;obtain ⟨ii,hii,hj0,hj1,hj2⟩:=info_parts info_int;have h256:=hs.lt;have HSL:=Lib.hid (show (∀rs∈b.sets,rs.length<=257)/\∀rs∈b.sets,∀r∈rs,r.1<256/\r.2<256 from ⟨λrs h=>rngF_le (hR rs h) λr hr=>(h256 rs h r hr).2,h256⟩);clear h256;rw[hns]at hs hb;have HV:=Lib.hid hv;have HO:=Lib.hid ho;have HS:=Lib.hid hs;have HB:=Lib.hid hb;have HR:=Lib.hid hR;have HFO:=Lib.hid hfo;have HLT:=Lib.hid hlt;have HBEL:=Lib.hid hbel;have H0:=Lib.hid h0;have HVR:=Lib.hid hvr;have HN:=Lib.hid (And.intro hnf hns);have HGS:=Lib.hid hgs;rw[hns]at hcs hsl hcv;rw[hnf]at hfl hcf1|-;have HCS:=Lib.hid hcs;rw[hns];have hw0w:=hbel.size;clear hv ho hs hb hR hfo hlt hbel h0 hvr hnf hns hgs hcs
 go_enter Tryz.func137,Tryz.ntmps137
 go_wp2_with fail
 go_loopw [19,5] (λiv cu wr=>∃k:Nat,k<=nf/\iv = .int .i64 (k:Int)/\Hid (CU w.heap.size cu (cutF b.sets (fo.take k)) wr)/\Hid (Below w.heap.size w wr)) (λiv _ _=>nf - (intOf iv).toNat)
 case atStart=>exact ⟨0,Nat.zero_le _,rfl,⟨World.ownsRow_nil _ _ _ _, .inl rfl⟩,Below.refl _ _⟩
 case round=>
  obtain ⟨k,hk,rfl,HC,HBW⟩:=hrel;by_cases hlt:k<nf
  .have hd:decide ((k:Int)<(nf:Int))=true:=decide_eq_true (by omega)
   have hkl:k<fo.length:=by rw[HN.out.1];exact hlt
   obtain ⟨g,f,rfl,hg,hcell⟩:=HV.out.at_ hkl;have hc0:=hcell wr (HBW.out.block g hg);have hwr:=HBW.out.size;have hglr:g<wr.heap.size:=by omega
   obtain ⟨p,hpe⟩:∃p,fo[k]=p:=⟨_,rfl⟩;have hpm:p∈fo:=by rw[<-hpe];exact List.getElem_mem hkl
   have hpl:=HFO.out p hpm;obtain ⟨gS,rv,rfl,-,hgS,hcS,hrg⟩:=HS.out.at_ hpl;have hcS2:=(World.cell?_of_block (a:=⟨gS,p,none⟩) (HBW.out.block gS hgS)).trans hcS;have hgSr:gS<wr.heap.size:=by omega
   rw[hpe]at hc0;have hlsr:s<wr.heap.size:=by omega
   have hrow:wr.heap[s]?=_:=(HBW.out.block s hls).trans HCS.out;have d0:wr.cell? ⟨s,0,none⟩=some (.slice (some ⟨gS,0,none⟩) ns cv):=by rw[cell_of_row _ _ _ _ _ _ hrow];rfl
   have hpn:p<ns:=by rw[<-HN.out.2];exact hpl
   have hdp:decide (p<ns)=true:=decide_eq_true hpn;obtain ⟨rs,hrs⟩:∃rs,b.sets[p]=rs:=⟨_,rfl⟩;rw[hrs]at hrg;obtain ⟨Ar,cr,rfl,hcr,hrgc⟩:=id hrg;have hrgd:rs=[]\/∃g f,Ar=some ⟨g,f,none⟩/\g<w0.heap.size/\∀i (h:i<rs.length),(w0.cell? ⟨g,f+i*2,none⟩=some (.int .u8 (rs[i].1:Int))/\w0.cell? ⟨g,f+i*2+1,none⟩=some (.int .u8 (rs[i].2:Int)))/\rs[i].1<256/\rs[i].2<256:=hrgc;have hrl:rs.length<=257:=HSL.out.1 rs (by rw[<-hrs];exact List.getElem_mem hpl)
   obtain ⟨nr,hnr⟩:∃n,rs.length=n:=⟨_,rfl⟩;have hsp:b.sets[p]?=some rs:=by rw[List.getElem?_eq_getElem hpl,hrs]
   have hstep:cutF b.sets (fo.take k)++cutR rs=cutF b.sets (fo.take (k+1)):=by rw[List.take_succ_eq_append_getElem hkl,hpe,cutF_snoc,hsp];rfl
   have HST:=Lib.hid hstep;have HRD:=Lib.hid hrgd;have HNR:=Lib.hid hnr;rw[hnr]at hcr hrl hcS2;have hlen0:(cutF b.sets (fo.take k)).length<=2*257*k:=Nat.le_trans (cutF_len HSL.out.1 _) (Nat.mul_le_mul_left _ (List.length_take_le _ _));obtain ⟨L0,hL0⟩:∃L,cutF b.sets (fo.take k)=L:=⟨_,rfl⟩;rw[hL0]at HC HST hlen0;have HBWR:=Lib.hid HBW.out;clear hcell hpe hpm hpl hcS hrg hrs hrgc hrgd hsp hstep hrow hkl hL0 HBW;go_wp2_with fail;obtain ⟨WO,rfl⟩:∃W:World,W=wr:=⟨_,rfl⟩
   go_loopw [32,5] (λjv cu2 wr=>∃j:Nat,j<=nr/\jv = .int .i64 (j:Int)/\Hid (CU w.heap.size cu2 (L0++cutR (rs.take j)) wr)/\Hid (Below w.heap.size w wr)) (λjv _ _=>nr - (intOf jv).toNat)
   case atStart=>exact ⟨0,Nat.zero_le _,rfl,by rw[List.take_zero];simp only[cutR,List.append_nil];exact HC,HBWR⟩
   case round=>
    obtain ⟨j,hj,rfl,HC2,HB2⟩:=hrel;by_cases hlt2:j<nr
    .have hd2:decide ((j:Int)<(nr:Int))=true:=decide_eq_true (by omega)
     have hjl:j<rs.length:=by rw[HNR.out];exact hlt2
     obtain ⟨g2,f2,rfl,hg2,hcr2⟩:=HRD.out.resolve_left (λe=>by rw[e]at hjl;cases hjl)
     obtain ⟨⟨q1,q2⟩,q3,q4⟩:=hcr2 j hjl;have hw2:=HB2.out.size;have hblk:wr.heap[g2]?=w0.heap[g2]?:=(HB2.out.block g2 (by omega)).trans (HBEL.out.block g2 hg2)
     have r1:=(World.cell?_of_block (a:=⟨g2,f2+j*2,none⟩) hblk).trans q1;have r2:=(World.cell?_of_block (a:=⟨g2,f2+j*2+1,none⟩) hblk).trans q2;have hg2l:g2<wr.heap.size:=by omega
     obtain ⟨lo,hi,hx⟩:∃lo hi,rs[j]=(lo,hi):=⟨_,_,rfl⟩;rw[hx]at r1 r2 q3 q4;have hst2:(L0++cutR (rs.take j))++[lo,hi+1]=L0++cutR (rs.take (j+1)):=by rw[List.take_succ_eq_append_getElem hjl,hx,cutR_snoc,List.append_assoc]
     have HS2:=Lib.hid hst2;have hln2:(L0++cutR (rs.take j)).length<=1000000:=by
      have:=List.length_take_le j rs;rw[List.length_append,cutR_len];omega
     obtain ⟨Ac,nc,cc,rfl⟩:∃A n c,u5 = .slice A n c:=by
      obtain ⟨A,c,e,-⟩:=own_form HC2.out.1;exact ⟨_,_,_,e⟩
     have HL2:=Lib.hid hln2;clear hcr2 q1 q2 hblk hx hst2 hln2 hjl;have hownA:(wr.alloc (.cells #[.int .u8 (lo:Int), .int .u8 (hi:Int)] 84)).ownsRow w.heap.size 3 1 (.slice Ac nc cc) (L0++cutR (rs.take j)).length (ints (L0++cutR (rs.take j))):=HC2.out.1.alloc _;have hszA:(wr.alloc (.cells #[.int .u8 (lo:Int), .int .u8 (hi:Int)] 84)).heap.size=wr.heap.size+1:=by simp
     go_wp2_with (at_builtin; refine app_new (w:=wr.alloc (.cells #[.int .u8 (lo:Int), .int .u8 (hi:Int)] 84)) Tryz.underlying22 hii hj0 hj1 hj2 rfl _ _ _ _ 2 2 _ [.int .i64 (lo:Int), .int .i64 ((hi:Int)+1)] w.heap.size rfl rfl rfl (by rw[hszA]; rfl) rfl hownA (by intro u hu; simp at hu; rcases hu with rfl | rfl <;> rfl) (by have:=HL2.out; omega) (by have:=HL2.out; omega) (by omega) ?_)
     intro v' w3 hown3 hb3 hnil3;obtain ⟨A',n',c',rfl⟩:∃A n c,v' = .slice A n c:=by
      obtain ⟨A,c,e,-⟩:=own_form hown3;exact ⟨_,_,_,e⟩
     have hcu3:CU w.heap.size (.slice A' n' c') (L0++cutR (rs.take (j+1))) w3:=by
      rw[<-HS2.out];refine ⟨?_, .inr (by simp)⟩
      rw[ints_app,List.length_append,List.length_append];have:ints [lo,hi+1]=[.int .i64 (lo:Int), .int .i64 ((hi:Int)+1)]:=by simp[ints]
      rw[this];exact hown3
     have HC3:=Lib.hid hcu3;have HB3:=Lib.hid (HB2.out.trans ((((Below.refl w.heap.size wr).alloc (by omega) _)).trans (hb3.mono (Nat.le_refl _))))
     clear hown3 hb3 hnil3 hcu3 hownA;go_wp2_with fail;go_roundw
     case rel=>exact ⟨j+1,by omega,by go_num,HC3,HB3⟩
     case measure=>simp[intOf];omega
    .obtain rfl:j=nr:=by omega
     have hd2:decide ((j:Int)<(j:Int))=false:=decide_eq_false (by omega)
     have hc4:=HC2.out;rw[List.take_of_length_le (by rw[HNR.out];exact Nat.le_refl _),HST.out]at hc4
     have HC4:=Lib.hid hc4;clear hc4;go_wp2_with fail;go_roundw
     case rel=>exact ⟨k+1,by omega,by go_num,HC4,HB2⟩
     case measure=>simp[intOf];omega
  .obtain rfl:k=nf:=by omega
   have hd:decide ((k:Int)<(k:Int))=false:=decide_eq_false (by omega)
   have hcu:=HC.out;rw[List.take_of_length_le (by rw[HN.out.1];exact Nat.le_refl _)]at hcu
   have hlenL:(cutF b.sets fo).length<=2*257*k:=by rw[<-HN.out.1];exact cutF_len HSL.out.1 _
   have hso:=sorted_any u5 _ wr hcu.il (by omega)
   have HSO:=Lib.hid hso;obtain ⟨Ac,nc,cc,rfl⟩:∃A n c,u5 = .slice A n c:=by
    obtain ⟨A,c,e,-⟩:=own_form hcu.1;exact ⟨_,_,_,e⟩
   clear hcu hso HC;go_wp2_with fail;refine HSO.out.mono ?_;rintro e wB ⟨vc,cuts,rfl,hsf,hown,hil,hbB⟩;have hci:CutI b fo cuts:=⟨hsf.1,λp hp r hr=>by
    have:=cutF_mem (sets:=b.sets) hp hr;exact ⟨(hsf.2 _).2 this.1,(hsf.2 _).2 this.2⟩,λv hv=>cutF_le HSL.out.2 v ((hsf.2 v).1 hv)⟩
   have hB:=HBW.out.trans (hbB.mono HBW.out.size);have hout:outOf (fpG s mb vg) vc:=λg hg hm=>by have:=(hown.lt g hg).1;have:=(HLT.out g hm).2;have:=HBW.out.size;omega
   have hstart:EgR w0 s mb (.slice Av ns cv) v1 v2 b gs (fpG s mb vg) fo wB cuts 0 [] gs (fpG s mb vg) (.slice none 0 0) wB:=
    ⟨OR.nil_ _ _ _,λg hg=>by simp[Value.ownBlock]at hg,SbI.later ⟨vg,gv,F,rfl,HB.out⟩ hB,KeepF.refl _ _,hci.start gs,GrowG.refl _ _ _,⟨by omega,by simp⟩⟩
   obtain ⟨Av',cv',rfl,hcv1,hcv2⟩:=hil.form;obtain ⟨nc,hnc⟩:∃n,cuts.length=n:=⟨_,rfl⟩;have hnc257:nc<=257:=by rw[<-hnc];exact asc_len (a:=0) hsf.1 λp hp=>⟨Nat.zero_le _,by have:=hci.le p hp;omega⟩
   rw[hnc]at hcv1;have HST:=Lib.hid hstart;have HCI:=Lib.hid hci;have HIL:=Lib.hid (And.intro hil hout);have HBB:=Lib.hid hB;have HNC:=Lib.hid hnc;rw[hnc];have hwB:=hB.size;clear hsf hown hil hbB hci hB hout hstart hnc;go_wp2_with fail
   go_loopw [10,11] (λov iv wr=>∃(i:Nat) (row:List Ed) (gs':List (List Nat)) (fp':List Nat),(i=0\/i+1<=nc)/\iv = .int .i64 (i:Int)/\Hid (EgR w0 s mb (.slice Av ns cv) v1 v2 b gs (fpG s mb vg) fo wB cuts i row gs' fp' ov wr)) (λ_ iv _=>nc - (intOf iv).toNat)
   case atStart=>exact ⟨0,[],gs,fpG s mb vg, .inl rfl,rfl,HST⟩
   case round=>
    obtain ⟨i,row,gs',fp',hi,rfl,HE⟩:=hrel;have hkf:=HE.out.kf;obtain ⟨hswr,d0,-,-⟩:=HE.out.sb.cells;obtain ⟨Ao,no,co,rfl⟩:∃A n c,u10 = .slice A n c:=by
     obtain ⟨A,c,e,-⟩:=own_form HE.out.own;exact ⟨_,_,_,e⟩
    by_cases hlt3:i+1<nc
    .have hd3:decide ((i:Int)+1<(nc:Int))=true:=decide_eq_true (by omega)
     have hic:i+1<cuts.length:=by rw[HNC.out];exact hlt3
     obtain ⟨hl1,hl2⟩:=HCI.out.lt hic;have hilw:=(HIL.out.1.keep HIL.out.2 hkf).1;obtain ⟨gc,fc,rfl,hgc,hcc⟩:=hilw.at_ (show i<cuts.length by omega)
     obtain ⟨gc',fc',e',-,hcc'⟩:=hilw.at_ hic;obtain ⟨rfl,rfl⟩:gc=gc'/\fc=fc':=by injection e' with e';injection e' with e1 e2;exact ⟨e1,e2⟩
     have z0:=hcc wr rfl;have z1:=hcc' wr rfl;have e1:vAt cuts i=cuts[i]:=by unfold vAt;rw[List.getElem?_eq_getElem (by omega)];rfl
     have e2:vAt cuts (i+1)=cuts[i+1]:=by unfold vAt;rw[List.getElem?_eq_getElem hic];rfl
     obtain ⟨lo,hlo⟩:∃x,vAt cuts i=x:=⟨_,rfl⟩;obtain ⟨hi',hhi⟩:∃x,vAt cuts (i+1)=x:=⟨_,rfl⟩;rw[<-e1,hlo]at z0;rw[<-e2,hhi]at z1;rw[hlo,hhi]at hl1;rw[hhi]at hl2;have w1:IntKind.u8.wrap (lo:Int)=(lo:Int):=IntWalk.u8_in _ (by omega)
     have w2:IntKind.u8.wrap ((hi':Int) - 1)=(hi':Int) - 1:=IntWalk.u8_in _ (by omega)
     have w3:IntKind.i64.wrap ((i:Int)+1)=(i:Int)+1:=IntWalk.i64_in _ (by omega)
     have w4:((i:Int)+1).toNat=i+1:=by omega
     have w5:IntKind.i64.wrap ((hi':Int) - 1)=(hi':Int) - 1:=IntWalk.i64_in _ (by omega)
     have HVA:=Lib.hid (And.intro hlo hhi);have HIW:=Lib.hid hilw;clear hcc hcc' e' e1 e2 hilw hlo hhi;go_wp2_with fail
     go_quiet (fail)
     go_wp2_with fail;obtain ⟨WO,rfl⟩:∃W:World,W=wr:=⟨_,rfl⟩
     go_loopw [71,14] (λjv gvv wr=>∃j:Nat,j<=k/\jv = .int .i64 (j:Int)/\Hid (CU WO.heap.size gvv (selG b (fo.take j) lo) wr)/\Hid (Below WO.heap.size WO wr)) (λjv _ _=>k - (intOf jv).toNat)
     case atStart=>exact ⟨0,Nat.zero_le _,rfl,⟨World.ownsRow_nil _ _ _ _, .inl rfl⟩,⟨rfl,rfl,rfl,Nat.le_refl _,λ_ _=>rfl⟩⟩
     case round=>
      obtain ⟨j,hj,rfl,HC4,HB4⟩:=hrel;have hw4:=HB4.out.size;by_cases hlt4:j<k
      .have hd4:decide ((j:Int)<(k:Int))=true:=decide_eq_true (by omega)
       have hjl:j<fo.length:=by rw[HN.out.1];exact hlt4
       have hfo4:=((HV.out.later HBB.out).keep HO.out hkf).1;obtain ⟨gf,ff,rfl,hgf,hcf⟩:=hfo4.at_ hjl;have hc0:=hcf wr (HB4.out.block gf hgf);obtain ⟨p,hpe⟩:∃p,fo[j]=p:=⟨_,rfl⟩;have hpm:p∈fo:=by rw[<-hpe];exact List.getElem_mem hjl
       have hpl:=HFO.out p hpm;obtain ⟨gS,rv,rfl,-,hgS,hcS,hrg⟩:=((HS.out.later HBB.out).keep hkf).at_ hpl;have hcS2:=(World.cell?_of_block (a:=⟨gS,p,none⟩) (HB4.out.block gS hgS)).trans hcS;rw[hpe]at hc0;have hpn:p<ns:=by rw[<-HN.out.2];exact hpl
       have hdp:decide (p<ns)=true:=decide_eq_true hpn;obtain ⟨rs,hrs⟩:∃rs,b.sets[p]=rs:=⟨_,rfl⟩;rw[hrs]at hrg;have d04:=(World.cell?_of_block (a:=⟨s,0,none⟩) (HB4.out.block s hswr)).trans d0;have hb0:Below w0.heap.size w0 wr:=by
        have h1:=HBEL.out.trans (HBB.out.mono hw0w);have h2:Below w0.heap.size wB WO:=hkf.below (λq hq=>(HLT.out q hq).1) (by omega)
        exact (h1.trans h2).trans (HB4.out.mono (by have:=h2.size;omega))
       have hrw:=hrg.later hb0;have hbt:inR rs lo=setP b p lo:=by unfold setP;rw[List.getElem?_eq_getElem hpl,hrs];rfl
       have hsel:selG b (fo.take (j+1)) lo=if setP b p lo=true then selG b (fo.take j) lo++[p] else selG b (fo.take j) lo:=by
        unfold selG;rw[List.take_succ_eq_append_getElem hjl,hpe,List.filter_append];by_cases hx:setP b p lo=true <;> simp[hx]
       have HH:=Lib.hid (λW (h:RgIn W rv rs)=>holds_any rv rs lo W h);have HRW:=Lib.hid hrw;obtain ⟨q,hq⟩:∃q,inR rs lo=q:=⟨_,rfl⟩;rw[hq]at HH hbt;rw[<-hbt]at hsel;have HSE:=Lib.hid hsel;have hln4:(selG b (fo.take j) lo).length<=1000:=by
        have h1:(selG b (fo.take j) lo).length<=(fo.take j).length:=List.length_filter_le _ _;have h2:=List.length_take_le j fo;omega
       obtain ⟨Ag4,ng4,cg4,rfl⟩:∃A n c,u14 = .slice A n c:=by
        obtain ⟨A,c,e,-⟩:=own_form HC4.out.1;exact ⟨_,_,_,e⟩
       obtain ⟨Ar,cr,hrf,-⟩:=id hrw;obtain ⟨nr4,hnr4⟩:∃n,rs.length=n:=⟨_,rfl⟩;rw[hnr4]at hrf;subst hrf;have hgSr:gS<wr.heap.size:=by omega
       have hgfr:gf<wr.heap.size:=by omega
       have hsr:s<wr.heap.size:=by omega
       have HLN4:=Lib.hid hln4;clear hcf hpe hpm hpl hcS hrg hrs hb0 hrw hbt hsel hq hln4 hjl hfo4;go_wp2_with fail;refine (HH.out _ HRW.out).mono ?_;rintro e w5 ⟨rfl,hb5⟩;have HC5:=Lib.hid (HC4.out.later hb5);have HB5:=Lib.hid (HB4.out.trans (hb5.mono hw4));have hw5:=hb5.size;clear hb5
       cases q with
       | false=>
        have hse:=HSE.out;rw[if_neg (by decide)]at hse
        have hc6:=HC5.out;rw[<-hse]at hc6;have HC6:=Lib.hid hc6;clear hc6 hse;go_wp2_with fail;go_roundw
        case rel=>exact ⟨j+1,by omega,by go_num,HC6,HB5⟩
        case measure=>simp[intOf];omega
       | true=>
        have hse:=HSE.out;rw[if_pos rfl]at hse;have HS6:=Lib.hid hse;clear hse;have hown5:=HC5.out.1;go_wp2_with (at_builtin;refine app_new (w:=w5) Tryz.underlying22 hii hj0 hj1 hj2 rfl _ _ _ _ 1 1 _ [.int .i64 (p:Int)] WO.heap.size rfl rfl rfl rfl rfl hown5 (by intro u hu;simp at hu;subst hu;rfl) (by have:=HLN4.out;omega) (by have:=HLN4.out;omega) (by omega) ?_)
        intro v' w6 hown6 hb6 hnil6;obtain ⟨A',n',c',rfl⟩:∃A n c,v' = .slice A n c:=by
         obtain ⟨A,c,e,-⟩:=own_form hown6;exact ⟨_,_,_,e⟩
        have hcu6:CU WO.heap.size (.slice A' n' c') (selG b (fo.take (j+1)) lo) w6:=by
         rw[HS6.out];refine ⟨?_, .inr (by simp)⟩
         rw[ints_app,List.length_append];exact hown6
        have HC6:=Lib.hid hcu6;have HB6:=Lib.hid (HB5.out.trans hb6);clear hown6 hb6 hnil6 hcu6 hown5;go_wp2_with fail;go_roundw
        case rel=>exact ⟨j+1,by omega,by go_num,HC6,HB6⟩
        case measure=>simp[intOf];omega
      .obtain rfl:j=k:=by omega
       have hd4:decide ((j:Int)<(j:Int))=false:=decide_eq_false (by omega)
       have hc7:=HC4.out;rw[List.take_of_length_le (by rw[HN.out.1];exact Nat.le_refl _)]at hc7
       have hsb4:=HE.out.sb.later HB4.out;have hown4:OR 195 3 edC wB.heap.size (.slice Ao no co) row wr:=HE.out.own.later HB4.out;have hkf4:=hkf.trans (KeepF.of_below HB4.out);have hil7:=hc7.il;have hti7:=TI.of_own hc7.1;have hou7:outOf fp' (u14):=λg hg hm=>by have:=(hc7.1.lt g hg).1;have:=(HE.out.sb.lt g hm).2;omega
       have hgl:=HE.out.ln;by_cases hS0:selG b fo lo=[]
       .have hR1:=HCI.out.skip hic HE.out.ri (by rw[HVA.out.1];exact hS0)
        obtain ⟨A7,c7,e7,-⟩:=own_form hc7.1;rw[hS0,List.length_nil]at e7;subst e7;have HEN:Hid (EgR w0 s mb (.slice Av ns cv) v1 v2 b gs (fpG s mb vg) fo wB cuts (i+1) row gs' fp' (.slice Ao no co) wr):=⟨hown4,HE.out.out,hsb4,hkf4,hR1,HE.out.gg,by omega⟩
        clear hc7 hsb4 hown4 hkf4 hil7 hti7 hou7 hS0 hR1;go_wp2_with fail;go_roundw
        case rel=>exact ⟨i+1,row,gs',fp', .inr (by omega),by go_num,HEN⟩
        case measure=>simp[intOf];omega
       .obtain ⟨A7,c7,e7,hc7a,hc7b⟩:=own_form hc7.1;obtain ⟨SS,hSS⟩:∃x,selG b fo lo=x:=⟨_,rfl⟩;obtain ⟨n7,hn7⟩:∃n,SS.length=n:=⟨_,rfl⟩;rw[hSS,hn7]at e7 hc7a;subst e7;have hn70:0<n7:=by rw[<-hn7];rw[hSS]at hS0;cases SS with | nil=>exact absurd rfl hS0 | cons a r=>simp
        have hd7:decide ((0:Int)<(n7:Int))=true:=decide_eq_true (by omega)
        have hn7l:n7<=1000:=by
         rw[<-hn7,<-hSS];have h1:(selG b fo lo).length<=fo.length:=List.length_filter_le _ _;rw[HN.out.1]at h1;omega
        have hvrw:VrOK wr:=by
         have h1:=HVR.out.later HBB.out;have hlow:=HVR.out.low;have h2:Below w.heap.size wB WO->VrOK WO:=λh=>h1.below h hlow;have h3:VrOK WO:=h1.of_low hkf.size λq hq=>hkf.blk q (by omega) λhm=>by have:=(HLT.out q hm).1;omega
         exact h3.later HB4.out
        rw[hSS]at hil7;have hnum:=number_any w0.heap.size s mb _ v1 v2 gs' fp' wr SS _ hsb4 hil7 hou7 hti7 (by omega) (λp hp=>by rw[<-hSS]at hp;have:=HFO.out p (selG_mem.1 hp).1;have:=HN.out.2;omega) (by have:=HGS.out;omega) hvrw
        have HNU:=Lib.hid hnum;have HO4:=Lib.hid hown4;have HK4:=Lib.hid hkf4;have HSS:=Lib.hid (And.intro hSS hS0);have hswr4:s<wr.heap.size:=by omega
        clear hc7 hnum hown4 hkf4 hsb4 hil7 hti7 hou7 hSS hS0 hn7 hvrw;go_wp2_with fail;refine HNU.out.mono ?_;rintro e w8 ⟨fp8,rfl,hsb8,hkf8⟩;obtain ⟨n8,hn8⟩:∃n,(addG gs' SS).idxOf SS=n:=⟨_,rfl⟩;rw[hn8];have ho8:OR 195 3 edC wB.heap.size (.slice Ao no co) row w8:=HO4.out.keep λq hq=>hkf8.blk q (World.ownsRow.lt HO4.out q hq).2 (HE.out.out q hq);have hout8:=outOf_keep HE.out.out (λq hq=>(World.ownsRow.lt HO4.out q hq).2) hkf8;have HK8:=Lib.hid (HK4.out.trans hkf8);have HS8:=Lib.hid hsb8;have HO8:=Lib.hid ho8;have HU8:=Lib.hid hout8;have HN8:=Lib.hid hn8;have hz8:=hkf8.size;have hownA:(w8.alloc (.cells #[.int .u8 (lo:Int), .int .u8 ((hi':Int) - 1), .int .i64 (n8:Int)] 195)).ownsRow wB.heap.size 195 3 (.slice Ao no co) row.length (rowF edC row):=World.ownsRow.alloc ho8 _;have hcx:∀j u,[Value.int .u8 (lo:Int), .int .u8 ((hi':Int) - 1), .int .i64 (n8:Int)][j]?=some u->(w8.alloc (.cells #[.int .u8 (lo:Int), .int .u8 ((hi':Int) - 1), .int .i64 (n8:Int)] 195)).cell? ((⟨w8.heap.size,0,none⟩:Addr).add j)=some u:=by
         intro j u hj;rw[Addr.add_lit,Nat.zero_add,World.cell?_alloc_mark];simpa using hj
        obtain ⟨i3,hi3,hk0,hk1,hk2⟩:=info_parts info_ed;clear hsb8 hkf8 ho8 hout8 hn8;have hbz:wB.heap.size<=(w8.alloc (.cells #[.int .u8 (lo:Int), .int .u8 ((hi':Int) - 1), .int .i64 (n8:Int)] 195)).heap.size:=by have:=HK8.out.size;simp;omega
        go_wp2_with (at_builtin; refine appI_at rfl _ _ 187 rfl wB.heap.size 195 i3 _ 3 16 Tryz.underlying187 hi3 hk0 hk1 hk2 rfl (by decide) _ row.length (rowF edC row) rfl hownA ⟨w8.heap.size,0,none⟩ 1 1 [.int .u8 (lo:Int), .int .u8 ((hi':Int) - 1), .int .i64 (n8:Int)] rfl rfl hcx (by intro u hu; simp at hu; rcases hu with rfl | rfl | rfl <;> rfl) (by unfold maxLen; omega) (by omega) hbz ?_)
        intro v' w9 hown9 hg9 hf9;obtain ⟨A9,n9,c9,rfl⟩:∃A n c,v' = .slice A n c:=by
         obtain ⟨A,c,e,-⟩:=own_form hown9;exact ⟨_,_,_,e⟩
        have hEN:EgR w0 s mb (.slice Av ns cv) v1 v2 b gs (fpG s mb vg) fo wB cuts (i+1) (row++[⟨lo,hi' - 1,n8⟩]) (addG gs' SS) fp8 (.slice A9 n9 c9) w9:=by
         have hBA:Below w8.heap.size w8 (w8.alloc (.cells #[.int .u8 (lo:Int), .int .u8 ((hi':Int) - 1), .int .i64 (n8:Int)] 195)):=(Below.refl _ _).alloc (Nat.le_refl _) _;have hzA:(w8.alloc (.cells #[.int .u8 (lo:Int), .int .u8 ((hi':Int) - 1), .int .i64 (n8:Int)] 195)).heap.size=w8.heap.size+1:=by simp
         refine ⟨?_,?_,(HS8.out.later hBA).grown hownA (by decide) HU8.out hg9,((HK8.out.trans (KeepF.of_below hBA)).grown hg9 λq hq=>(hownA.lt q hq).1),?_,?_,?_⟩
         .show w9.ownsRow _ _ _ _ (row++[_]).length (rowF edC (row++[_]));rw[rowF_app,rowF_single,List.length_append];have:edC ⟨lo,hi' - 1,n8⟩=[Value.int .u8 (lo:Int), .int .u8 ((hi':Int) - 1), .int .i64 (n8:Int)]:=by
           unfold edC;simp only[List.cons.injEq,Value.int.injEq,true_and,and_true];omega
          rw[this];exact hown9
         .intro q hq;rcases hf9 with hf | ⟨q',hf,hq'⟩
          .rw[hf]at hq;exact HU8.out q hq
          .rw[hf]at hq;injection hq with hq;subst hq;intro hm;have:=(HS8.out.lt q' hm).2;omega
         .have:=HCI.out.add hic HE.out.ri (by
           have hg:=HE.out.gg;obtain ⟨more,e,-,-⟩:=hg;rw[e];have hl:0<gs.length:=(List.getElem?_eq_some_iff.1 H0.out).1;rw[List.getElem?_append_left hl];exact H0.out) (by rw[HVA.out.1];exact HSS.out.2)
          rw[HVA.out.1,HVA.out.2,HSS.out.1,HN8.out]at this;rw[HVA.out.2];exact this
         .have:=HE.out.gg.add (c:=lo) (by omega) HSS.out.2
          rw[HSS.out.1]at this;exact this
         .have h1:=(addG_len gs' SS).2;rw[List.length_append,List.length_singleton];omega
        have HEN:=Lib.hid hEN;clear hown9 hg9 hf9 hEN hownA hcx hbz;go_wp2_with fail;go_roundw
        case rel=>exact ⟨i+1,_,_,fp8, .inr (by omega),by go_num,HEN⟩
        case measure=>simp[intOf];omega
    .have hd3:decide ((i:Int)+1<(nc:Int))=false:=decide_eq_false (by omega)
     have w3:IntKind.i64.wrap ((i:Int)+1)=(i:Int)+1:=IntWalk.i64_in _ (by omega)
     go_wp2_with fail;refine post_named λWf hWf=>?_;subst hWf;refine bodyPost_ret (v:=.slice Ao no co) (by simp[results,Tryz.results137,go_sem];try rfl) rfl ?_
     have hri:=HCI.out.done (by rw[HNC.out];omega) HE.out.ri
     exact ⟨row,gs',fp',_,rfl,⟨EdIn.of_OR HE.out.own,HE.out.out,λg hg=>⟨Nat.le_trans HBB.out.size (World.ownsRow.lt HE.out.own g hg).1,(World.ownsRow.lt HE.out.own g hg).2⟩⟩,HE.out.sb,(KeepF.of_below HBB.out).trans hkf,hri,HE.out.gg,by have:=HE.out.ln;omega,by have:=HE.out.ln;omega⟩
end Go.Proofs.YtdmoogjddmdmbaaGreatDoor
namespace Go.Proofs.YtdmoogjddmdmbaaGreatDoor
set_option linter.unusedVariables false
set_option linter.unusedSimpArgs false
set_option maxRecDepth 100000
open Go.RowKit
open Go.Maps (Keyed)
theorem KeepF.appL {f1 f2:List Nat} (g:List Nat) {a b:World} (h:KeepF f1 f2 a b):KeepF (f1++g) (f2++g) a b:=
 ⟨h.os,h.tape,h.output,h.size,λk hk hn=>h.blk k hk λhm=>hn (List.mem_append_left _ hm),λk hk=>(List.mem_append.1 hk).elim (λhm=>(h.new k hm).imp (List.mem_append_left _) id) λhm=>.inl (List.mem_append_right _ hm)⟩
theorem KeepF.appR {f1 f2:List Nat} (g:List Nat) {a b:World} (h:KeepF f1 f2 a b):KeepF (g++f1) (g++f2) a b:=
 ⟨h.os,h.tape,h.output,h.size,λk hk hn=>h.blk k hk λhm=>hn (List.mem_append_right _ hm),λk hk=>(List.mem_append.1 hk).elim (λhm=>.inl (List.mem_append_left _ hm)) λhm=>(h.new k hm).imp (List.mem_append_right _) id⟩
theorem SL.out {fp fp':List Nat} {w w':World} {v:Value} {l:List Nat} (h:SL w v l) (ho:outOf fp v) (hk:KeepF fp fp' w w') (hl:∀g,v.ownBlock=some g->g<w.heap.size):SL w' v l/\outOf fp' v:=
 ⟨h.keep ho hk,λg hg hm=>(hk.new g hm).elim (ho g hg) λhz=>by have:=hl g hg;omega⟩
def FolC (L:List Nat) (w:World) (v:Value) (fol:List (List Nat)):Prop:=∃g c,v = .slice (some ⟨g,0,none⟩) fol.length c/\(fol.length<=c/\c<=9223372036854775807)/\g<w.heap.size/\g∉L/\
 ∀i (h:i<fol.length),∃rv,w.cell? ⟨g,i,none⟩=some rv/\SL w rv fol[i]/\outOf L rv/\(∀k,rv.ownBlock=some k->k<w.heap.size)/\∀n c,rv = .slice none n c->c=0
def EnC (L:List Nat) (w:World) (v:Value) (n:Nat) (last:List Nat):Prop:=∃g,v = .slice (some ⟨g,0,none⟩) n n/\g<w.heap.size/\g∉L/\∀p,p<n->w.cell? ⟨g,p,none⟩=some (.bool (decide (p∈last)))
theorem FolC.keep {L L':List Nat} {w w':World} {v:Value} {fol:List (List Nat)} (h:FolC L w v fol) (hk:KeepF L L' w w'):FolC L' w' v fol:=by
 obtain ⟨g,c,rfl,hc,hg,hn,hcell⟩:=h;refine ⟨g,c,rfl,hc,Nat.lt_of_lt_of_le hg hk.size,λhm=>(hk.new g hm).elim hn (λh=>by omega),λi hi=>?_⟩
 obtain ⟨rv,h1,h2,h3,h4,h5⟩:=hcell i hi;obtain ⟨q1,q2⟩:=h2.out h3 hk h4;exact ⟨rv,(World.cell?_of_block (a:=⟨g,i,none⟩) (hk.blk g hg hn)).trans h1,q1,q2,λk hk2=>Nat.lt_of_lt_of_le (h4 k hk2) hk.size,h5⟩
theorem EnC.keep {L L':List Nat} {w w':World} {v:Value} {n:Nat} {last:List Nat} (h:EnC L w v n last) (hk:KeepF L L' w w'):EnC L' w' v n last:=by
 obtain ⟨g,rfl,hg,hn,hcell⟩:=h;exact ⟨g,rfl,Nat.lt_of_lt_of_le hg hk.size,λhm=>(hk.new g hm).elim hn (λh=>by omega),λp hp=>(World.cell?_of_block (a:=⟨g,p,none⟩) (hk.blk g hg hn)).trans (hcell p hp)⟩
structure CpS (w0:World) (L:List Nat) (v0 v1 v2:Value) (b:Pb) (x:Prt) (P:Nat) (vx vy:Value) (w:World):Prop where
 set:SetC w0 L w v0 b.sets
 fol:FolC L w v1 b.fol
 ends:EnC L w v2 b.sets.length x.last
 prt:w.heap[P]?=some (.cells #[vx,vy, .bool x.emp] 184 (0,0))/\P∉L
 fst:IL w vx x.first/\outOf L vx
theorem CpS.keep {w0:World} {L L':List Nat} {v0 v1 v2:Value} {b:Pb} {x:Prt} {P:Nat} {vx vy:Value} {w w':World} (h:CpS w0 L v0 v1 v2 b x P vx vy w) (hk:KeepF L L' w w'):CpS w0 L' v0 v1 v2 b x P vx vy w':=by
 have hP:=(Array.getElem?_eq_some_iff.1 h.prt.1).1;exact ⟨h.set.keep hk,h.fol.keep hk,h.ends.keep hk,⟨(hk.blk P hP h.prt.2).trans h.prt.1,λhm=>(hk.new P hm).elim h.prt.2 (λh=>by omega)⟩,h.fst.1.keep h.fst.2 hk⟩
theorem CpS.later {w0:World} {L:List Nat} {v0 v1 v2:Value} {b:Pb} {x:Prt} {P:Nat} {vx vy:Value} {w w':World} (h:CpS w0 L v0 v1 v2 b x P vx vy w) (hb:Below w.heap.size w w'):CpS w0 L v0 v1 v2 b x P vx vy w':=h.keep (KeepF.of_below hb)
theorem SbI.apart {B s mb:Nat} {v0 v1 v2:Value} {gs:List (List Nat)} {fp L L':List Nat} {w w':World} (h:SbI B s mb v0 v1 v2 gs fp w) (hk:KeepF L L' w w') (hd:∀k∈L,k∉fp) (ht:∀k∈L,∃cs e m,w.heap[k]?=some (.cells cs e m)/\e≠3):SbI B s mb v0 v1 v2 gs fp w':=by
 obtain ⟨vg,gv,F,rfl,h⟩:=h;refine ⟨vg,gv,F,rfl,h.same (λk hm=>hk.blk k (h.lt k hm).2 λhl=>hd k hl hm) hk.size λv l hi _ hti=>?_⟩;have ho:outOf L v:=λg hg hl=>by
  obtain ⟨cs,m,e1⟩:=hti g hg;obtain ⟨cs',e',m',e2,hne⟩:=ht g hl;rw[e1]at e2;injection e2 with e2;injection e2 with _ e3 _;exact hne e3.symm
 exact ⟨(hi.keep ho hk).1,hti.keep ho hk⟩
theorem MkM.types {B N:Nat} {fx:List Nat} {vE vA:Value} {gv:List Value} {rs:List (List Ed)} {acs:List Bool} {w:World} (h:MkM B N fx vE vA gv rs acs w):∀k∈fpM N vE vA,∃cs e m,w.heap[k]?=some (.cells cs e m)/\e≠3:=λk hk=>by
 rcases mem_fpM.1 hk with rfl | hk | hk
 .exact ⟨_,_,_,h.hN,by decide⟩
 .obtain ⟨cs,m,e⟩:=own_type h.own k hk;exact ⟨cs,_,m,e,by decide⟩
 .obtain ⟨cs,m,e⟩:=own_type (show w.ownsRow _ _ _ _ _ _ from h.acc) k hk;exact ⟨cs,_,m,e,by decide⟩
theorem app_CU {P:Program} {i0:TypeInfo} {T e:TypeId} (ht:P.underlying T=some (.slice e)) (hi:P.info? e=some i0) (hz0:i0.zero=some (.int .i64 0)) (hz1:i0.size=1) (hz2:i0.bytes=8) (he:e=3)
  {w:World} {ops:Array Oper} {rest:List Oper} {o:Oper} {a:Act} {Q:Exit->Act->World->Prop} (s x:Operand) (v:Value) (A:Option Addr) (n c:Nat) (L l:List Nat) (B:Nat)
  (hgd:o.guard=none) (ho:o.op = .call { callee:=.builtin .append,args:=#[s,x],argTypes:=#[T,T] }) (hs:a.eval s=v) (hx:a.eval x = .slice A n c) (hown:CU B v L w) (hl:SL w (.slice A n c) l) (hA:A=none->c=0) (hlen:L.length+l.length<=10000000000000) (hB:B<=w.heap.size)
  (h:∀v' w1,CU B v' (L++l) w1->Below B w w1->wpList P ops Q rest (a.put o.dst v') w1):wpList P ops Q (o::rest) a w:=by
 subst he;obtain ⟨A',c',e',hc,hor⟩:=hl;injection e' with e1 e2 e3;subst e1 e2 e3;rcases hor with rfl | ⟨g,f,rfl,hg,hcell⟩
 .cases A with
  | none=>
   obtain rfl:=hA rfl;refine wpList_append_own_none hgd s x T ho B _ i0 1 ht hi v L.length _ hs hown.1 hx ?_;exact h v w (by rw[List.append_nil];exact hown) (Below.refl B w)
  | some ad=>
   refine wpList_append_own _ hgd s x T ho B _ i0 _ 1 8 ht hi hz0 hz1 hz2 rfl (by decide) v L.length _ hs hown.1 ad 0 c [] hx rfl (by intro j u hj;simp at hj) (by intro u hu;cases hu) (by unfold maxLen;simp at hlen;omega) (by simp at hlen;omega) hB ?_
   intro v' w1 hown1 hg hn;refine h v' w1 ⟨by rw[List.append_nil];simpa using hown1,?_⟩ ((Below.refl B w).grown hg hB λk hk=>(hown.1.lt k hk).1)
   rcases hown.2 with h1 | h1
   .exact .inl (hn.2 ⟨h1,rfl⟩)
   .exact .inr (by simpa using h1)
 .refine wpList_append_own _ hgd s x T ho B _ i0 _ 1 8 ht hi hz0 hz1 hz2 rfl (by decide) v L.length _ hs hown.1 ⟨g,f,none⟩ l.length c (ints l) hx (by rw[ints_len,Nat.mul_one]) (λj u hj=>?_) (λu hu=>?_) (by unfold maxLen;omega) (by omega) hB ?_
  .unfold ints at hj;rw[List.getElem?_map]at hj
   cases hq:l[j]? with
   | none=>rw[hq]at hj;cases hj
   | some y=>
    rw[hq]at hj;obtain ⟨hjl,hje⟩:=List.getElem?_eq_some_iff.1 hq;rw[Addr.add_lit,hcell j hjl,hje];exact hj
  .unfold ints at hu;obtain ⟨y,-,rfl⟩:=List.mem_map.1 hu;rfl
  .intro v' w1 hown1 hg hn;refine h v' w1 ⟨by rw[ints_app,List.length_append];exact hown1,?_⟩ ((Below.refl B w).grown hg hB λk hk=>(hown.1.lt k hk).1)
   by_cases hl0:L++l=[]
   .obtain ⟨h1,h2⟩:=List.append_eq_nil_iff.1 hl0;exact .inl (hn.2 ⟨hown.2.resolve_right (λh=>h h1),by rw[h2];rfl⟩)
   .exact .inr hl0
theorem nil_cls {cs:List (Option Nat)} {m:Mc} (h:ClsOK m (clF cs)) (h1:1<=m.ed.length) (hc:clF cs 0=none):¬LiveS m 0:=(h.dead 0 (by omega)).1 hc
theorem mcsm_nil:McSm ⟨[[]],[false]⟩:=⟨λr hr e he=>(by simp at hr;subst hr;cases he),λr hr=>(by simp at hr;subst hr;simp),by simp⟩
theorem info_es:(Tryz.prog.info? 187).map (λi=>(i.zero,i.size,i.bytes))=some (some (.slice none 0 0),1,24):=by kernel_rfl
theorem own_at1 {w:World} {B n c:Nat} {e:TypeId} {xs:List Value} {A:Option Addr} (h:w.ownsRow B e 1 (.slice A n c) n xs) (hn:0<n):∃g,A=some ⟨g,0,none⟩/\B<=g/\g<w.heap.size/\∀i,i<n->w.cell? ⟨g,i,none⟩=xs[i]?:=by
 rcases h.2 with ⟨h1,h2⟩ | ⟨g,cap,cur,h1,hB,hg,-⟩
 .exfalso;injection h1 with h1 h1';omega
 .injection h1 with h1 _ h3;subst h1;exact ⟨g,rfl,hB,(Array.getElem?_eq_some_iff.1 hg).1,λi hi=>World.ownsRow.cellAt h i (by omega)⟩
def factL10 (M gs nst cst i s ge fe n ce nrow cr g3 cc:Nat) (Ar:Option Addr) (J:List Ed) (W:World):Nat->Nat->Value->World->Prop
 | c,0,x,w=>x = .pointer (some ⟨M,0,none⟩)
 | c,1,x,w=>x = .slice (some ⟨ge,fe,none⟩) n ce
 | c,2,x,w=>x = .slice (some ⟨gs,0,none⟩) nst cst
 | c,3,x,w=>x = .int .i64 (i:Int)
 | c,4,x,w=>x = .pointer (some ⟨gs,i,none⟩)
 | c,5,x,w=>x = .int .i64 (s:Int)
 | c,6,x,w=>x = .pointer (some ⟨ge,fe+s,none⟩)
 | c,7,x,w=>x = .slice Ar nrow cr
 | c,8,x,w=>x = .slice (some ⟨g3,0,none⟩) n cc
 | c,9,x,w=>1<=c->∃A c',x = .slice A J.length c'/\OR 195 3 edC W.heap.size x J w
 | _,_,_,_=>True
def factL21 (N M gs nst cst i s ga fa n ca nj cj cE cA B0:Nat) (AE AV Aj:Option Addr) (gv av:List Value) (a:Bool) (W:World):Nat->Nat->Value->World->Prop
 | c,0,x,w=>x = .pointer (some ⟨N,0,none⟩)
 | c,1,x,w=>x = .slice AE i cE
 | c,2,x,w=>x = .slice Aj nj cj
 | c,3,x,w=>∃g,x = .slice (some ⟨g,0,none⟩) 1 1/\W.heap.size<=g/\g<w.heap.size/\w.cell? ⟨g,0,none⟩=some (.slice Aj nj cj)
 | c,4,x,w=>1<=c->∃A c',x = .slice A (i+1) c'/\w.ownsRow B0 187 1 x (i+1) (gv++[.slice Aj nj cj])/\Fresh x (.slice AE i cE) W.heap.size
 | c,5,x,w=>x = .pointer (some ⟨N,1,none⟩)
 | c,6,x,w=>x = .slice AV i cA
 | c,7,x,w=>x = .pointer (some ⟨M,1,none⟩)
 | c,8,x,w=>x = .slice (some ⟨ga,fa,none⟩) n ca
 | c,9,x,w=>x = .slice (some ⟨gs,0,none⟩) nst cst
 | c,10,x,w=>x = .int .i64 (i:Int)
 | c,11,x,w=>x = .pointer (some ⟨gs,i,none⟩)
 | c,12,x,w=>x = .int .i64 (s:Int)
 | c,13,x,w=>x = .pointer (some ⟨ga,fa+s,none⟩)
 | c,14,x,w=>x = .bool a
 | c,15,x,w=>∃g,x = .slice (some ⟨g,0,none⟩) 1 1/\W.heap.size<=g/\g<w.heap.size/\w.cell? ⟨g,0,none⟩=some (.bool a)
 | c,16,x,w=>2<=c->∃A c',x = .slice A (i+1) c'/\w.ownsRow B0 4 1 x (i+1) (av++[.bool a])/\Fresh x (.slice AV i cA) W.heap.size
 | c,17,x,w=>x = .pointer (some ⟨N,0,none⟩)
 | c,18,x,w=>3<=c->∃A c',w.ownsRow B0 187 1 (.slice A (i+1) c') (i+1) (gv++[.slice Aj nj cj])/\Fresh (.slice A (i+1) c') (.slice AE i cE) W.heap.size/\w.heap[N]?=some (.cells #[.slice A (i+1) c', .slice AV i cA] 93 (0,0))
 | c,19,x,w=>x = .pointer (some ⟨N,1,none⟩)
 | _,_,_,_=>True
section
variable {N M gs nst cst i s ga fa n ca nj cj cE cA B0:Nat} {AE AV Aj:Option Addr} {gv av:List Value} {a:Bool} {W u u':World}
theorem factL21_bl (hb:Below u.heap.size u u') {c j:Nat} {x:Value} (h:factL21 N M gs nst cst i s ga fa n ca nj cj cE cA B0 AE AV Aj gv av a W c j x u):factL21 N M gs nst cst i s ga fa n ca nj cj cE cA B0 AE AV Aj gv av a W c j x u':=by
 match j with
 | 0 | 1 | 2 | 5 | 6 | 7 | 8 | 9 | 10 | 11 | 12 | 13 | 14 | 17 | 19=>exact h
 | 3 | 15=>
  obtain ⟨g,e,h1,hg,h0⟩:=h;exact ⟨g,e,h1,Nat.lt_of_lt_of_le hg hb.size,(hb.cell (p:=⟨g,0,none⟩) hg).trans h0⟩
 | 4 | 16=>
  intro hc;obtain ⟨A,c',e,ho,hf⟩:=h hc;exact ⟨A,c',e,own_later ho hb,hf⟩
 | 18=>
  intro hc;obtain ⟨A,c',ho,hf,hr⟩:=h hc;exact ⟨A,c',own_later ho hb,hf,(hb.block _ (Array.getElem?_eq_some_iff.1 hr).1).trans hr⟩
 | _+20=>exact trivial
theorem factL21_01 (hg:u.grownBy u' (Value.slice AE i cE).ownBlock) (hv:∀g,(Value.slice AE i cE).ownBlock=some g->g<W.heap.size) (j:Nat) (x:Value) (hj:j≠4) (h:factL21 N M gs nst cst i s ga fa n ca nj cj cE cA B0 AE AV Aj gv av a W 0 j x u):factL21 N M gs nst cst i s ga fa n ca nj cj cE cA B0 AE AV Aj gv av a W 1 j x u':=by
 match j with
 | 0 | 1 | 2 | 5 | 6 | 7 | 8 | 9 | 10 | 11 | 12 | 13 | 14 | 17 | 19=>exact h
 | 3 | 15=>exact f814 hg hv h
 | 4=>exact absurd rfl hj
 | 16 | 18=>exact λhc=>by omega
 | _+20=>exact trivial
theorem factL21_12 (hg:u.grownBy u' (Value.slice AV i cA).ownBlock) (hv:∀g,(Value.slice AV i cA).ownBlock=some g->g<W.heap.size) (hd:∀g,(Value.slice AV i cA).ownBlock=some g->(Value.slice AE i cE).ownBlock≠some g) (j:Nat) (x:Value) (hj:j≠16) (h:factL21 N M gs nst cst i s ga fa n ca nj cj cE cA B0 AE AV Aj gv av a W 1 j x u):factL21 N M gs nst cst i s ga fa n ca nj cj cE cA B0 AE AV Aj gv av a W 2 j x u':=by
 match j with
 | 0 | 1 | 2 | 5 | 6 | 7 | 8 | 9 | 10 | 11 | 12 | 13 | 14 | 17 | 19=>exact h
 | 3 | 15=>exact f814 hg hv h
 | 4=>
  intro _;obtain ⟨A,c',e,ho,hf⟩:=h (by decide)
  refine ⟨A,c',e,own_same ho λg hgx=>hg.block g (ho.lt g hgx).2 (λe2=>?_),hf⟩;rcases hf with hf | ⟨g',hf,h2⟩
  .rw[hf]at hgx;exact hd g e2.symm hgx
  .rw[hf]at hgx;injection hgx with hgx;have:=hv g e2.symm;omega
 | 16=>exact absurd rfl hj
 | 18=>exact λhc=>by omega
 | _+20=>exact trivial
theorem factL21_23 (hs:N<W.heap.size) (hsS:(Value.slice AE i cE).ownBlock≠some N) (hsF:(Value.slice AV i cA).ownBlock≠some N) (v:Value) (j:Nat) (x:Value) (hj:j≠18) (h:factL21 N M gs nst cst i s ga fa n ca nj cj cE cA B0 AE AV Aj gv av a W 2 j x u):factL21 N M gs nst cst i s ga fa n ca nj cj cE cA B0 AE AV Aj gv av a W 3 j x (u.setCell ⟨N,0,none⟩ v):=by
 have hset:∀k,k≠N->(u.setCell ⟨N,0,none⟩ v).heap[k]?=u.heap[k]?:=λk hk=>Below.heap_setCell _ _ _ _ hk
 match j with
 | 0 | 1 | 2 | 5 | 6 | 7 | 8 | 9 | 10 | 11 | 12 | 13 | 14 | 17 | 19=>exact h
 | 3 | 15=>
  obtain ⟨g,e,h1,h2,h3⟩:=h;exact ⟨g,e,h1,by simpa [World.setCell] using h2,(World.cell?_of_block (a:=⟨g,0,none⟩) (hset g (by omega))).trans h3⟩
 | 4=>
  intro _;obtain ⟨A,c',e,ho,hf⟩:=h (by decide)
  refine ⟨A,c',e,own_same ho λg hgx=>hset g (λe2=>?_),hf⟩;subst e2;rcases hf with hf | ⟨g',hf,h2⟩
  .rw[hf]at hgx;exact hsS hgx
  .rw[hf]at hgx;injection hgx with hgx;omega
 | 16=>
  intro _;obtain ⟨A,c',e,ho,hf⟩:=h (by decide)
  refine ⟨A,c',e,own_same ho λg hgx=>hset g (λe2=>?_),hf⟩;subst e2;rcases hf with hf | ⟨g',hf,h2⟩
  .rw[hf]at hgx;exact hsF hgx
  .rw[hf]at hgx;injection hgx with hgx;omega
 | 18=>exact absurd rfl hj
 | _+20=>exact trivial
end
set_option maxHeartbeats 16000000 in
theorem least_of (v:Value) (m:Mc) (w:World) (hm:McIn w v m) (hv:Vld m) (hsm:McSm m) (h1:1<=m.ed.length)
  (hal:∀W,Below w.heap.size w W->Calls Tryz.prog 170 #[v] W (ClPost m m.ed.length W)):Calls Tryz.prog 139 #[v] w (LePost m w):=by
 obtain ⟨ve,va,rfl,he,ha⟩:=hm;obtain ⟨Ae,ce,rfl,hce1,hce2⟩:=he.form;obtain ⟨Aa,ca,rfl,hca1,hca2⟩:=ha.form;obtain ⟨n,hn⟩:∃n,m.ed.length=n:=⟨_,rfl⟩;have hac:m.ac.length=n:=by rw[hv.len,hn]
 have hnn:=hsm.n;rw[hac]at ha hca1;rw[hn]at he hce1 h1 hnn;rw[hn,hac]at hal;have HAL:=Lib.hid hal;have HE:=Lib.hid he;have HA:=Lib.hid ha;have HV:=Lib.hid hv;have HSM:=Lib.hid hsm;have HN:=Lib.hid (And.intro hn hac);have HN1:=Lib.hid h1;have K:Keyed Tryz.prog 3:=Maps.int_keyed Tryz.underlying3;have hz:∀w,(zeroValue 3).run Tryz.prog w = .ok (.int .i64 0) w:=λ_=>by kernel_rfl
 have hmm:=@run_makeMap Tryz.prog;obtain ⟨ie,hie,he0,he1,he2⟩:=info_parts info_es;obtain ⟨ib,hib,hb0,hb1,hb2⟩:=info_parts info_bool;obtain ⟨ii,hii,hj0,hj1,hj2⟩:=info_parts info_int;rw[hac,hn];clear hal he ha hv hsm hn hac
 go_enter Tryz.func139,Tryz.ntmps139
 go_wp2_with fail;refine (HAL.out _ ?hb0).mono ?_
 case hb0=>exact ((Below.refl w.heap.size w).alloc (Nat.le_refl _) _).alloc (by simp) _
 rintro e w1 ⟨rv,cs,rfl,hown1,hb1,hl1,hok1,hlt1⟩;have hsz0:((w.alloc (.cells #[.slice Ae n ce, .slice Aa n ca] 93)).alloc (.cells #[.slice none 0 0, .slice none 0 0] 93)).heap.size=w.heap.size+2:=by simp
 rw[hsz0]at hown1 hb1;have hbx0:w1.heap[w.heap.size]?=some (.cells #[.slice Ae n ce, .slice Aa n ca] 93 (0,0)):=(hb1.block _ (by omega)).trans ((old_alloc _ _ _ (by simp)).trans (heap_alloc_new w _))
 have hbx1:w1.heap[w.heap.size+1]?=some (.cells #[.slice none 0 0, .slice none 0 0] 93 (0,0)):=(hb1.block _ (by omega)).trans (by simpa using heap_alloc_new (w.alloc (.cells #[.slice Ae n ce, .slice Aa n ca] 93)) (.cells #[.slice none 0 0, .slice none 0 0] 93))
 have hz1:=hb1.size;rw[hsz0]at hz1;have hbw1:Below w.heap.size w w1:=(((Below.refl w.heap.size w).alloc (Nat.le_refl _) _).alloc (by simp) _).trans (hb1.mono (by omega))
 obtain ⟨Ac,cc,rfl,hcc,-⟩:∃A c,rv = .slice A n c/\n<=c/\True:=by
  obtain ⟨A,c,e,h,-⟩:=hown1.cells clC_E;exact ⟨A,c,by rw[e,hl1],by omega,trivial⟩
 obtain ⟨g3,rfl⟩:∃g,Ac=some ⟨g,0,none⟩:=by
  obtain ⟨A,c,e,-,hor⟩:=hown1.cells clC_E;obtain ⟨g,hA,-⟩:=hor.resolve_left (by rintro rfl;simp at hl1;omega)
  injection e with e1 _ _;exact ⟨g,by rw[e1,hA]⟩
 obtain ⟨cc0,-⟩:=hown1.cellC 0 (by omega)
 have hg3:=hown1.lt1;have hd0:decide (0<n)=true:=decide_eq_true (by omega)
 have HC:=Lib.hid hown1;have HB1:=Lib.hid hbw1;have HX0:=Lib.hid hbx0;have HX1:=Lib.hid hbx1;have HCL:=Lib.hid (And.intro hl1 (And.intro hok1 hlt1));have lx1:w.heap.size+1<w1.heap.size:=by omega
 have lx2:w.heap.size+1<w1.heap.size+1:=by omega
 obtain ⟨r0,r1⟩:w1.cell? ⟨w.heap.size+1,0,none⟩=some (.slice none 0 0)/\w1.cell? ⟨w.heap.size+1,1,none⟩=some (.slice none 0 0):=by constructor <;> (rw[cell_of_row _ _ _ _ _ _ hbx1]; rfl)
 have fr0:w1.frozen? ⟨w.heap.size+1,0,none⟩=false:=by simp[World.frozen?,hbx1]
 have fr1:w1.frozen? ⟨w.heap.size+1,1,none⟩=false:=by simp[World.frozen?,hbx1]
 clear hown1 hb1 hsz0 hbx0 hbx1 hbw1 hl1 hok1 hlt1
 cases hc0:clF cs 0 with
 | none=>
  rw[hc0]at cc0;have cc1:w1.cell? ⟨g3,0,none⟩=some (.int .i64 (-1)):=cc0;have HC0:=Lib.hid hc0;clear cc0 hc0;go_wp2_with fail;refine post_named λWf hWf=>?_;refine bodyPost_ret (v:=.agg #[.slice (some ⟨w1.heap.size,0,none⟩) 1 1, .slice (some ⟨w1.heap.size+1,0,none⟩) 1 1]) (by rw[hWf];simp[results,Tryz.results139,go_sem,r0,r1,lx1,lx2];try rfl) rfl ?_
  have hg0:Wf.heap[w1.heap.size]?=some (.cells #[.slice none 0 0] 187 (0,0)):=by
   rw[hWf,old_alloc _ _ _ (by simp[World.setCell])]
   have h1:=heap_alloc_new ((w1.setCell ⟨w.heap.size+1,0,none⟩ (.slice (some ⟨w1.heap.size,0,none⟩) 1 1)).setCell ⟨w.heap.size+1,1,none⟩ (.slice (some ⟨w1.heap.size+1,0,none⟩) 1 1)) (.cells #[.slice none 0 0] 187);simpa [World.setCell] using h1
  have hg1:Wf.heap[w1.heap.size+1]?=some (.cells #[.bool false] 4 (0,0)):=by
   rw[hWf];have h1:=heap_alloc_new (((w1.setCell ⟨w.heap.size+1,0,none⟩ (.slice (some ⟨w1.heap.size,0,none⟩) 1 1)).setCell ⟨w.heap.size+1,1,none⟩ (.slice (some ⟨w1.heap.size+1,0,none⟩) 1 1)).alloc (.cells #[.slice none 0 0] 187)) (.cells #[.bool false] 4);simpa [World.setCell] using h1
  have hbf:Below w.heap.size w Wf:=by
   rw[hWf];exact (((HB1.out.setCell (p:=⟨w.heap.size+1,0,none⟩) (by show w.heap.size<=w.heap.size+1;omega) _).setCell (p:=⟨w.heap.size+1,1,none⟩) (by show w.heap.size<=w.heap.size+1;omega) _).alloc (by simp[World.setCell];omega) _).alloc (by simp[World.setCell];omega) _
  have hww1:=HB1.out.size;have hup:McUp w.heap.size Wf (.agg #[.slice (some ⟨w1.heap.size,0,none⟩) 1 1, .slice (some ⟨w1.heap.size+1,0,none⟩) 1 1]) ⟨[[]],[false]⟩:=λW' hk=>by
   have hg0':=(hk.blk w1.heap.size (Array.getElem?_eq_some_iff.1 hg0).1 (λh=>by have:=List.mem_range.1 h;omega)).trans hg0
   have hg1':=(hk.blk (w1.heap.size+1) (Array.getElem?_eq_some_iff.1 hg1).1 (λh=>by have:=List.mem_range.1 h;omega)).trans hg1
   refine ⟨_,_,rfl,⟨_,_,rfl,⟨by simp,by simp⟩, .inr ⟨w1.heap.size,0,rfl,(Array.getElem?_eq_some_iff.1 hg0').1,λi hi=>?_⟩⟩,⟨_,_,rfl,⟨by simp,by simp⟩, .inr ⟨w1.heap.size+1,0,rfl,(Array.getElem?_eq_some_iff.1 hg1').1,λi hi=>?_⟩⟩⟩
   .simp at hi;subst hi;exact ⟨_,by rw[cell_of_row _ _ _ _ _ _ hg0'];rfl,⟨none,0,rfl,⟨by simp,by simp⟩, .inl rfl⟩⟩
   .simp at hi;subst hi;rw[cell_of_row _ _ _ _ _ _ hg1'];rfl
  refine ⟨_,⟨[[]],[false]⟩,rfl,hup,hbf, .inr ⟨nil_cls HCL.out.2.1 (by rw[HN.out.1];exact HN1.out) HC0.out,rfl⟩,by simp;have:=HN1.out;have:=HN.out.1;omega,mcsm_nil⟩
 | some c0=>
  rw[hc0]at cc0;have cc1:w1.cell? ⟨g3,0,none⟩=some (.int .i64 (c0:Int)):=cc0;have hdc:decide ((c0:Int)<0)=false:=decide_eq_false (by omega)
  have HC0:=Lib.hid hc0;have hc0n:c0<n:=HCL.out.2.2 0 c0 hc0;have hkey0:keyOf Tryz.prog 3 (.int .i64 (c0:Int))=some (.int .i64 (c0:Int)):=Maps.keyOf_int_mk Tryz.underlying3 (WalkArith.wf_i64 (by omega))
  have hmv0:=MV.made Tryz.prog 3;clear cc0 hc0;go_wp2_with (refine wpList_ins_MV _ rfl _ _ _ 213 rfl 3 3 K Tryz.underlying213 w1.heap.size 0 (λ_=>none) rfl (hmv0 _) (by decide) _ _ (.int .i64 (c0:Int)) rfl rfl hkey0 trivial ?_)
  intro w2 hmv2 hg2;have hsz2:(w1.alloc (.map #[] 0)).heap.size=w1.heap.size+1:=by simp
  have hz2:=hg2.size;rw[hsz2]at hz2;have hb2:Below w1.heap.size w1 w2:=((Below.refl _ w1).alloc (Nat.le_refl _) (.map #[] 0)).grown hg2 (by omega) (λq hq=>by injection hq with hq;omega)
  have HMV2:=Lib.hid hmv2;have HB2:=Lib.hid hb2;clear hmv2 hg2 hb2 hsz2 hmv0;go_wp2_with fail;refine wp_named λW hW=>?_;have hbW:Below w2.heap.size w2 W:=by rw[hW];exact ((Below.refl _ _).alloc (Nat.le_refl _) _).alloc (by simp) _
  have hzW:W.heap.size=w2.heap.size+2:=by rw[hW];simp
  have hst0:OR 3 1 clC w2.heap.size (.slice (some ⟨w2.heap.size,0,none⟩) 1 1) [some 0] W:=by rw[hW];exact OR.later (zeros_new w2 1 (by omega)) ((Below.refl _ _).alloc (by simp) _)
  have hNW:W.heap[w2.heap.size+1]?=some (.cells #[.slice none 0 0, .slice none 0 0] 93 (0,0)):=by rw[hW];simpa using heap_alloc_new (w2.alloc _) (.cells #[.slice none 0 0, .slice none 0 0] 93)
  have hmb:=HMV2.out.lt;have hL0:LeS m (clF cs) w1.heap.size (w2.heap.size+1) w1.heap.size 0 [] [] [] (.slice none 0 0) (.slice none 0 0) [] [] 0 [0] (updV (λ_=>none) (.int .i64 (c0:Int)) (some (.int .i64 0))) (.slice (some ⟨w2.heap.size,0,none⟩) 1 1) W:=by
   refine ⟨⟨hNW,by omega,World.ownsRow_nil _ _ _ _,λi hi=>(by cases hi),OR.nil_ _ _ _,λk hk hx=>?_⟩,HMV2.out.kept (hbW.block _ hmb),Nat.le_refl _,SaysC.first HC0.out,?_,LeI.start (by rw[HC0.out];simp) (by rw[HN.out.1];exact HN1.out),rfl⟩
   .have h1:k=w2.heap.size+1:=by rcases mem_fpM.1 hk with h | h | h;exact h;cases h;cases h
    rcases List.mem_cons.1 hx with h | h
    .omega
    .simp[blk,Value.ownBlock]at h;omega
   .have:=(OR.mono hst0 (show w1.heap.size<=w2.heap.size by omega))
    exact this
  have HL0:=Lib.hid hL0;have HBW:=Lib.hid (HB2.out.trans (hbW.mono (by omega)))
  clear hW hbW hst0 hNW hL0 cc1 HC0 hdc hkey0 hd0;go_wp2_with fail
  go_loopw [7,5] (λiv vst wr=>∃(i:Nat) (st:List Nat) (rs:List (List Ed)) (acs:List Bool) (vE vA:Value) (gv:List Value) (t:Nat) (F:Lit->Option Value),iv = .int .i64 (i:Int)/\i<=n/\Hid (LeS m (clF cs) w1.heap.size (w2.heap.size+1) w1.heap.size i [] rs acs vE vA gv [] t st F vst wr)/\Hid (Below w1.heap.size w1 wr)) (λiv _ _=>n - (intOf iv).toNat)
  case atStart=>exact ⟨0,[0],[],[],_,_,[],0,_,rfl,Nat.zero_le _,HL0,HBW⟩
  case round=>
   obtain ⟨i,st,rs,acs,vE,vA,gv,t,F,rfl,hin,HL,HB⟩:=hrel;have hil:=HL.out.le.il;have hstn:=HL.out.le.nodup;rw[HN.out.1]at hstn;obtain ⟨As,cst,rfl,hcst,-⟩:=own_form HL.out.own;obtain ⟨nst,hnst⟩:∃x,st.length=x:=⟨_,rfl⟩;rw[hnst]at hil hstn hcst;have HNST:=Lib.hid hnst;rw[hnst]at HL|-;clear hnst;have hwr:=HB.out.size;by_cases hlt:i<nst
   .have hd:decide ((i:Int)<(nst:Int))=true:=decide_eq_true (by omega)
    have hdi:decide (i<nst)=true:=decide_eq_true hlt;obtain ⟨s,hs⟩:∃s,st[i]?=some s:=⟨_,List.getElem?_eq_getElem (show i<st.length by rw[HNST.out];exact hlt)⟩
    obtain ⟨hsn',-⟩:=HL.out.le.lv s (List.mem_of_getElem? hs);have hsn:s<n:=by rw[HN.out.1]at hsn';exact hsn'
    have hown:=HL.out.own;rw[HNST.out]at hown;obtain ⟨gs,rfl,hgsB,lgs,hgc⟩:=own_at1 hown (by omega)
    have xst:wr.cell? ⟨gs,i,none⟩=some (.int .i64 (s:Int)):=by rw[hgc i hlt];unfold ints;rw[List.getElem?_map,hs];rfl
    have hbw:Below w.heap.size w wr:=HB1.out.trans (HB.out.mono HB1.out.size);obtain ⟨ge,fe,rv0,rfl,-,hge,hce0,hed0⟩:=HE.out.at_ hsn';obtain ⟨ga,fa,rfl,-,hga,hca0⟩:=HA.out.at_ (show s<m.ac.length by rw[HN.out.2];exact hsn)
    have xrow:=(World.cell?_of_block (a:=⟨ge,fe+s,none⟩) (hbw.block ge hge)).trans hce0;have xac0:=(World.cell?_of_block (a:=⟨ga,fa+s,none⟩) (hbw.block ga hga)).trans hca0;have hed:=hed0.later hbw;obtain ⟨row,hrow⟩:∃r,m.ed[s]=r:=⟨_,rfl⟩;obtain ⟨a,haa⟩:∃b,m.ac[s]'(by rw[HN.out.2];exact hsn)=b:=⟨_,rfl⟩
    rw[hrow]at hed;rw[haa]at xac0;have hrm:row∈m.ed:=by rw[<-hrow];exact List.getElem_mem hsn'
    have hrM:rowM m s=row:=by unfold rowM;rw[List.getElem?_eq_getElem hsn',hrow];rfl
    have haM:(m.ac[s]?).getD false=a:=by rw[List.getElem?_eq_getElem (by rw[HN.out.2];exact hsn),haa];rfl
    have hjb:=joinF_by (cls:=clF cs) (HV.out.srt row hrm) (HSM.out.by_ row hrm);have HTO:=Lib.hid (show ∀e∈row,e.to<cs.length from λe he=>by rw[HCL.out.1,<-HN.out.1];exact HV.out.to row hrm e he)
    have HBY:=Lib.hid (HSM.out.by_ row hrm);obtain ⟨J,hJ⟩:∃J,joinF (clF cs) row=J:=⟨_,rfl⟩;have hJl:=Nat.le_trans (joinF_len (clF cs) row) (HSM.out.rl row hrm);rw[hJ]at hjb hJl;have HJB:=Lib.hid (show ∀e∈J,∃f,f<n/\clF cs f=some e.to from λe he=>by
     obtain ⟨-,-,f,hf,h3⟩:=hjb e he;exact ⟨f.to,by rw[<-HN.out.1];exact HV.out.to row hrm f hf,h3⟩)
    have HJE:=Lib.hid hJ;have hrl:=HSM.out.rl row hrm;obtain ⟨Ar,cr,hrf,-⟩:=hed.form;obtain ⟨nrow,hnrow⟩:∃n,row.length=n:=⟨_,rfl⟩;rw[hnrow]at hrf hrl;have HNR:=Lib.hid hnrow;subst hrf;have hed':EdIn wr (.slice Ar nrow cr) row:=hed;have hM:=(HB.out.block w.heap.size (by omega)).trans HX0.out
    obtain ⟨xm0,xm1⟩:wr.cell? ⟨w.heap.size,0,none⟩=some (.slice (some ⟨ge,fe,none⟩) n ce)/\wr.cell? ⟨w.heap.size,1,none⟩=some (.slice (some ⟨ga,fa,none⟩) n ca):=by constructor <;> (rw[cell_of_row _ _ _ _ _ _ hM]; rfl)
    have hwz:=hbw.size;have lM:w.heap.size<wr.heap.size:=(Array.getElem?_eq_some_iff.1 hM).1;have lge:ge<wr.heap.size:=by omega
    have lga:ga<wr.heap.size:=by omega
    have HED:=Lib.hid hed';have HCI:=Lib.hid ((ClIn.of_OR HC.out).later (HB.out.mono (Nat.le_refl _)));have hit:i<=t:=by have:=HL.out.le.top;have h9:t+1=st.length:=this;have:=HNST.out;omega
    have HS:=Lib.hid (And.intro hs (And.intro hrM (And.intro haM hit)));have HXA:=Lib.hid (And.intro xm1 xac0);have HGA:=Lib.hid (And.intro hga hgsB);obtain ⟨W,hWeq⟩:∃W:World,W=wr:=⟨_,rfl⟩;subst hWeq;have hS0:Below W.heap.size W W.drew:=(Below.refl _ _).drew;clear hsn' hown hgc hbw hge hga hce0 hca0 hed hed0 hed' hrow haa hrm hrM haM hjb hJ hnrow hM hs hgsB hit xm1 xac0;go_wp2_with fail;refine wp_region_chain 10 [9] (factL10 w.heap.size gs nst cst i s ge fe n ce nrow cr g3 cc Ar J W) (λ_ w'=>Below W.heap.size W w') (by kernel_rfl) (by kernel_rfl) (by kernel_rfl) (by kernel_rfl) (by kernel_rfl) (by kernel_rfl) (by decide) hS0 ?_ ?_
    .simp only[pq4,pq5];refine HSteps.pure (by decide) ?_ (HSteps.pure (by decide) ?_ (HSteps.pure (by decide) ?_ (HSteps.pure (by decide) ?_ (HSteps.pure (by decide) ?_ (HSteps.pure (by decide) ?_ (HSteps.pure (by decide) ?_ (HSteps.pure (by decide) ?_ (HSteps.pure (by decide) ?_ (HSteps.eff 0 rfl ?_ (HSteps.nil))))))))))
     all_goals first | (with_reducible intro v wz c hlo hS hE K hK;simp only[putAll,Act.put,pq1,pq2,pq3,Nat.zero_add,Nat.reduceAdd,pq4,pq5]at hK|-) | (intro v wz hS hE K hK;simp only[putAll,Act.put,pq1,pq2,pq3,Nat.zero_add,Nat.reduceAdd,pq4,pq5]at hK|-)
     .have HX:=Lib.hid hS;clear hS hE hlo;go_wp2_with fail;exact hK.out _ rfl
     .have e0:v 0=_:=hE.1 rfl;rw[e0]at hK|-;have c1:=(hS.cell (p:=⟨w.heap.size,0,none⟩) lM).trans xm0;have l1:w.heap.size<wz.heap.size:=by have:=hS.size;omega
      have HX:=Lib.hid hS;clear hS hE hlo;go_wp2_with fail;exact hK.out _ rfl
     .have HX:=Lib.hid hS;clear hS hE hlo;go_wp2_with fail;exact hK.out _ rfl
     .have HX:=Lib.hid hS;clear hS hE hlo;go_wp2_with fail;exact hK.out _ rfl
     .have e2:v 2=_:=hE.1 rfl;have e3:v 3=_:=hE.2.1 rfl;rw[e2,e3]at hK|-;have HX:=Lib.hid hS;clear hS hE hlo;go_wp2_with fail;exact hK.out _ rfl
     .have e4:v 4=_:=hE.1 rfl;rw[e4]at hK|-;have c1:=(hS.cell (p:=⟨gs,i,none⟩) lgs).trans xst;have l1:gs<wz.heap.size:=by have:=hS.size;omega
      have HX:=Lib.hid hS;clear hS hE hlo;go_wp2_with fail;exact hK.out _ rfl
     .have e1:v 1=_:=hE.1 rfl;have e5:v 5=_:=hE.2.1 rfl;rw[e1,e5]at hK|-;have HX:=Lib.hid hS;clear hS hE hlo;go_wp2_with fail;exact hK.out _ rfl
     .have e6:v 6=_:=hE.1 rfl;rw[e6]at hK|-;have c1:=(hS.cell (p:=⟨ge,fe+s,none⟩) lge).trans xrow;have l1:ge<wz.heap.size:=by have:=hS.size;omega
      have HX:=Lib.hid hS;clear hS hE hlo;go_wp2_with fail;exact hK.out _ rfl
     .have HX:=Lib.hid hS;clear hS hE hlo;go_wp2_with fail;exact hK.out _ rfl
     .have e7:v 7=_:=hE.1 rfl;have e8:v 8=_:=hE.2.1 rfl;rw[e7,e8]at hK|-;have hcall:=joined_any (.slice Ar nrow cr) (.slice (some ⟨g3,0,none⟩) n cc) row cs wz (HED.out.later hS) (HCI.out.later hS) HTO.out HBY.out (by rw[HNR.out];omega)
      have HC:=Lib.hid hcall;have HX:=Lib.hid hS;clear hS hE hcall;go_wp2_with fail;refine HC.out.mono ?_;rintro e wy ⟨jv,rfl,ho,hb⟩;obtain ⟨Aj,cj,rfl,-⟩:=(EdIn.of_OR ho).form;have HBY2:=Lib.hid (HX.out.trans (hb.mono HX.out.size));have HJ:=Lib.hid (ho.mono HX.out.size);rw[HJE.out]at HJ|-;clear ho hb;go_wp2_with fail;refine hK.out _ _ (λj z hj h=>?_) HBY2.out (λ_=>⟨Aj,cj,rfl,HJ.out⟩)
      match j with
      | 0 | 1 | 2 | 3 | 4 | 5 | 6 | 7 | 8=>exact h
      | 9=>exact absurd rfl hj
      | _+10=>exact trivial
    .intro v wz hS hF;have e0:v 0=_:=hF 0 (by decide)
     have e1:v 1=_:=hF 1 (by decide)
     have e2:v 2=_:=hF 2 (by decide)
     have e3:v 3=_:=hF 3 (by decide)
     have e4:v 4=_:=hF 4 (by decide)
     have e5:v 5=_:=hF 5 (by decide)
     have e6:v 6=_:=hF 6 (by decide)
     have e7:v 7=_:=hF 7 (by decide)
     have e8:v 8=_:=hF 8 (by decide)
     have E9:=hF 9 (by decide)
     simp only[putAll,Act.put,pq1,pq2,pq3,Nat.zero_add,Nat.reduceAdd,pq4,pq5,List.drop_succ_cons,List.drop_zero,e0,e1,e2,e3,e4,e5,e6,e7,e8];clear hF e0 e1 e2 e3 e4 e5 e6 e7 e8;obtain ⟨Aj,cj,e9,hoj⟩:=E9 (Nat.le_refl _);rw[e9]at hoj|-;have hK0:=HL.out.begin hS HB.out hoj;obtain ⟨nj,hnj⟩:∃n,J.length=n:=⟨_,rfl⟩;rw[hnj]at hK0 hJl|-;have HK0:=Lib.hid hK0;have HNJ:=Lib.hid hnj;obtain ⟨BL,hBL⟩:∃B,W.heap.size=B:=⟨_,rfl⟩;rw[hBL]at HK0;clear hS hoj hK0 hnj e9 E9 xrow xst xm0 HL HB hS0 HED HCI HTO HBY;go_wp2_with fail
     go_loopw [46,5] (λkv vst wr=>∃(k:Nat) (st':List Nat) (F':Lit->Option Value),kv = .int .i64 (k:Int)/\k<=nj/\Hid (LeK m (clF cs) (w2.heap.size+1) w1.heap.size i BL rs acs vE vA gv J t st (.slice Aj nj cj) w1 k k st' F' vst wr)) (λkv _ _=>nj - (intOf kv).toNat)
     case atStart=>exact ⟨0,st,F,rfl,Nat.zero_le _,HK0⟩
     case round=>
      obtain ⟨k,st',F',rfl,hk,HK⟩:=hrel;have hstn2:=HK.out.le.le.nodup;rw[HN.out.1]at hstn2;have hwr2:=HK.out.bl.size;obtain ⟨As2,cst2,rfl,hcst2,-⟩:=own_form HK.out.le.own;obtain ⟨ns2,hns2⟩:∃x,st'.length=x:=⟨_,rfl⟩;have hown2:=HK.out.le.own;rw[hns2]at hown2 hcst2 hstn2 HK|-;have HOW:=Lib.hid hown2;have HNS:=Lib.hid hns2;clear hns2 hown2;by_cases hlt2:k<nj
      .have hd2:decide ((k:Int)<(nj:Int))=true:=decide_eq_true (by omega)
       have hkd:decide (k<nj)=true:=decide_eq_true hlt2;have hkJ:k<J.length:=by rw[HNJ.out];exact hlt2
       obtain ⟨gl,rfl⟩:∃g,Aj=some ⟨g,0,none⟩:=by
        obtain ⟨A,c,e,-,hor⟩:=HK.out.row.cells edC_E;obtain ⟨g,hA,-⟩:=hor.resolve_left (by intro e2;have:=ren_len (numC (clF cs) st') J k (by omega);rw[e2]at this;simp at this;omega)
        injection e with e1 _ _;exact ⟨g,by rw[e1,hA]⟩
       have HKJ:Hid (LeK m (clF cs) (w2.heap.size+1) w1.heap.size i BL rs acs vE vA gv J t st (.slice (some ⟨gl,0,none⟩) J.length cj) w1 k k st' F' (.slice As2 ns2 cst2) wr):=by rw[HNJ.out];exact HK
       obtain ⟨⟨e0,e1,e2⟩,ef,lgl⟩:=HKJ.out.cells hkJ;obtain ⟨q,hq⟩:∃e,J[k]=e:=⟨_,rfl⟩;have hqm:q∈J:=by rw[<-hq];exact List.getElem_mem hkJ
       obtain ⟨f0,hf0n,hf0⟩:=HJB.out q hqm;have hqc:=HCL.out.2.2 _ _ hf0;obtain ⟨lo,hi,cl⟩:=q;rw[hq]at e0 e1 e2;simp only at e0 e1 e2 hf0 hqc;have hb0:Below wr.heap.size wr (wr.alloc (.cells #[.int .u8 (lo:Int), .int .u8 (hi:Int), .int .i64 (cl:Int)] 195)):=(Below.refl _ _).alloc (Nat.le_refl _) _;have hK1:=HKJ.out.later hb0;have hkey:keyOf Tryz.prog 3 (.int .i64 (cl:Int))=some (.int .i64 (cl:Int)):=Maps.keyOf_int_mk Tryz.underlying3 (WalkArith.wf_i64 (by omega))
       have hmv:=hK1.le.mv;have hsy:=hK1.le.say cl;have hne3:gl≠wr.heap.size:=by omega
       have HQ:=Lib.hid hq;by_cases hinn:some cl∈st'.map (clF cs)
       .rw[if_pos hinn]at hsy;have hlook:(Instr.lookup 213 (.map (some w1.heap.size)) (.int .i64 (cl:Int)) true).run Tryz.prog (wr.alloc (.cells #[.int .u8 (lo:Int), .int .u8 (hi:Int), .int .i64 (cl:Int)] 195)) = .ok (.tuple #[.int .i64 ((numC (clF cs) st' cl:Nat):Int), .bool true]) (wr.alloc (.cells #[.int .u8 (lo:Int), .int .u8 (hi:Int), .int .i64 (cl:Int)] 195)):=by
         have h1:=hmv.look_ok K Tryz.underlying213 hz hkey trivial;rw[hsy]at h1;exact h1
        obtain ⟨x,hx⟩:∃x,numC (clF cs) st' cl=x:=⟨_,rfl⟩;rw[hx]at hlook;have hb9:Below (wr.setCell ⟨gl,k*3+2,none⟩ (.int .i64 (x:Int))).heap.size (wr.setCell ⟨gl,k*3+2,none⟩ (.int .i64 (x:Int))) ((wr.setCell ⟨gl,k*3+2,none⟩ (.int .i64 (x:Int))).alloc (.cells #[.int .u8 (lo:Int), .int .u8 (hi:Int), .int .i64 (cl:Int)] 195)):=(Below.refl _ _).alloc (Nat.le_refl _) _;have hK3:=((HKJ.out.old hkJ (by rw[hq];exact hinn)).put hkJ (x:=(x:Int)) (by rw[hq,<-hx])).later hb9
        rw[HNJ.out]at hK3;have HK3:=Lib.hid hK3;clear hK1 hmv hsy hinn hx hK3 hb9 hq hqm hf0 hf0n hb0 HKJ;go_wp2_with fail;go_roundw
        case rel=>exact ⟨k+1,st',F',by go_num,by omega,HK3⟩
        case measure=>simp[intOf];omega
       .rw[if_neg hinn]at hsy;have hlook:(Instr.lookup 213 (.map (some w1.heap.size)) (.int .i64 (cl:Int)) true).run Tryz.prog (wr.alloc (.cells #[.int .u8 (lo:Int), .int .u8 (hi:Int), .int .i64 (cl:Int)] 195)) = .ok (.tuple #[.int .i64 0, .bool false]) (wr.alloc (.cells #[.int .u8 (lo:Int), .int .u8 (hi:Int), .int .i64 (cl:Int)] 195)):=by
         have h1:=hmv.look_ok K Tryz.underlying213 hz hkey trivial;rw[hsy]at h1;exact h1
        have HMV:=Lib.hid hmv;have HK1:=Lib.hid hK1;have HNI:=Lib.hid hinn;have HEX:=Lib.hid (show ∃s,s<n/\clF cs s=some cl from ⟨f0,hf0n,hf0⟩);have hns0:st'.length<maxLen:=by unfold maxLen;have:=HNS.out;omega
        have hmv':MV Tryz.prog 3 w1.heap.size ns2 F' (wr.alloc (.cells #[.int .u8 (lo:Int), .int .u8 (hi:Int), .int .i64 (cl:Int)] 195)):=by rw[<-HNS.out];exact hmv
        have HMV':=Lib.hid hmv';have hownE:=World.ownsRow.alloc HOW.out (.cells #[.int .u8 (lo:Int), .int .u8 (hi:Int), .int .i64 (cl:Int)] 195);have HOE:=Lib.hid hownE;have hmlt:w1.heap.size<wr.heap.size:=HKJ.out.le.mv.lt;clear hK1 hmv hmv' hsy hinn hq hqm hf0 hf0n hb0 hownE hns0;go_wp2_with (at_mapUpdate;refine wpList_put_MV _ rfl _ _ _ 213 rfl 3 3 K Tryz.underlying213 w1.heap.size ns2 F' rfl HMV'.out (by unfold maxLen;omega) _ _ _ rfl rfl hkey trivial ?_)
        intro wm hmvm hgm;have hzm:=hgm.size;have hsz0:(wr.alloc (.cells #[.int .u8 (lo:Int), .int .u8 (hi:Int), .int .i64 (cl:Int)] 195)).heap.size=wr.heap.size+1:=by simp
        rw[hsz0]at hzm;have hec:wm.cell? ⟨wr.heap.size,2,none⟩=some (.int .i64 (cl:Int)):=(World.cell?_of_block (a:=⟨wr.heap.size,2,none⟩) (hgm.block _ (by simp) (λe=>by injection e with e;have e':wr.heap.size=w1.heap.size:=e;omega))).trans (by rw[cell_of_row _ _ _ _ _ _ (heap_alloc_new wr _)];rfl)
        have hownM:wm.ownsRow w1.heap.size 3 1 (.slice As2 ns2 cst2) ns2 (ints st'):=own_same HOE.out λg hg=>hgm.block g (HOE.out.lt g hg).2 λe=>mv_ne HMV'.out HOE.out (by rw[hg,e])
        have hbm:Below w1.heap.size w1 wm:=HK1.out.bl.grown hgm HK1.out.bl.size (λq hq=>by injection hq with hq;omega)
        have hix:=index_cls _ g3 n cc cl cs wm (OR.later HC.out hbm) HCL.out.1 (by omega) HEX.out
        have HIX:=Lib.hid hix;have HGM:=Lib.hid (And.intro hmvm hgm);have HOM:=Lib.hid hownM;clear hix hmvm hgm hownM hbm hsz0;go_wp2_with fail;refine HIX.out.mono ?_;rintro e wy ⟨s2,rfl,hwy,hs2n,hs2c⟩;rw[hwy];clear hwy;have hownA:=World.ownsRow.alloc HOM.out (.cells #[.int .i64 (s2:Int)] 3);have hcx:∀j u,([.int .i64 (s2:Int)]:List Value)[j]?=some u->(wm.alloc (.cells #[.int .i64 (s2:Int)] 3)).cell? ((⟨wm.heap.size,0,none⟩:Addr).add j)=some u:=λj u hj=>by
         match j,hj with
         | 0,hj=>simp at hj;rw[<-hj,Addr.add_lit,cell_of_row _ _ _ _ _ _ (heap_alloc_new wm _)];rfl
        have hbz:w1.heap.size<=(wm.alloc (.cells #[.int .i64 (s2:Int)] 3)).heap.size:=by simp;omega
        have HB7:=Lib.hid (show Below wm.heap.size wm (wm.alloc (.cells #[.int .i64 (s2:Int)] 3)) from (Below.refl _ _).alloc (Nat.le_refl _) _);go_wp2_with (at_builtin;refine appI_at rfl _ _ 22 rfl w1.heap.size 3 ii _ 1 8 Tryz.underlying22 hii hj0 hj1 hj2 rfl (by decide) _ ns2 (ints st') rfl hownA ⟨wm.heap.size,0,none⟩ 1 1 [.int .i64 (s2:Int)] rfl rfl hcx (by intro u hu;simp at hu;subst hu;rfl) (by unfold maxLen;omega) (by omega) hbz ?_)
        intro vst' w4 hown4 hg4 hf4;have hf4':Fresh vst' (.slice As2 ns2 cst2) (wm.alloc (.cells #[.int .i64 (s2:Int)] 3)).heap.size:=by rw[show (wm.alloc (.cells #[.int .i64 (s2:Int)] 3)).heap.size=wm.heap.size+1 by simp];exact hf4
        obtain ⟨hk5,hnum⟩:=HK1.out.new hkJ HGM.out.2 (by rw[HQ.out,HNS.out];exact HGM.out.1) HB7.out hg4 (by rw[HNS.out];exact hown4) hf4' (by rw[HQ.out];exact HNI.out) (by rw[HN.out.1];exact hs2n) (by rw[HQ.out];exact hs2c)
        rw[HNS.out]at hk5 hnum;obtain ⟨A4,c4,rfl,-,-⟩:=own_form hown4;obtain ⟨⟨-,-,f2⟩,ff,lgl4⟩:=hk5.cells hkJ;have hk6:=hk5.put hkJ (x:=(ns2:Int)) (by rw[hnum])
        rw[HNJ.out]at hk6;have HK6:=Lib.hid hk6;clear hown4 hg4 hf4 hf4' hk5 hnum hk6 hownA hcx hbz hec;go_wp2_with fail;go_roundw
        case rel=>exact ⟨k+1,st'++[s2],_,by go_num,by omega,HK6⟩
        case measure=>simp[intOf];omega
      .have hkn:k=nj:=by omega
       have hd2:decide ((k:Int)<(nj:Int))=false:=decide_eq_false (by omega)
       have hle:=HK.out.le;have hrow:=HK.out.row;rw[List.take_of_length_le (by rw[HNJ.out];omega)]at hle
       rw[List.take_of_length_le (by rw[HNJ.out];omega),List.drop_of_length_le (by rw[HNJ.out];omega),List.append_nil]at hrow
       have hpl:∃more,st'=st++more:=HK.out.pre;have hil2:=hle.le.il;have hs2:st'[i]?=some s:=by
        obtain ⟨more,e⟩:=hpl;rw[e,List.getElem?_append_left (by have:=HNST.out;omega)]
        exact HS.out.1
       have hrl2:rs.length=i:=by rw[hle.le.rows,List.length_map,List.length_take];omega
       have hal2:acs.length=i:=by rw[hle.ac,List.length_map,List.length_take];omega
       have hmkE:=hle.ma.own;have hmkA:wr.ownsRow w1.heap.size 4 1 vA acs.length (rowF bC acs):=hle.ma.acc;rw[hrl2]at hmkE;rw[hal2]at hmkA;obtain ⟨AE,cE,rfl,-,-⟩:=own_form hmkE;obtain ⟨AV,cA,rfl,-,-⟩:=own_form hmkA;obtain ⟨av,hav⟩:∃av,rowF bC acs=av:=⟨_,rfl⟩;rw[hav]at hmkA;have hi2:i<ns2:=by have:=(List.getElem?_eq_some_iff.1 hs2).1;rw[HNS.out]at this;exact this
       obtain ⟨gs2,rfl,-,lgs,hgc⟩:=own_at1 HOW.out (by omega)
       have xst:wr.cell? ⟨gs2,i,none⟩=some (.int .i64 (s:Int)):=by rw[hgc i (by omega)];unfold ints;rw[List.getElem?_map,hs2];rfl
       have hM:=(HK.out.bl.block w.heap.size (by omega)).trans HX0.out
       have xm1:wr.cell? ⟨w.heap.size,1,none⟩=some (.slice (some ⟨ga,fa,none⟩) n ca):=by rw[cell_of_row _ _ _ _ _ _ hM];rfl
       have hbw:Below w.heap.size w wr:=HB1.out.trans (HK.out.bl.mono HB1.out.size);have hacA:(m.ac[s]?).getD false=a:=HS.out.2.2.1;have hca0:w.cell? ⟨ga,fa+s,none⟩=some (.bool a):=by
        obtain ⟨ga',fa',e,-,-,h0⟩:=HA.out.at_ (show s<m.ac.length by rw[HN.out.2];exact hsn)
        injection e with e;injection e with e1 e2;rw[e1,e2,h0,<-hacA,List.getElem?_eq_getElem (by rw[HN.out.2];exact hsn)];rfl
       have xac:=(World.cell?_of_block (a:=⟨ga,fa+s,none⟩) (hbw.block ga HGA.out.1)).trans hca0;have hNr:=hle.ma.hN;obtain ⟨xn0,xn1⟩:wr.cell? ⟨w2.heap.size+1,0,none⟩=some (.slice AE i cE)/\wr.cell? ⟨w2.heap.size+1,1,none⟩=some (.slice AV i cA):=by constructor <;> (rw[cell_of_row _ _ _ _ _ _ hNr]; rfl)
       have hltM:=hle.ma.lt;have hwz2:=hbw.size;have hsl:w2.heap.size+1<wr.heap.size:=(hltM _ (mem_fpM.2 (.inl rfl))).2;have lM:w.heap.size<wr.heap.size:=(Array.getElem?_eq_some_iff.1 hM).1;have lga:ga<wr.heap.size:=by have:=HGA.out.1;omega
       have hww1:=HB1.out.size;have nM:w.heap.size∉(w2.heap.size+1)::(blk (.slice AE i cE)++blk (.slice AV i cA)):=λhm=>by have:=(hltM _ hm).1;omega
       have nga:ga∉(w2.heap.size+1)::(blk (.slice AE i cE)++blk (.slice AV i cA)):=λhm=>by have:=(hltM _ hm).1;have:=HGA.out.1;omega
       have ngs:gs2∉(w2.heap.size+1)::(blk (.slice AE i cE)++blk (.slice AV i cA)):=λhm=>hle.ma.out _ hm (by simp[blk,Value.ownBlock])
       have hne:(∀g,(Value.slice AE i cE).ownBlock=some g->g<wr.heap.size)/\(∀g,(Value.slice AV i cA).ownBlock=some g->g<wr.heap.size)/\(∀g,(Value.slice AV i cA).ownBlock=some g->(Value.slice AE i cE).ownBlock≠some g)/\(Value.slice AE i cE).ownBlock≠some (w2.heap.size+1)/\(Value.slice AV i cA).ownBlock≠some (w2.heap.size+1)/\(∀g,(Value.slice AV i cA).ownBlock=some g->(Value.slice AE i cE).ownBlock≠some g/\g<wr.heap.size):=by
        have hd:∀g,(Value.slice AV i cA).ownBlock=some g->(Value.slice AE i cE).ownBlock≠some g:=λg hg e=>hle.ma.neEA g e hg;exact ⟨λg hg=>(hmkE.lt g hg).2,λg hg=>(hmkA.lt g hg).2,hd,hle.ma.neE,hle.ma.neA,λg hg=>⟨hd g hg,(hmkA.lt g hg).2⟩⟩
       obtain ⟨W,hWeq⟩:∃W:World,W=wr:=⟨_,rfl⟩;subst hWeq;have hS0:StW6 (w2.heap.size+1) (.slice AE i cE) (.slice AV i cA) W 0 W.drew:=⟨(KeepF.of_below (Below.refl _ _).drew).weak,λ_=>rfl,λ_ _ _=>rfl,λ_=>(Below.refl _ _).drew⟩;have HNE:=Lib.hid hne;have HNB:=Lib.hid hNr;have HE1:=Lib.hid hmkE;have HV1:=Lib.hid hmkA;have HZ1:=Lib.hid hwr2;have HLE:=Lib.hid (And.intro hle (And.intro hrow hs2));have HBE:=Lib.hid (And.intro HK.out.bl HK.out.hB);have HAV:=Lib.hid (And.intro hav (And.intro hrl2 hal2));clear hle hrow hpl hil2 hs2 hrl2 hal2 hmkE hmkA hav hgc hM hbw hacA hca0 hNr hltM hne hkn hwr2;go_wp2_with fail;refine wp_region_chain 20 [4,16,18] (factL21 (w2.heap.size+1) w.heap.size gs2 ns2 cst2 i s ga fa n ca nj cj cE cA w1.heap.size AE AV Aj gv av a W) (λc w'=>StW6 (w2.heap.size+1) (.slice AE i cE) (.slice AV i cA) W c w') (by kernel_rfl) (by kernel_rfl) (by kernel_rfl) (by kernel_rfl) (by kernel_rfl) (by kernel_rfl) (by decide) hS0 ?_ ?_
       .simp only[pq4,pq5];refine HSteps.pure (by decide) ?_ (HSteps.pure (by decide) ?_ (HSteps.pure (by decide) ?_ (HSteps.free (by decide) ?_ (HSteps.eff 0 rfl ?_ (HSteps.pure (by decide) ?_ (HSteps.pure (by decide) ?_ (HSteps.pure (by decide) ?_ (HSteps.pure (by decide) ?_ (HSteps.pure (by decide) ?_ (HSteps.pure (by decide) ?_ (HSteps.pure (by decide) ?_ (HSteps.pure (by decide) ?_ (HSteps.pure (by decide) ?_ (HSteps.pure (by decide) ?_ (HSteps.free (by decide) ?_ (HSteps.eff 1 rfl ?_ (HSteps.pure (by decide) ?_ (HSteps.eff 2 rfl ?_ (HSteps.pure (by decide) ?_ (HSteps.nil))))))))))))))))))))
        all_goals first | (with_reducible intro v wz c hlo hS hE K hK;simp only[putAll,Act.put,pq1,pq2,pq3,Nat.zero_add,Nat.reduceAdd,pq4,pq5]at hK|-) | (intro v wz hS hE K hK;simp only[putAll,Act.put,pq1,pq2,pq3,Nat.zero_add,Nat.reduceAdd,pq4,pq5]at hK|-)
        .have HX:=Lib.hid hS;clear hS hE hlo;go_wp2_with fail;exact hK.out _ rfl
        .have e0:v 0=_:=hE.1 rfl;rw[e0]at hK|-;have hle:=hlo 0 (by kernel_rfl)
         have c1:=(World.cell?_of_block (a:=⟨w2.heap.size+1,0,none⟩) (hS.2.1 (by omega))).trans xn0
         have l1:w2.heap.size+1<wz.heap.size:=by have:=hS.1.size;omega
         have HX:=Lib.hid hS;clear hS hE hlo;go_wp2_with fail;exact hK.out _ rfl
        .have HX:=Lib.hid hS;clear hS hE hlo;go_wp2_with fail;exact hK.out _ rfl
        .have e2:v 2=_:=hE.1 rfl;rw[e2]at hK|-;have hbz:Below wz.heap.size wz (wz.alloc (.cells #[.slice Aj nj cj] 187)):=(Below.refl _ _).alloc (Nat.le_refl _) _;have hzW:=hS.1.size;have HX:=Lib.hid hS;have HBZ:=Lib.hid hbz;clear hS hE hlo hbz;go_wp2_with fail;exact hK.out _ _ (λj y _ h=>factL21_bl HBZ.out h) (HX.out.later hsl HNE.out.2.1 HBZ.out) ⟨wz.heap.size,rfl,hzW,by simp,by go_simp⟩
        .have e1:v 1=_:=hE.1 rfl;rw[e1]at hK|-;have E3:=hE.2.1 rfl;obtain ⟨g,e3,hgW,hgl,hg0⟩:=E3;rw[e3]at hK|-;have hz:=hS.2.2.2 rfl;have hown:wz.ownsRow w1.heap.size 187 1 (.slice AE i cE) i gv:=own_later HE1.out hz;have hzz:=hz.size;clear hz;have hcell:∀j u,([.slice Aj nj cj]:List Value)[j]?=some u->wz.cell? ((⟨g,0,none⟩:Addr).add j)=some u:=λj u hj=>by
          match j,hj with
          | 0,hj=>simp at hj;rw[<-hj,Addr.add_lit];exact hg0
         have HX:=Lib.hid hS;clear hS hE;go_wp2_with (at_builtin;refine appI_at rfl _ _ 91 rfl w1.heap.size 187 ie (.slice none 0 0) 1 24 Tryz.underlying91 hie he0 he1 he2 rfl (by decide) _ i gv rfl hown ⟨g,0,none⟩ 1 1 [.slice Aj nj cj] rfl rfl hcell (by intro u hu;simp at hu;subst hu;rfl) (by unfold maxLen;omega) (by omega) (by have:=HZ1.out;omega) ?_)
         intro v' wx hown1 hg1 hfr;obtain ⟨A',c',rfl,-,-⟩:=own_form hown1;have hfr2:Fresh (.slice A' (i+1) c') (.slice AE i cE) W.heap.size:=hfr.imp id λ⟨g,h1,h2⟩=>⟨g,h1,Nat.le_trans hzz h2⟩;refine hK.out _ _ (factL21_01 hg1 HNE.out.1) (HX.out.s1 hsl hg1 HNE.out.2.2.2.1 HNE.out.2.2.2.2.2) (λ_=>⟨A',c',rfl,hown1,hfr2⟩)
        .have HX:=Lib.hid hS;clear hS hE hlo;go_wp2_with fail;exact hK.out _ rfl
        .have e5:v 5=_:=hE.1 rfl;rw[e5]at hK|-;have hle:=hlo 1 (by kernel_rfl)
         have c1:=(World.cell?_of_block (a:=⟨w2.heap.size+1,1,none⟩) (hS.2.1 (by omega))).trans xn1
         have l1:w2.heap.size+1<wz.heap.size:=by have:=hS.1.size;omega
         have HX:=Lib.hid hS;clear hS hE hlo;go_wp2_with fail;exact hK.out _ rfl
        .have HX:=Lib.hid hS;clear hS hE hlo;go_wp2_with fail;exact hK.out _ rfl
        .have e7:v 7=_:=hE.1 rfl;rw[e7]at hK|-;have c1:=(World.cell?_of_block (a:=⟨w.heap.size,1,none⟩) (hS.1.blk _ lM nM)).trans xm1;have l1:w.heap.size<wz.heap.size:=by have:=hS.1.size;omega
         have HX:=Lib.hid hS;clear hS hE hlo;go_wp2_with fail;exact hK.out _ rfl
        .have HX:=Lib.hid hS;clear hS hE hlo;go_wp2_with fail;exact hK.out _ rfl
        .have HX:=Lib.hid hS;clear hS hE hlo;go_wp2_with fail;exact hK.out _ rfl
        .have e9:v 9=_:=hE.1 rfl;have e10:v 10=_:=hE.2.1 rfl;rw[e9,e10]at hK|-;have HX:=Lib.hid hS;clear hS hE hlo;go_wp2_with fail;exact hK.out _ rfl
        .have e11:v 11=_:=hE.1 rfl;rw[e11]at hK|-;have c1:=(World.cell?_of_block (a:=⟨gs2,i,none⟩) (hS.1.blk _ lgs ngs)).trans xst;have l1:gs2<wz.heap.size:=by have:=hS.1.size;omega
         have HX:=Lib.hid hS;clear hS hE hlo;go_wp2_with fail;exact hK.out _ rfl
        .have e8:v 8=_:=hE.1 rfl;have e12:v 12=_:=hE.2.1 rfl;rw[e8,e12]at hK|-;have HX:=Lib.hid hS;clear hS hE hlo;go_wp2_with fail;exact hK.out _ rfl
        .have e13:v 13=_:=hE.1 rfl;rw[e13]at hK|-;have c1:=(World.cell?_of_block (a:=⟨ga,fa+s,none⟩) (hS.1.blk _ lga nga)).trans xac;have l1:ga<wz.heap.size:=by have:=hS.1.size;omega
         have HX:=Lib.hid hS;clear hS hE hlo;go_wp2_with fail;exact hK.out _ rfl
        .have e14:v 14=_:=hE.1 rfl;rw[e14]at hK|-;have hbz:Below wz.heap.size wz (wz.alloc (.cells #[.bool a] 4)):=(Below.refl _ _).alloc (Nat.le_refl _) _;have hzW:=hS.1.size;have HX:=Lib.hid hS;have HBZ:=Lib.hid hbz;clear hS hE hlo hbz;go_wp2_with fail;exact hK.out _ _ (λj y _ h=>factL21_bl HBZ.out h) (HX.out.later hsl HNE.out.2.1 HBZ.out) ⟨wz.heap.size,rfl,hzW,by simp,by go_simp⟩
        .have e6:v 6=_:=hE.1 rfl;rw[e6]at hK|-;have E15:=hE.2.1 rfl;obtain ⟨g,e15,hgW,hgl,hg0⟩:=E15;rw[e15]at hK|-;have hown:wz.ownsRow w1.heap.size 4 1 (.slice AV i cA) i av:=own_same HV1.out λg hg=>hS.2.2.1 (by decide) g hg
         have hzz:=hS.1.size;have hcell:∀j u,([.bool a]:List Value)[j]?=some u->wz.cell? ((⟨g,0,none⟩:Addr).add j)=some u:=λj u hj=>by
          match j,hj with
          | 0,hj=>simp at hj;rw[<-hj,Addr.add_lit];exact hg0
         have HX:=Lib.hid hS;clear hS hE;go_wp2_with (at_builtin;refine appI_at rfl _ _ 70 rfl w1.heap.size 4 ib (.bool false) 1 1 Tryz.underlying70 hib hb0 hb1 hb2 rfl (by decide) _ i av rfl hown ⟨g,0,none⟩ 1 1 [.bool a] rfl rfl hcell (by intro u hu;simp at hu;subst hu;rfl) (by unfold maxLen;omega) (by omega) (by have:=HZ1.out;omega) ?_)
         intro v' wx hown1 hg1 hfr;obtain ⟨A',c',rfl,-,-⟩:=own_form hown1;have hfr2:Fresh (.slice A' (i+1) c') (.slice AV i cA) W.heap.size:=hfr.imp id λ⟨g,h1,h2⟩=>⟨g,h1,Nat.le_trans hzz h2⟩;refine hK.out _ _ (factL21_12 hg1 HNE.out.2.1 HNE.out.2.2.1) (HX.out.s2 hsl hg1 HNE.out.2.2.2.2.1) (λ_=>⟨A',c',rfl,hown1,hfr2⟩)
        .have HX:=Lib.hid hS;clear hS hE hlo;go_wp2_with fail;exact hK.out _ rfl
        .have e17:v 17=_:=hE.1 rfl;rw[e17]at hK|-;have E4:=hE.2.1 rfl;obtain ⟨A,c',ev,ho,hfr⟩:=E4 (by decide)
         rw[ev]at hK ho hfr|-;have hrow:=(hS.2.1 (by decide)).trans HNB.out
         have cz:wz.cell? ⟨w2.heap.size+1,0,none⟩=some (.slice AE i cE):=by rw[cell_of_row _ _ _ _ _ _ hrow];rfl
         have fz:wz.frozen? ⟨w2.heap.size+1,0,none⟩=false:=by simp[World.frozen?,hrow]
         have HX:=Lib.hid hS;have HO:=Lib.hid (And.intro ho (And.intro hfr hrow));clear hS hE ho hfr hrow ev;go_wp2_with fail;have hns:∀g,(Value.slice A (i+1) c').ownBlock=some g->g≠w2.heap.size+1:=λg hg=>HO.out.2.1.elim (λe=>by rw[e]at hg;intro e2;subst e2;exact HNE.out.2.2.2.1 hg) λ⟨g',e,h2⟩=>by rw[e]at hg;injection hg with hg;omega
         refine hK.out undef _ (factL21_23 hsl HNE.out.2.2.2.1 HNE.out.2.2.2.2.1 _) (HX.out.s3 _) (λ_=>⟨A,c',own_same HO.out.1 λg hg=>Below.heap_setCell _ _ _ _ (hns g hg),HO.out.2.1,by have:=set_row3 HO.out.2.2 0 (.slice A (i+1) c');simpa using this⟩)
        .have HX:=Lib.hid hS;clear hS hE hlo;go_wp2_with fail;exact hK.out _ rfl
       .intro v wz hS hF;have e0:v 0=_:=hF 0 (by decide)
        have e1:v 1=_:=hF 1 (by decide)
        have e2:v 2=_:=hF 2 (by decide)
        have e5:v 5=_:=hF 5 (by decide)
        have e6:v 6=_:=hF 6 (by decide)
        have e7:v 7=_:=hF 7 (by decide)
        have e8:v 8=_:=hF 8 (by decide)
        have e9:v 9=_:=hF 9 (by decide)
        have e10:v 10=_:=hF 10 (by decide)
        have e11:v 11=_:=hF 11 (by decide)
        have e12:v 12=_:=hF 12 (by decide)
        have e13:v 13=_:=hF 13 (by decide)
        have e14:v 14=_:=hF 14 (by decide)
        have e17:v 17=_:=hF 17 (by decide)
        have e19:v 19=_:=hF 19 (by decide)
        have E3:=hF 3 (by decide)
        have E4:=hF 4 (by decide)
        have E15:=hF 15 (by decide)
        have E16:=hF 16 (by decide)
        have E18:=hF 18 (by decide)
        simp only[putAll,Act.put,pq1,pq2,pq3,Nat.zero_add,Nat.reduceAdd,pq4,pq5,List.drop_succ_cons,List.drop_zero,e0,e1,e2,e5,e6,e7,e8,e9,e10,e11,e12,e13,e14,e17,e19];clear hF e0 e1 e2 e5 e6 e7 e8 e9 e10 e11 e12 e13 e14 e17 e19;obtain ⟨A18,c18,ho18,hf18,hr18⟩:=E18 (by decide)
        obtain ⟨A16,c16,ev16,ho16,hf16⟩:=E16 (by decide)
        rw[ev16]at ho16 hf16|-;have hkz:=hS.1;have z1:wz.cell? ⟨w2.heap.size+1,1,none⟩=some (.slice AV i cA):=by rw[cell_of_row _ _ _ _ _ _ hr18];rfl
        have fz1:wz.frozen? ⟨w2.heap.size+1,1,none⟩=false:=by simp[World.frozen?,hr18]
        have lNz:w2.heap.size+1<wz.heap.size:=(Array.getElem?_eq_some_iff.1 hr18).1;have hset:∀k,k≠w2.heap.size+1->(wz.setCell ⟨w2.heap.size+1,1,none⟩ (.slice A16 (i+1) c16)).heap[k]?=wz.heap[k]?:=λk hk=>Below.heap_setCell _ _ _ _ hk;have hfr:∀{v v':Value},Fresh v' v W.heap.size->v.ownBlock≠some (w2.heap.size+1)->∀g,v'.ownBlock=some g->g≠w2.heap.size+1:=λhf hn g hg e=>by
         subst e;rcases hf with hf | ⟨g',hf,h2⟩
         .rw[hf]at hg;exact hn hg
         .rw[hf]at hg;injection hg with hg;omega
        have hks:KeepF (fpM (w2.heap.size+1) (.slice AE i cE) (.slice AV i cA)) [] W (wz.setCell ⟨w2.heap.size+1,1,none⟩ (.slice A16 (i+1) c16)):=
         KeepF.tr (show KeepF (fpM (w2.heap.size+1) (.slice AE i cE) (.slice AV i cA)) [] W wz from hkz) ⟨rfl,rfl,rfl,by simp[World.setCell],λk _ hn=>hset k (λe=>hn (mem_fpM.2 (.inl e))),λk hk=>by cases hk⟩
        have hfin:=HLE.out.1.rowDone HBE.out.2 HLE.out.2.1 hks (by have:=set_row3 hr18 1 (.slice A16 (i+1) c16);simpa using this) (by rw[HAV.out.2.1];exact own_same ho18 λg hg=>hset g (hfr hf18 HNE.out.2.2.2.1 g hg)) (a:=a) (by
         show World.ownsRow _ _ _ _ _ _ _;rw[List.length_append,rowF_app,rowF_single,HAV.out.1,HAV.out.2.2];exact own_same ho16 λg hg=>hset g (hfr hf16 HNE.out.2.2.2.2.1 g hg)) hf18 hf16 HS.out.2.2.2 HLE.out.2.2 (by rw[HS.out.2.1,HJE.out]) HS.out.2.2.1.symm
        have hbf:Below w1.heap.size w1 (wz.setCell ⟨w2.heap.size+1,1,none⟩ (.slice A16 (i+1) c16)):=HBE.out.1.trans (hks.below (λk hk=>(HLE.out.1.ma.lt k hk).1) HZ1.out);have HFIN:=Lib.hid hfin;have HBF:=Lib.hid hbf;clear hS hkz hset hfr hks hfin hbf ho18 hf18 hr18 ho16 hf16 ev16 E3 E4 E15 E16 E18;go_wp2_with fail;go_roundw
        case rel=>exact ⟨i+1,_,_,_,_,_,_,_,_,by go_num,by omega,HFIN,HBF⟩
        case measure=>simp[intOf];omega
   .have hie:i=nst:=by omega
    have hd:decide ((i:Int)<(nst:Int))=false:=decide_eq_false (by omega)
    have hle:=HL.out;have hlei:i=st.length:=by rw[HNST.out];exact hie
    have hmkE:=hle.ma.own;have hmkA:wr.ownsRow w1.heap.size 4 1 vA acs.length (rowF bC acs):=hle.ma.acc;obtain ⟨AE,cE,rfl,-,-⟩:=own_form hmkE;obtain ⟨AV,cA,rfl,-,-⟩:=own_form hmkA;obtain ⟨nE,hnE⟩:∃x,rs.length=x:=⟨_,rfl⟩;obtain ⟨nV,hnV⟩:∃x,acs.length=x:=⟨_,rfl⟩;rw[hnE,hnV]at HL;have hNr:=HL.out.ma.hN;obtain ⟨xn0,xn1⟩:wr.cell? ⟨w2.heap.size+1,0,none⟩=some (.slice AE nE cE)/\wr.cell? ⟨w2.heap.size+1,1,none⟩=some (.slice AV nV cA):=by constructor <;> (rw[cell_of_row _ _ _ _ _ _ hNr]; rfl)
    have hX1:=(HB.out.block (w.heap.size+1) lx1).trans HX1.out;obtain ⟨q0,q1⟩:wr.cell? ⟨w.heap.size+1,0,none⟩=some (.slice none 0 0)/\wr.cell? ⟨w.heap.size+1,1,none⟩=some (.slice none 0 0):=by constructor <;> (rw[cell_of_row _ _ _ _ _ _ hX1]; rfl)
    have g0:wr.frozen? ⟨w.heap.size+1,0,none⟩=false:=by simp[World.frozen?,hX1]
    have g1:wr.frozen? ⟨w.heap.size+1,1,none⟩=false:=by simp[World.frozen?,hX1]
    have lNr:w2.heap.size+1<wr.heap.size:=(Array.getElem?_eq_some_iff.1 hNr).1;have lXr:w.heap.size+1<wr.heap.size:=by omega
    have HEI:=Lib.hid (And.intro hlei (And.intro hnE hnV));clear hle hlei hmkE hmkA hNr hX1 hnE hnV hie;go_wp2_with fail;refine post_named λWf hWf=>?_;refine bodyPost_ret (v:=.agg #[.slice AE nE cE, .slice AV nV cA]) (by rw[hWf];simp[results,Tryz.results139,go_sem,q0,q1,lXr];try rfl) rfl ?_
    have hkl:KeepF [w.heap.size+1] [] wr Wf:=by
     rw[hWf];have hne:∀k,k∉[w.heap.size+1]->k≠w.heap.size+1:=λk hn e=>hn (List.mem_singleton.2 e);exact ⟨rfl,rfl,rfl,by simp[World.setCell],λk _ hn=>(Below.heap_setCell (wr.setCell ⟨w.heap.size+1,0,none⟩ (.slice AE nE cE)) ⟨w.heap.size+1,1,none⟩ (.slice AV nV cA) k (hne k hn)).trans (Below.heap_setCell wr ⟨w.heap.size+1,0,none⟩ (.slice AE nE cE) k (hne k hn)),λk hk=>by cases hk⟩
    have hmk:=HL.out.ma.low hkl (λk hk=>by rw[List.mem_singleton]at hk;omega)
    have hle:=HL.out.le;rw[HEI.out.1]at hle;obtain ⟨d1,d2,d3⟩:=hle.done HV.out HCL.out.2.1;have hac2:acs=(leastM m (clF cs) (numC (clF cs) st) st).ac:=by rw[HL.out.ac,HEI.out.1,List.take_length];rfl
    have hm':(⟨rs,acs⟩:Mc)=leastM m (clF cs) (numC (clF cs) st) st:=by rw[d1,hac2]
    have hww1:=HB1.out.size;have hbf:Below w.heap.size w Wf:=(HB1.out.trans (HB.out.mono HB1.out.size)).trans (hkl.below (λk hk=>by rw[List.mem_singleton]at hk;omega) (by omega))
    refine ⟨_,⟨rs,acs⟩,rfl,hmk.up.mono hww1,hbf, .inl ⟨?_,by rw[hm'];exact d2,by rw[hm'];exact d3⟩,?_,?_⟩
    .by_cases hx:LiveS m 0
     .exact hx
     .exact absurd ((HCL.out.2.1.dead 0 (by rw[HN.out.1];exact HN1.out)).2 hx) (HL.out.le.lv 0 (List.mem_of_getElem? HL.out.le.zero)).2
    .show rs.length<=_;rw[d1];unfold leastM;simp;exact HL.out.le.nodup
    .rw[hm'];have hr:∀r∈(leastM m (clF cs) (numC (clF cs) st) st).ed,∃s∈st,r=renE (numC (clF cs) st) (joinF (clF cs) (rowM m s)):=λr hr=>by
      unfold leastM at hr;obtain ⟨s,h1,h2⟩:=List.mem_map.1 hr;exact ⟨s,h1,h2.symm⟩
     have hrm:∀s∈st,rowM m s∈m.ed:=λs hs=>by
      obtain ⟨h1,-⟩:=HL.out.le.lv s hs;unfold rowM;rw[List.getElem?_eq_getElem h1];exact List.getElem_mem h1
     refine ⟨λr h e he=>?_,λr h=>?_,?_⟩
     .obtain ⟨s,h1,rfl⟩:=hr r h;unfold renE at he;obtain ⟨f,h2,rfl⟩:=List.mem_map.1 he;have:=joinF_by (cls:=clF cs) (HV.out.srt _ (hrm s h1)) (HSM.out.by_ _ (hrm s h1)) f h2;exact ⟨this.1,this.2.1⟩
     .obtain ⟨s,h1,rfl⟩:=hr r h;rw[renE_len];exact Nat.le_trans (joinF_len _ _) (HSM.out.rl _ (hrm s h1))
     .unfold leastM;simp;have:=HL.out.le.nodup;have:=HSM.out.n;omega
end Go.Proofs.YtdmoogjddmdmbaaGreatDoor
namespace Go.Proofs.YtdmoogjddmdmbaaGreatDoor
set_option linter.unusedVariables false
set_option linter.unusedSimpArgs false
set_option maxRecDepth 100000
open Go.RowKit
def factDs (kb lo hi tq:Nat) (D0 D1 D2 S5 S6 S12 S13 S17:ByteArray):Nat->Nat->Value->World->Prop
 | c,0,x,w=>x = .pointer (some ⟨kb,0,none⟩)
 | c,1,x,w=>x = .pointer (some ⟨kb,0,none⟩)
 | c,2,x,w=>x = .int .u8 (lo:Int)
 | c,3,x,w=>x = .int .i64 (lo:Int)
 | c,4,x,w=>x = .string D0
 | c,5,x,w=>x = .string S5
 | c,6,x,w=>x = .string S6
 | c,7,x,w=>x = .pointer (some ⟨kb,0,none⟩)
 | c,8,x,w=>x = .pointer (some ⟨kb,1,none⟩)
 | c,9,x,w=>x = .int .u8 (hi:Int)
 | c,10,x,w=>x = .int .i64 (hi:Int)
 | c,11,x,w=>x = .string D1
 | c,12,x,w=>x = .string S12
 | c,13,x,w=>x = .string S13
 | c,14,x,w=>x = .pointer (some ⟨kb,2,none⟩)
 | c,15,x,w=>x = .int .i64 (tq:Int)
 | c,16,x,w=>x = .string D2
 | c,17,x,w=>x = .string S17
 | _,_,_,_=>True
theorem descE_len:∀l:List Ed,(∀e∈l,e.lo<256/\e.hi<256/\e.to<1000000)->(descE l).length<=20*l.length
 | [],_=>Nat.le_refl _
 | e::r,h=>by
  have h1:=descE_len r λx hx=>h x (by simp[hx])
  have h2:=h e (by simp)
  have d0:=dec_len e.lo 2 (by omega)
  have d1:=dec_len e.hi 2 (by omega)
  have d2:=dec_len e.to 6 (by omega)
  simp only[descE,List.length_cons,List.length_append];omega
theorem bl_add (a b:ByteArray):bl (a++b)=bl a++bl b:=by simp[bl]
set_option maxHeartbeats 8000000 in
theorem describe_any (b:Bool) (ev:Value) (l:List Ed) (w:World) (he:EdIn w ev l) (hby:∀e∈l,e.lo<256/\e.hi<256/\e.to<1000000) (hl:l.length<=100000) (hvr:VrOK w) :
  Calls Tryz.prog 195 #[.bool b,ev] w λe w'=>e = .returned (.string (bs (descT b l)))/\Below w.heap.size w w':=by
 obtain ⟨Ae,ce,rfl,hce1,hce2⟩:=he.form;obtain ⟨nl,hnl⟩:∃n,l.length=n:=⟨_,rfl⟩;rw[hnl]at he hce1 hl|-;have HE:=Lib.hid he;have HY:=Lib.hid hby;have HN:=Lib.hid hnl;have HVR:=Lib.hid hvr;have HFB:=Lib.hid (λw=>Tryz.strconv_FormatBool b w);clear he hby hnl hvr
 go_enter Tryz.func195,Tryz.ntmps195
 go_wp2_with (go_at_call 218;refine (HFB.out _).mono ?_;rintro e w1 ⟨rfl,rfl⟩);have hi0:IsB w.heap.size [] (w.alloc (.cells #[.pointer none, .slice none 0 0] 205)):=⟨Lib.fresh_isBuilder _ _ w,by simp⟩
 have hsb:((⟨(Lib.formatBool b).toArray⟩:ByteArray)).size<=1000000:=by cases b <;> decide
 refine (builder_str _ _ _ _ hi0 (by simp) hsb).mono ?_
 rintro e w1 ⟨rfl,hi1,hb1⟩;have hfb:bl ⟨(Lib.formatBool b).toArray⟩=boolT b:=by cases b <;> rfl
 rw[hfb,List.nil_append]at hi1;have HI1:=Lib.hid hi1;have HB1:=Lib.hid (((Below.refl _ w).alloc (Nat.le_refl _) (.cells #[.pointer none, .slice none 0 0] 205)).trans hb1);clear hi0 hsb hi1 hb1 hfb;go_wp2_with fail
 go_loopw [13] (λiv wr=>∃k:Nat,k<=nl/\iv = .int .i64 (k:Int)/\Hid (IsB w.heap.size (boolT b++descE (l.take k)) wr)/\Hid (Below w.heap.size w wr)) (λiv _=>nl - (intOf iv).toNat)
 case atStart=>exact ⟨0,Nat.zero_le _,rfl,by rw[List.take_zero];simp only[descE,List.append_nil];exact HI1,HB1⟩
 case round=>
  obtain ⟨k,hk,rfl,HI,HBW⟩:=hrel;by_cases hlt:k<nl
  .have hd:decide ((k:Int)<(nl:Int))=true:=decide_eq_true (by omega)
   have hkl:k<l.length:=by rw[HN.out];exact hlt
   obtain ⟨g,f,rfl,-,hg,c0,c1,c2⟩:=HE.out.at_ hkl;obtain ⟨e,hle⟩:∃e,l[k]=e:=⟨_,rfl⟩;rw[hle]at c0 c1 c2;have hem:e∈l:=by rw[<-hle];exact List.getElem_mem hkl
   have hblk:=HBW.out.block g hg;have d0:=(World.cell?_of_block (a:=⟨g,f+k*3,none⟩) hblk).trans c0;have d1:=(World.cell?_of_block (a:=⟨g,f+k*3+1,none⟩) hblk).trans c1;have d2:=(World.cell?_of_block (a:=⟨g,f+k*3+2,none⟩) hblk).trans c2;have hwr:=HBW.out.size;have hglr:g<wr.heap.size:=by omega
   obtain ⟨hb0,hb1,hb2⟩:=HY.out e hem;have hst:descE (l.take (k+1))=descE (l.take k)++(32::(Lib.decDigits e.lo++45::(Lib.decDigits e.hi++58::Lib.decDigits e.to))):=by rw[List.take_succ_eq_append_getElem hkl,hle,descE_snoc]
   obtain ⟨lo,hi,tq⟩:=e;simp only at d0 d1 d2 hb0 hb1 hb2 hst;have hdl0:=dec_len lo 2 (by omega)
   have hdl1:=dec_len hi 2 (by omega)
   have hdl2:=dec_len tq 6 (by omega)
   obtain ⟨D0,hD0⟩:∃D,bs (Lib.decDigits lo)=D:=⟨_,rfl⟩;obtain ⟨D1,hD1⟩:∃D,bs (Lib.decDigits hi)=D:=⟨_,rfl⟩;obtain ⟨D2,hD2⟩:∃D,bs (Lib.decDigits tq)=D:=⟨_,rfl⟩;have z0:D0.size<=7:=by rw[<-hD0,size_bs];omega
   have z1:D1.size<=7:=by rw[<-hD1,size_bs];omega
   have z2:D2.size<=7:=by rw[<-hD2,size_bs];omega
   obtain ⟨S5,hS5⟩:∃S,(⟨#[32]⟩:ByteArray)++D0=S:=⟨_,rfl⟩;obtain ⟨S6,hS6⟩:∃S,S5++(⟨#[45]⟩:ByteArray)=S:=⟨_,rfl⟩;obtain ⟨S12,hS12⟩:∃S,S6++D1=S:=⟨_,rfl⟩;obtain ⟨S13,hS13⟩:∃S,S12++(⟨#[58]⟩:ByteArray)=S:=⟨_,rfl⟩;obtain ⟨S17,hS17⟩:∃S,S13++D2=S:=⟨_,rfl⟩;have q32:ByteArray.size ⟨#[32]⟩=1:=rfl;have q45:ByteArray.size ⟨#[45]⟩=1:=rfl;have q58:ByteArray.size ⟨#[58]⟩=1:=rfl;have z5:S5.size<=8:=by rw[<-hS5,ByteArray.size_append];omega
   have z6:S6.size<=9:=by rw[<-hS6,ByteArray.size_append];omega
   have z12:S12.size<=16:=by rw[<-hS12,ByteArray.size_append];omega
   have z13:S13.size<=17:=by rw[<-hS13,ByteArray.size_append];omega
   have z17:S17.size<=24:=by rw[<-hS17,ByteArray.size_append];omega
   have n5:¬(9223372036854775807:Nat)<ByteArray.size ⟨#[32]⟩+D0.size:=by omega
   have n6:¬(9223372036854775807:Nat)<S5.size+ByteArray.size ⟨#[45]⟩:=by omega
   have n12:¬(9223372036854775807:Nat)<S6.size+D1.size:=by omega
   have n13:¬(9223372036854775807:Nat)<S12.size+ByteArray.size ⟨#[58]⟩:=by omega
   have n17:¬(9223372036854775807:Nat)<S13.size+D2.size:=by omega
   have hbl:bl S17=32::(Lib.decDigits lo++45::(Lib.decDigits hi++58::Lib.decDigits tq)):=by
    rw[<-hS17,bl_add,<-hS13,bl_add,<-hS12,bl_add,<-hS6,bl_add,<-hS5,bl_add,<-hD0,<-hD1,<-hD2,bl_bs,bl_bs,bl_bs];show (([32]++_++[45])++_++[58])++_=_;simp
   have HIT0:=Lib.hid (λW (h:VrOK W)=>hD0▸itoa_any lo (by omega) W h)
   have HIT1:=Lib.hid (λW (h:VrOK W)=>hD1▸itoa_any hi (by omega) W h)
   have HIT2:=Lib.hid (λW (h:VrOK W)=>hD2▸itoa_any tq (by omega) W h)
   have HS5:=Lib.hid hS5;have HS6:=Lib.hid hS6;have HS12:=Lib.hid hS12;have HS13:=Lib.hid hS13;have HS17:=Lib.hid hS17;have HST:=Lib.hid (And.intro hst hbl);have hln:(boolT b++descE (l.take k)).length<=1000000000:=by
    have h1:=descE_len (l.take k) λx hx=>HY.out x (List.mem_of_mem_take hx);have h2:=List.length_take_le k l;have h3:(boolT b).length<=5:=by cases b <;> decide
    rw[List.length_append];omega
   have HLN:=Lib.hid hln;have hlow:=HVR.out.low;clear hle hem hblk c0 c1 c2 hst hD0 hD1 hD2 hS5 hS6 hS12 hS13 hS17 hbl hdl0 hdl1 hdl2 hkl hln q32 q45 q58;go_wp2_with fail;refine wp_named λW hW=>?_;have hbW2:Below wr.heap.size wr W:=by rw[hW];exact (Below.refl _ _).alloc (Nat.le_refl _) _
   have hzW:W.heap.size=wr.heap.size+1:=by rw[hW];simp
   have hrW:W.heap[wr.heap.size]?=some (.cells #[.int .u8 (lo:Int), .int .u8 (hi:Int), .int .i64 (tq:Int)] 195 (0,0)):=by rw[hW];exact heap_alloc_new wr _
   obtain ⟨b0,b1,b2⟩:=cells3 hrW;have hlW:wr.heap.size<W.heap.size:=by omega
   have hvW:VrOK W:=HVR.out.below (HBW.out.trans (hbW2.mono hwr)) hlow;have HIW:=Lib.hid (HI.out.later hbW2);have HBW3:=Lib.hid (HBW.out.trans (hbW2.mono hwr));have HVW:=Lib.hid hvW;have hS0:Below W.heap.size W W.drew:=(Below.refl _ _).drew;clear hW hrW hbW2 d0 d1 d2 hvW;refine wp_region_chain 18 [] (factDs wr.heap.size lo hi tq D0 D1 D2 S5 S6 S12 S13 S17) (λ_ w'=>Below W.heap.size W w') (by kernel_rfl) (by kernel_rfl) (by kernel_rfl) (by kernel_rfl) (by kernel_rfl) (by kernel_rfl) (by decide) hS0 ?_ ?_
   .simp only[pq4,pq5];refine HSteps.pure (by decide) ?_ (HSteps.pure (by decide) ?_ (HSteps.pure (by decide) ?_ (HSteps.pure (by decide) ?_ (HSteps.free (by decide) ?_ (HSteps.pure (by decide) ?_ (HSteps.pure (by decide) ?_ (HSteps.pure (by decide) ?_ (HSteps.pure (by decide) ?_ (HSteps.pure (by decide) ?_ (HSteps.pure (by decide) ?_ (HSteps.free (by decide) ?_ (HSteps.pure (by decide) ?_ (HSteps.pure (by decide) ?_ (HSteps.pure (by decide) ?_ (HSteps.pure (by decide) ?_ (HSteps.free (by decide) ?_ (HSteps.pure (by decide) ?_ (HSteps.nil))))))))))))))))))
    all_goals first | (with_reducible intro v wz c hlo hS hE K hK;simp only[putAll,Act.put,pq1,pq2,pq3,Nat.zero_add,Nat.reduceAdd,pq4,pq5]at hK|-) | (intro v wz hS hE K hK;simp only[putAll,Act.put,pq1,pq2,pq3,Nat.zero_add,Nat.reduceAdd,pq4,pq5]at hK|-)
    .have HX:=Lib.hid hS;clear hS hE hlo;go_wp2_with fail;exact hK.out _ rfl
    .have e0:v 0=_:=hE.1 rfl;rw[e0]at hK|-;have HX:=Lib.hid hS;clear hS hE hlo;go_wp2_with fail;exact hK.out _ rfl
    .have e1:v 1=_:=hE.1 rfl;rw[e1]at hK|-;have cx0:=(hS.cell (p:=⟨wr.heap.size,0,none⟩) hlW).trans b0;have lwz:wr.heap.size<wz.heap.size:=by have:=hS.size;omega
     have HX:=Lib.hid hS;clear hS hE hlo;go_wp2_with fail;exact hK.out _ rfl
    .have e2:v 2=_:=hE.1 rfl;rw[e2]at hK|-;have HX:=Lib.hid hS;clear hS hE hlo;go_wp2_with fail;exact hK.out _ rfl
    .have e3:v 3=_:=hE.1 rfl;rw[e3]at hK|-;have hcall:=HIT0.out wz (HVW.out.later hS);have HC:=Lib.hid hcall;have HX:=Lib.hid hS;clear hS hE hlo hcall;go_wp2_with fail;refine HC.out.mono ?_;rintro e wy ⟨rfl,hb⟩;have HBY:=Lib.hid (HX.out.trans (hb.mono HX.out.size));clear hb;go_wp2_with fail;refine hK.out _ _ (λj z hj h=>?_) HBY.out rfl
     match j with
     | 0 | 1 | 2 | 3 | 5 | 6 | 7 | 8 | 9 | 10 | 11 | 12 | 13 | 14 | 15 | 16 | 17=>exact h
     | 4=>exact absurd rfl hj
     | _+18=>exact trivial
    .have E4:=hE.1 rfl;have e4:v 4=_:=E4;rw[e4]at hK|-;have HX:=Lib.hid hS;clear hS hE hlo;go_wp2_with fail;exact hK.out _ (by rw[HS5.out];rfl)
    .have E5:=hE.1 rfl;have e5:v 5=_:=E5;rw[e5]at hK|-;have HX:=Lib.hid hS;clear hS hE hlo;go_wp2_with fail;exact hK.out _ (by rw[HS6.out];rfl)
    .have HX:=Lib.hid hS;clear hS hE hlo;go_wp2_with fail;exact hK.out _ rfl
    .have e7:v 7=_:=hE.1 rfl;rw[e7]at hK|-;have HX:=Lib.hid hS;clear hS hE hlo;go_wp2_with fail;exact hK.out _ rfl
    .have e8:v 8=_:=hE.1 rfl;rw[e8]at hK|-;have cx1:=(hS.cell (p:=⟨wr.heap.size,1,none⟩) hlW).trans b1;have lwz:wr.heap.size<wz.heap.size:=by have:=hS.size;omega
     have HX:=Lib.hid hS;clear hS hE hlo;go_wp2_with fail;exact hK.out _ rfl
    .have e9:v 9=_:=hE.1 rfl;rw[e9]at hK|-;have HX:=Lib.hid hS;clear hS hE hlo;go_wp2_with fail;exact hK.out _ rfl
    .have e10:v 10=_:=hE.1 rfl;rw[e10]at hK|-;have hcall:=HIT1.out wz (HVW.out.later hS);have HC:=Lib.hid hcall;have HX:=Lib.hid hS;clear hS hE hlo hcall;go_wp2_with fail;refine HC.out.mono ?_;rintro e wy ⟨rfl,hb⟩;have HBY:=Lib.hid (HX.out.trans (hb.mono HX.out.size));clear hb;go_wp2_with fail;refine hK.out _ _ (λj z hj h=>?_) HBY.out rfl
     match j with
     | 0 | 1 | 2 | 3 | 4 | 5 | 6 | 7 | 8 | 9 | 10 | 12 | 13 | 14 | 15 | 16 | 17=>exact h
     | 11=>exact absurd rfl hj
     | _+18=>exact trivial
    .have E6:=hE.1 rfl;have E11:=hE.2.1 rfl;have e6:v 6=_:=E6;have e11:v 11=_:=E11;rw[e6,e11]at hK|-;have HX:=Lib.hid hS;clear hS hE hlo;go_wp2_with fail;exact hK.out _ (by rw[HS12.out];rfl)
    .have E12:=hE.1 rfl;have e12:v 12=_:=E12;rw[e12]at hK|-;have HX:=Lib.hid hS;clear hS hE hlo;go_wp2_with fail;exact hK.out _ (by rw[HS13.out];rfl)
    .have HX:=Lib.hid hS;clear hS hE hlo;go_wp2_with fail;exact hK.out _ rfl
    .have e14:v 14=_:=hE.1 rfl;rw[e14]at hK|-;have cx2:=(hS.cell (p:=⟨wr.heap.size,2,none⟩) hlW).trans b2;have lwz:wr.heap.size<wz.heap.size:=by have:=hS.size;omega
     have HX:=Lib.hid hS;clear hS hE hlo;go_wp2_with fail;exact hK.out _ rfl
    .have e15:v 15=_:=hE.1 rfl;rw[e15]at hK|-;have hcall:=HIT2.out wz (HVW.out.later hS);have HC:=Lib.hid hcall;have HX:=Lib.hid hS;clear hS hE hlo hcall;go_wp2_with fail;refine HC.out.mono ?_;rintro e wy ⟨rfl,hb⟩;have HBY:=Lib.hid (HX.out.trans (hb.mono HX.out.size));clear hb;go_wp2_with fail;refine hK.out _ _ (λj z hj h=>?_) HBY.out rfl
     match j with
     | 0 | 1 | 2 | 3 | 4 | 5 | 6 | 7 | 8 | 9 | 10 | 11 | 12 | 13 | 14 | 15 | 17=>exact h
     | 16=>exact absurd rfl hj
     | _+18=>exact trivial
    .have E13:=hE.1 rfl;have E16:=hE.2.1 rfl;have e13:v 13=_:=E13;have e16:v 16=_:=E16;rw[e13,e16]at hK|-;have HX:=Lib.hid hS;clear hS hE hlo;go_wp2_with fail;exact hK.out _ (by rw[HS17.out];rfl)
   .intro v wz hS hF;have e0:v 0=_:=hF 0 (by decide)
    have e1:v 1=_:=hF 1 (by decide)
    have e2:v 2=_:=hF 2 (by decide)
    have e3:v 3=_:=hF 3 (by decide)
    have e7:v 7=_:=hF 7 (by decide)
    have e8:v 8=_:=hF 8 (by decide)
    have e9:v 9=_:=hF 9 (by decide)
    have e10:v 10=_:=hF 10 (by decide)
    have e14:v 14=_:=hF 14 (by decide)
    have e15:v 15=_:=hF 15 (by decide)
    have E4:=hF 4 (by decide)
    have E5:=hF 5 (by decide)
    have E6:=hF 6 (by decide)
    have E11:=hF 11 (by decide)
    have E12:=hF 12 (by decide)
    have E13:=hF 13 (by decide)
    have E16:=hF 16 (by decide)
    have E17:=hF 17 (by decide)
    simp only[putAll,Act.put,pq1,pq2,pq3,Nat.zero_add,Nat.reduceAdd,pq4,pq5,List.drop_succ_cons,List.drop_zero,e0,e1,e2,e3,e7,e8,e9,e10,e14,e15];clear hF e0 e1 e2 e3 e7 e8 e9 e10 e14 e15;have e17:v 17=_:=E17;rw[e17];have hbz:Below W.heap.size W wz:=hS;have HZ:=Lib.hid hbz;clear hS hbz E4 E5 E6 E11 E12 E13 E16 E17 e17;go_wp2_with fail;refine (builder_str _ _ _ _ (HIW.out.later HZ.out) HLN.out (by omega)).mono ?_
    rintro e w9 ⟨rfl,hi9,hb9⟩;have hi9':IsB w.heap.size (boolT b++descE (l.take (k+1))) w9:=by rw[HST.out.2,List.append_assoc,<-HST.out.1]at hi9;exact hi9
    have HI9:=Lib.hid hi9';have HB9:=Lib.hid (HBW3.out.trans ((HZ.out.mono HBW3.out.size).trans hb9));clear hi9 hi9' hb9;go_wp2_with fail;go_roundw
    case rel=>exact ⟨k+1,by omega,by go_num,HI9,HB9⟩
    case measure=>simp[intOf];omega
  .obtain rfl:k=nl:=by omega
   have hd:decide ((k:Int)<(k:Int))=false:=decide_eq_false (by omega)
   have hib:=HI.out;rw[List.take_of_length_le (by rw[HN.out];exact Nat.le_refl _)]at hib
   have HSF:=Lib.hid (string_f w.heap.size (descT b l) wr ⟨Lib.IsBuilderF.of hib.1,hib.2⟩);clear hib;go_wp2_with fail;refine HSF.out.mono ?_;rintro e w1 ⟨rfl,-,hb1⟩;go_wp2_with fail;go_ret;exact ⟨rfl,HBW.out.trans hb1⟩
def BsPost (r:List Ed) (c:Nat) (w:World) (e:Ending) (w':World):Prop:=∃(k:Nat) (f:Bool),e = .returned (.tuple #[.int .i64 (k:Int), .bool f])/\Below w.heap.size w w'/\(f=true->∃e,r[k]?=some e/\trn r c=some e.to)/\(f=false->trn r c=none)
theorem cmpE_lt {e:Ed} {c:Nat}:cmpE e c<0↔e.hi<c:=by
 unfold cmpE
 split
 .simp_all
 split <;> simp_all
theorem cmpE_eq {e:Ed} {c:Nat}:cmpE e c=0↔e.lo<=c/\c<=e.hi:=by
 unfold cmpE
 split
 .constructor <;> intro h <;> first | (exfalso; revert h; decide) | omega
 .split
  .constructor <;> intro h <;> first | (exfalso; revert h; decide) | omega
  .exact ⟨λ_=>by omega,λ_=>rfl⟩
set_option maxHeartbeats 2000000 in
theorem bsearch_any (r:List Ed) (c:Nat) (v:Value) (w:World) (h:EdIn w v r) (hs:SortE 0 r) (hl:r.length<=10000) :
  Calls Tryz.prog 150 #[v, .int .u8 (c:Int), .func (.func 151) #[] #[]] w (BsPost r c w):=by
 obtain ⟨A,cp,rfl,hc,hcell⟩:=h;obtain ⟨n,hn⟩:∃n,r.length=n:=⟨_,rfl⟩;have HC:=Lib.hid hcell;have HS:=Lib.hid hs;have HN:=Lib.hid hn;rw[hn]at hc hl|-;clear hcell hs hn
 go_enter Tryz.func150,Tryz.ntmps150
 go_wp2_with fail
 go_loopg [9,10] n (λkx s9 s10 wr=>∃lo hi:Nat,s9 = .int .i64 (lo:Int)/\s10 = .int .i64 (hi:Int)/\lo<=hi/\hi<=n/\hi-lo<=kx/\Hid (Below w.heap.size w wr)/\
  Hid ((∀t (h:t<r.length),t<lo->r[t].hi<c)/\(∀t (h:t<r.length),hi<=t->c<=r[t].hi)))
 case atStart=>exact ⟨0,n,rfl,rfl,Nat.zero_le _,Nat.le_refl _,by omega,Lib.hid (Below.refl _ _),λt _ ht=>absurd ht (Nat.not_lt_zero _),λt h ht=>by have:=HN.out;omega⟩
 case round=>
  obtain ⟨lo,hi,rfl,rfl,hlh,hin,hg,HB,HI⟩:=hrel;by_cases hlt:lo<hi
  .have hml:(lo+hi) / 2<n:=by omega
   have hmr:(lo+hi) / 2<r.length:=by rw[HN.out];exact hml
   obtain ⟨g,ff,rfl,hgs,hcs⟩:=HC.out.resolve_left (by intro e;rw[e]at hmr;simp at hmr)
   obtain ⟨p0,p1,p2⟩:=hcs _ hmr;obtain ⟨e,he⟩:∃e,r[(lo+hi) / 2]=e:=⟨_,rfl⟩;rw[he]at p0 p1 p2;have q0:=(HB.out.cell (p:=⟨g,ff+(lo+hi) / 2*3,none⟩) hgs).trans p0;have q1:=(HB.out.cell (p:=⟨g,ff+(lo+hi) / 2*3+1,none⟩) hgs).trans p1;have q2:=(HB.out.cell (p:=⟨g,ff+(lo+hi) / 2*3+2,none⟩) hgs).trans p2;have hdm:decide ((lo+hi) / 2<n)=true:=decide_eq_true hml;have hX:=nx1_any e c wr;obtain ⟨x,hx⟩:∃x,cmpE e c=x:=⟨_,rfl⟩;rw[hx]at hX;have HX:=Lib.hid hX;have HE:=Lib.hid (And.intro ((List.getElem?_eq_getElem hmr).trans (congrArg some he)) hx);clear hcs p0 p1 p2 hmr he hx hX;by_cases hneg:x<0
   .have hd:decide (x<0)=true:=decide_eq_true hneg;have HG:=Lib.hid hneg;clear hneg;go_wp2_with fail;refine HX.out.mono ?_;rintro e' w1 ⟨rfl,hb1⟩;have HB1:=Lib.hid (HB.out.trans (hb1.mono HB.out.size));clear hb1;go_wp2_with fail
    go_roundg (hi - ((lo+hi) / 2+1))
    case measure=>omega
    case rel=>
     refine ⟨(lo+hi) / 2+1,hi,by rw[show ((lo:Int)+(hi:Int)) / 2+1=(((lo+hi) / 2+1:Nat):Int) by omega],rfl,by omega,hin,Nat.le_refl _,HB1,λt h ht=>?_,HI.out.2⟩
     obtain ⟨h12,h3⟩:=HE.out;obtain ⟨h1,h2⟩:=List.getElem?_eq_some_iff.1 h12;have h4:=(cmpE_lt (e:=e) (c:=c)).1 (by rw[h3];exact HG.out)
     have h5:=(sort_hi HS.out t _ h h1 (by omega)).2
     rw[h2]at h5;omega
   .have hd:decide (x<0)=false:=decide_eq_false hneg;have HG:=Lib.hid hneg;clear hneg;go_wp2_with fail;refine HX.out.mono ?_;rintro e' w1 ⟨rfl,hb1⟩;have HB1:=Lib.hid (HB.out.trans (hb1.mono HB.out.size));clear hb1;go_wp2_with fail
    go_roundg ((lo+hi) / 2-lo)
    case measure=>omega
    case rel=>
     refine ⟨lo,(lo+hi) / 2,rfl,by rw[show ((lo:Int)+(hi:Int)) / 2=(((lo+hi) / 2:Nat):Int) by omega],by omega,by omega,Nat.le_refl _,HB1,HI.out.1,λt h ht=>?_⟩
     obtain ⟨h12,h3⟩:=HE.out;obtain ⟨h1,h2⟩:=List.getElem?_eq_some_iff.1 h12;have h4:=mt (cmpE_lt (e:=e) (c:=c)).2 (by rw[h3];exact Int.not_lt.2 HG.out)
     have h5:=(sort_hi HS.out _ t h1 h ht).2;rw[h2]at h5;omega
  .obtain rfl:hi=lo:=by omega
   have HT:Hid (trn r c=(r[hi]?).bind λe=>if e.lo<=c then some e.to else none):=trn_at hi HS.out HI.out.1 (λh=>HI.out.2 hi h (Nat.le_refl _)) (by rw[HN.out];exact hin)
   by_cases hlast:hi<n
   .have hmr:hi<r.length:=by rw[HN.out];exact hlast
    obtain ⟨g,ff,rfl,hgs,hcs⟩:=HC.out.resolve_left (by intro e;rw[e]at hmr;simp at hmr)
    obtain ⟨p0,p1,p2⟩:=hcs _ hmr;obtain ⟨e,he⟩:∃e,r[hi]=e:=⟨_,rfl⟩;rw[he]at p0 p1 p2;have q0:=(HB.out.cell (p:=⟨g,ff+hi*3,none⟩) hgs).trans p0;have q1:=(HB.out.cell (p:=⟨g,ff+hi*3+1,none⟩) hgs).trans p1;have q2:=(HB.out.cell (p:=⟨g,ff+hi*3+2,none⟩) hgs).trans p2;have hdm:decide (hi<n)=true:=decide_eq_true hlast;have hX:=nx1_any e c wr;obtain ⟨x,hx⟩:∃x,cmpE e c=x:=⟨_,rfl⟩;rw[hx]at hX;have HX:=Lib.hid hX;have HE:=Lib.hid (And.intro ((List.getElem?_eq_getElem hmr).trans (congrArg some he)) hx);have hce:=HI.out.2 hi hmr (Nat.le_refl _);rw[he]at hce;have HCE:=Lib.hid hce;have HT2:=HT.out;rw[List.getElem?_eq_getElem hmr,he,Option.bind_some]at HT2;have HT3:=Lib.hid HT2;clear hcs p0 p1 p2 hce HT2 he hmr hx hX;go_wp2_with fail;refine HX.out.mono ?_;rintro e' w1 ⟨rfl,hb1⟩;have HB1:=Lib.hid (HB.out.trans (hb1.mono HB.out.size));clear hb1;go_wp2_with fail;refine post_named λWf hWf=>?_;subst hWf;refine bodyPost_ret (v:=.tuple #[.int .i64 (hi:Int), .bool (decide (x=0))]) (by simp[results,Tryz.results150,go_sem];try rfl) rfl ?_
    have key:(x=0)↔e.lo<=c:=by rw[<-HE.out.2,cmpE_eq];exact ⟨λh=>h.1,λh=>⟨h,HCE.out⟩⟩
    refine ⟨hi,decide (x=0),rfl,HB1.out,λh=>⟨e,?_,?_⟩,λh=>?_⟩
    .exact HE.out.1
    .rw[HT3.out,if_pos (key.1 (of_decide_eq_true h))]
    .rw[HT3.out,if_neg (mt key.2 (of_decide_eq_false h))]
   .have hdm:decide (hi<n)=false:=decide_eq_false hlast;go_wp2_with fail;refine post_named λWf hWf=>?_;subst hWf;refine bodyPost_ret (v:=.tuple #[.int .i64 (hi:Int), .bool false]) (by simp[results,Tryz.results150,go_sem];try rfl) rfl ?_
    exact ⟨hi,false,rfl,HB.out,λh=>(by cases h),λ_=>by rw[HT.out,List.getElem?_eq_none (by rw[HN.out];omega)];rfl⟩
def nxF (m:Mc) (s c:Nat):Int:=match trn (rowM m s) c with | none=>-1 | some t=>(t:Int)
set_option maxHeartbeats 2000000 in
theorem mnext_any (v:Value) (m:Mc) (s c:Nat) (w:World) (hm:McIn w v m) (hv:Vld m) (hsm:McSm m) (hs:s<m.ed.length) :
  Calls Tryz.prog 122 #[v, .int .i64 (s:Int), .int .u8 (c:Int)] w λe w'=>e = .returned (.int .i64 (nxF m s c))/\Below w.heap.size w w':=by
 obtain ⟨ve,va,rfl,he,ha⟩:=hm;obtain ⟨Ae,ce,rfl,hce1,hce2⟩:=he.form;obtain ⟨g,f,rv,rfl,-,hg,hcE,hed⟩:=he.at_ hs;obtain ⟨n,hn⟩:∃n,m.ed.length=n:=⟨_,rfl⟩;have hsn:s<n:=by rw[<-hn];exact hs
 have hd:decide (s<n)=true:=decide_eq_true hsn;have hnn:=hsm.n;have hrm:rowM m s=m.ed[s]:=by unfold rowM;rw[List.getElem?_eq_getElem hs];rfl
 have hbs:=λW (h:Below w.heap.size w W)=>bsearch_any m.ed[s] c rv W (hed.later h) (hv.srt _ (List.getElem_mem hs)) (hsm.rl _ (List.getElem_mem hs));have hedl:=λW (h:Below w.heap.size w W)=>hed.later h;rw[<-hrm]at hbs hedl hed;obtain ⟨Ar,cr,hrf,-⟩:=hed.form;subst hrf;have hgW:=λW (h:Below w.heap.size w W)=>(h.cell (p:=⟨g,f+s,none⟩) hg).trans hcE;obtain ⟨row,hrow⟩:∃r,rowM m s=r:=⟨_,rfl⟩;have HV:Hid (nxF m s c=match trn row c with | none=>-1 | some t=>(t:Int)):=by rw[<-hrow];rfl
 rw[hrow]at hbs hedl hgW hcE;obtain ⟨nr,hnr⟩:∃n,row.length=n:=⟨_,rfl⟩;rw[hnr]at hbs hedl hgW hcE;rw[hn]at hce1|-;have HB:=Lib.hid hbs;have HE:=Lib.hid hedl;have HG:=Lib.hid hgW;clear hbs hedl hgW hed he ha hv hrow hrm hs hsm hn;have hb0:Below w.heap.size w (w.alloc (.cells #[.slice (some ⟨g,f,none⟩) n ce,va] 93)):=(Below.refl _ _).alloc (Nat.le_refl _) _;have hg0:=HG.out _ hb0;have HB0:=Lib.hid hb0;clear hb0 hcE
 go_enter Tryz.func122,Tryz.ntmps122
 go_wp2_with fail;refine (HB.out _ HB0.out).mono ?_;rintro e w1 ⟨k,q,rfl,hb1,ht,hf⟩;have hbW:=HB0.out.trans (hb1.mono (by simp))
 have hX:=hf
 cases q with
 | false=>
  have HT:=Lib.hid (And.intro (hf rfl) hbW);clear ht hf hbW hb1 hX;go_wp2_with fail;go_ret;exact ⟨ret_int (by rw[HV.out,HT.out.1]),HT.out.2⟩
 | true=>
  obtain ⟨ed,hk,htr⟩:=ht rfl;have hel:=HE.out _ hbW;obtain ⟨A2,c2,e2,hc2,h2⟩:=hel;injection e2 with e21 e22 e23;obtain ⟨hkl,hke⟩:=List.getElem?_eq_some_iff.1 hk;obtain ⟨g2,f2,e3,hg2,hcs⟩:=h2.resolve_left (by intro e;rw[e]at hkl;simp at hkl)
  obtain ⟨-,-,p2⟩:=hcs k hkl;rw[hke]at p2;obtain rfl:=e21.trans e3;have hkn0:k<nr:=by omega
  have hkn:decide (k<nr)=true:=decide_eq_true hkn0;have hkn1:decide ((k:Int)<(nr:Int))=true:=decide_eq_true (by omega)
  have HT:=Lib.hid (And.intro htr hbW);obtain ⟨tq,hto⟩:∃x,ed.to=x:=⟨_,rfl⟩;rw[hto]at p2;have HTO:=Lib.hid hto;clear ht hf hbW hb1 hX hk h2 hcs hke htr hto hkl e21 e3 e22 e23 hc2 hnr;go_wp2_with fail;go_ret;exact ⟨ret_int (by rw[HV.out,HT.out.1,<-HTO.out]),HT.out.2⟩
end Go.Proofs.YtdmoogjddmdmbaaGreatDoor
