/- Walks: the edges of a group. Conditions: the variables read as laid. · The memory of a compile: what is read alone while groups and edges are made. · Walks: machine.describe. Conditions: the variables read as laid. · Walks: machine.classes. Conditions: the variables read as laid. · Walks: machine.least. Conditions: the variables read as laid. · A compile: where groups begin; what it answers. · A compile: a round of the groups. · Walks: the text of a pattern at one pattern: signs and sets. · Walk: pattern.writeSet at any ranges. · Walks: the text of a pattern at one pattern. · Walks: pattern.Text and pattern.Parse at one text. · Walks: pattern.Parse at one text. · Walk: pattern.Parse at one text. -/
import Derived.Test.YtljgapfmgegifaaGreatDoorV24
import Derived.Test.YtljgapfmgegifaaGreatDoorV07
import Derived.Test.YtljgapfmgegifaaGreatDoorV13
import Derived.Test.YtljgapfmgegifaaGreatDoorV16
import Derived.Test.YtljgapfmgegifaaGreatDoorV04
import Derived.Laws.AppendOwnNone
import Derived.Test.YtljgapfmgegifaaGreatDoorV05
import Derived.Test.YtljgapfmgegifaaGreatDoorV20
import Derived.Test.YtljgapfmgegifaaGreatDoorV12
import Derived.Test.YtljgapfmgegifaaGreatDoorV08
import Derived.Deep.CutRange
import Derived.Test.YtljgapfmgegifaaGreatDoorV18
namespace Go.Proofs.YtljgapfmgegifaaGreatDoor
set_option linter.unusedVariables false
set_option linter.unusedSimpArgs false
set_option maxRecDepth 100000
open Go.RowKit
def CU (B:Nat) (v:Value) (L:List Nat) (w:World):Prop:=w.ownsRow B 3 1 v L.length (ints L)/\(v = .slice none 0 0\/L≠[])
theorem CU.later {B:Nat} {v:Value} {L:List Nat} {w w':World} (h:CU B v L w) (hb:Below w.heap.size w w'):CU B v L w':=⟨own_later h.1 hb,h.2⟩
theorem CU.il {B:Nat} {v:Value} {L:List Nat} {w:World} (h:CU B v L w):IL w v L:=IL.of_own h.1 λhv=>h.2.resolve_left hv
structure EgR (w0:World) (s mb:Nat) (v0 v1 v2:Value) (b:Pb) (gs:List (List Nat)) (fp fo:List Nat) (wB:World) (cuts:List Nat) (i:Nat) (row:List Ed) (gs':List (List Nat)) (fp':List Nat) (ov:Value) (wr:World):Prop where
 own:OR 184 3 edC wB.heap.size ov row wr
 out:outOf fp' ov
 sb:SbI w0.heap.size s mb v0 v1 v2 gs' fp' wr
 kf:KeepF fp fp' wB wr
 ri:RowI b fo gs' row (vAt cuts i)
 gg:GrowG b fo gs gs'
 ln:gs'.length<=gs.length+i/\row.length<=i
def EdPost (w0:World) (s mb:Nat) (v0 v1 v2:Value) (b:Pb) (gs:List (List Nat)) (fp fo:List Nat) (w:World) (e:Ending) (w':World):Prop:=
 ∃row gs' fp' rv,e = .returned rv/\(EdIn w' rv row/\outOf fp' rv/\∀g,rv.ownBlock=some g->w.heap.size<=g/\g<w'.heap.size)/\SbI w0.heap.size s mb v0 v1 v2 gs' fp' w'/\KeepF fp fp' w w'/\RowI b fo gs' row 256/\GrowG b fo gs gs'/\gs'.length<=gs.length+257/\row.length<=257
set_option maxHeartbeats 16000000 in
theorem edges_any (w0:World) (s mb:Nat) (v0 v1 v2:Value) (b:Pb) (gs:List (List Nat)) (fp:List Nat) (w:World) (fo:List Nat) (v:Value)
  (h:SbI w0.heap.size s mb v0 v1 v2 gs fp w) (hs:SetC w0 fp w v0 b.sets) (hbel:Below w0.heap.size w0 w) (hR:∀rs∈b.sets,rngF rs=true)
  (hv:IL w v fo) (ho:outOf fp v) (hfo:∀p∈fo,p<b.sets.length) (hfl:fo.length<=600) (hsl:b.sets.length<=600) (hgs:gs.length<=100000) (h0:gs[0]?=some []) (hvr:VrOK w) (hlow:nG<=w0.heap.size) :
  Calls Tryz.prog 115 #[.pointer (some ⟨s,0,none⟩),v] w (EdPost w0 s mb v0 v1 v2 b gs fp fo w):=by
 obtain ⟨Af,cf,rfl,hcf1,hcf2⟩:=hv.form;obtain ⟨vg,gv,F,rfl,hb⟩:=h;obtain ⟨Av,cv,rfl,hcv,-⟩:=id hs;have hcs:=hb.cs;have hlt:=hb.lt;have hls:s<w.heap.size:=(hlt s (by simp[fpG])).2
 obtain ⟨nf,hnf⟩:∃n,fo.length=n:=⟨_,rfl⟩;obtain ⟨ns,hns⟩:∃n,b.sets.length=n:=⟨_,rfl⟩;obtain ⟨ii,hii,hj0,hj1,hj2⟩:=info_parts info_int;have h256:=hs.lt;have HSL:=Lib.hid (show (∀rs∈b.sets,rs.length<=257)/\∀rs∈b.sets,∀r∈rs,r.1<256/\r.2<256 from ⟨λrs h=>rngF_le (hR rs h) λr hr=>(h256 rs h r hr).2,h256⟩);clear h256;rw[hns]at hs hb;have HV:=Lib.hid hv;have HO:=Lib.hid ho;have HS:=Lib.hid hs;have HB:=Lib.hid hb;have HR:=Lib.hid hR;have HFO:=Lib.hid hfo;have HLT:=Lib.hid hlt;have HBEL:=Lib.hid hbel;have H0:=Lib.hid h0;have HVR:=Lib.hid hvr;have HN:=Lib.hid (And.intro hnf hns);have HGS:=Lib.hid hgs;rw[hns]at hcs hsl hcv;rw[hnf]at hfl hcf1|-;have HCS:=Lib.hid hcs;rw[hns];have hw0w:=hbel.size;clear hv ho hs hb hR hfo hlt hbel h0 hvr hnf hns hgs hcs
 go_enter Tryz.func115,Tryz.ntmps115
 go_wp2_with fail
 go_loopw [19,5] (λiv cu wr=>∃k:Nat,k<=nf/\iv = .int .i64 (k:Int)/\Hid (CU w.heap.size cu (cutF b.sets (fo.take k)) wr)/\Hid (Below w.heap.size w wr)) (λiv _ _=>nf - (intOf iv).toNat)
 case atStart=>exact ⟨0,Nat.zero_le _,rfl,⟨World.ownsRow_nil _ _ _ _, .inl rfl⟩,Below.refl _ _⟩
 case round=>
  obtain ⟨k,hk,rfl,HC,HBW⟩:=hrel;by_cases hlt:k<nf
  .have hd:decide ((k:Int)<(nf:Int))=true:=decide_eq_true (by omega)
   have hkl:k<fo.length:=by rw[HN.out.1];exact hlt
   obtain ⟨g,f,rfl,hg,hcell⟩:=HV.out.at_ hkl;have hc0:=hcell wr (HBW.out.block g hg);have hwr:=HBW.out.size;have hglr:g<wr.heap.size:=by omega
   obtain ⟨p,hpe⟩:∃p,fo[k]=p:=⟨_,rfl⟩;have hpm:p∈fo:=by rw[<-hpe];exact List.getElem_mem hkl
   have hpl:=HFO.out p hpm;obtain ⟨gS,rv,rfl,-,hgS,hcS,hrg⟩:=HS.out.at_ hpl;have hcS2:=(World.cell?_of_block (a:=⟨gS,p,none⟩) (HBW.out.block gS hgS)).trans hcS;have hgSr:gS<wr.heap.size:=by omega
   rw[hpe]at hc0;have hlsr:s<wr.heap.size:=by omega
   have hrow:wr.heap[s]?=_:=(HBW.out.block s hls).trans HCS.out;have d0:wr.cell? ⟨s,0,none⟩=some (.slice (some ⟨gS,0,none⟩) ns cv):=by rw[cell_of_row _ _ _ _ _ _ hrow];rfl
   have hpn:p<ns:=by rw[<-HN.out.2];exact hpl
   have hdp:decide (p<ns)=true:=decide_eq_true hpn;obtain ⟨rs,hrs⟩:∃rs,b.sets[p]=rs:=⟨_,rfl⟩;rw[hrs]at hrg;obtain ⟨Ar,cr,rfl,hcr,hrgc⟩:=id hrg;have hrgd:rs=[]\/∃g f,Ar=some ⟨g,f,none⟩/\g<w0.heap.size/\∀i (h:i<rs.length),(w0.cell? ⟨g,f+i*2,none⟩=some (.int .u8 (rs[i].1:Int))/\w0.cell? ⟨g,f+i*2+1,none⟩=some (.int .u8 (rs[i].2:Int)))/\rs[i].1<256/\rs[i].2<256:=hrgc;have hrl:rs.length<=257:=HSL.out.1 rs (by rw[<-hrs];exact List.getElem_mem hpl)
   obtain ⟨nr,hnr⟩:∃n,rs.length=n:=⟨_,rfl⟩;have hsp:b.sets[p]?=some rs:=by rw[List.getElem?_eq_getElem hpl,hrs]
   have hstep:cutF b.sets (fo.take k)++cutR rs=cutF b.sets (fo.take (k+1)):=by rw[List.take_succ_eq_append_getElem hkl,hpe,cutF_snoc,hsp];rfl
   have HST:=Lib.hid hstep;have HRD:=Lib.hid hrgd;have HNR:=Lib.hid hnr;rw[hnr]at hcr hrl hcS2;have hlen0:(cutF b.sets (fo.take k)).length<=2*257*k:=Nat.le_trans (cutF_len HSL.out.1 _) (Nat.mul_le_mul_left _ (List.length_take_le _ _));obtain ⟨L0,hL0⟩:∃L,cutF b.sets (fo.take k)=L:=⟨_,rfl⟩;rw[hL0]at HC HST hlen0;have HBWR:=Lib.hid HBW.out;clear hcell hpe hpm hpl hcS hrg hrs hrgc hrgd hsp hstep hrow hkl hL0 HBW;go_wp2_with fail;obtain ⟨WO,rfl⟩:∃W:World,W=wr:=⟨_,rfl⟩
   go_loopw [32,5] (λjv cu2 wr=>∃j:Nat,j<=nr/\jv = .int .i64 (j:Int)/\Hid (CU w.heap.size cu2 (L0++cutR (rs.take j)) wr)/\Hid (Below w.heap.size w wr)) (λjv _ _=>nr - (intOf jv).toNat)
   case atStart=>exact ⟨0,Nat.zero_le _,rfl,by rw[List.take_zero];simp only[cutR,List.append_nil];exact HC,HBWR⟩
   case round=>
    obtain ⟨j,hj,rfl,HC2,HB2⟩:=hrel;by_cases hlt2:j<nr
    .have hd2:decide ((j:Int)<(nr:Int))=true:=decide_eq_true (by omega)
     have hjl:j<rs.length:=by rw[HNR.out];exact hlt2
     obtain ⟨g2,f2,rfl,hg2,hcr2⟩:=HRD.out.resolve_left (λe=>by rw[e]at hjl;cases hjl)
     obtain ⟨⟨q1,q2⟩,q3,q4⟩:=hcr2 j hjl;have hw2:=HB2.out.size;have hblk:wr.heap[g2]?=w0.heap[g2]?:=(HB2.out.block g2 (by omega)).trans (HBEL.out.block g2 hg2)
     have r1:=(World.cell?_of_block (a:=⟨g2,f2+j*2,none⟩) hblk).trans q1;have r2:=(World.cell?_of_block (a:=⟨g2,f2+j*2+1,none⟩) hblk).trans q2;have hg2l:g2<wr.heap.size:=by omega
     obtain ⟨lo,hi,hx⟩:∃lo hi,rs[j]=(lo,hi):=⟨_,_,rfl⟩;rw[hx]at r1 r2 q3 q4;have hst2:(L0++cutR (rs.take j))++[lo,hi+1]=L0++cutR (rs.take (j+1)):=by rw[List.take_succ_eq_append_getElem hjl,hx,cutR_snoc,List.append_assoc]
     have HS2:=Lib.hid hst2;have hln2:(L0++cutR (rs.take j)).length<=1000000:=by
      have:=List.length_take_le j rs;rw[List.length_append,cutR_len];omega
     obtain ⟨Ac,nc,cc,rfl⟩:∃A n c,u5 = .slice A n c:=by
      obtain ⟨A,c,e,-⟩:=own_form HC2.out.1;exact ⟨_,_,_,e⟩
     have HL2:=Lib.hid hln2;clear hcr2 q1 q2 hblk hx hst2 hln2 hjl;have hownA:(wr.alloc (.cells #[.int .u8 (lo:Int), .int .u8 (hi:Int)] 78)).ownsRow w.heap.size 3 1 (.slice Ac nc cc) (L0++cutR (rs.take j)).length (ints (L0++cutR (rs.take j))):=HC2.out.1.alloc _;have hszA:(wr.alloc (.cells #[.int .u8 (lo:Int), .int .u8 (hi:Int)] 78)).heap.size=wr.heap.size+1:=by simp
     go_wp2_with (at_builtin; refine app_new (w:=wr.alloc (.cells #[.int .u8 (lo:Int), .int .u8 (hi:Int)] 78)) Tryz.underlying22 hii hj0 hj1 hj2 rfl _ _ _ _ 2 2 _ [.int .i64 (lo:Int), .int .i64 ((hi:Int)+1)] w.heap.size rfl rfl rfl (by rw[hszA]; rfl) rfl hownA (by intro u hu; simp at hu; rcases hu with rfl | rfl <;> rfl) (by have:=HL2.out; omega) (by have:=HL2.out; omega) (by omega) ?_)
     intro v' w3 hown3 hb3 hnil3;obtain ⟨A',n',c',rfl⟩:∃A n c,v' = .slice A n c:=by
      obtain ⟨A,c,e,-⟩:=own_form hown3;exact ⟨_,_,_,e⟩
     have hcu3:CU w.heap.size (.slice A' n' c') (L0++cutR (rs.take (j+1))) w3:=by
      rw[<-HS2.out];refine ⟨?_, .inr (by simp)⟩
      rw[ints_app,List.length_append,List.length_append];have:ints [lo,hi+1]=[.int .i64 (lo:Int), .int .i64 ((hi:Int)+1)]:=by simp[ints]
      rw[this];exact hown3
     have HC3:=Lib.hid hcu3;have HB3:=Lib.hid (HB2.out.trans ((((Below.refl w.heap.size wr).alloc (by omega) _)).trans (hb3.mono (Nat.le_refl _))))
     clear hown3 hb3 hnil3 hcu3 hownA;go_wp2_with fail;go_roundw
     case rel=>exact ⟨j+1,by omega,by go_num,HC3,HB3⟩
     case measure=>simp[intOf];omega
    .obtain rfl:j=nr:=by omega
     have hd2:decide ((j:Int)<(j:Int))=false:=decide_eq_false (by omega)
     have hc4:=HC2.out;rw[List.take_of_length_le (by rw[HNR.out];exact Nat.le_refl _),HST.out]at hc4
     have HC4:=Lib.hid hc4;clear hc4;go_wp2_with fail;go_roundw
     case rel=>exact ⟨k+1,by omega,by go_num,HC4,HB2⟩
     case measure=>simp[intOf];omega
  .obtain rfl:k=nf:=by omega
   have hd:decide ((k:Int)<(k:Int))=false:=decide_eq_false (by omega)
   have hcu:=HC.out;rw[List.take_of_length_le (by rw[HN.out.1];exact Nat.le_refl _)]at hcu
   have hlenL:(cutF b.sets fo).length<=2*257*k:=by rw[<-HN.out.1];exact cutF_len HSL.out.1 _
   have hso:=sorted_any u5 _ wr hcu.il (by omega)
   have HSO:=Lib.hid hso;obtain ⟨Ac,nc,cc,rfl⟩:∃A n c,u5 = .slice A n c:=by
    obtain ⟨A,c,e,-⟩:=own_form hcu.1;exact ⟨_,_,_,e⟩
   clear hcu hso HC;go_wp2_with fail;refine HSO.out.mono ?_;rintro e wB ⟨vc,cuts,rfl,hsf,hown,hil,hbB⟩;have hci:CutI b fo cuts:=⟨hsf.1,λp hp r hr=>by
    have:=cutF_mem (sets:=b.sets) hp hr;exact ⟨(hsf.2 _).2 this.1,(hsf.2 _).2 this.2⟩,λv hv=>cutF_le HSL.out.2 v ((hsf.2 v).1 hv)⟩
   have hB:=HBW.out.trans (hbB.mono HBW.out.size);have hout:outOf (fpG s mb vg) vc:=λg hg hm=>by have:=(hown.lt g hg).1;have:=(HLT.out g hm).2;have:=HBW.out.size;omega
   have hstart:EgR w0 s mb (.slice Av ns cv) v1 v2 b gs (fpG s mb vg) fo wB cuts 0 [] gs (fpG s mb vg) (.slice none 0 0) wB:=
    ⟨OR.nil_ _ _ _,λg hg=>by simp[Value.ownBlock]at hg,SbI.later ⟨vg,gv,F,rfl,HB.out⟩ hB,KeepF.refl _ _,hci.start gs,GrowG.refl _ _ _,⟨by omega,by simp⟩⟩
   obtain ⟨Av',cv',rfl,hcv1,hcv2⟩:=hil.form;obtain ⟨nc,hnc⟩:∃n,cuts.length=n:=⟨_,rfl⟩;have hnc257:nc<=257:=by rw[<-hnc];exact asc_len (a:=0) hsf.1 λp hp=>⟨Nat.zero_le _,by have:=hci.le p hp;omega⟩
   rw[hnc]at hcv1;have HST:=Lib.hid hstart;have HCI:=Lib.hid hci;have HIL:=Lib.hid (And.intro hil hout);have HBB:=Lib.hid hB;have HNC:=Lib.hid hnc;rw[hnc];have hwB:=hB.size;clear hsf hown hil hbB hci hB hout hstart hnc;go_wp2_with fail
   go_loopw [10,11] (λov iv wr=>∃(i:Nat) (row:List Ed) (gs':List (List Nat)) (fp':List Nat),(i=0\/i+1<=nc)/\iv = .int .i64 (i:Int)/\Hid (EgR w0 s mb (.slice Av ns cv) v1 v2 b gs (fpG s mb vg) fo wB cuts i row gs' fp' ov wr)) (λ_ iv _=>nc - (intOf iv).toNat)
   case atStart=>exact ⟨0,[],gs,fpG s mb vg, .inl rfl,rfl,HST⟩
   case round=>
    obtain ⟨i,row,gs',fp',hi,rfl,HE⟩:=hrel;have hkf:=HE.out.kf;obtain ⟨hswr,d0,-,-⟩:=HE.out.sb.cells;obtain ⟨Ao,no,co,rfl⟩:∃A n c,u10 = .slice A n c:=by
     obtain ⟨A,c,e,-⟩:=own_form HE.out.own;exact ⟨_,_,_,e⟩
    by_cases hlt3:i+1<nc
    .have hd3:decide ((i:Int)+1<(nc:Int))=true:=decide_eq_true (by omega)
     have hic:i+1<cuts.length:=by rw[HNC.out];exact hlt3
     obtain ⟨hl1,hl2⟩:=HCI.out.lt hic;have hilw:=(HIL.out.1.keep HIL.out.2 hkf).1;obtain ⟨gc,fc,rfl,hgc,hcc⟩:=hilw.at_ (show i<cuts.length by omega)
     obtain ⟨gc',fc',e',-,hcc'⟩:=hilw.at_ hic;obtain ⟨rfl,rfl⟩:gc=gc'/\fc=fc':=by injection e' with e';injection e' with e1 e2;exact ⟨e1,e2⟩
     have z0:=hcc wr rfl;have z1:=hcc' wr rfl;have e1:vAt cuts i=cuts[i]:=by unfold vAt;rw[List.getElem?_eq_getElem (by omega)];rfl
     have e2:vAt cuts (i+1)=cuts[i+1]:=by unfold vAt;rw[List.getElem?_eq_getElem hic];rfl
     obtain ⟨lo,hlo⟩:∃x,vAt cuts i=x:=⟨_,rfl⟩;obtain ⟨hi',hhi⟩:∃x,vAt cuts (i+1)=x:=⟨_,rfl⟩;rw[<-e1,hlo]at z0;rw[<-e2,hhi]at z1;rw[hlo,hhi]at hl1;rw[hhi]at hl2;have w1:IntKind.u8.wrap (lo:Int)=(lo:Int):=IntWalk.u8_in _ (by omega)
     have w2:IntKind.u8.wrap ((hi':Int) - 1)=(hi':Int) - 1:=IntWalk.u8_in _ (by omega)
     have w3:IntKind.i64.wrap ((i:Int)+1)=(i:Int)+1:=IntWalk.i64_in _ (by omega)
     have w4:((i:Int)+1).toNat=i+1:=by omega
     have w5:IntKind.i64.wrap ((hi':Int) - 1)=(hi':Int) - 1:=IntWalk.i64_in _ (by omega)
     have HVA:=Lib.hid (And.intro hlo hhi);have HIW:=Lib.hid hilw;clear hcc hcc' e' e1 e2 hilw hlo hhi;go_wp2_with fail
     go_quiet (fail)
     go_wp2_with fail;obtain ⟨WO,rfl⟩:∃W:World,W=wr:=⟨_,rfl⟩
     go_loopw [71,14] (λjv gvv wr=>∃j:Nat,j<=k/\jv = .int .i64 (j:Int)/\Hid (CU WO.heap.size gvv (selG b (fo.take j) lo) wr)/\Hid (Below WO.heap.size WO wr)) (λjv _ _=>k - (intOf jv).toNat)
     case atStart=>exact ⟨0,Nat.zero_le _,rfl,⟨World.ownsRow_nil _ _ _ _, .inl rfl⟩,⟨rfl,rfl,rfl,Nat.le_refl _,λ_ _=>rfl⟩⟩
     case round=>
      obtain ⟨j,hj,rfl,HC4,HB4⟩:=hrel;have hw4:=HB4.out.size;by_cases hlt4:j<k
      .have hd4:decide ((j:Int)<(k:Int))=true:=decide_eq_true (by omega)
       have hjl:j<fo.length:=by rw[HN.out.1];exact hlt4
       have hfo4:=((HV.out.later HBB.out).keep HO.out hkf).1;obtain ⟨gf,ff,rfl,hgf,hcf⟩:=hfo4.at_ hjl;have hc0:=hcf wr (HB4.out.block gf hgf);obtain ⟨p,hpe⟩:∃p,fo[j]=p:=⟨_,rfl⟩;have hpm:p∈fo:=by rw[<-hpe];exact List.getElem_mem hjl
       have hpl:=HFO.out p hpm;obtain ⟨gS,rv,rfl,-,hgS,hcS,hrg⟩:=((HS.out.later HBB.out).keep hkf).at_ hpl;have hcS2:=(World.cell?_of_block (a:=⟨gS,p,none⟩) (HB4.out.block gS hgS)).trans hcS;rw[hpe]at hc0;have hpn:p<ns:=by rw[<-HN.out.2];exact hpl
       have hdp:decide (p<ns)=true:=decide_eq_true hpn;obtain ⟨rs,hrs⟩:∃rs,b.sets[p]=rs:=⟨_,rfl⟩;rw[hrs]at hrg;have d04:=(World.cell?_of_block (a:=⟨s,0,none⟩) (HB4.out.block s hswr)).trans d0;have hb0:Below w0.heap.size w0 wr:=by
        have h1:=HBEL.out.trans (HBB.out.mono hw0w);have h2:Below w0.heap.size wB WO:=hkf.below (λq hq=>(HLT.out q hq).1) (by omega)
        exact (h1.trans h2).trans (HB4.out.mono (by have:=h2.size;omega))
       have hrw:=hrg.later hb0;have hbt:inR rs lo=setP b p lo:=by unfold setP;rw[List.getElem?_eq_getElem hpl,hrs];rfl
       have hsel:selG b (fo.take (j+1)) lo=if setP b p lo=true then selG b (fo.take j) lo++[p] else selG b (fo.take j) lo:=by
        unfold selG;rw[List.take_succ_eq_append_getElem hjl,hpe,List.filter_append];by_cases hx:setP b p lo=true <;> simp[hx]
       have HH:=Lib.hid (λW (h:RgIn W rv rs)=>holds_any rv rs lo W h);have HRW:=Lib.hid hrw;obtain ⟨q,hq⟩:∃q,inR rs lo=q:=⟨_,rfl⟩;rw[hq]at HH hbt;rw[<-hbt]at hsel;have HSE:=Lib.hid hsel;have hln4:(selG b (fo.take j) lo).length<=1000:=by
        have h1:(selG b (fo.take j) lo).length<=(fo.take j).length:=List.length_filter_le _ _;have h2:=List.length_take_le j fo;omega
       obtain ⟨Ag4,ng4,cg4,rfl⟩:∃A n c,u14 = .slice A n c:=by
        obtain ⟨A,c,e,-⟩:=own_form HC4.out.1;exact ⟨_,_,_,e⟩
       obtain ⟨Ar,cr,hrf,-⟩:=id hrw;obtain ⟨nr4,hnr4⟩:∃n,rs.length=n:=⟨_,rfl⟩;rw[hnr4]at hrf;subst hrf;have hgSr:gS<wr.heap.size:=by omega
       have hgfr:gf<wr.heap.size:=by omega
       have hsr:s<wr.heap.size:=by omega
       have HLN4:=Lib.hid hln4;clear hcf hpe hpm hpl hcS hrg hrs hb0 hrw hbt hsel hq hln4 hjl hfo4;go_wp2_with fail;refine (HH.out _ HRW.out).mono ?_;rintro e w5 ⟨rfl,hb5⟩;have HC5:=Lib.hid (HC4.out.later hb5);have HB5:=Lib.hid (HB4.out.trans (hb5.mono hw4));have hw5:=hb5.size;clear hb5
       cases q with
       | false=>
        have hse:=HSE.out;rw[if_neg (by decide)]at hse
        have hc6:=HC5.out;rw[<-hse]at hc6;have HC6:=Lib.hid hc6;clear hc6 hse;go_wp2_with fail;go_roundw
        case rel=>exact ⟨j+1,by omega,by go_num,HC6,HB5⟩
        case measure=>simp[intOf];omega
       | true=>
        have hse:=HSE.out;rw[if_pos rfl]at hse;have HS6:=Lib.hid hse;clear hse;have hown5:=HC5.out.1;go_wp2_with (at_builtin;refine app_new (w:=w5) Tryz.underlying22 hii hj0 hj1 hj2 rfl _ _ _ _ 1 1 _ [.int .i64 (p:Int)] WO.heap.size rfl rfl rfl rfl rfl hown5 (by intro u hu;simp at hu;subst hu;rfl) (by have:=HLN4.out;omega) (by have:=HLN4.out;omega) (by omega) ?_)
        intro v' w6 hown6 hb6 hnil6;obtain ⟨A',n',c',rfl⟩:∃A n c,v' = .slice A n c:=by
         obtain ⟨A,c,e,-⟩:=own_form hown6;exact ⟨_,_,_,e⟩
        have hcu6:CU WO.heap.size (.slice A' n' c') (selG b (fo.take (j+1)) lo) w6:=by
         rw[HS6.out];refine ⟨?_, .inr (by simp)⟩
         rw[ints_app,List.length_append];exact hown6
        have HC6:=Lib.hid hcu6;have HB6:=Lib.hid (HB5.out.trans hb6);clear hown6 hb6 hnil6 hcu6 hown5;go_wp2_with fail;go_roundw
        case rel=>exact ⟨j+1,by omega,by go_num,HC6,HB6⟩
        case measure=>simp[intOf];omega
      .obtain rfl:j=k:=by omega
       have hd4:decide ((j:Int)<(j:Int))=false:=decide_eq_false (by omega)
       have hc7:=HC4.out;rw[List.take_of_length_le (by rw[HN.out.1];exact Nat.le_refl _)]at hc7
       have hsb4:=HE.out.sb.later HB4.out;have hown4:OR 184 3 edC wB.heap.size (.slice Ao no co) row wr:=HE.out.own.later HB4.out;have hkf4:=hkf.trans (KeepF.of_below HB4.out);have hil7:=hc7.il;have hti7:=TI.of_own hc7.1;have hou7:outOf fp' (u14):=λg hg hm=>by have:=(hc7.1.lt g hg).1;have:=(HE.out.sb.lt g hm).2;omega
       have hgl:=HE.out.ln;by_cases hS0:selG b fo lo=[]
       .have hR1:=HCI.out.skip hic HE.out.ri (by rw[HVA.out.1];exact hS0)
        obtain ⟨A7,c7,e7,-⟩:=own_form hc7.1;rw[hS0,List.length_nil]at e7;subst e7;have HEN:Hid (EgR w0 s mb (.slice Av ns cv) v1 v2 b gs (fpG s mb vg) fo wB cuts (i+1) row gs' fp' (.slice Ao no co) wr):=⟨hown4,HE.out.out,hsb4,hkf4,hR1,HE.out.gg,by omega⟩
        clear hc7 hsb4 hown4 hkf4 hil7 hti7 hou7 hS0 hR1;go_wp2_with fail;go_roundw
        case rel=>exact ⟨i+1,row,gs',fp', .inr (by omega),by go_num,HEN⟩
        case measure=>simp[intOf];omega
       .obtain ⟨A7,c7,e7,hc7a,hc7b⟩:=own_form hc7.1;obtain ⟨SS,hSS⟩:∃x,selG b fo lo=x:=⟨_,rfl⟩;obtain ⟨n7,hn7⟩:∃n,SS.length=n:=⟨_,rfl⟩;rw[hSS,hn7]at e7 hc7a;subst e7;have hn70:0<n7:=by rw[<-hn7];rw[hSS]at hS0;cases SS with | nil=>exact absurd rfl hS0 | cons a r=>simp
        have hd7:decide ((0:Int)<(n7:Int))=true:=decide_eq_true (by omega)
        have hn7l:n7<=1000:=by
         rw[<-hn7,<-hSS];have h1:(selG b fo lo).length<=fo.length:=List.length_filter_le _ _;rw[HN.out.1]at h1;omega
        have hvrw:VrOK wr:=by
         have h1:=HVR.out.later HBB.out;have hlow:=HVR.out.low;have h2:Below w.heap.size wB WO->VrOK WO:=λh=>h1.below h hlow;have h3:VrOK WO:=h1.of_low hkf.size λq hq=>hkf.blk q (by omega) λhm=>by have:=(HLT.out q hm).1;omega
         exact h3.later HB4.out
        rw[hSS]at hil7;have hnum:=number_any w0.heap.size s mb _ v1 v2 gs' fp' wr SS _ hsb4 hil7 hou7 hti7 (by omega) (λp hp=>by rw[<-hSS]at hp;have:=HFO.out p (selG_mem.1 hp).1;have:=HN.out.2;omega) (by have:=HGS.out;omega) hvrw
        have HNU:=Lib.hid hnum;have HO4:=Lib.hid hown4;have HK4:=Lib.hid hkf4;have HSS:=Lib.hid (And.intro hSS hS0);have hswr4:s<wr.heap.size:=by omega
        clear hc7 hnum hown4 hkf4 hsb4 hil7 hti7 hou7 hSS hS0 hn7 hvrw;go_wp2_with fail;refine HNU.out.mono ?_;rintro e w8 ⟨fp8,rfl,hsb8,hkf8⟩;obtain ⟨n8,hn8⟩:∃n,(addG gs' SS).idxOf SS=n:=⟨_,rfl⟩;rw[hn8];have ho8:OR 184 3 edC wB.heap.size (.slice Ao no co) row w8:=HO4.out.keep λq hq=>hkf8.blk q (World.ownsRow.lt HO4.out q hq).2 (HE.out.out q hq);have hout8:=outOf_keep HE.out.out (λq hq=>(World.ownsRow.lt HO4.out q hq).2) hkf8;have HK8:=Lib.hid (HK4.out.trans hkf8);have HS8:=Lib.hid hsb8;have HO8:=Lib.hid ho8;have HU8:=Lib.hid hout8;have HN8:=Lib.hid hn8;have hz8:=hkf8.size;have hownA:(w8.alloc (.cells #[.int .u8 (lo:Int), .int .u8 ((hi':Int) - 1), .int .i64 (n8:Int)] 184)).ownsRow wB.heap.size 184 3 (.slice Ao no co) row.length (rowF edC row):=World.ownsRow.alloc ho8 _;have hcx:∀j u,[Value.int .u8 (lo:Int), .int .u8 ((hi':Int) - 1), .int .i64 (n8:Int)][j]?=some u->(w8.alloc (.cells #[.int .u8 (lo:Int), .int .u8 ((hi':Int) - 1), .int .i64 (n8:Int)] 184)).cell? ((⟨w8.heap.size,0,none⟩:Addr).add j)=some u:=by
         intro j u hj;rw[Addr.add_lit,Nat.zero_add,World.cell?_alloc_mark];simpa using hj
        obtain ⟨i3,hi3,hk0,hk1,hk2⟩:=info_parts info_ed;clear hsb8 hkf8 ho8 hout8 hn8;have hbz:wB.heap.size<=(w8.alloc (.cells #[.int .u8 (lo:Int), .int .u8 ((hi':Int) - 1), .int .i64 (n8:Int)] 184)).heap.size:=by have:=HK8.out.size;simp;omega
        go_wp2_with (at_builtin; refine appI_at rfl _ _ 153 rfl wB.heap.size 184 i3 _ 3 16 Tryz.underlying153 hi3 hk0 hk1 hk2 rfl (by decide) _ row.length (rowF edC row) rfl hownA ⟨w8.heap.size,0,none⟩ 1 1 [.int .u8 (lo:Int), .int .u8 ((hi':Int) - 1), .int .i64 (n8:Int)] rfl rfl hcx (by intro u hu; simp at hu; rcases hu with rfl | rfl | rfl <;> rfl) (by unfold maxLen; omega) (by omega) hbz ?_)
        intro v' w9 hown9 hg9 hf9;obtain ⟨A9,n9,c9,rfl⟩:∃A n c,v' = .slice A n c:=by
         obtain ⟨A,c,e,-⟩:=own_form hown9;exact ⟨_,_,_,e⟩
        have hEN:EgR w0 s mb (.slice Av ns cv) v1 v2 b gs (fpG s mb vg) fo wB cuts (i+1) (row++[⟨lo,hi' - 1,n8⟩]) (addG gs' SS) fp8 (.slice A9 n9 c9) w9:=by
         have hBA:Below w8.heap.size w8 (w8.alloc (.cells #[.int .u8 (lo:Int), .int .u8 ((hi':Int) - 1), .int .i64 (n8:Int)] 184)):=(Below.refl _ _).alloc (Nat.le_refl _) _;have hzA:(w8.alloc (.cells #[.int .u8 (lo:Int), .int .u8 ((hi':Int) - 1), .int .i64 (n8:Int)] 184)).heap.size=w8.heap.size+1:=by simp
         refine ⟨?_,?_,(HS8.out.later hBA).grown hownA (by decide) HU8.out hg9,((HK8.out.trans (KeepF.of_below hBA)).grown hg9 λq hq=>(hownA.lt q hq).1),?_,?_,?_⟩
         .show w9.ownsRow _ _ _ _ (row++[_]).length (rowF edC (row++[_]));rw[rowF_app,rowF_single,List.length_append];have:edC ⟨lo,hi' - 1,n8⟩=[Value.int .u8 (lo:Int), .int .u8 ((hi':Int) - 1), .int .i64 (n8:Int)]:=by
           unfold edC;simp only[List.cons.injEq,Value.int.injEq,true_and,and_true];omega
          rw[this];exact hown9
         .intro q hq;rcases hf9 with hf | ⟨q',hf,hq'⟩
          .rw[hf]at hq;exact HU8.out q hq
          .rw[hf]at hq;injection hq with hq;subst hq;intro hm;have:=(HS8.out.lt q' hm).2;omega
         .have:=HCI.out.add hic HE.out.ri (by
           have hg:=HE.out.gg;obtain ⟨more,e,-,-⟩:=hg;rw[e];have hl:0<gs.length:=(List.getElem?_eq_some_iff.1 H0.out).1;rw[List.getElem?_append_left hl];exact H0.out) (by rw[HVA.out.1];exact HSS.out.2)
          rw[HVA.out.1,HVA.out.2,HSS.out.1,HN8.out]at this;rw[HVA.out.2];exact this
         .have:=HE.out.gg.add (c:=lo) (by omega) HSS.out.2
          rw[HSS.out.1]at this;exact this
         .have h1:=(addG_len gs' SS).2;rw[List.length_append,List.length_singleton];omega
        have HEN:=Lib.hid hEN;clear hown9 hg9 hf9 hEN hownA hcx hbz;go_wp2_with fail;go_roundw
        case rel=>exact ⟨i+1,_,_,fp8, .inr (by omega),by go_num,HEN⟩
        case measure=>simp[intOf];omega
    .have hd3:decide ((i:Int)+1<(nc:Int))=false:=decide_eq_false (by omega)
     have w3:IntKind.i64.wrap ((i:Int)+1)=(i:Int)+1:=IntWalk.i64_in _ (by omega)
     go_wp2_with fail;refine post_named λWf hWf=>?_;subst hWf;refine bodyPost_ret (v:=.slice Ao no co) (by simp[results,Tryz.results115,go_sem];try rfl) rfl ?_
     have hri:=HCI.out.done (by rw[HNC.out];omega) HE.out.ri
     exact ⟨row,gs',fp',_,rfl,⟨EdIn.of_OR HE.out.own,HE.out.out,λg hg=>⟨Nat.le_trans HBB.out.size (World.ownsRow.lt HE.out.own g hg).1,(World.ownsRow.lt HE.out.own g hg).2⟩⟩,HE.out.sb,(KeepF.of_below HBB.out).trans hkf,hri,HE.out.gg,by have:=HE.out.ln;omega,by have:=HE.out.ln;omega⟩
end Go.Proofs.YtljgapfmgegifaaGreatDoor
namespace Go.Proofs.YtljgapfmgegifaaGreatDoor
set_option linter.unusedVariables false
set_option linter.unusedSimpArgs false
set_option maxRecDepth 100000
open Go.RowKit
open Go.Maps (Keyed)
theorem KeepF.appL {f1 f2:List Nat} (g:List Nat) {a b:World} (h:KeepF f1 f2 a b):KeepF (f1++g) (f2++g) a b:=
 ⟨h.os,h.tape,h.output,h.size,λk hk hn=>h.blk k hk λhm=>hn (List.mem_append_left _ hm),λk hk=>(List.mem_append.1 hk).elim (λhm=>(h.new k hm).imp (List.mem_append_left _) id) λhm=>.inl (List.mem_append_right _ hm)⟩
theorem KeepF.appR {f1 f2:List Nat} (g:List Nat) {a b:World} (h:KeepF f1 f2 a b):KeepF (g++f1) (g++f2) a b:=
 ⟨h.os,h.tape,h.output,h.size,λk hk hn=>h.blk k hk λhm=>hn (List.mem_append_right _ hm),λk hk=>(List.mem_append.1 hk).elim (λhm=>.inl (List.mem_append_left _ hm)) λhm=>(h.new k hm).imp (List.mem_append_right _) id⟩
theorem SL.out {fp fp':List Nat} {w w':World} {v:Value} {l:List Nat} (h:SL w v l) (ho:outOf fp v) (hk:KeepF fp fp' w w') (hl:∀g,v.ownBlock=some g->g<w.heap.size):SL w' v l/\outOf fp' v:=
 ⟨h.keep ho hk,λg hg hm=>(hk.new g hm).elim (ho g hg) λhz=>by have:=hl g hg;omega⟩
def FolC (L:List Nat) (w:World) (v:Value) (fol:List (List Nat)):Prop:=∃g c,v = .slice (some ⟨g,0,none⟩) fol.length c/\(fol.length<=c/\c<=9223372036854775807)/\g<w.heap.size/\g∉L/\
 ∀i (h:i<fol.length),∃rv,w.cell? ⟨g,i,none⟩=some rv/\SL w rv fol[i]/\outOf L rv/\(∀k,rv.ownBlock=some k->k<w.heap.size)/\∀n c,rv = .slice none n c->c=0
def EnC (L:List Nat) (w:World) (v:Value) (n:Nat) (last:List Nat):Prop:=∃g,v = .slice (some ⟨g,0,none⟩) n n/\g<w.heap.size/\g∉L/\∀p,p<n->w.cell? ⟨g,p,none⟩=some (.bool (decide (p∈last)))
theorem FolC.keep {L L':List Nat} {w w':World} {v:Value} {fol:List (List Nat)} (h:FolC L w v fol) (hk:KeepF L L' w w'):FolC L' w' v fol:=by
 obtain ⟨g,c,rfl,hc,hg,hn,hcell⟩:=h;refine ⟨g,c,rfl,hc,Nat.lt_of_lt_of_le hg hk.size,λhm=>(hk.new g hm).elim hn (λh=>by omega),λi hi=>?_⟩
 obtain ⟨rv,h1,h2,h3,h4,h5⟩:=hcell i hi;obtain ⟨q1,q2⟩:=h2.out h3 hk h4;exact ⟨rv,(World.cell?_of_block (a:=⟨g,i,none⟩) (hk.blk g hg hn)).trans h1,q1,q2,λk hk2=>Nat.lt_of_lt_of_le (h4 k hk2) hk.size,h5⟩
theorem EnC.keep {L L':List Nat} {w w':World} {v:Value} {n:Nat} {last:List Nat} (h:EnC L w v n last) (hk:KeepF L L' w w'):EnC L' w' v n last:=by
 obtain ⟨g,rfl,hg,hn,hcell⟩:=h;exact ⟨g,rfl,Nat.lt_of_lt_of_le hg hk.size,λhm=>(hk.new g hm).elim hn (λh=>by omega),λp hp=>(World.cell?_of_block (a:=⟨g,p,none⟩) (hk.blk g hg hn)).trans (hcell p hp)⟩
structure CpS (w0:World) (L:List Nat) (v0 v1 v2:Value) (b:Pb) (x:Prt) (P:Nat) (vx vy:Value) (w:World):Prop where
 set:SetC w0 L w v0 b.sets
 fol:FolC L w v1 b.fol
 ends:EnC L w v2 b.sets.length x.last
 prt:w.heap[P]?=some (.cells #[vx,vy, .bool x.emp] 150 (0,0))/\P∉L
 fst:IL w vx x.first/\outOf L vx
theorem CpS.keep {w0:World} {L L':List Nat} {v0 v1 v2:Value} {b:Pb} {x:Prt} {P:Nat} {vx vy:Value} {w w':World} (h:CpS w0 L v0 v1 v2 b x P vx vy w) (hk:KeepF L L' w w'):CpS w0 L' v0 v1 v2 b x P vx vy w':=by
 have hP:=(Array.getElem?_eq_some_iff.1 h.prt.1).1;exact ⟨h.set.keep hk,h.fol.keep hk,h.ends.keep hk,⟨(hk.blk P hP h.prt.2).trans h.prt.1,λhm=>(hk.new P hm).elim h.prt.2 (λh=>by omega)⟩,h.fst.1.keep h.fst.2 hk⟩
theorem CpS.later {w0:World} {L:List Nat} {v0 v1 v2:Value} {b:Pb} {x:Prt} {P:Nat} {vx vy:Value} {w w':World} (h:CpS w0 L v0 v1 v2 b x P vx vy w) (hb:Below w.heap.size w w'):CpS w0 L v0 v1 v2 b x P vx vy w':=h.keep (KeepF.of_below hb)
theorem SbI.apart {B s mb:Nat} {v0 v1 v2:Value} {gs:List (List Nat)} {fp L L':List Nat} {w w':World} (h:SbI B s mb v0 v1 v2 gs fp w) (hk:KeepF L L' w w') (hd:∀k∈L,k∉fp) (ht:∀k∈L,∃cs e m,w.heap[k]?=some (.cells cs e m)/\e≠3):SbI B s mb v0 v1 v2 gs fp w':=by
 obtain ⟨vg,gv,F,rfl,h⟩:=h;refine ⟨vg,gv,F,rfl,h.same (λk hm=>hk.blk k (h.lt k hm).2 λhl=>hd k hl hm) hk.size λv l hi _ hti=>?_⟩;have ho:outOf L v:=λg hg hl=>by
  obtain ⟨cs,m,e1⟩:=hti g hg;obtain ⟨cs',e',m',e2,hne⟩:=ht g hl;rw[e1]at e2;injection e2 with e2;injection e2 with _ e3 _;exact hne e3.symm
 exact ⟨(hi.keep ho hk).1,hti.keep ho hk⟩
theorem MkM.types {B N:Nat} {fx:List Nat} {vE vA:Value} {gv:List Value} {rs:List (List Ed)} {acs:List Bool} {w:World} (h:MkM B N fx vE vA gv rs acs w):∀k∈fpM N vE vA,∃cs e m,w.heap[k]?=some (.cells cs e m)/\e≠3:=λk hk=>by
 rcases mem_fpM.1 hk with rfl | hk | hk
 .exact ⟨_,_,_,h.hN,by decide⟩
 .obtain ⟨cs,m,e⟩:=own_type h.own k hk;exact ⟨cs,_,m,e,by decide⟩
 .obtain ⟨cs,m,e⟩:=own_type (show w.ownsRow _ _ _ _ _ _ from h.acc) k hk;exact ⟨cs,_,m,e,by decide⟩
theorem app_CU {P:Program} {i0:TypeInfo} {T e:TypeId} (ht:P.underlying T=some (.slice e)) (hi:P.info? e=some i0) (hz0:i0.zero=some (.int .i64 0)) (hz1:i0.size=1) (hz2:i0.bytes=8) (he:e=3)
  {w:World} {ops:Array Oper} {rest:List Oper} {o:Oper} {a:Act} {Q:Exit->Act->World->Prop} (s x:Operand) (v:Value) (A:Option Addr) (n c:Nat) (L l:List Nat) (B:Nat)
  (hgd:o.guard=none) (ho:o.op = .call { callee:=.builtin .append,args:=#[s,x],argTypes:=#[T,T] }) (hs:a.eval s=v) (hx:a.eval x = .slice A n c) (hown:CU B v L w) (hl:SL w (.slice A n c) l) (hA:A=none->c=0) (hlen:L.length+l.length<=10000000000000) (hB:B<=w.heap.size)
  (h:∀v' w1,CU B v' (L++l) w1->Below B w w1->wpList P ops Q rest (a.put o.dst v') w1):wpList P ops Q (o::rest) a w:=by
 subst he;obtain ⟨A',c',e',hc,hor⟩:=hl;injection e' with e1 e2 e3;subst e1 e2 e3;rcases hor with rfl | ⟨g,f,rfl,hg,hcell⟩
 .cases A with
  | none=>
   obtain rfl:=hA rfl;refine wpList_append_own_none hgd s x T ho B _ i0 1 ht hi v L.length _ hs hown.1 hx ?_;exact h v w (by rw[List.append_nil];exact hown) (Below.refl B w)
  | some ad=>
   refine wpList_append_own _ hgd s x T ho B _ i0 _ 1 8 ht hi hz0 hz1 hz2 rfl (by decide) v L.length _ hs hown.1 ad 0 c [] hx rfl (by intro j u hj;simp at hj) (by intro u hu;cases hu) (by unfold maxLen;simp at hlen;omega) (by simp at hlen;omega) hB ?_
   intro v' w1 hown1 hg hn;refine h v' w1 ⟨by rw[List.append_nil];simpa using hown1,?_⟩ ((Below.refl B w).grown hg hB λk hk=>(hown.1.lt k hk).1)
   rcases hown.2 with h1 | h1
   .exact .inl (hn.2 ⟨h1,rfl⟩)
   .exact .inr (by simpa using h1)
 .refine wpList_append_own _ hgd s x T ho B _ i0 _ 1 8 ht hi hz0 hz1 hz2 rfl (by decide) v L.length _ hs hown.1 ⟨g,f,none⟩ l.length c (ints l) hx (by rw[ints_len,Nat.mul_one]) (λj u hj=>?_) (λu hu=>?_) (by unfold maxLen;omega) (by omega) hB ?_
  .unfold ints at hj;rw[List.getElem?_map]at hj
   cases hq:l[j]? with
   | none=>rw[hq]at hj;cases hj
   | some y=>
    rw[hq]at hj;obtain ⟨hjl,hje⟩:=List.getElem?_eq_some_iff.1 hq;rw[Addr.add_lit,hcell j hjl,hje];exact hj
  .unfold ints at hu;obtain ⟨y,-,rfl⟩:=List.mem_map.1 hu;rfl
  .intro v' w1 hown1 hg hn;refine h v' w1 ⟨by rw[ints_app,List.length_append];exact hown1,?_⟩ ((Below.refl B w).grown hg hB λk hk=>(hown.1.lt k hk).1)
   by_cases hl0:L++l=[]
   .obtain ⟨h1,h2⟩:=List.append_eq_nil_iff.1 hl0;exact .inl (hn.2 ⟨hown.2.resolve_right (λh=>h h1),by rw[h2];rfl⟩)
   .exact .inr hl0
end Go.Proofs.YtljgapfmgegifaaGreatDoor
namespace Go.Proofs.YtljgapfmgegifaaGreatDoor
set_option linter.unusedVariables false
set_option linter.unusedSimpArgs false
set_option maxRecDepth 100000
open Go.RowKit
def factDs (kb lo hi tq:Nat) (D0 D1 D2 S5 S6 S12 S13 S17:ByteArray):Nat->Nat->Value->World->Prop
 | c,0,x,w=>x = .pointer (some ⟨kb,0,none⟩)
 | c,1,x,w=>x = .pointer (some ⟨kb,0,none⟩)
 | c,2,x,w=>x = .int .u8 (lo:Int)
 | c,3,x,w=>x = .int .i64 (lo:Int)
 | c,4,x,w=>x = .string D0
 | c,5,x,w=>x = .string S5
 | c,6,x,w=>x = .string S6
 | c,7,x,w=>x = .pointer (some ⟨kb,0,none⟩)
 | c,8,x,w=>x = .pointer (some ⟨kb,1,none⟩)
 | c,9,x,w=>x = .int .u8 (hi:Int)
 | c,10,x,w=>x = .int .i64 (hi:Int)
 | c,11,x,w=>x = .string D1
 | c,12,x,w=>x = .string S12
 | c,13,x,w=>x = .string S13
 | c,14,x,w=>x = .pointer (some ⟨kb,2,none⟩)
 | c,15,x,w=>x = .int .i64 (tq:Int)
 | c,16,x,w=>x = .string D2
 | c,17,x,w=>x = .string S17
 | _,_,_,_=>True
theorem descE_len:∀l:List Ed,(∀e∈l,e.lo<256/\e.hi<256/\e.to<1000000)->(descE l).length<=20*l.length
 | [],_=>Nat.le_refl _
 | e::r,h=>by
  have h1:=descE_len r λx hx=>h x (by simp[hx])
  have h2:=h e (by simp)
  have d0:=dec_len e.lo 2 (by omega)
  have d1:=dec_len e.hi 2 (by omega)
  have d2:=dec_len e.to 6 (by omega)
  simp only[descE,List.length_cons,List.length_append];omega
theorem bl_add (a b:ByteArray):bl (a++b)=bl a++bl b:=by simp[bl]
set_option maxHeartbeats 8000000 in
theorem describe_any (b:Bool) (ev:Value) (l:List Ed) (w:World) (he:EdIn w ev l) (hby:∀e∈l,e.lo<256/\e.hi<256/\e.to<1000000) (hl:l.length<=100000) (hvr:VrOK w) :
  Calls Tryz.prog 188 #[.bool b,ev] w λe w'=>e = .returned (.string (bs (descT b l)))/\Below w.heap.size w w':=by
 obtain ⟨Ae,ce,rfl,hce1,hce2⟩:=he.form;obtain ⟨nl,hnl⟩:∃n,l.length=n:=⟨_,rfl⟩;rw[hnl]at he hce1 hl|-;have HE:=Lib.hid he;have HY:=Lib.hid hby;have HN:=Lib.hid hnl;have HVR:=Lib.hid hvr;have HFB:=Lib.hid (λw=>Tryz.strconv_FormatBool b w);clear he hby hnl hvr
 go_enter Tryz.func188,Tryz.ntmps188
 go_wp2_with (go_at_call 225;refine (HFB.out _).mono ?_;rintro e w1 ⟨rfl,rfl⟩);have hi0:IsB w.heap.size [] (w.alloc (.cells #[.pointer none, .slice none 0 0] 105)):=⟨Lib.fresh_isBuilder _ _ w,by simp⟩
 have hsb:((⟨(Lib.formatBool b).toArray⟩:ByteArray)).size<=1000000:=by cases b <;> decide
 refine (builder_str _ _ _ _ hi0 (by simp) hsb).mono ?_
 rintro e w1 ⟨rfl,hi1,hb1⟩;have hfb:bl ⟨(Lib.formatBool b).toArray⟩=boolT b:=by cases b <;> rfl
 rw[hfb,List.nil_append]at hi1;have HI1:=Lib.hid hi1;have HB1:=Lib.hid (((Below.refl _ w).alloc (Nat.le_refl _) (.cells #[.pointer none, .slice none 0 0] 105)).trans hb1);clear hi0 hsb hi1 hb1 hfb;go_wp2_with fail
 go_loopw [13] (λiv wr=>∃k:Nat,k<=nl/\iv = .int .i64 (k:Int)/\Hid (IsB w.heap.size (boolT b++descE (l.take k)) wr)/\Hid (Below w.heap.size w wr)) (λiv _=>nl - (intOf iv).toNat)
 case atStart=>exact ⟨0,Nat.zero_le _,rfl,by rw[List.take_zero];simp only[descE,List.append_nil];exact HI1,HB1⟩
 case round=>
  obtain ⟨k,hk,rfl,HI,HBW⟩:=hrel;by_cases hlt:k<nl
  .have hd:decide ((k:Int)<(nl:Int))=true:=decide_eq_true (by omega)
   have hkl:k<l.length:=by rw[HN.out];exact hlt
   obtain ⟨g,f,rfl,-,hg,c0,c1,c2⟩:=HE.out.at_ hkl;obtain ⟨e,hle⟩:∃e,l[k]=e:=⟨_,rfl⟩;rw[hle]at c0 c1 c2;have hem:e∈l:=by rw[<-hle];exact List.getElem_mem hkl
   have hblk:=HBW.out.block g hg;have d0:=(World.cell?_of_block (a:=⟨g,f+k*3,none⟩) hblk).trans c0;have d1:=(World.cell?_of_block (a:=⟨g,f+k*3+1,none⟩) hblk).trans c1;have d2:=(World.cell?_of_block (a:=⟨g,f+k*3+2,none⟩) hblk).trans c2;have hwr:=HBW.out.size;have hglr:g<wr.heap.size:=by omega
   obtain ⟨hb0,hb1,hb2⟩:=HY.out e hem;have hst:descE (l.take (k+1))=descE (l.take k)++(32::(Lib.decDigits e.lo++45::(Lib.decDigits e.hi++58::Lib.decDigits e.to))):=by rw[List.take_succ_eq_append_getElem hkl,hle,descE_snoc]
   obtain ⟨lo,hi,tq⟩:=e;simp only at d0 d1 d2 hb0 hb1 hb2 hst;have hdl0:=dec_len lo 2 (by omega)
   have hdl1:=dec_len hi 2 (by omega)
   have hdl2:=dec_len tq 6 (by omega)
   obtain ⟨D0,hD0⟩:∃D,bs (Lib.decDigits lo)=D:=⟨_,rfl⟩;obtain ⟨D1,hD1⟩:∃D,bs (Lib.decDigits hi)=D:=⟨_,rfl⟩;obtain ⟨D2,hD2⟩:∃D,bs (Lib.decDigits tq)=D:=⟨_,rfl⟩;have z0:D0.size<=7:=by rw[<-hD0,size_bs];omega
   have z1:D1.size<=7:=by rw[<-hD1,size_bs];omega
   have z2:D2.size<=7:=by rw[<-hD2,size_bs];omega
   obtain ⟨S5,hS5⟩:∃S,(⟨#[32]⟩:ByteArray)++D0=S:=⟨_,rfl⟩;obtain ⟨S6,hS6⟩:∃S,S5++(⟨#[45]⟩:ByteArray)=S:=⟨_,rfl⟩;obtain ⟨S12,hS12⟩:∃S,S6++D1=S:=⟨_,rfl⟩;obtain ⟨S13,hS13⟩:∃S,S12++(⟨#[58]⟩:ByteArray)=S:=⟨_,rfl⟩;obtain ⟨S17,hS17⟩:∃S,S13++D2=S:=⟨_,rfl⟩;have q32:ByteArray.size ⟨#[32]⟩=1:=rfl;have q45:ByteArray.size ⟨#[45]⟩=1:=rfl;have q58:ByteArray.size ⟨#[58]⟩=1:=rfl;have z5:S5.size<=8:=by rw[<-hS5,ByteArray.size_append];omega
   have z6:S6.size<=9:=by rw[<-hS6,ByteArray.size_append];omega
   have z12:S12.size<=16:=by rw[<-hS12,ByteArray.size_append];omega
   have z13:S13.size<=17:=by rw[<-hS13,ByteArray.size_append];omega
   have z17:S17.size<=24:=by rw[<-hS17,ByteArray.size_append];omega
   have n5:¬(9223372036854775807:Nat)<ByteArray.size ⟨#[32]⟩+D0.size:=by omega
   have n6:¬(9223372036854775807:Nat)<S5.size+ByteArray.size ⟨#[45]⟩:=by omega
   have n12:¬(9223372036854775807:Nat)<S6.size+D1.size:=by omega
   have n13:¬(9223372036854775807:Nat)<S12.size+ByteArray.size ⟨#[58]⟩:=by omega
   have n17:¬(9223372036854775807:Nat)<S13.size+D2.size:=by omega
   have hbl:bl S17=32::(Lib.decDigits lo++45::(Lib.decDigits hi++58::Lib.decDigits tq)):=by
    rw[<-hS17,bl_add,<-hS13,bl_add,<-hS12,bl_add,<-hS6,bl_add,<-hS5,bl_add,<-hD0,<-hD1,<-hD2,bl_bs,bl_bs,bl_bs];show (([32]++_++[45])++_++[58])++_=_;simp
   have HIT0:=Lib.hid (λW (h:VrOK W)=>hD0▸itoa_any lo (by omega) W h)
   have HIT1:=Lib.hid (λW (h:VrOK W)=>hD1▸itoa_any hi (by omega) W h)
   have HIT2:=Lib.hid (λW (h:VrOK W)=>hD2▸itoa_any tq (by omega) W h)
   have HS5:=Lib.hid hS5;have HS6:=Lib.hid hS6;have HS12:=Lib.hid hS12;have HS13:=Lib.hid hS13;have HS17:=Lib.hid hS17;have HST:=Lib.hid (And.intro hst hbl);have hln:(boolT b++descE (l.take k)).length<=1000000000:=by
    have h1:=descE_len (l.take k) λx hx=>HY.out x (List.mem_of_mem_take hx);have h2:=List.length_take_le k l;have h3:(boolT b).length<=5:=by cases b <;> decide
    rw[List.length_append];omega
   have HLN:=Lib.hid hln;have hlow:=HVR.out.low;clear hle hem hblk c0 c1 c2 hst hD0 hD1 hD2 hS5 hS6 hS12 hS13 hS17 hbl hdl0 hdl1 hdl2 hkl hln q32 q45 q58;go_wp2_with fail;refine wp_named λW hW=>?_;have hbW2:Below wr.heap.size wr W:=by rw[hW];exact (Below.refl _ _).alloc (Nat.le_refl _) _
   have hzW:W.heap.size=wr.heap.size+1:=by rw[hW];simp
   have hrW:W.heap[wr.heap.size]?=some (.cells #[.int .u8 (lo:Int), .int .u8 (hi:Int), .int .i64 (tq:Int)] 184 (0,0)):=by rw[hW];exact heap_alloc_new wr _
   obtain ⟨b0,b1,b2⟩:=cells3 hrW;have hlW:wr.heap.size<W.heap.size:=by omega
   have hvW:VrOK W:=HVR.out.below (HBW.out.trans (hbW2.mono hwr)) hlow;have HIW:=Lib.hid (HI.out.later hbW2);have HBW3:=Lib.hid (HBW.out.trans (hbW2.mono hwr));have HVW:=Lib.hid hvW;have hS0:Below W.heap.size W W.drew:=(Below.refl _ _).drew;clear hW hrW hbW2 d0 d1 d2 hvW;refine wp_region_chain 18 [] (factDs wr.heap.size lo hi tq D0 D1 D2 S5 S6 S12 S13 S17) (λ_ w'=>Below W.heap.size W w') (by kernel_rfl) (by kernel_rfl) (by kernel_rfl) (by kernel_rfl) (by kernel_rfl) (by kernel_rfl) (by decide) hS0 ?_ ?_
   .simp only[pq4,pq5];refine HSteps.pure (by decide) ?_ (HSteps.pure (by decide) ?_ (HSteps.pure (by decide) ?_ (HSteps.pure (by decide) ?_ (HSteps.free (by decide) ?_ (HSteps.pure (by decide) ?_ (HSteps.pure (by decide) ?_ (HSteps.pure (by decide) ?_ (HSteps.pure (by decide) ?_ (HSteps.pure (by decide) ?_ (HSteps.pure (by decide) ?_ (HSteps.free (by decide) ?_ (HSteps.pure (by decide) ?_ (HSteps.pure (by decide) ?_ (HSteps.pure (by decide) ?_ (HSteps.pure (by decide) ?_ (HSteps.free (by decide) ?_ (HSteps.pure (by decide) ?_ (HSteps.nil))))))))))))))))))
    all_goals first | (intro v wz c hlo hS hE K hK;simp only[putAll,Act.put,pq1,pq2,pq3,Nat.zero_add,Nat.reduceAdd,pq4,pq5]at hK|-) | (intro v wz hS hE K hK;simp only[putAll,Act.put,pq1,pq2,pq3,Nat.zero_add,Nat.reduceAdd,pq4,pq5]at hK|-)
    .have HX:=Lib.hid hS;clear hS hE hlo;go_wp2_with fail;exact hK.out _ rfl
    .have e0:v 0=_:=hE.1 rfl;rw[e0]at hK|-;have HX:=Lib.hid hS;clear hS hE hlo;go_wp2_with fail;exact hK.out _ rfl
    .have e1:v 1=_:=hE.1 rfl;rw[e1]at hK|-;have cx0:=(hS.cell (p:=⟨wr.heap.size,0,none⟩) hlW).trans b0;have lwz:wr.heap.size<wz.heap.size:=by have:=hS.size;omega
     have HX:=Lib.hid hS;clear hS hE hlo;go_wp2_with fail;exact hK.out _ rfl
    .have e2:v 2=_:=hE.1 rfl;rw[e2]at hK|-;have HX:=Lib.hid hS;clear hS hE hlo;go_wp2_with fail;exact hK.out _ rfl
    .have e3:v 3=_:=hE.1 rfl;rw[e3]at hK|-;have hcall:=HIT0.out wz (HVW.out.later hS);have HC:=Lib.hid hcall;have HX:=Lib.hid hS;clear hS hE hlo hcall;go_wp2_with fail;refine HC.out.mono ?_;rintro e wy ⟨rfl,hb⟩;have HBY:=Lib.hid (HX.out.trans (hb.mono HX.out.size));clear hb;go_wp2_with fail;refine hK.out _ _ (λj z hj h=>?_) HBY.out rfl
     match j with
     | 0 | 1 | 2 | 3 | 5 | 6 | 7 | 8 | 9 | 10 | 11 | 12 | 13 | 14 | 15 | 16 | 17=>exact h
     | 4=>exact absurd rfl hj
     | _+18=>exact trivial
    .have E4:=hE.1 rfl;have e4:v 4=_:=E4;rw[e4]at hK|-;have HX:=Lib.hid hS;clear hS hE hlo;go_wp2_with fail;exact hK.out _ (by rw[HS5.out];rfl)
    .have E5:=hE.1 rfl;have e5:v 5=_:=E5;rw[e5]at hK|-;have HX:=Lib.hid hS;clear hS hE hlo;go_wp2_with fail;exact hK.out _ (by rw[HS6.out];rfl)
    .have HX:=Lib.hid hS;clear hS hE hlo;go_wp2_with fail;exact hK.out _ rfl
    .have e7:v 7=_:=hE.1 rfl;rw[e7]at hK|-;have HX:=Lib.hid hS;clear hS hE hlo;go_wp2_with fail;exact hK.out _ rfl
    .have e8:v 8=_:=hE.1 rfl;rw[e8]at hK|-;have cx1:=(hS.cell (p:=⟨wr.heap.size,1,none⟩) hlW).trans b1;have lwz:wr.heap.size<wz.heap.size:=by have:=hS.size;omega
     have HX:=Lib.hid hS;clear hS hE hlo;go_wp2_with fail;exact hK.out _ rfl
    .have e9:v 9=_:=hE.1 rfl;rw[e9]at hK|-;have HX:=Lib.hid hS;clear hS hE hlo;go_wp2_with fail;exact hK.out _ rfl
    .have e10:v 10=_:=hE.1 rfl;rw[e10]at hK|-;have hcall:=HIT1.out wz (HVW.out.later hS);have HC:=Lib.hid hcall;have HX:=Lib.hid hS;clear hS hE hlo hcall;go_wp2_with fail;refine HC.out.mono ?_;rintro e wy ⟨rfl,hb⟩;have HBY:=Lib.hid (HX.out.trans (hb.mono HX.out.size));clear hb;go_wp2_with fail;refine hK.out _ _ (λj z hj h=>?_) HBY.out rfl
     match j with
     | 0 | 1 | 2 | 3 | 4 | 5 | 6 | 7 | 8 | 9 | 10 | 12 | 13 | 14 | 15 | 16 | 17=>exact h
     | 11=>exact absurd rfl hj
     | _+18=>exact trivial
    .have E6:=hE.1 rfl;have E11:=hE.2.1 rfl;have e6:v 6=_:=E6;have e11:v 11=_:=E11;rw[e6,e11]at hK|-;have HX:=Lib.hid hS;clear hS hE hlo;go_wp2_with fail;exact hK.out _ (by rw[HS12.out];rfl)
    .have E12:=hE.1 rfl;have e12:v 12=_:=E12;rw[e12]at hK|-;have HX:=Lib.hid hS;clear hS hE hlo;go_wp2_with fail;exact hK.out _ (by rw[HS13.out];rfl)
    .have HX:=Lib.hid hS;clear hS hE hlo;go_wp2_with fail;exact hK.out _ rfl
    .have e14:v 14=_:=hE.1 rfl;rw[e14]at hK|-;have cx2:=(hS.cell (p:=⟨wr.heap.size,2,none⟩) hlW).trans b2;have lwz:wr.heap.size<wz.heap.size:=by have:=hS.size;omega
     have HX:=Lib.hid hS;clear hS hE hlo;go_wp2_with fail;exact hK.out _ rfl
    .have e15:v 15=_:=hE.1 rfl;rw[e15]at hK|-;have hcall:=HIT2.out wz (HVW.out.later hS);have HC:=Lib.hid hcall;have HX:=Lib.hid hS;clear hS hE hlo hcall;go_wp2_with fail;refine HC.out.mono ?_;rintro e wy ⟨rfl,hb⟩;have HBY:=Lib.hid (HX.out.trans (hb.mono HX.out.size));clear hb;go_wp2_with fail;refine hK.out _ _ (λj z hj h=>?_) HBY.out rfl
     match j with
     | 0 | 1 | 2 | 3 | 4 | 5 | 6 | 7 | 8 | 9 | 10 | 11 | 12 | 13 | 14 | 15 | 17=>exact h
     | 16=>exact absurd rfl hj
     | _+18=>exact trivial
    .have E13:=hE.1 rfl;have E16:=hE.2.1 rfl;have e13:v 13=_:=E13;have e16:v 16=_:=E16;rw[e13,e16]at hK|-;have HX:=Lib.hid hS;clear hS hE hlo;go_wp2_with fail;exact hK.out _ (by rw[HS17.out];rfl)
   .intro v wz hS hF;have e0:v 0=_:=hF 0 (by decide)
    have e1:v 1=_:=hF 1 (by decide)
    have e2:v 2=_:=hF 2 (by decide)
    have e3:v 3=_:=hF 3 (by decide)
    have e7:v 7=_:=hF 7 (by decide)
    have e8:v 8=_:=hF 8 (by decide)
    have e9:v 9=_:=hF 9 (by decide)
    have e10:v 10=_:=hF 10 (by decide)
    have e14:v 14=_:=hF 14 (by decide)
    have e15:v 15=_:=hF 15 (by decide)
    have E4:=hF 4 (by decide)
    have E5:=hF 5 (by decide)
    have E6:=hF 6 (by decide)
    have E11:=hF 11 (by decide)
    have E12:=hF 12 (by decide)
    have E13:=hF 13 (by decide)
    have E16:=hF 16 (by decide)
    have E17:=hF 17 (by decide)
    simp only[putAll,Act.put,pq1,pq2,pq3,Nat.zero_add,Nat.reduceAdd,pq4,pq5,List.drop_succ_cons,List.drop_zero,e0,e1,e2,e3,e7,e8,e9,e10,e14,e15];clear hF e0 e1 e2 e3 e7 e8 e9 e10 e14 e15;have e17:v 17=_:=E17;rw[e17];have hbz:Below W.heap.size W wz:=hS;have HZ:=Lib.hid hbz;clear hS hbz E4 E5 E6 E11 E12 E13 E16 E17 e17;go_wp2_with fail;refine (builder_str _ _ _ _ (HIW.out.later HZ.out) HLN.out (by omega)).mono ?_
    rintro e w9 ⟨rfl,hi9,hb9⟩;have hi9':IsB w.heap.size (boolT b++descE (l.take (k+1))) w9:=by rw[HST.out.2,List.append_assoc,<-HST.out.1]at hi9;exact hi9
    have HI9:=Lib.hid hi9';have HB9:=Lib.hid (HBW3.out.trans ((HZ.out.mono HBW3.out.size).trans hb9));clear hi9 hi9' hb9;go_wp2_with fail;go_roundw
    case rel=>exact ⟨k+1,by omega,by go_num,HI9,HB9⟩
    case measure=>simp[intOf];omega
  .obtain rfl:k=nl:=by omega
   have hd:decide ((k:Int)<(k:Int))=false:=decide_eq_false (by omega)
   have hib:=HI.out;rw[List.take_of_length_le (by rw[HN.out];exact Nat.le_refl _)]at hib
   have HSF:=Lib.hid (string_f w.heap.size (descT b l) wr ⟨Lib.IsBuilderF.of hib.1,hib.2⟩);clear hib;go_wp2_with fail;refine HSF.out.mono ?_;rintro e w1 ⟨rfl,-,hb1⟩;go_wp2_with fail;go_ret;exact ⟨rfl,HBW.out.trans hb1⟩
end Go.Proofs.YtljgapfmgegifaaGreatDoor
namespace Go.Proofs.YtljgapfmgegifaaGreatDoor
set_option linter.unusedVariables false
set_option linter.unusedSimpArgs false
set_option maxRecDepth 100000
open Go.RowKit
open Go.Maps (Keyed)
def factCl (N ga fa n ca ge fe ce k:Nat) (bb:Bool) (rv cv:Value) (cs:List (Option Nat)) (row:List Ed) (NB:ByteArray):Nat->Nat->Value->World->Prop
 | c,0,x,w=>x = .pointer (some ⟨N,1,none⟩)
 | c,1,x,w=>x = .slice (some ⟨ga,fa,none⟩) n ca
 | c,2,x,w=>x = .int .i64 (k:Int)
 | c,3,x,w=>x = .pointer (some ⟨ga,fa+k,none⟩)
 | c,4,x,w=>x = .bool bb
 | c,5,x,w=>x = .pointer (some ⟨N,0,none⟩)
 | c,6,x,w=>x = .slice (some ⟨ge,fe,none⟩) n ce
 | c,7,x,w=>x = .int .i64 (k:Int)
 | c,8,x,w=>x = .pointer (some ⟨ge,fe+k,none⟩)
 | c,9,x,w=>x=rv
 | c,10,x,w=>x=cv
 | c,11,x,w=>∃A c,x = .slice A (joinF (clF cs) row).length c/\EdIn w x (joinF (clF cs) row)
 | c,12,x,w=>x = .string NB
 | _,_,_,_=>True
structure RdR (m:Mc) (WB:World) (cs ds:List (Option Nat)) (seen:List (Bool×List Ed)) (F:Lit->Option Value) (n k:Nat) (wr:World):Prop where
 mn:MN Tryz.prog 9 WB.heap.size seen.length F wr
 sy:SaysD F seen
 own:OR 3 1 clC (WB.heap.size+1) (.slice (some ⟨WB.heap.size+1,0,none⟩) n n) ds wr
 ri:RndI m cs ds seen k
 bl:Below WB.heap.size WB wr
set_option maxHeartbeats 16000000 in
theorem classes_any (v:Value) (m:Mc) (w:World) (hm:McIn w v m) (hv:Vld m) (hsm:McSm m) (h1:1<=m.ed.length) (hvr:VrOK w) :
  Calls Tryz.prog 158 #[v] w (ClPost m m.ed.length w):=by
 have hal:=λW (h:Below w.heap.size w W)=>alive_any v m W (hm.later h) hv hsm h1;obtain ⟨ve,va,rfl,he,ha⟩:=hm;obtain ⟨Ae,ce,rfl,hce1,hce2⟩:=he.form;obtain ⟨Aa,ca,rfl,hca1,hca2⟩:=ha.form;obtain ⟨n,hn⟩:∃n,m.ed.length=n:=⟨_,rfl⟩;have hac:m.ac.length=n:=by rw[hv.len,hn]
 have hnn:=hsm.n;rw[hac]at ha hca1;rw[hn]at he hce1 h1 hnn;rw[hn,hac]at hal;have HAL:=Lib.hid hal;have HE:=Lib.hid he;have HA:=Lib.hid ha;have HV:=Lib.hid hv;have HSM:=Lib.hid hsm;have HN:=Lib.hid (And.intro hn hac);have HVR:=Lib.hid hvr;have K:Keyed Tryz.prog 9:=Maps.string_keyed Tryz.underlying9;have hz:∀w,(zeroValue 3).run Tryz.prog w = .ok (.int .i64 0) w:=λ_=>by kernel_rfl
 have hmk:=mk_zeros n (by omega)
 have hmm:=@run_makeMap Tryz.prog;rw[hac,hn];have hlow:=hvr.low;clear hal he ha hv hsm hn hac hvr
 go_enter Tryz.func158,Tryz.ntmps158
 go_wp2_with fail;refine (HAL.out _ ?hb0).mono ?_
 case hb0=>exact ((Below.refl w.heap.size w).alloc (Nat.le_refl _) _).alloc (by simp) _
 rintro e w1 ⟨rv,o,rfl,hown1,hb1,ho1,ho2⟩;have hzz0:((w.alloc (.cells #[.slice Ae n ce, .slice Aa n ca] 85)).alloc (.cells (Array.replicate n (.int .i64 0)) 3)).heap.size=w.heap.size+2:=by simp
 have hzero:=zeros_new (w.alloc (.cells #[.slice Ae n ce, .slice Aa n ca] 85)) n (by omega)
 have hsz1:(w.alloc (.cells #[.slice Ae n ce, .slice Aa n ca] 85)).heap.size=w.heap.size+1:=by simp
 rw[hsz1]at hzero;have hbx1:w1.heap[w.heap.size]?=some (.cells #[.slice Ae n ce, .slice Aa n ca] 85 (0,0)):=(hb1.block _ (by omega)).trans ((old_alloc _ _ _ (by simp)).trans (heap_alloc_new w _))
 have hcl1:OR 3 1 clC (w.heap.size+1) (.slice (some ⟨w.heap.size+1,0,none⟩) n n) (firstC o 0 n) w1:=by rw[firstC_zero];exact hzero.later hb1
 have hob1:=(BlIn.of_OR hown1);have hb1z:=hb1.size;rw[hzz0]at hb1z;have hbw1:Below w.heap.size w w1:=(((Below.refl w.heap.size w).alloc (Nat.le_refl _) _).alloc (by simp) _).trans (hb1.mono (by omega))
 obtain ⟨Ao,co,eo,hco1,hco2⟩:=hob1.form;subst eo;have HO12:=Lib.hid (And.intro ho1 ho2);have HOB:=Lib.hid hob1;have HBX1:=Lib.hid hbx1;have HCL1:=Lib.hid hcl1;have HBW1:=Lib.hid hbw1;have hgo1:=hown1.1
 -- the row of what is alive lies above
 have hoA:o=[]\/∃g f,Ao=some ⟨g,f,none⟩/\w.heap.size+2<=g:=by
  by_cases h0:o=[]
  .exact .inl h0
  .obtain ⟨A,c,e,-,hor⟩:=hown1.cells bC_E;obtain ⟨g,hA,hg,-,-⟩:=hor.resolve_left h0;injection e with e1 _ _;rw[hzz0]at hg;exact .inr ⟨g,0,by rw[e1,hA],hg⟩
 have HOA:=Lib.hid hoA;rw[ho1];rw[ho1]at hco1;clear hown1 hzz0 hzero hsz1 hbx1 hcl1 hob1 hbw1 ho1 ho2 hb1 hgo1 hoA;go_wp2_with fail
 go_loopw [21] (λiv wr=>∃k:Nat,k<=n/\iv = .int .i64 (k:Int)/\Hid (OR 3 1 clC (w.heap.size+1) (.slice (some ⟨w.heap.size+1,0,none⟩) n n) (firstC o k n) wr)/\Hid (KeepF [w.heap.size+1] [w.heap.size+1] w1 wr)) (λiv _=>n - (intOf iv).toNat)
 case atStart=>exact ⟨0,Nat.zero_le _,rfl,HCL1,KeepF.refl _ _⟩
 case round=>
  obtain ⟨k,hk,rfl,HC,HK⟩:=hrel;have hwz:=HK.out.size;by_cases hlt:k<n
  .have hd:decide ((k:Int)<(n:Int))=true:=decide_eq_true (by omega)
   have hkl:k<o.length:=by rw[HO12.out.1];exact hlt
   obtain ⟨g,f,rfl,-,hg,c0⟩:=HOB.out.at_ hkl;have hgA:w.heap.size+2<=g:=by
    rcases HOA.out with h | ⟨g',f',e',h⟩
    .rw[h]at hkl;cases hkl
    .injection e' with e';injection e' with e1 _;rw[e1];exact h
   have c0r:=(World.cell?_of_block (a:=⟨g,f+k,none⟩) (HK.out.blk g hg (by simp;omega))).trans c0
   obtain ⟨q,hq⟩:∃q,o[k]=q:=⟨_,rfl⟩;rw[hq]at c0r;have hok:o[k]?=some q:=by rw[List.getElem?_eq_getElem hkl,hq]
   have HOK:=Lib.hid hok;have hgr:g<wr.heap.size:=by omega
   obtain ⟨y0,y1⟩:=HC.out.cellC k (by rw[firstC_len];exact hlt)
   have hgy:=HC.out.lt1;have hkd:decide (k<n)=true:=decide_eq_true hlt;clear c0 hq hok hkl
   cases q with
   | true=>
    go_wp2_with fail;go_roundw
    case rel=>exact ⟨k+1,by omega,by go_num,by rw[firstC_true HOK.out];exact HC,HK⟩
    case measure=>simp[intOf];omega
   | false=>
    have hset:=HC.out.setC (firstC_len _ _ _) k none;have hset2:OR 3 1 clC (w.heap.size+1) (.slice (some ⟨w.heap.size+1,0,none⟩) n n) (firstC o (k+1) n) (wr.setCell ⟨w.heap.size+1,k,none⟩ (.int .i64 (-1))):=by rw[firstC_false HOK.out];exact hset
    have HS2:=Lib.hid hset2;have hk2:KeepF [w.heap.size+1] [w.heap.size+1] w1 (wr.setCell ⟨w.heap.size+1,k,none⟩ (.int .i64 (-1))):=HK.out.trans ⟨rfl,rfl,rfl,by simp[World.setCell],λq _ hn=>Below.heap_setCell _ _ _ _ (λe=>hn (by simp[show q=w.heap.size+1 from e])),λk hk=>.inl hk⟩
    have HK2:=Lib.hid hk2;clear hset hset2 hk2;go_wp2_with fail;go_roundw
    case rel=>exact ⟨k+1,by omega,by go_num,HS2,HK2⟩
    case measure=>simp[intOf];omega
  .obtain rfl:k=n:=by omega
   have hd:decide ((k:Int)<(k:Int))=false:=decide_eq_false (by omega)
   have hbxr:=(HK.out.blk w.heap.size (by omega) (by simp)).trans HBX1.out
   have hblr:Below w.heap.size w wr:=HBW1.out.trans (HK.out.below (λq hq=>by rw[List.mem_singleton]at hq;omega) HBW1.out.size)
   have hhd:=HeadC.first (m:=m) (o:=o) (by rw[HO12.out.1,HN.out.1]) (by rw[HN.out.1];exact HO12.out.2) (by rw[HN.out.1];exact h1)
   rw[HN.out.1]at hhd;have HBXR:=Lib.hid hbxr;have HBLR:=Lib.hid hblr;have HHD:=Lib.hid hhd;obtain ⟨W1,rfl⟩:∃W:World,W=wr:=⟨_,rfl⟩;clear hbxr hblr hhd;go_wp2_with fail
   go_loopg [3,6] (k+2) (λq cv kv wr=>∃(g3 c3 kn:Nat) (cs:List (Option Nat)),cv = .slice (some ⟨g3,0,none⟩) k c3/\kv = .int .i64 (kn:Int)/\q+kn=k+2/\kn<=k/\Hid (OR 3 1 clC (w.heap.size+1) (.slice (some ⟨g3,0,none⟩) k c3) cs wr)/\Hid (HeadC m cs kn)/\Hid (wr.heap[w.heap.size]?=some (.cells #[.slice Ae k ce, .slice Aa k ca] 85 (0,0)))/\Hid (Below w.heap.size w wr))
   case atStart=>exact ⟨w.heap.size+1,k,0,firstC o k k,rfl,rfl,rfl,Nat.zero_le _,HC,HHD,HBXR,HBLR⟩
   case round=>
    obtain ⟨g3,c3,kn,cs,rfl,rfl,hq,hkn,HCS,HH,HBX,HBL⟩:=hrel;obtain ⟨WB,rfl⟩:∃W:World,W=wr:=⟨_,rfl⟩;have hg3:=HCS.out.lt1;have hcsl:cs.length=k:=by rw[HH.out.len,HN.out.1]
    have hwB:=HBL.out.size;have hNB:w.heap.size<WB.heap.size:=(Array.getElem?_eq_some_iff.1 HBX.out).1;have hmn0:MN Tryz.prog 9 WB.heap.size 0 (λ_=>none) (WB.alloc (.map #[] 0)):=MN.made _ _ _;have hz0:=zeros_new (WB.alloc (.map #[] 0)) k (by omega)
    have hszm:(WB.alloc (.map #[] 0)).heap.size=WB.heap.size+1:=by simp
    rw[hszm]at hz0;have hR0:RdR m WB cs (List.replicate k (some 0)) [] (λ_=>none) k 0 ((WB.alloc (.map #[] 0)).alloc (.cells (Array.replicate k (.int .i64 0)) 3)):=
     ⟨hmn0.kept (old_alloc _ _ _ (by omega)),SaysD.nil,hz0,RndI.start _ (by simp[HN.out.1]),((Below.refl _ WB).alloc (Nat.le_refl _) _).alloc (by omega) _⟩
    have HR0:=Lib.hid hR0;have HCSL:=Lib.hid hcsl;clear hmn0 hz0 hszm hR0 hcsl;go_wp2_with fail
    go_loopw [38] (λiv wr=>∃(j:Nat) (ds:List (Option Nat)) (seen:List (Bool×List Ed)) (F:Lit->Option Value),j<=k/\iv = .int .i64 (j:Int)/\Hid (RdR m WB cs ds seen F k j wr)) (λiv _=>k - (intOf iv).toNat)
    case atStart=>exact ⟨0,_,[],_,Nat.zero_le _,rfl,HR0⟩
    case round=>
     obtain ⟨j,ds,seen,F,hj,rfl,HR⟩:=hrel;have hwr:=HR.out.bl.size;have hsl:=HR.out.own.lt1;have hdl:ds.length=k:=by rw[HR.out.ri.len,HN.out.1]
     by_cases hlt:j<k
     .have hd:decide ((j:Int)<(k:Int))=true:=decide_eq_true (by omega)
      have hdn:decide (j<k)=true:=decide_eq_true hlt;have hjn:j<m.ed.length:=by rw[HN.out.1];exact hlt
      obtain ⟨cc0,-⟩:=HCS.out.cellC j (by rw[HCSL.out];exact hlt)
      have cc1:=(HR.out.bl.cell (p:=⟨g3,j,none⟩) hg3).trans cc0;have hg3r:g3<wr.heap.size:=by omega
      obtain ⟨dd0,dd1⟩:=HR.out.own.cellC j (by rw[hdl];exact hlt)
      have HDL:=Lib.hid hdl;clear cc0 hdl
      cases hcl:clF cs j with
      | none=>
       rw[hcl]at cc1;have cc2:wr.cell? ⟨g3,j,none⟩=some (.int .i64 (-1)):=cc1;have hset:=HR.out.own.setC HDL.out j none;have hne:WB.heap.size≠WB.heap.size+1:=by omega
       have hR2:RdR m WB cs (ds.set j none) seen F k (j+1) (wr.setCell ⟨WB.heap.size+1,j,none⟩ (.int .i64 (-1))):=
        ⟨HR.out.mn.kept (Below.heap_setCell _ _ _ _ hne),HR.out.sy,hset,HR.out.ri.none_ hjn hcl,HR.out.bl.setCell (p:=⟨WB.heap.size+1,j,none⟩) (by show WB.heap.size<=WB.heap.size+1;omega) _⟩
       have HR2:=Lib.hid hR2;clear cc1 hcl hset hR2;go_wp2_with fail;go_roundw
       case rel=>exact ⟨j+1,_,_,_,by omega,by go_num,HR2⟩
       case measure=>simp[intOf];omega
      | some cl=>
       rw[hcl]at cc1;have cc2:wr.cell? ⟨g3,j,none⟩=some (.int .i64 (cl:Int)):=cc1;have hdc:decide ((cl:Int)<0)=false:=decide_eq_false (by omega)
       have hcn:clF cs j≠none:=by rw[hcl];simp
       have HCN:=Lib.hid hcn;have hbwr:=HBL.out.trans (HR.out.bl.mono hwB);obtain ⟨ga,fa,rfl,-,hga,ca0'⟩:=HA.out.at_ (show j<m.ac.length by rw[HN.out.2];exact hlt)
       obtain ⟨ge,fe,rv0,rfl,-,hge,ce0',hed0⟩:=HE.out.at_ hjn;have ca0:=(World.cell?_of_block (a:=⟨ga,fa+j,none⟩) (hbwr.block ga hga)).trans ca0';have ce0:=(World.cell?_of_block (a:=⟨ge,fe+j,none⟩) (hbwr.block ge hge)).trans ce0';have hed:=hed0.later hbwr;obtain ⟨row,hrow⟩:∃r,m.ed[j]=r:=⟨_,rfl⟩;obtain ⟨bb,hbb⟩:∃b,m.ac[j]'(by rw[HN.out.2];exact hlt)=b:=⟨_,rfl⟩
       rw[hrow]at hed;rw[hbb]at ca0;have hrm:row∈m.ed:=by rw[<-hrow];exact List.getElem_mem hjn
       have hrM:rowM m j=row:=by unfold rowM;rw[List.getElem?_eq_getElem hjn,hrow];rfl
       have haM:(m.ac[j]?).getD false=bb:=by rw[List.getElem?_eq_getElem (by rw[HN.out.2];exact hlt),hbb];rfl
       have hdsc:dsc m cs j=(bb,joinF (clF cs) row):=by unfold dsc descF;rw[hrM,haM]
       have hjb:=joinF_by (cls:=clF cs) (HV.out.srt row hrm) (HSM.out.by_ row hrm);have HTO:=Lib.hid (show ∀e∈row,e.to<cs.length from λe he=>by rw[HCSL.out,<-HN.out.1];exact HV.out.to row hrm e he)
       have HBY:=Lib.hid (HSM.out.by_ row hrm);have HJB:=Lib.hid (show ∀e∈joinF (clF cs) row,e.lo<256/\e.hi<256/\e.to<1000000 from λe he=>by
        obtain ⟨h1,h2,f,hf,h3⟩:=hjb e he;have:=HH.out.lt _ _ h3;have:=HN.out.1;exact ⟨h1,h2,by omega⟩)
       have hrl:=HSM.out.rl row hrm;have HJL:=Lib.hid (show (joinF (clF cs) row).length<=10000 from Nat.le_trans (joinF_len _ _) hrl);have hbx:=(HR.out.bl.block _ hNB).trans HBX.out;obtain ⟨c0,c1⟩:wr.cell? ⟨w.heap.size,0,none⟩=some (.slice (some ⟨ge,fe,none⟩) k ce)/\wr.cell? ⟨w.heap.size,1,none⟩=some (.slice (some ⟨ga,fa,none⟩) k ca):=by
        constructor <;> (rw[cell_of_row _ _ _ _ _ _ hbx]; rfl)
       have hNW:w.heap.size<wr.heap.size:=by omega
       have hgaW:ga<wr.heap.size:=by omega
       have hgeW:ge<wr.heap.size:=by omega
       obtain ⟨Ar,cr,hrf,-⟩:=hed.form;obtain ⟨nrow,hnrow⟩:∃n,row.length=n:=⟨_,rfl⟩;rw[hnrow]at hrf hrl;subst hrf;have hed':EdIn wr (.slice Ar nrow cr) row:=hed;have HED:=Lib.hid hed';have HCI:=Lib.hid ((ClIn.of_OR HCS.out).later HR.out.bl);have HVW:=Lib.hid (HVR.out.below hbwr hlow);have HDS:=Lib.hid (And.intro hdsc hcl);have HNR:=Lib.hid hnrow;obtain ⟨W,hWeq⟩:∃W:World,W=wr:=⟨_,rfl⟩;subst hWeq;have hS0:Below W.heap.size W W.drew:=(Below.refl _ _).drew;have HDD:=Lib.hid (And.intro dd0 dd1);have HHZ:=Lib.hid hz;obtain ⟨NB,hNB⟩:∃N,bs (descT bb (joinF (clF cs) row))=N:=⟨_,rfl⟩;have HNB:=Lib.hid hNB;clear hNB;clear cc1 hcl hcn hbwr hga ca0' hge ce0' hed0 hed hed' hrow hbb hrm hrM haM hdsc hjb hbx dd0 dd1 hmk hmm hz;go_wp2_with fail;refine wp_region_chain 13 [] (factCl w.heap.size ga fa k ca ge fe ce j bb (.slice Ar nrow cr) (.slice (some ⟨g3,0,none⟩) k c3) cs row NB) (λ_ w'=>Below W.heap.size W w') (by kernel_rfl) (by kernel_rfl) (by kernel_rfl) (by kernel_rfl) (by kernel_rfl) (by kernel_rfl) (by decide) hS0 ?_ ?_
       .simp only[pq4,pq5];refine HSteps.pure (by decide) ?_ (HSteps.pure (by decide) ?_ (HSteps.pure (by decide) ?_ (HSteps.pure (by decide) ?_ (HSteps.pure (by decide) ?_ (HSteps.pure (by decide) ?_ (HSteps.pure (by decide) ?_ (HSteps.pure (by decide) ?_ (HSteps.pure (by decide) ?_ (HSteps.pure (by decide) ?_ (HSteps.pure (by decide) ?_ (HSteps.free (by decide) ?_ (HSteps.free (by decide) ?_ (HSteps.nil)))))))))))))
        all_goals first | (intro v wz c hlo hS hE K hK;simp only[putAll,Act.put,pq1,pq2,pq3,Nat.zero_add,Nat.reduceAdd,pq4,pq5]at hK|-) | (intro v wz hS hE K hK;simp only[putAll,Act.put,pq1,pq2,pq3,Nat.zero_add,Nat.reduceAdd,pq4,pq5]at hK|-)
        .have HX:=Lib.hid hS;clear hS hE hlo;go_wp2_with fail;exact hK.out _ rfl
        .have e0:v 0=_:=hE.1 rfl;rw[e0]at hK|-;have bx0:=(hS.cell (p:=⟨w.heap.size,0,none⟩) hNW).trans c0;have bx1:=(hS.cell (p:=⟨w.heap.size,1,none⟩) hNW).trans c1;have lwz:w.heap.size<wz.heap.size:=by have:=hS.size;omega
         have HX:=Lib.hid hS;clear hS hE hlo;go_wp2_with fail;exact hK.out _ rfl
        .have HX:=Lib.hid hS;clear hS hE hlo;go_wp2_with fail;exact hK.out _ rfl
        .have e1:v 1=_:=hE.1 rfl;have e2:v 2=_:=hE.2.1 rfl;rw[e1,e2]at hK|-;have HX:=Lib.hid hS;clear hS hE hlo;go_wp2_with fail;exact hK.out _ rfl
        .have e3:v 3=_:=hE.1 rfl;rw[e3]at hK|-;have ax:=(hS.cell (p:=⟨ga,fa+j,none⟩) hgaW).trans ca0;have lwa:ga<wz.heap.size:=by have:=hS.size;omega
         have HX:=Lib.hid hS;clear hS hE hlo;go_wp2_with fail;exact hK.out _ rfl
        .have HX:=Lib.hid hS;clear hS hE hlo;go_wp2_with fail;exact hK.out _ rfl
        .have e5:v 5=_:=hE.1 rfl;rw[e5]at hK|-;have bx0:=(hS.cell (p:=⟨w.heap.size,0,none⟩) hNW).trans c0;have bx1:=(hS.cell (p:=⟨w.heap.size,1,none⟩) hNW).trans c1;have lwz:w.heap.size<wz.heap.size:=by have:=hS.size;omega
         have HX:=Lib.hid hS;clear hS hE hlo;go_wp2_with fail;exact hK.out _ rfl
        .have HX:=Lib.hid hS;clear hS hE hlo;go_wp2_with fail;exact hK.out _ rfl
        .have e6:v 6=_:=hE.1 rfl;have e7:v 7=_:=hE.2.1 rfl;rw[e6,e7]at hK|-;have HX:=Lib.hid hS;clear hS hE hlo;go_wp2_with fail;exact hK.out _ rfl
        .have e8:v 8=_:=hE.1 rfl;rw[e8]at hK|-;have ex:=(hS.cell (p:=⟨ge,fe+j,none⟩) hgeW).trans ce0;have lwe:ge<wz.heap.size:=by have:=hS.size;omega
         have HX:=Lib.hid hS;clear hS hE hlo;go_wp2_with fail;exact hK.out _ rfl
        .have HX:=Lib.hid hS;clear hS hE hlo;go_wp2_with fail;exact hK.out _ rfl
        .have e9:v 9=_:=hE.1 rfl;have e10:v 10=_:=hE.2.1 rfl;rw[e9,e10]at hK|-;have hcall:=joined_any (.slice Ar nrow cr) (.slice (some ⟨g3,0,none⟩) k c3) row cs wz (HED.out.later hS) (HCI.out.later hS) HTO.out HBY.out (by rw[HNR.out];omega)
         have HC:=Lib.hid hcall;have HX:=Lib.hid hS;clear hS hE hlo hcall;go_wp2_with fail;refine HC.out.mono ?_;rintro e wy ⟨jv,rfl,ho,hb⟩;have hed:=EdIn.of_OR ho;obtain ⟨Aj,cj,rfl,-⟩:=hed.form;have HBY2:=Lib.hid (HX.out.trans (hb.mono HX.out.size));have HJ:=Lib.hid hed;clear ho hb hed;go_wp2_with fail;refine hK.out _ _ (λj z hj h=>?_) HBY2.out ⟨Aj,cj,rfl,HJ.out⟩
         match j with
         | 0 | 1 | 2 | 3 | 4 | 5 | 6 | 7 | 8 | 9 | 10=>exact h
         | 11=>exact absurd rfl hj
         | 12=>exact h
         | _+13=>exact trivial
        .have e4:v 4=_:=hE.1 rfl;rw[e4]at hK|-;have E11:=hE.2.1 rfl;obtain ⟨Aj,cj,e11,hj⟩:=E11;rw[e11]at hK hj|-;have hcall:=describe_any bb _ (joinF (clF cs) row) wz hj HJB.out (by have:=HJL.out;omega) (HVW.out.later hS)
         rw[HNB.out]at hcall;have HC:=Lib.hid hcall;have HX:=Lib.hid hS;clear hS hE hlo hcall hj e11;go_wp2_with fail;refine HC.out.mono ?_;rintro e wy ⟨rfl,hb⟩;have HBY2:=Lib.hid (HX.out.trans (hb.mono HX.out.size));have HB3:=Lib.hid hb;clear hb;go_wp2_with fail;refine hK.out _ _ (λj z hj h=>?_) HBY2.out rfl
         match j with
         | 0 | 1 | 2 | 3 | 4 | 5 | 6 | 7 | 8 | 9 | 10=>exact h
         | 11=>
          obtain ⟨A,c,e,h2⟩:=h;exact ⟨A,c,e,h2.later HB3.out⟩
         | 12=>exact absurd rfl hj
         | _+13=>exact trivial
       .intro v wz hS hF;have e0:v 0=_:=hF 0 (by decide)
        have e1:v 1=_:=hF 1 (by decide)
        have e2:v 2=_:=hF 2 (by decide)
        have e3:v 3=_:=hF 3 (by decide)
        have e4:v 4=_:=hF 4 (by decide)
        have e5:v 5=_:=hF 5 (by decide)
        have e6:v 6=_:=hF 6 (by decide)
        have e7:v 7=_:=hF 7 (by decide)
        have e8:v 8=_:=hF 8 (by decide)
        have e9:v 9=_:=hF 9 (by decide)
        have e10:v 10=_:=hF 10 (by decide)
        have E11:=hF 11 (by decide)
        have E12:=hF 12 (by decide)
        simp only[putAll,Act.put,pq1,pq2,pq3,Nat.zero_add,Nat.reduceAdd,pq4,pq5,List.drop_succ_cons,List.drop_zero,e0,e1,e2,e3,e4,e5,e6,e7,e8,e9,e10];clear hF e0 e1 e2 e3 e4 e5 e6 e7 e8 e9 e10;have e12:v 12=_:=E12;rw[e12];have hz:=HHZ.out;have hsz:=hS.size;have hmbW:WB.heap.size<W.heap.size:=by omega
        have hmz:MN Tryz.prog 9 WB.heap.size seen.length F wz:=HR.out.mn.kept (hS.block _ hmbW);have hoz:=HR.out.own.later hS;have hbz:Below WB.heap.size WB wz:=HR.out.bl.trans (hS.mono hwr);obtain ⟨dd0,dd1⟩:=hoz.cellC j (by rw[HDL.out];exact hlt)
        have hlz:WB.heap.size+1<wz.heap.size:=by omega
        obtain ⟨nm,hnm⟩:∃x,descT bb (joinF (clF cs) row)=x:=⟨_,rfl⟩;have hkey:keyOf Tryz.prog 9 (.string (bs nm))=some (.string nm):=by
         have h1:=descE_len _ HJB.out;have h2:(boolT bb).length<=5:=by cases bb <;> decide
         have:=WideMaps.keyOf_string_mk (P:=Tryz.prog) (k:=9) Tryz.underlying9 (s:=bs nm) (by rw[size_bs,<-hnm];unfold descT;rw[List.length_append];unfold maxLen;have:=HJL.out;omega)
         rwa [bs_data]at this
        obtain rfl:NB=bs nm:=by rw[<-HNB.out,hnm]
        have HNM:=Lib.hid hnm;have HKEY:=Lib.hid hkey;have HMZ:=Lib.hid hmz;have HOZ:=Lib.hid hoz;have HBZ:=Lib.hid hbz;have hsl2:seen.length<=k:=by
         have h1:=nodup_le (l:=seen) (r:=(List.range j).map (dsc m cs)) HR.out.ri.nd (λx hx=>by
          obtain ⟨s,h1,-,h3⟩:=HR.out.ri.of_ x hx;exact List.mem_map.2 ⟨s,List.mem_range.2 h1,h3⟩)
         simp at h1;omega
        clear hS E11 E12 e12 hmz hoz hbz hnm hkey;by_cases hin:dsc m cs j∈seen
        .have hlook:(Instr.lookup 142 (.map (some WB.heap.size)) (.string (bs nm)) true).run Tryz.prog wz = .ok (.tuple #[.int .i64 ((seen.idxOf (dsc m cs j):Nat):Int), .bool true]) wz:=by
          have h1:=HMZ.out.mv.look_ok K Tryz.underlying142 hz HKEY.out trivial;have h2:=HR.out.sy (dsc m cs j);rw[HDS.out.1]at h2;simp only[HNM.out]at h2;rw[h2,<-HDS.out.1,idxD,if_pos hin]at h1;exact h1
         obtain ⟨ix,hix⟩:∃i,seen.idxOf (dsc m cs j)=i:=⟨_,rfl⟩;rw[hix]at hlook;have hset:=HOZ.out.setC HDL.out j (some ix);have hR2:RdR m WB cs (ds.set j (some ix)) seen F k (j+1) (wz.setCell ⟨WB.heap.size+1,j,none⟩ (.int .i64 (ix:Int))):=
          ⟨HMZ.out.kept (Below.heap_setCell _ _ _ _ (by show WB.heap.size≠WB.heap.size+1;omega)),HR.out.sy,hset,by rw[<-hix];exact HR.out.ri.old hjn HCN.out hin,HBZ.out.setCell (p:=⟨WB.heap.size+1,j,none⟩) (by show WB.heap.size<=WB.heap.size+1;omega) _⟩
         have HR2:=Lib.hid hR2;have HIN:=Lib.hid hin;clear hix hset hR2 hin;go_wp2_with fail;go_roundw
         case rel=>exact ⟨j+1,_,_,_,by omega,by go_num,HR2⟩
         case measure=>simp[intOf];omega
        .have hlook:(Instr.lookup 142 (.map (some WB.heap.size)) (.string (bs nm)) true).run Tryz.prog wz = .ok (.tuple #[.int .i64 0, .bool false]) wz:=by
          have h1:=HMZ.out.mv.look_ok K Tryz.underlying142 hz HKEY.out trivial;have h2:=HR.out.sy (dsc m cs j);rw[HDS.out.1]at h2;simp only[HNM.out]at h2;rw[h2,<-HDS.out.1,idxD,if_neg hin]at h1;exact h1
         have hfn:F (.string nm)=none:=by
          have h2:=HR.out.sy (dsc m cs j);rw[HDS.out.1]at h2;simp only[HNM.out]at h2;rw[h2,<-HDS.out.1,idxD,if_neg hin]
         obtain ⟨sl,hsl3⟩:∃n,seen.length=n:=⟨_,rfl⟩;have hmz:=HMZ.out;rw[hsl3]at hmz hsl2;have HIN:=Lib.hid (And.intro hin hsl3);have HMZ3:=Lib.hid hmz;have HFN:=Lib.hid hfn;clear hin hsl3 hmz hfn;go_wp2_with (first
          | (at_len;refine wpList_len_MN rfl _ 142 rfl 9 3 Tryz.underlying142 WB.heap.size sl F rfl HMZ3.out ?_)
          | (at_mapUpdate;refine wpList_put_MN wz rfl _ _ _ 142 rfl 9 3 K Tryz.underlying142 WB.heap.size sl F rfl HMZ3.out (by unfold maxLen;omega) _ _ _ rfl rfl HKEY.out trivial HFN.out ?_))
         intro wm hmm4 hgm;have hzm:=hgm.size;have hom:OR 3 1 clC (WB.heap.size+1) (.slice (some ⟨WB.heap.size+1,0,none⟩) k k) ds wm:=OR.keep HOZ.out λg hg=>hgm.block g (World.ownsRow.lt HOZ.out g hg).2 (λe=>by
          have:=(World.ownsRow.lt HOZ.out g hg).1;injection e with e;omega)
         obtain ⟨ee0,ee1⟩:=hom.cellC j (by rw[HDL.out];exact hlt)
         have hlm:WB.heap.size+1<wm.heap.size:=by omega
         have hset:=hom.setC HDL.out j (some sl);have hbm:Below WB.heap.size WB wm:=HBZ.out.grown hgm (by omega) (λq hq=>by injection hq with hq;omega)
         have hsy:=HR.out.sy.put (dsc m cs j) HIN.out.1 (sl:Int) (by rw[HIN.out.2])
         rw[HDS.out.1]at hsy;simp only[HNM.out]at hsy;have hri:=HR.out.ri.new hjn HCN.out HIN.out.1;rw[HIN.out.2,HDS.out.1]at hri;have hR2:RdR m WB cs (ds.set j (some sl)) (seen++[(bb,joinF (clF cs) row)]) (updV F (.string nm) (some (.int .i64 (sl:Int)))) k (j+1) (wm.setCell ⟨WB.heap.size+1,j,none⟩ (.int .i64 (sl:Int))):=
          ⟨by rw[List.length_append,HIN.out.2];exact hmm4.kept (Below.heap_setCell _ _ _ _ (by show WB.heap.size≠WB.heap.size+1;omega)),hsy,hset,hri,hbm.setCell (p:=⟨WB.heap.size+1,j,none⟩) (by show WB.heap.size<=WB.heap.size+1;omega) _⟩
         have HR2:=Lib.hid hR2;clear hmm4 hgm hom hset hbm hsy hri hR2 dd0 dd1;go_wp2_with fail;go_roundw
         case rel=>exact ⟨j+1,_,_,_,by omega,by go_num,HR2⟩
         case measure=>simp[intOf];omega
     .have hjk:j=k:=by omega
      have hd:decide ((j:Int)<(k:Int))=false:=decide_eq_false (by omega)
      have HJK:=Lib.hid hjk;clear hjk;obtain ⟨sl,hsl3⟩:∃n,seen.length=n:=⟨_,rfl⟩;have hmn:=HR.out.mn;rw[hsl3]at hmn;have HMN:=Lib.hid hmn;have HSL:=Lib.hid hsl3;have hri:=HR.out.ri;rw[HJK.out,<-HN.out.1]at hri;have HRI:=Lib.hid hri;have hbwr:=HBL.out.trans (HR.out.bl.mono hwB);have HBW:=Lib.hid hbwr;have hbx:=(HR.out.bl.block _ hNB).trans HBX.out;have HBXR:=Lib.hid hbx;clear hmn hsl3 hri hbwr hbx hdl;by_cases he:sl=kn
      .have hde:((sl:Int) == (kn:Int))=true:=by simp;omega
       have HEQ:=Lib.hid he;clear he;go_wp2_with (at_len;refine wpList_len_MN rfl _ 142 rfl 9 3 Tryz.underlying142 WB.heap.size sl F rfl HMN.out ?_);refine post_named λWf hWf=>?_;subst hWf;refine bodyPost_ret (v:=.slice (some ⟨WB.heap.size+1,0,none⟩) k k) (by simp[results,Tryz.results158,go_sem];try rfl) rfl ?_
       refine ⟨_,ds,rfl,HR.out.own.mono (by omega),HBW.out,?_,HH.out.done HV.out HRI.out (by rw[HSL.out,HEQ.out]),λs c hc=>?_⟩
       .rw[HR.out.ri.len,HN.out.1]
       .have:=HRI.out.lt_ s c hc;rwa [HN.out.1]at this
      .have hde:((sl:Int) == (kn:Int))=false:=by simp;omega
       obtain ⟨hn1,hn2,hn3⟩:=HH.out.next HV.out HRI.out (by rw[HSL.out];exact he)
       rw[HSL.out]at hn2 hn3;rw[HN.out.1]at hn3;have HNX:=Lib.hid hn1;clear hn1 he;go_wp2_with (at_len;refine wpList_len_MN rfl _ 142 rfl 9 3 Tryz.underlying142 WB.heap.size sl F rfl HMN.out ?_)
       go_roundg (k+2-sl)
       case measure=>omega
       case rel=>exact ⟨WB.heap.size+1,k,sl,ds,rfl,rfl,by omega,by omega,HR.out.own.mono (by omega),by have:=HNX.out;rwa [HSL.out]at this,HBXR.out,HBW.out⟩
end Go.Proofs.YtljgapfmgegifaaGreatDoor
namespace Go.Proofs.YtljgapfmgegifaaGreatDoor
set_option linter.unusedVariables false
set_option linter.unusedSimpArgs false
set_option maxRecDepth 100000
open Go.RowKit
theorem least_any (v:Value) (m:Mc) (w:World) (hm:McIn w v m) (hv:Vld m) (hsm:McSm m) (h1:1<=m.ed.length) (hvr:VrOK w):Calls Tryz.prog 117 #[v] w (LePost m w):=
 least_of v m w hm hv hsm h1 λW hb=>classes_any v m W (hm.later hb) hv hsm h1 (hvr.later hb)
end Go.Proofs.YtljgapfmgegifaaGreatDoor
namespace Go.Proofs.YtljgapfmgegifaaGreatDoor
set_option linter.unusedVariables false
set_option linter.unusedSimpArgs false
set_option maxRecDepth 100000
open Go.RowKit
open Go.Maps (Keyed)
def mcNil:Value:=.agg #[.slice none 0 0, .slice none 0 0]
def CmPost (nd:Nd) (w:World) (e:Ending) (w':World):Prop:=
 Below w.heap.size w w'/\
 ((validF nd≠0/\e = .returned (.tuple #[mcNil, .int .i64 (validF nd)]))\/
  (validF nd=0/\600<posF nd/\e = .returned (.tuple #[mcNil, .int .i64 3]))\/
  (validF nd=0/\posF nd<=600/\∃b x gs rows acs i,Wr ⟨[],[]⟩ b x (gN nd)/\b.fol.length=posF nd/\(∀rs∈b.sets,∀r∈rs,r.2<256)/\CmI b x gs rows acs i/\
   ((2000<gs.length/\e = .returned (.tuple #[mcNil, .int .i64 3]))\/(i=gs.length/\gs.length<=2000/\∃rv m',e = .returned (.tuple #[rv, .int .i64 0])/\McUp w.heap.size w' rv m'/\LeOK ⟨rows,acs⟩ m'))))
theorem own_row1 {w:World} {B n:Nat} {e:TypeId} {v:Value} {xs:List Value} (h:w.ownsRow B e 1 v n xs) (hn:0<n):∃g c,v = .slice (some ⟨g,0,none⟩) n c/\(n<=c/\c<=9223372036854775807)/\v.ownBlock=some g/\g<w.heap.size/\∀i,i<n->w.cell? ⟨g,i,none⟩=xs[i]?:=by
 obtain ⟨A,c,rfl,h1,h2⟩:=own_form h;obtain ⟨g,rfl,-,h3,h4⟩:=own_at1 h hn;exact ⟨g,c,rfl,⟨h1,h2⟩,rfl,h3,h4⟩
theorem cp_start {w0:World} {s mb:Nat} {x2 v2 vs vf:Value} {b:Pb} {rows sv:List Value} {w w':World} (hb:BuS w0 s x2 (.map (some mb)) (.slice none 0 0) b vs vf rows sv w) (hk:KeepF [s] [] w w')
  (hcs:w'.heap[s]?=some (.cells #[vs,vf,v2, .map (some mb), .slice none 0 0] 148 (0,0))) (hm:MV Tryz.prog 9 mb 0 (λ_=>none) w') (hmB:w0.heap.size<=mb) (hmw:mb<w.heap.size) (h1:0<b.fol.length) (h2:0<b.sets.length) :
  SbI w0.heap.size s mb vs vf v2 [] (fpG s mb (.slice none 0 0)) w'/\SetC w0 (fpG s mb (.slice none 0 0)) w' vs b.sets/\FolC (fpG s mb (.slice none 0 0)) w' vf b.fol/\Below w0.heap.size w0 w':=by
 have hlt:=hb.lt;have hsl:s<w.heap.size:=(hlt s (by simp[fpS])).2
 have hnd:=hb.nd;rw[List.nodup_cons]at hnd;have hsm:s≠mb:=by
  rintro rfl;obtain ⟨D,⟨es,c,q1,-⟩,-⟩:=hm;rw[hcs]at q1;injection q1 with q1
  cases q1
 have hmap:∀{B k n:Nat} {e:TypeId} {v:Value} {xs:List Value},w.ownsRow B e k v n xs->v.ownBlock≠some mb:=λ{B k n e v xs} ho hv=>by
  obtain ⟨cs,md,q2⟩:=own_type ho mb hv;have q3:=(hk.blk mb hmw (by simp;exact λe=>hsm e.symm)).trans q2
  obtain ⟨D,⟨es,c,q1,-⟩,-⟩:=hm;rw[q3]at q1;injection q1 with q1
  cases q1
 have hfp:∀g,g∈fpG s mb (.slice none 0 0)↔g=s\/g=mb:=λg=>by simp[fpG,blk,Value.ownBlock]
 have hs':∀g,g≠s->g∉[s]:=λg h hm=>h (List.mem_singleton.1 hm);obtain ⟨gS,cS,rfl,hcS,hoS,hgS,hcellS⟩:=own_row1 hb.sets h2;obtain ⟨gF,cF,rfl,hcF,hoF,hgF,hcellF⟩:=own_row1 hb.fol h1;have nS:gS≠s:=λe=>hnd.1 (by rw[<-e];exact List.mem_append_left _ (mem_blk.2 hoS))
 have nF:gF≠s:=λe=>hnd.1 (by rw[<-e];exact List.mem_append_right _ (List.mem_append_left _ (mem_blk.2 hoF)))
 have mS:gS≠mb:=λe=>hmap hb.sets (by rw[hoS,e])
 have mF:gF≠mb:=λe=>hmap hb.fol (by rw[hoF,e])
 refine ⟨⟨.slice none 0 0,[],λ_=>none,rfl,⟨hsm,by simp[Value.ownBlock],by simp[Value.ownBlock]⟩,⟨hb.hs,hmB,Nat.le_trans hb.bel.size hk.size⟩,hcs,hm,λl=>rfl,World.ownsRow_nil _ _ _ _,λi hi=>(by cases hi)⟩,?_,?_,?_⟩
 .refine ⟨_,cS,rfl,hcS, .inr ⟨gS,rfl,Nat.lt_of_lt_of_le hgS hk.size,λh=>by rcases (hfp gS).1 h with h | h;exact nS h;exact mS h,λi hi=>?_⟩⟩
  obtain ⟨v,q1,q2,-⟩:=hb.setv i hi;refine ⟨v,(World.cell?_of_block (a:=⟨gS,i,none⟩) (hk.blk gS hgS (hs' _ nS))).trans ?_,q2⟩;rw[hcellS i hi,q1]
 .refine ⟨gF,cF,rfl,hcF,Nat.lt_of_lt_of_le hgF hk.size,λh=>by rcases (hfp gF).1 h with h | h;exact nF h;exact mF h,λi hi=>?_⟩
  obtain ⟨v,q1,q2⟩:=hb.folv i hi;have nv:v.ownBlock≠some s:=λe=>hnd.1 (List.mem_append_right _ (List.mem_append_right _ (List.mem_flatMap.2 ⟨v,List.mem_of_getElem? q1,mem_blk.2 e⟩)));have mv:v.ownBlock≠some mb:=hmap q2;refine ⟨v,(World.cell?_of_block (a:=⟨gF,i,none⟩) (hk.blk gF hgF (hs' _ nF))).trans ?_,(SL.of_own q2).keep (λg hg hm=>nv (by rw[hg,List.mem_singleton.1 hm])) hk,λg hg hm=>?_,λk hv=>Nat.lt_of_lt_of_le (q2.lt k hv).2 hk.size,λn c e=>?_⟩
  .rw[hcellF i hi,q1]
  .rcases (hfp g).1 hm with h | h
   .exact nv (by rw[hg,h])
   .exact mv (by rw[hg,h])
  .rcases q2.2 with ⟨h3,-⟩ | ⟨g,cap,cur,h3,-⟩
   .rw[h3]at e;injection e with _ _ e;exact e.symm
   .rw[h3]at e;injection e with e;cases e
 .exact hb.bel.trans ⟨hk.os,hk.tape,hk.output,hk.size,λk hk2=>hk.blk k (by have:=hb.bel.size;omega) (λh=>by have:=hb.hs;have:=List.mem_singleton.1 h;omega)⟩
theorem SetC.weak {w0:World} {L L':List Nat} {w:World} {v:Value} {sets:List (List (Nat×Nat))} (h:SetC w0 L w v sets) (hs:∀k∈L',k∈L):SetC w0 L' w v sets:=by
 obtain ⟨A,c,e,hc,h⟩:=h;refine ⟨A,c,e,hc,h.imp id ?_⟩;rintro ⟨g,rfl,hg,hn,hcell⟩;exact ⟨g,rfl,hg,λhm=>hn (hs g hm),hcell⟩
theorem SbI.groups {B s mb:Nat} {v0 v1 v2:Value} {gs:List (List Nat)} {fp:List Nat} {w:World} (h:SbI B s mb v0 v1 v2 gs fp w):∃A c,w.cell? ⟨s,4,none⟩=some (.slice A gs.length c)/\(gs.length<=c/\c<=9223372036854775807)/\
  ∀k (hk:k<gs.length),∃g v,A=some ⟨g,0,none⟩/\g<w.heap.size/\w.cell? ⟨g,k,none⟩=some v/\IL w v gs[k]/\outOf fp v:=by
 obtain ⟨vg,gv,F,rfl,h⟩:=h;obtain ⟨A,c,rfl,hc⟩:=own_form h.own;refine ⟨A,c,by rw[cell_of_row _ _ _ _ _ _ h.cs];rfl,hc,λk hk=>?_⟩
 obtain ⟨g,rfl,-,hg,hcell⟩:=own_at1 h.own (by omega)
 obtain ⟨v,h1,h2,h3,-⟩:=h.gvs k hk;exact ⟨g,v,rfl,hg,by rw[hcell k hk,h1],h2,h3⟩
def EdF (w0:World) (s mb:Nat) (v0 v1 v2:Value) (b:Pb) (gs:List (List Nat)) (fp L:List Nat) (W:World) (x:Value) (w:World):Prop:=
 ∃r row gs' fp',SortedF L r/\(EdIn w x row/\outOf fp' x/\∀g,x.ownBlock=some g->W.heap.size<=g/\g<w.heap.size)/\SbI w0.heap.size s mb v0 v1 v2 gs' fp' w/\KeepF fp fp' W w/\RowI b r gs' row 256/\GrowG b r gs gs'/\gs'.length<=gs.length+257
theorem EdF.later {w0:World} {s mb:Nat} {v0 v1 v2:Value} {b:Pb} {gs:List (List Nat)} {fp L:List Nat} {W:World} {x:Value} {w w':World} (h:EdF w0 s mb v0 v1 v2 b gs fp L W x w) (hb:Below w.heap.size w w'):EdF w0 s mb v0 v1 v2 b gs fp L W x w':=by
 obtain ⟨r,row,gs',fp',h1,⟨h2,h3,h4⟩,h5,h6,h7,h8,h9⟩:=h;exact ⟨r,row,gs',fp',h1,⟨h2.later hb,h3,λg hg=>⟨(h4 g hg).1,Nat.lt_of_lt_of_le (h4 g hg).2 hb.size⟩⟩,h5.later hb,h6.trans (KeepF.of_below hb),h7,h8,h9⟩
structure CpL (w0:World) (s mb:Nat) (v0 v1 v2:Value) (b:Pb) (x:Prt) (P:Nat) (vx vy:Value) (N i:Nat) (gs:List (List Nat)) (fp:List Nat) (rs:List (List Ed)) (acs:List Bool) (vE vA:Value) (gv:List Value) (wr:World):Prop where
 sb:SbI w0.heap.size s mb v0 v1 v2 gs fp wr
 ma:MkM w0.heap.size N fp vE vA gv rs acs wr
 cp:CpS w0 (fp++fpM N vE vA) v0 v1 v2 b x P vx vy wr
 ci:CmI b x gs rs acs i
 bl:Below w0.heap.size w0 wr
theorem cp_next {w0 W w6 w7:World} {s mb P N i:Nat} {v0 v1 v2 vx vy vE vA vE' rv:Value} {b:Pb} {x:Prt} {gs:List (List Nat)} {fp L:List Nat} {rs:List (List Ed)} {acs0 acs:List Bool} {gv:List Value}
  (hma:MkM w0.heap.size N fp vE vA gv rs acs W) (hcp:CpS w0 (fp++fpM N vE vA) v0 v1 v2 b x P vx vy W) (hci:CmI b x gs rs acs0 i) (hac:if i=0 then acs=acs0 else ∃a,acs=acs0++[a]/\(a=true↔∃p∈(gs[i]?).getD [],p∈x.last))
  (hi:i<gs.length) (hbl:Below w0.heap.size w0 W) (hL:∀p,p∈L↔grpF b x gs i p) (hLb:∀p∈L,p<b.sets.length)
  (hE:EdF w0 s mb v0 v1 v2 b gs fp L W rv w6) (hg:w6.grownBy w7 vE.ownBlock) (ho:w7.ownsRow w0.heap.size 153 1 vE' (rs.length+1) (gv++[rv])) (hf:Fresh vE' vE w6.heap.size) (hfp:∀k∈fp,w0.heap.size<=k) :
  ∃row gs' fp',CpL w0 s mb v0 v1 v2 b x P vx vy N (i+1) gs' fp' (rs++[row]) acs vE' vA (gv++[rv]) (w7.setCell ⟨N,0,none⟩ vE')/\gs'.length<=gs.length+257:=by
 obtain ⟨r,row,gs',fp',h1,⟨h2,h3,h4⟩,h5,h6,h7,h8,h9⟩:=hE;have hlt:=hma.lt;have hma6:=hma.keep h6;have hlt6:=h5.lt;have hw0:=hbl.size;obtain ⟨q1,q2⟩:=hma6.addE (λk hk=>(hlt6 k hk).2) h2 (λg hg hm=>by have:=(h4 g hg).1;have:=(hlt g hm).2;omega) h3 (λg hg=>⟨by have:=(h4 g hg).1;omega,(h4 g hg).2⟩) ho hg hf
 refine ⟨row,gs',fp',⟨h5.apart q2 (λk hk=>hma6.out k hk) hma6.types,q1,(hcp.keep (h6.appL _)).keep (q2.appR _),hci.step hi (λp=>(h1.2 p).trans (hL p)) h1.1 (λp hp=>hLb p ((h1.2 p).1 hp)) h8 h7 hac,?_⟩,h9⟩;exact (hbl.trans (h6.below hfp hw0)).trans (q2.below (λk hk=>(hlt k hk).1) (by have:=h6.size;omega))
theorem WrP.later {w0:World} {s:Nat} {x2 x3 x4:Value} {b:Pb} {fp:List Nat} {Lg:LA} {n K:Nat} {w:World} {e:Ending} {w' w'':World} (h:WrP w0 s x2 x3 x4 b fp Lg n K w e w') (hb:Below w'.heap.size w' w''):WrP w0 s x2 x3 x4 b fp Lg n K w e w'':=by
 obtain ⟨b',x,fp',v1,v2,h1,h2,h3,⟨h4,h5⟩,⟨h6,h7⟩,h8⟩:=h;have hk:=KeepF.of_below (fp:=fp') hb;exact ⟨b',x,fp',v1,v2,h1,h2.later hb,h3.trans hk,h4.keep h5 hk,h6.keep h7 hk,h8⟩
theorem BuI.ne_part {w0:World} {s:Nat} {x2 x3 x4:Value} {b:Pb} {fp:List Nat} {w:World} (h:BuI w0 s x2 x3 x4 b fp w) {g:Nat} {cs:Array Value} {m:Nat×Nat} (hg:w.heap[g]?=some (.cells cs 150 m)):g∉fp:=by
 obtain ⟨vs,vf,rows,sv,rfl,h⟩:=h;intro hm;unfold fpS at hm;have key:∀{cs':Array Value} {e:TypeId} {m':Nat×Nat},w.heap[g]?=some (.cells cs' e m')->e≠150->False:=λ{cs' e m'} h1 hne=>by
  rw[hg]at h1;injection h1 with h1;injection h1 with _ h2 _;exact hne h2.symm
 rcases List.mem_cons.1 hm with rfl | hm
 .exact key h.cs (by decide)
 .rcases List.mem_append.1 hm with hm | hm
  .obtain ⟨cs',m',h1⟩:=own_type h.sets g (mem_blk.1 hm);exact key h1 (by decide)
  .rcases List.mem_append.1 hm with hm | hm
   .obtain ⟨cs',m',h1⟩:=own_type h.fol g (mem_blk.1 hm);exact key h1 (by decide)
   .obtain ⟨v,hv,hgv⟩:=List.mem_flatMap.1 hm;obtain ⟨i,hi,he⟩:=List.getElem_of_mem hv;have hrl:rows.length=b.fol.length:=by have:=h.fol.1;omega
    obtain ⟨v',h1,h2⟩:=h.folv i (by omega)
    rw[List.getElem?_eq_getElem hi,he]at h1;obtain rfl:=Option.some.inj h1;obtain ⟨cs',m',h3⟩:=own_type h2 g (mem_blk.1 hgv);exact key h3 (by decide)
theorem own_mono {w:World} {B B' k n:Nat} {e:TypeId} {v:Value} {xs:List Value} (h:w.ownsRow B e k v n xs) (hB:B'<=B):w.ownsRow B' e k v n xs:=
 ⟨h.1,h.2.imp id λ⟨g,cap,cur,h1,h2,h3⟩=>⟨g,cap,cur,h1,Nat.le_trans hB h2,h3⟩⟩
def endsL (last:List Nat) (n k:Nat):List Bool:=(List.range n).map λp=>decide (p∈last.take k)
theorem endsL_zero (last:List Nat) (n:Nat):endsL last n 0=List.replicate n false:=by
 unfold endsL;rw[List.eq_replicate_iff];refine ⟨by simp,λx hx=>?_⟩
 obtain ⟨p,-,rfl⟩:=List.mem_map.1 hx;simp
theorem endsL_len (last:List Nat) (n k:Nat):(endsL last n k).length=n:=by simp[endsL]
theorem endsL_get (last:List Nat) {n p:Nat} (k:Nat) (h:p<n):(endsL last n k)[p]?=some (decide (p∈last.take k)):=by
 unfold endsL;rw[List.getElem?_map,List.getElem?_range h];rfl
theorem endsL_succ {last:List Nat} {n k:Nat} (hk:k<last.length):(endsL last n k).set last[k] true=endsL last n (k+1):=by
 apply List.ext_getElem?;intro p;by_cases hp:p<n
 .rw[endsL_get last (k+1) hp,List.getElem?_set,List.take_succ_eq_append_getElem hk];by_cases e:last[k]=p
  .rw[if_pos e,if_pos (by rw[endsL_len,e];exact hp)]
   simp[e]
  .rw[if_neg e,endsL_get last k hp]
   congr 1
   rw[decide_eq_decide,List.mem_append,List.mem_singleton];exact ⟨.inl,λh=>h.resolve_right λe2=>e e2.symm⟩
 .rw[List.getElem?_eq_none (by rw[List.length_set,endsL_len];omega),List.getElem?_eq_none (by rw[endsL_len];omega)]
theorem bools_new (w:World) (n:Nat) (hn:n<=1000000):OR 4 1 bC w.heap.size (.slice (some ⟨w.heap.size,0,none⟩) n n) (List.replicate n false) (w.alloc (.cells (Array.replicate n (.bool false)) 4)):=by
 have hrow:rowF bC (List.replicate n false)=List.replicate n (.bool false):=by
  unfold rowF
  induction n with
  | zero=>rfl
  | succ n ih=>rw[List.replicate_succ,List.map_cons,List.flatten_cons,ih (by omega),List.replicate_succ];rfl
 refine ⟨by rw[hrow];simp, .inr ⟨w.heap.size,n,Array.replicate n (.bool false),by simp,Nat.le_refl _,heap_alloc_new w _,by simp,by unfold maxLen;omega,by simp,?_⟩⟩
 rw[hrow,List.length_replicate];simp
def folG (b:Pb) (g:List Nat):List Nat:=g.flatMap λp=>folP b p
theorem folG_snoc (b:Pb) (g:List Nat) (p:Nat):folG b (g++[p])=folG b g++folP b p:=by unfold folG;simp
theorem folG_mem {b:Pb} {g:List Nat} {p:Nat}:p∈folG b g↔∃q∈g,p∈folP b q:=by unfold folG;exact List.mem_flatMap
theorem folG_len {b:Pb} {K:Nat} (hK:∀l∈b.fol,l.length<=K):∀g:List Nat,(folG b g).length<=g.length*K
 | []=>by simp[folG]
 | p::r=>by
  have ih:=folG_len hK r;have h1:(folP b p).length<=K:=by
   unfold folP
   cases h:b.fol[p]? with
   | none=>simp
   | some l=>exact hK l (List.mem_of_getElem? h)
  unfold folG at ih|-;rw[List.flatMap_cons,List.length_append,List.length_cons,Nat.succ_mul];omega
end Go.Proofs.YtljgapfmgegifaaGreatDoor
namespace Go.Proofs.YtljgapfmgegifaaGreatDoor
set_option linter.unusedVariables false
set_option linter.unusedSimpArgs false
set_option maxRecDepth 100000
open Go.RowKit
theorem sign_at (c:Nat) (t:ByteArray) (w:World) (h1:33<=c) (h2:c<=126) (hib:Lib.indexByte [92,91,93,40,41,123,125,124,45] c.toUInt8=-1) (hcv:∀w,(convert 21 9 (.int .i32 (c:Int))).run Tryz.prog w = .ok (.string t) w) :
  Calls Tryz.prog 189 #[.int .u8 (c:Int)] w λe w'=>e = .returned (.string t)/\w'=w:=by
 have HI:=Lib.hid (Tryz.strings_IndexByte ⟨#[92,91,93,40,41,123,125,124,45]⟩ (c:Int) w);have d1:decide ((c:Int)<33)=false:=decide_eq_false (by omega)
 have d2:decide ((126:Int)<(c:Int))=false:=decide_eq_false (by omega)
 have d1':decide (c<33)=false:=decide_eq_false (by omega)
 have d2':decide (126<c)=false:=decide_eq_false (by omega)
 go_enter Tryz.func189,Tryz.ntmps189
 go_wp2_with fail;refine HI.out.mono ?_;rintro e w2 ⟨rfl,hw2⟩;subst hw2;have hib':Lib.indexByte [92,91,93,40,41,123,125,124,45] ((c:Int).toNat.toUInt8)=-1:=hib;rw[show Lib.indexByte (⟨#[92,91,93,40,41,123,125,124,45]⟩:ByteArray).data.toList ((c:Int).toNat.toUInt8)=-1 from hib'];have hd:decide ((0:Int)<=-1)=false:=by decide
 go_wp2_with fail;go_ret;exact ⟨rfl,rfl⟩
theorem bufKeep {b:Nat} {l':List UInt8} {fp fp':List Nat} {w w':World} (h:BuK b l' fp' w') (hk:KeepF fp fp' w w') {k:Nat} (hn:k∉fp) (hl:k<w.heap.size):k∉fp'/\w'.heap[k]?=w.heap[k]?:=
 ⟨λhm=>(hk.new k hm).elim hn (λh=>by omega),hk.blk k hl hn⟩
def SgnH (ok:Nat->Prop):Prop:=∀(c:Nat) (W:World),ok c->c<256->Calls Tryz.prog 189 #[.int .u8 (c:Int)] W λe w'=>e = .returned (.string (bs (sgnT c)))/\w'=W
def WtP (b:Nat) (l:List UInt8) (fp:List Nat) (w:World) (e:Ending) (w':World):Prop:=e = .returned (.tuple #[])/\∃fp',BuK b l fp' w'/\KeepF fp fp' w w'
theorem KeepF.non {fp fp':List Nat} {w w':World} (h:KeepF fp fp' w w'):KeepF fp [] w w':=⟨h.os,h.tape,h.output,h.size,h.blk,λk hk=>by cases hk⟩
theorem KeepF.then {fp:List Nat} {a b c:World} (h:KeepF fp [] a b) {fp':List Nat} (k:KeepF fp' [] b c) (hs:∀x∈fp',x∈fp\/a.heap.size<=x):KeepF fp [] a c:=
 ⟨k.os.trans h.os,k.tape.trans h.tape,k.output.trans h.output,Nat.le_trans h.size k.size,λx hx hn=>(k.blk x (Nat.lt_of_lt_of_le hx h.size) λhm=>(hs x hm).elim hn λh2=>by omega).trans (h.blk x hx hn),λx hx=>by cases hx⟩
def RgUL (L:List Nat) (w:World) (v:Value) (rs:List (Nat×Nat)):Prop:=∀W,KeepF L [] w W->RgIn W v rs
theorem RgUL.next {L L':List Nat} {w w':World} {v:Value} {rs:List (Nat×Nat)} (h:RgUL L w v rs) (hk:KeepF L L' w w'):RgUL L' w' v rs:=λW hW=>h W (hk.non.then hW λx hx=>hk.new x hx)
theorem wpX_nm {P:Program} {c:Code} {Q:Exit->Act->World->Prop} {a:Act} {w:World} (h:∀W,W=w->c.wp P Q a W):c.wp P Q a w:=h w rfl
theorem bs_size (l:List UInt8):(bs l).size=l.length:=by rw[<-size_list,bl_bs]
set_option maxHeartbeats 8000000 in
theorem wset_any {ok:Nat->Prop} (HSG:SgnH ok) (b:Nat) (l:List UInt8) (fp:List Nat) (A:Option Addr) (n c:Nat) (rs:List (Nat×Nat)) (w:World) (h:BuK b l fp w) (hr:RgUL fp w (.slice A n c) rs) (hn:rs.length=n) (hok:∀r∈rs,ok r.1/\ok r.2) (hl:l.length+(setT rs).length<=900000000) :
  Calls Tryz.prog 161 #[.pointer (some ⟨b,0,none⟩), .slice A n c] w (WtP b (l++setT rs) fp w):=by
 obtain ⟨z,hz⟩:∃z,oneR rs=z:=⟨_,rfl⟩;have hrw:∀W,KeepF fp [] w W->∀i (hi:i<rs.length),∃g f,A=some ⟨g,f,none⟩/\g<W.heap.size/\(W.cell? ⟨g,f+i*2,none⟩=some (.int .u8 (rs[i].1:Int))/\W.cell? ⟨g,f+i*2+1,none⟩=some (.int .u8 (rs[i].2:Int)))/\rs[i].1<256/\rs[i].2<256:=λW hW i hi=>by
  obtain ⟨A',c',e,hc,hor⟩:=hr W hW;injection e with e1 e2 e3;obtain ⟨g,f,h1,h2,h3⟩:=hor.resolve_left (by rintro rfl;cases hi)
  exact ⟨g,f,e1.trans h1,h2,(h3 i hi).1,(h3 i hi).2⟩
 have HR:=Lib.hid (And.intro hrw (And.intro hn (And.intro hok hz)));have HB:=Lib.hid h;have hn63:(n:Int)<=9223372036854775807:=by
  obtain ⟨A',c',e,hc,-⟩:=hr w (kf_self _ _);injection e with _ e2 e3;omega
 clear h hr hn hok hrw
 go_enter Tryz.func161,Tryz.ntmps161
 go_upto_region 0 with fail
 go_cut [19] from 6 to 19 (λv wx=>v = .bool z/\∃W,W=wx/\Hid (Below w.heap.size w W))
 case first=>
  by_cases h1:n=1
  .subst h1;have hl1:0<rs.length:=by rw[HR.out.2.1];decide
   obtain ⟨g,f,rfl,hg,⟨c0,c1⟩,hb1,hb2⟩:=HR.out.1 w (kf_self _ _) 0 hl1;have hrs:rs=[rs[0]]:=by
    have:=HR.out.2.1
    match rs,this with
    | [r],_=>rfl
   obtain ⟨x,hx⟩:∃x,rs[0].1=x:=⟨_,rfl⟩;obtain ⟨y,hy⟩:∃y,rs[0].2=y:=⟨_,rfl⟩;rw[hx]at c0;rw[hy]at c1;rw[Nat.zero_mul,Nat.add_zero]at c0 c1;have hzz:decide (x=y)=z:=by rw[<-hz,hrs,<-hx,<-hy];rfl
   have hzi:((x:Int) == (y:Int))=z:=by rw[<-hzz,Bool.eq_iff_iff,beq_iff_eq,decide_eq_true_eq];omega
   clear hx hy hrs hb1 hb2 hz
   cases z with
   | true=>
    go_quiet (fail)
    go_wp2_with fail
    go_meet
    exact ⟨rfl,_,rfl,below_drewN (Below.refl _ _) _⟩
   | false=>
    go_quiet (fail)
    go_wp2_with fail
    go_meet
    exact ⟨rfl,_,rfl,below_drewN (Below.refl _ _) _⟩
  .have hz0:z=false:=by
    rw[<-hz];have:=HR.out.2.1
    match rs,this with
    | [],_=>rfl
    | [r],e=>exact absurd e.symm h1
    | _::_::_,_=>rfl
   have h1i:((n:Int) == 1)=false:=by simp;omega
   clear h1 hz;subst hz0
   go_quiet (fail)
   go_wp2_with fail
   go_meet
   exact ⟨rfl,_,rfl,below_drewN (Below.refl _ _) _⟩
 case rest=>
  obtain ⟨rfl,W1,rfl,HW⟩:=hcut;have HB1:=Lib.hid (HB.out.below HW.out)
  cases z with
  | true=>
   obtain ⟨x,hx⟩:∃x,rs=[(x,x)]:=by
    have:=HR.out.2.2.2
    match rs,this with
    | [r],h=>
     have h2:r.1=r.2:=of_decide_eq_true h;exact ⟨r.1,by rw[show r=(r.1,r.1) from Prod.ext rfl h2.symm]⟩
   have hn1:n=1:=by rw[<-HR.out.2.1,hx];rfl
   subst hn1;obtain ⟨g,f,rfl,hg,⟨c0,-⟩,hb1,-⟩:=HR.out.1 W1 (KeepF.of_below HW.out).non 0 (by rw[hx];simp)
   have hx0:(rs[0]'(by rw[hx];simp)).1=x:=by simp only[hx,List.getElem_cons_zero]
   rw[hx0]at c0 hb1;rw[Nat.zero_mul,Nat.add_zero]at c0;have hokx:ok x:=by have:=(HR.out.2.2.1 (x,x) (by rw[hx];simp)).1;exact this
   have HS:=Lib.hid (HSG x W1 hokx hb1);have HT:=Lib.hid (show setT rs=sgnT x by rw[hx];unfold setT oneR hdR;simp)
   have H2:=Lib.hid (str_K b l fp (bs (sgnT x)) W1 HB1.out (by omega) (by rw[bs_size];have:=sgnT_len x;omega))
   clear hx0 hokx hb1 hx;go_wp2_with fail;refine HS.out.mono ?_;rintro e w2 ⟨rfl,hw2⟩;subst hw2;go_wp2_with fail;refine H2.out.mono ?_;rintro e w3 ⟨rfl,fp3,hk3,kf3⟩;have H3:=Lib.hid (And.intro hk3 kf3);clear hk3 kf3;go_wp2_with fail
   go_end0
   refine ⟨rfl,fp3,?_,(KeepF.of_below HW.out).trans H3.out.2⟩;rw[HT.out,<-bl_bs (sgnT x)];exact H3.out.1
  | false=>
   have HT:=Lib.hid (show setT rs=91::(rngsT rs++[93]) by unfold setT;rw[HR.out.2.2.2];rfl)
   have HLB:=Lib.hid (show l.length+1+(rngsT rs).length<=900000000 by have h9:=HT.out;rw[h9,List.length_cons,List.length_append]at hl;simp at hl;omega)
   have H2:=Lib.hid (byte_K b l fp 91 91 rfl W1 HB1.out (by omega))
   go_wp2_with fail;refine H2.out.mono ?_;rintro e w2 ⟨rfl,fp2,hk2,kf2⟩;have H3:=Lib.hid (And.intro hk2 ((KeepF.of_below (fp:=fp) HW.out).trans kf2));clear hk2 kf2;go_wp2_with fail
   go_loopw [31] (λiv wr=>∃(i:Nat) (li:List UInt8) (fpi:List Nat),i<=n/\iv = .int .i64 (i:Int)/\Hid (li++rngsT (rs.drop i)=l++91::rngsT rs)/\Hid (BuK b li fpi wr/\KeepF fp fpi w wr)) (λiv _=>n - (intOf iv).toNat)
   case atStart=>exact ⟨0,_,fp2,Nat.zero_le _,rfl,by show (l++[91])++rngsT (rs.drop 0)=_;rw[List.drop_zero,List.append_assoc];rfl,H3.out⟩
   case round=>
    obtain ⟨i,li,fpi,hi,rfl,HL,HK⟩:=hrel;by_cases hlt:i<n
    .have hd:decide ((i:Int)<(n:Int))=true:=decide_eq_true (by omega)
     have hdn:decide (i<n)=true:=decide_eq_true hlt;have hil:i<rs.length:=by rw[HR.out.2.1];exact hlt
     obtain ⟨g,f,rfl,hg,⟨c0,c1⟩,hb1,hb2⟩:=HR.out.1 wr HK.out.2.non i hil;have hdr:rngsT (rs.drop i)=rngT rs[i]++rngsT (rs.drop (i+1)):=by rw[List.drop_eq_getElem_cons hil,rngsT]
     have hokr:=HR.out.2.2.1 _ (List.getElem_mem hil);obtain ⟨x,hx⟩:∃x,rs[i].1=x:=⟨_,rfl⟩;obtain ⟨y,hy⟩:∃y,rs[i].2=y:=⟨_,rfl⟩;have hrg:rngT rs[i]=sgnT x++if y=x then [] else 45::sgnT y:=by unfold rngT;rw[hx,hy]
     rw[hx]at c0 hb1 hokr;rw[hy]at c1 hb2 hokr;rw[hrg]at hdr;have hll:li.length<=900000000:=by
      have h1:=congrArg List.length HL.out;have h2:=HLB.out;rw[List.length_append,List.length_append,List.length_cons]at h1;omega
     have HD:=Lib.hid hdr;have HS1:=Lib.hid λW=>HSG x W hokr.1 hb1;have HS2:=Lib.hid λW=>HSG y W hokr.2 hb2;have hi63:(i:Int)<(n:Int):=by omega
     clear hx hy hrg hdr hokr hil
     go_upto_region 6 with fail
     refine wpX_nm λW2 hW2=>?_;have hb:Below wr.heap.size wr W2:=by rw[hW2];exact (Below.refl _ _).alloc (Nat.le_refl _) _
     have hX2:W2.heap[wr.heap.size]?=some (.cells #[.int .u8 (x:Int), .int .u8 (y:Int)] 78 (0,0)):=by rw[hW2];exact heap_alloc_new wr _
     have hnx:wr.heap.size∉fpi:=λhm=>by have:=HK.out.1.lt _ hm;omega
     have HW2:=Lib.hid (And.intro hb (And.intro hX2 hnx));have H4:=Lib.hid (str_K b li fpi (bs (sgnT x)) W2 (HK.out.1.below hb) (by omega) (by rw[bs_size];have:=sgnT_len x;omega))
     obtain ⟨x0,x1⟩:W2.cell? ⟨wr.heap.size,0,none⟩=some (.int .u8 (x:Int))/\W2.cell? ⟨wr.heap.size,1,none⟩=some (.int .u8 (y:Int)):=by constructor <;> (rw[cell_of_row _ _ _ _ _ _ hX2]; rfl)
     have lx:wr.heap.size<W2.heap.size:=(Array.getElem?_eq_some_iff.1 hX2).1;clear hW2 hb hX2 hnx c0 c1;go_wp2_with fail;refine (HS1.out W2).mono ?_;rintro e w3 ⟨rfl,hw3⟩;subst hw3;go_wp2_with fail;refine H4.out.mono ?_;rintro e w4 ⟨rfl,fp4,hk4,kf4⟩;obtain ⟨n4,e4⟩:=bufKeep hk4 kf4 HW2.out.2.2 lx;have hX4:=e4.trans HW2.out.2.1;clear x0 x1 lx;obtain ⟨x0,x1⟩:w4.cell? ⟨wr.heap.size,0,none⟩=some (.int .u8 (x:Int))/\w4.cell? ⟨wr.heap.size,1,none⟩=some (.int .u8 (y:Int)):=by constructor <;> (rw[cell_of_row _ _ _ _ _ _ hX4]; rfl)
     have lx:wr.heap.size<w4.heap.size:=(Array.getElem?_eq_some_iff.1 hX4).1;have H5:=Lib.hid (And.intro hk4 ((HK.out.2.trans (KeepF.of_below (fp:=fpi) HW2.out.1)).trans kf4));clear hk4 kf4 n4 e4 hX4;by_cases hxy:y=x
     .have hne:((y:Int) != (x:Int))=false:=by simp[hxy]
      have HE:=Lib.hid (show (li++bl (bs (sgnT x)))++rngsT (rs.drop (i+1))=l++91::rngsT rs by
       rw[<-HL.out,HD.out,if_pos hxy,bl_bs,List.append_nil,List.append_assoc])
      clear hxy;go_wp2_with fail;go_roundw
      case rel=>exact ⟨i+1,_,fp4,by omega,by go_num,HE,H5.out⟩
      case measure=>simp[intOf];omega
     .have hne:((y:Int) != (x:Int))=true:=by simp;omega
      have HXY:=Lib.hid hxy;clear hxy;go_wp2_with fail;refine (HS2.out w4).mono ?_;rintro e w5 ⟨rfl,hw5⟩;subst hw5;have H6:=Lib.hid (str_K b (li++bl (bs (sgnT x))) fp4 ((⟨#[45]⟩:ByteArray)++bs (sgnT y)) w5 H5.out.1 (by rw[List.length_append,bl_bs];have:=sgnT_len x;omega) (by rw[ByteArray.size_append,bs_size];have:=sgnT_len y;show 1+_<=_;omega))
      clear x0 x1 lx;have hbig:¬9223372036854775807<(⟨#[45]⟩:ByteArray).size+(bs (sgnT y)).size:=by rw[bs_size];have:=sgnT_len y;show ¬_<1+_;omega
      have hbig2:¬9223372036854775807<1+(bs (sgnT y)).size:=hbig;go_wp2_with fail;refine H6.out.mono ?_;rintro e w6 ⟨rfl,fp6,hk6,kf6⟩;have H7:=Lib.hid (And.intro hk6 (H5.out.2.trans kf6));have HE:=Lib.hid (show (li++bl (bs (sgnT x))++bl ((⟨#[45]⟩:ByteArray)++bs (sgnT y)))++rngsT (rs.drop (i+1))=l++91::rngsT rs by
       rw[<-HL.out,HD.out,if_neg HXY.out,show ∀s t:ByteArray,bl (s++t)=bl s++bl t from λs t=>by unfold bl;simp,bl_bs,bl_bs]
       simp
       rfl)
      clear hk6 kf6;go_wp2_with fail;go_roundw
      case rel=>exact ⟨i+1,_,fp6,by omega,by go_num,HE,H7.out⟩
      case measure=>simp[intOf];omega
    .obtain rfl:i=n:=by omega
     have hd:decide ((i:Int)<(i:Int))=false:=decide_eq_false (by omega)
     have hdn:decide (i<i)=false:=decide_eq_false (by omega)
     have hll:li.length<=900000000:=by
      have h1:=congrArg List.length HL.out;have h2:=HLB.out;rw[List.length_append,List.length_append,List.length_cons]at h1;omega
     have H4:=Lib.hid (byte_K b li fpi 93 93 rfl wr HK.out.1 (by omega))
     go_wp2_with fail;refine H4.out.mono ?_;rintro e w4 ⟨rfl,fp4,hk4,kf4⟩;have H5:=Lib.hid (And.intro hk4 (HK.out.2.trans kf4));clear hk4 kf4;go_wp2_with fail
     go_end0
     refine ⟨rfl,fp4,?_,H5.out.2⟩;have h1:=HL.out;rw[List.drop_of_length_le (by rw[HR.out.2.1];exact Nat.le_refl _),rngsT,List.append_nil]at h1
     have h2:=H5.out.1;rw[h1]at h2;rw[HT.out];simpa using h2
def factW2 (b N g1 q cp:Nat):Nat->Nat->Value->World->Prop
 | c,0,x,w=>x = .pointer (some ⟨b,0,none⟩)
 | c,1,x,w=>x = .pointer (some ⟨N,2,none⟩)
 | c,2,x,w=>x = .slice (some ⟨g1,0,none⟩) 1 1
 | c,3,x,w=>x = .pointer (some ⟨g1,0,none⟩)
 | c,4,x,w=>x = .agg #[.int .i64 1, .slice (some ⟨q,0,none⟩) 1 cp, .slice none 0 0, .int .i64 0, .int .i64 0]
 | c,5,x,w=>x = .pointer (some ⟨N,2,none⟩)
 | c,6,x,w=>x = .slice (some ⟨g1,0,none⟩) 1 1
 | c,7,x,w=>x = .pointer (some ⟨g1,0,none⟩)
 | c,8,x,w=>x = .pointer (some ⟨g1,0,none⟩)
 | c,9,x,w=>x = .int .i64 1
 | c,10,x,w=>x = .bool false
 | _,_,_,_=>True
def setV (q c:Nat):Value:=.agg #[.int .i64 1, .slice (some ⟨q,0,none⟩) 1 c, .slice none 0 0, .int .i64 0, .int .i64 0]
def ndAB:Nd:=.mk 4 [] [.mk 1 [(97,98)] [] 0 0] 2 2
theorem string_K (B b:Nat) (l:List UInt8) (fp:List Nat) (w:World) (h:BuK b l fp w) (hB:∀k∈fp,B<=k) (hBw:B<=w.heap.size):Calls Tryz.prog 67 #[.pointer (some ⟨b,0,none⟩)] w λe w'=>e = .returned (.string (bs l))/\Below B w w':=by
 obtain ⟨p,v,hp,rfl,hn,hb,ho⟩:=h;have ho':w.ownsRow B 5 1 v (Lib.byteCells l).length (Lib.byteCells l):=by
  rw[Lib.byteCells_length];refine ⟨ho.1,?_⟩;rcases ho.2 with h3 | ⟨g,cap,cur,h3,h4,rest⟩
  .exact .inl h3
  .exact .inr ⟨g,cap,cur,h3,hB g (by simp[h3,blk,Value.ownBlock]),rest⟩
 refine builder_string B b l w ?_ hBw;rcases hp with rfl | rfl
 .exact .inl ⟨hB b (by simp),v,hb,ho',hn⟩
 .exact .inr ⟨hB b (by simp),v,hb,ho',hn⟩
def RdP (w:World) (e:Ending) (w':World):Prop:=∃x,e = .returned (.tuple #[x, .int .i64 0])/\ItP w.heap.size x w'/\Below w.heap.size w w'
end Go.Proofs.YtljgapfmgegifaaGreatDoor
