/- Walks: machine.classes. Conditions: the variables read as laid. · Walks: machine.least. Conditions: the variables read as laid. · A compile: where groups begin; what it answers. · A compile: a round of the groups. · Walks: machine.Compile. Conditions: the variables read as laid. · The machine of the pattern a{1,2}. -/
import Derived.Test.YtdmoogjddmdmbaaGreatDoorY16
import Derived.Test.YtdmoogjddmdmbaaGreatDoorY05
import Derived.Test.YtdmoogjddmdmbaaGreatDoorY21
import Derived.Test.YtdmoogjddmdmbaaGreatDoorY12
import Derived.Test.YtdmoogjddmdmbaaGreatDoorY14
namespace Go.Proofs.YtdmoogjddmdmbaaGreatDoor
set_option linter.unusedVariables false
set_option linter.unusedSimpArgs false
set_option maxRecDepth 100000
open Go.RowKit
open Go.Maps (Keyed)
def factCl (N ga fa n ca ge fe ce k:Nat) (bb:Bool) (rv cv:Value) (cs:List (Option Nat)) (row:List Ed) (NB:ByteArray):Nat->Nat->Value->World->Prop
 | c,0,x,w=>x = .pointer (some ⟨N,1,none⟩)
 | c,1,x,w=>x = .slice (some ⟨ga,fa,none⟩) n ca
 | c,2,x,w=>x = .int .i64 (k:Int)
 | c,3,x,w=>x = .pointer (some ⟨ga,fa+k,none⟩)
 | c,4,x,w=>x = .bool bb
 | c,5,x,w=>x = .pointer (some ⟨N,0,none⟩)
 | c,6,x,w=>x = .slice (some ⟨ge,fe,none⟩) n ce
 | c,7,x,w=>x = .int .i64 (k:Int)
 | c,8,x,w=>x = .pointer (some ⟨ge,fe+k,none⟩)
 | c,9,x,w=>x=rv
 | c,10,x,w=>x=cv
 | c,11,x,w=>∃A c,x = .slice A (joinF (clF cs) row).length c/\EdIn w x (joinF (clF cs) row)
 | c,12,x,w=>x = .string NB
 | _,_,_,_=>True
structure RdR (m:Mc) (WB:World) (cs ds:List (Option Nat)) (seen:List (Bool×List Ed)) (F:Lit->Option Value) (n k:Nat) (wr:World):Prop where
 mn:MN Tryz.prog 9 WB.heap.size seen.length F wr
 sy:SaysD F seen
 own:OR 3 1 clC (WB.heap.size+1) (.slice (some ⟨WB.heap.size+1,0,none⟩) n n) ds wr
 ri:RndI m cs ds seen k
 bl:Below WB.heap.size WB wr
set_option maxHeartbeats 16000000 in
theorem classes_any (v:Value) (m:Mc) (w:World) (hm:McIn w v m) (hv:Vld m) (hsm:McSm m) (h1:1<=m.ed.length) (hvr:VrOK w) :
  Calls Tryz.prog 170 #[v] w (ClPost m m.ed.length w):=by
 have hal:=λW (h:Below w.heap.size w W)=>alive_any v m W (hm.later h) hv hsm h1;obtain ⟨ve,va,rfl,he,ha⟩:=hm;obtain ⟨Ae,ce,rfl,hce1,hce2⟩:=he.form;obtain ⟨Aa,ca,rfl,hca1,hca2⟩:=ha.form;obtain ⟨n,hn⟩:∃n,m.ed.length=n:=⟨_,rfl⟩;have hac:m.ac.length=n:=by rw[hv.len,hn]
 have hnn:=hsm.n;rw[hac]at ha hca1;rw[hn]at he hce1 h1 hnn;rw[hn,hac]at hal;have HAL:=Lib.hid hal;have HE:=Lib.hid he;have HA:=Lib.hid ha;have HV:=Lib.hid hv;have HSM:=Lib.hid hsm;have HN:=Lib.hid (And.intro hn hac);have HVR:=Lib.hid hvr;have K:Keyed Tryz.prog 9:=Maps.string_keyed Tryz.underlying9;have hz:∀w,(zeroValue 3).run Tryz.prog w = .ok (.int .i64 0) w:=λ_=>by kernel_rfl
 have hmk:=mk_zeros n (by omega)
 have hmm:=@run_makeMap Tryz.prog;rw[hac,hn];have hlow:=hvr.low;clear hal he ha hv hsm hn hac hvr
 go_enter Tryz.func170,Tryz.ntmps170
 go_wp2_with fail;refine (HAL.out _ ?hb0).mono ?_
 case hb0=>exact ((Below.refl w.heap.size w).alloc (Nat.le_refl _) _).alloc (by simp) _
 rintro e w1 ⟨rv,o,rfl,hown1,hb1,ho1,ho2⟩;have hzz0:((w.alloc (.cells #[.slice Ae n ce, .slice Aa n ca] 93)).alloc (.cells (Array.replicate n (.int .i64 0)) 3)).heap.size=w.heap.size+2:=by simp
 have hzero:=zeros_new (w.alloc (.cells #[.slice Ae n ce, .slice Aa n ca] 93)) n (by omega)
 have hsz1:(w.alloc (.cells #[.slice Ae n ce, .slice Aa n ca] 93)).heap.size=w.heap.size+1:=by simp
 rw[hsz1]at hzero;have hbx1:w1.heap[w.heap.size]?=some (.cells #[.slice Ae n ce, .slice Aa n ca] 93 (0,0)):=(hb1.block _ (by omega)).trans ((old_alloc _ _ _ (by simp)).trans (heap_alloc_new w _))
 have hcl1:OR 3 1 clC (w.heap.size+1) (.slice (some ⟨w.heap.size+1,0,none⟩) n n) (firstC o 0 n) w1:=by rw[firstC_zero];exact hzero.later hb1
 have hob1:=(BlIn.of_OR hown1);have hb1z:=hb1.size;rw[hzz0]at hb1z;have hbw1:Below w.heap.size w w1:=(((Below.refl w.heap.size w).alloc (Nat.le_refl _) _).alloc (by simp) _).trans (hb1.mono (by omega))
 obtain ⟨Ao,co,eo,hco1,hco2⟩:=hob1.form;subst eo;have HO12:=Lib.hid (And.intro ho1 ho2);have HOB:=Lib.hid hob1;have HBX1:=Lib.hid hbx1;have HCL1:=Lib.hid hcl1;have HBW1:=Lib.hid hbw1;have hgo1:=hown1.1
 -- the row of what is alive lies above
 have hoA:o=[]\/∃g f,Ao=some ⟨g,f,none⟩/\w.heap.size+2<=g:=by
  by_cases h0:o=[]
  .exact .inl h0
  .obtain ⟨A,c,e,-,hor⟩:=hown1.cells bC_E;obtain ⟨g,hA,hg,-,-⟩:=hor.resolve_left h0;injection e with e1 _ _;rw[hzz0]at hg;exact .inr ⟨g,0,by rw[e1,hA],hg⟩
 have HOA:=Lib.hid hoA;rw[ho1];rw[ho1]at hco1;clear hown1 hzz0 hzero hsz1 hbx1 hcl1 hob1 hbw1 ho1 ho2 hb1 hgo1 hoA;go_wp2_with fail
 go_loopw [21] (λiv wr=>∃k:Nat,k<=n/\iv = .int .i64 (k:Int)/\Hid (OR 3 1 clC (w.heap.size+1) (.slice (some ⟨w.heap.size+1,0,none⟩) n n) (firstC o k n) wr)/\Hid (KeepF [w.heap.size+1] [w.heap.size+1] w1 wr)) (λiv _=>n - (intOf iv).toNat)
 case atStart=>exact ⟨0,Nat.zero_le _,rfl,HCL1,KeepF.refl _ _⟩
 case round=>
  obtain ⟨k,hk,rfl,HC,HK⟩:=hrel;have hwz:=HK.out.size;by_cases hlt:k<n
  .have hd:decide ((k:Int)<(n:Int))=true:=decide_eq_true (by omega)
   have hkl:k<o.length:=by rw[HO12.out.1];exact hlt
   obtain ⟨g,f,rfl,-,hg,c0⟩:=HOB.out.at_ hkl;have hgA:w.heap.size+2<=g:=by
    rcases HOA.out with h | ⟨g',f',e',h⟩
    .rw[h]at hkl;cases hkl
    .injection e' with e';injection e' with e1 _;rw[e1];exact h
   have c0r:=(World.cell?_of_block (a:=⟨g,f+k,none⟩) (HK.out.blk g hg (by simp;omega))).trans c0
   obtain ⟨q,hq⟩:∃q,o[k]=q:=⟨_,rfl⟩;rw[hq]at c0r;have hok:o[k]?=some q:=by rw[List.getElem?_eq_getElem hkl,hq]
   have HOK:=Lib.hid hok;have hgr:g<wr.heap.size:=by omega
   obtain ⟨y0,y1⟩:=HC.out.cellC k (by rw[firstC_len];exact hlt)
   have hgy:=HC.out.lt1;have hkd:decide (k<n)=true:=decide_eq_true hlt;clear c0 hq hok hkl
   cases q with
   | true=>
    go_wp2_with fail;go_roundw
    case rel=>exact ⟨k+1,by omega,by go_num,by rw[firstC_true HOK.out];exact HC,HK⟩
    case measure=>simp[intOf];omega
   | false=>
    have hset:=HC.out.setC (firstC_len _ _ _) k none;have hset2:OR 3 1 clC (w.heap.size+1) (.slice (some ⟨w.heap.size+1,0,none⟩) n n) (firstC o (k+1) n) (wr.setCell ⟨w.heap.size+1,k,none⟩ (.int .i64 (-1))):=by rw[firstC_false HOK.out];exact hset
    have HS2:=Lib.hid hset2;have hk2:KeepF [w.heap.size+1] [w.heap.size+1] w1 (wr.setCell ⟨w.heap.size+1,k,none⟩ (.int .i64 (-1))):=HK.out.trans ⟨rfl,rfl,rfl,by simp[World.setCell],λq _ hn=>Below.heap_setCell _ _ _ _ (λe=>hn (by simp[show q=w.heap.size+1 from e])),λk hk=>.inl hk⟩
    have HK2:=Lib.hid hk2;clear hset hset2 hk2;go_wp2_with fail;go_roundw
    case rel=>exact ⟨k+1,by omega,by go_num,HS2,HK2⟩
    case measure=>simp[intOf];omega
  .obtain rfl:k=n:=by omega
   have hd:decide ((k:Int)<(k:Int))=false:=decide_eq_false (by omega)
   have hbxr:=(HK.out.blk w.heap.size (by omega) (by simp)).trans HBX1.out
   have hblr:Below w.heap.size w wr:=HBW1.out.trans (HK.out.below (λq hq=>by rw[List.mem_singleton]at hq;omega) HBW1.out.size)
   have hhd:=HeadC.first (m:=m) (o:=o) (by rw[HO12.out.1,HN.out.1]) (by rw[HN.out.1];exact HO12.out.2) (by rw[HN.out.1];exact h1)
   rw[HN.out.1]at hhd;have HBXR:=Lib.hid hbxr;have HBLR:=Lib.hid hblr;have HHD:=Lib.hid hhd;obtain ⟨W1,rfl⟩:∃W:World,W=wr:=⟨_,rfl⟩;clear hbxr hblr hhd;go_wp2_with fail
   go_loopg [3,6] (k+2) (λq cv kv wr=>∃(g3 c3 kn:Nat) (cs:List (Option Nat)),cv = .slice (some ⟨g3,0,none⟩) k c3/\kv = .int .i64 (kn:Int)/\q+kn=k+2/\kn<=k/\Hid (OR 3 1 clC (w.heap.size+1) (.slice (some ⟨g3,0,none⟩) k c3) cs wr)/\Hid (HeadC m cs kn)/\Hid (wr.heap[w.heap.size]?=some (.cells #[.slice Ae k ce, .slice Aa k ca] 93 (0,0)))/\Hid (Below w.heap.size w wr))
   case atStart=>exact ⟨w.heap.size+1,k,0,firstC o k k,rfl,rfl,rfl,Nat.zero_le _,HC,HHD,HBXR,HBLR⟩
   case round=>
    obtain ⟨g3,c3,kn,cs,rfl,rfl,hq,hkn,HCS,HH,HBX,HBL⟩:=hrel;obtain ⟨WB,rfl⟩:∃W:World,W=wr:=⟨_,rfl⟩;have hg3:=HCS.out.lt1;have hcsl:cs.length=k:=by rw[HH.out.len,HN.out.1]
    have hwB:=HBL.out.size;have hNB:w.heap.size<WB.heap.size:=(Array.getElem?_eq_some_iff.1 HBX.out).1;have hmn0:MN Tryz.prog 9 WB.heap.size 0 (λ_=>none) (WB.alloc (.map #[] 0)):=MN.made _ _ _;have hz0:=zeros_new (WB.alloc (.map #[] 0)) k (by omega)
    have hszm:(WB.alloc (.map #[] 0)).heap.size=WB.heap.size+1:=by simp
    rw[hszm]at hz0;have hR0:RdR m WB cs (List.replicate k (some 0)) [] (λ_=>none) k 0 ((WB.alloc (.map #[] 0)).alloc (.cells (Array.replicate k (.int .i64 0)) 3)):=
     ⟨hmn0.kept (old_alloc _ _ _ (by omega)),SaysD.nil,hz0,RndI.start _ (by simp[HN.out.1]),((Below.refl _ WB).alloc (Nat.le_refl _) _).alloc (by omega) _⟩
    have HR0:=Lib.hid hR0;have HCSL:=Lib.hid hcsl;clear hmn0 hz0 hszm hR0 hcsl;go_wp2_with fail
    go_loopw [38] (λiv wr=>∃(j:Nat) (ds:List (Option Nat)) (seen:List (Bool×List Ed)) (F:Lit->Option Value),j<=k/\iv = .int .i64 (j:Int)/\Hid (RdR m WB cs ds seen F k j wr)) (λiv _=>k - (intOf iv).toNat)
    case atStart=>exact ⟨0,_,[],_,Nat.zero_le _,rfl,HR0⟩
    case round=>
     obtain ⟨j,ds,seen,F,hj,rfl,HR⟩:=hrel;have hwr:=HR.out.bl.size;have hsl:=HR.out.own.lt1;have hdl:ds.length=k:=by rw[HR.out.ri.len,HN.out.1]
     by_cases hlt:j<k
     .have hd:decide ((j:Int)<(k:Int))=true:=decide_eq_true (by omega)
      have hdn:decide (j<k)=true:=decide_eq_true hlt;have hjn:j<m.ed.length:=by rw[HN.out.1];exact hlt
      obtain ⟨cc0,-⟩:=HCS.out.cellC j (by rw[HCSL.out];exact hlt)
      have cc1:=(HR.out.bl.cell (p:=⟨g3,j,none⟩) hg3).trans cc0;have hg3r:g3<wr.heap.size:=by omega
      obtain ⟨dd0,dd1⟩:=HR.out.own.cellC j (by rw[hdl];exact hlt)
      have HDL:=Lib.hid hdl;clear cc0 hdl
      cases hcl:clF cs j with
      | none=>
       rw[hcl]at cc1;have cc2:wr.cell? ⟨g3,j,none⟩=some (.int .i64 (-1)):=cc1;have hset:=HR.out.own.setC HDL.out j none;have hne:WB.heap.size≠WB.heap.size+1:=by omega
       have hR2:RdR m WB cs (ds.set j none) seen F k (j+1) (wr.setCell ⟨WB.heap.size+1,j,none⟩ (.int .i64 (-1))):=
        ⟨HR.out.mn.kept (Below.heap_setCell _ _ _ _ hne),HR.out.sy,hset,HR.out.ri.none_ hjn hcl,HR.out.bl.setCell (p:=⟨WB.heap.size+1,j,none⟩) (by show WB.heap.size<=WB.heap.size+1;omega) _⟩
       have HR2:=Lib.hid hR2;clear cc1 hcl hset hR2;go_wp2_with fail;go_roundw
       case rel=>exact ⟨j+1,_,_,_,by omega,by go_num,HR2⟩
       case measure=>simp[intOf];omega
      | some cl=>
       rw[hcl]at cc1;have cc2:wr.cell? ⟨g3,j,none⟩=some (.int .i64 (cl:Int)):=cc1;have hdc:decide ((cl:Int)<0)=false:=decide_eq_false (by omega)
       have hcn:clF cs j≠none:=by rw[hcl];simp
       have HCN:=Lib.hid hcn;have hbwr:=HBL.out.trans (HR.out.bl.mono hwB);obtain ⟨ga,fa,rfl,-,hga,ca0'⟩:=HA.out.at_ (show j<m.ac.length by rw[HN.out.2];exact hlt)
       obtain ⟨ge,fe,rv0,rfl,-,hge,ce0',hed0⟩:=HE.out.at_ hjn;have ca0:=(World.cell?_of_block (a:=⟨ga,fa+j,none⟩) (hbwr.block ga hga)).trans ca0';have ce0:=(World.cell?_of_block (a:=⟨ge,fe+j,none⟩) (hbwr.block ge hge)).trans ce0';have hed:=hed0.later hbwr;obtain ⟨row,hrow⟩:∃r,m.ed[j]=r:=⟨_,rfl⟩;obtain ⟨bb,hbb⟩:∃b,m.ac[j]'(by rw[HN.out.2];exact hlt)=b:=⟨_,rfl⟩
       rw[hrow]at hed;rw[hbb]at ca0;have hrm:row∈m.ed:=by rw[<-hrow];exact List.getElem_mem hjn
       have hrM:rowM m j=row:=by unfold rowM;rw[List.getElem?_eq_getElem hjn,hrow];rfl
       have haM:(m.ac[j]?).getD false=bb:=by rw[List.getElem?_eq_getElem (by rw[HN.out.2];exact hlt),hbb];rfl
       have hdsc:dsc m cs j=(bb,joinF (clF cs) row):=by unfold dsc descF;rw[hrM,haM]
       have hjb:=joinF_by (cls:=clF cs) (HV.out.srt row hrm) (HSM.out.by_ row hrm);have HTO:=Lib.hid (show ∀e∈row,e.to<cs.length from λe he=>by rw[HCSL.out,<-HN.out.1];exact HV.out.to row hrm e he)
       have HBY:=Lib.hid (HSM.out.by_ row hrm);have HJB:=Lib.hid (show ∀e∈joinF (clF cs) row,e.lo<256/\e.hi<256/\e.to<1000000 from λe he=>by
        obtain ⟨h1,h2,f,hf,h3⟩:=hjb e he;have:=HH.out.lt _ _ h3;have:=HN.out.1;exact ⟨h1,h2,by omega⟩)
       have hrl:=HSM.out.rl row hrm;have HJL:=Lib.hid (show (joinF (clF cs) row).length<=10000 from Nat.le_trans (joinF_len _ _) hrl);have hbx:=(HR.out.bl.block _ hNB).trans HBX.out;obtain ⟨c0,c1⟩:wr.cell? ⟨w.heap.size,0,none⟩=some (.slice (some ⟨ge,fe,none⟩) k ce)/\wr.cell? ⟨w.heap.size,1,none⟩=some (.slice (some ⟨ga,fa,none⟩) k ca):=by
        constructor <;> (rw[cell_of_row _ _ _ _ _ _ hbx]; rfl)
       have hNW:w.heap.size<wr.heap.size:=by omega
       have hgaW:ga<wr.heap.size:=by omega
       have hgeW:ge<wr.heap.size:=by omega
       obtain ⟨Ar,cr,hrf,-⟩:=hed.form;obtain ⟨nrow,hnrow⟩:∃n,row.length=n:=⟨_,rfl⟩;rw[hnrow]at hrf hrl;subst hrf;have hed':EdIn wr (.slice Ar nrow cr) row:=hed;have HED:=Lib.hid hed';have HCI:=Lib.hid ((ClIn.of_OR HCS.out).later HR.out.bl);have HVW:=Lib.hid (HVR.out.below hbwr hlow);have HDS:=Lib.hid (And.intro hdsc hcl);have HNR:=Lib.hid hnrow;obtain ⟨W,hWeq⟩:∃W:World,W=wr:=⟨_,rfl⟩;subst hWeq;have hS0:Below W.heap.size W W.drew:=(Below.refl _ _).drew;have HDD:=Lib.hid (And.intro dd0 dd1);have HHZ:=Lib.hid hz;obtain ⟨NB,hNB⟩:∃N,bs (descT bb (joinF (clF cs) row))=N:=⟨_,rfl⟩;have HNB:=Lib.hid hNB;clear hNB;clear cc1 hcl hcn hbwr hga ca0' hge ce0' hed0 hed hed' hrow hbb hrm hrM haM hdsc hjb hbx dd0 dd1 hmk hmm hz;go_wp2_with fail;refine wp_region_chain 13 [] (factCl w.heap.size ga fa k ca ge fe ce j bb (.slice Ar nrow cr) (.slice (some ⟨g3,0,none⟩) k c3) cs row NB) (λ_ w'=>Below W.heap.size W w') (by kernel_rfl) (by kernel_rfl) (by kernel_rfl) (by kernel_rfl) (by kernel_rfl) (by kernel_rfl) (by decide) hS0 ?_ ?_
       .simp only[pq4,pq5];refine HSteps.pure (by decide) ?_ (HSteps.pure (by decide) ?_ (HSteps.pure (by decide) ?_ (HSteps.pure (by decide) ?_ (HSteps.pure (by decide) ?_ (HSteps.pure (by decide) ?_ (HSteps.pure (by decide) ?_ (HSteps.pure (by decide) ?_ (HSteps.pure (by decide) ?_ (HSteps.pure (by decide) ?_ (HSteps.pure (by decide) ?_ (HSteps.free (by decide) ?_ (HSteps.free (by decide) ?_ (HSteps.nil)))))))))))))
        all_goals first | (with_reducible intro v wz c hlo hS hE K hK;simp only[putAll,Act.put,pq1,pq2,pq3,Nat.zero_add,Nat.reduceAdd,pq4,pq5]at hK|-) | (intro v wz hS hE K hK;simp only[putAll,Act.put,pq1,pq2,pq3,Nat.zero_add,Nat.reduceAdd,pq4,pq5]at hK|-)
        .have HX:=Lib.hid hS;clear hS hE hlo;go_wp2_with fail;exact hK.out _ rfl
        .have e0:v 0=_:=hE.1 rfl;rw[e0]at hK|-;have bx0:=(hS.cell (p:=⟨w.heap.size,0,none⟩) hNW).trans c0;have bx1:=(hS.cell (p:=⟨w.heap.size,1,none⟩) hNW).trans c1;have lwz:w.heap.size<wz.heap.size:=by have:=hS.size;omega
         have HX:=Lib.hid hS;clear hS hE hlo;go_wp2_with fail;exact hK.out _ rfl
        .have HX:=Lib.hid hS;clear hS hE hlo;go_wp2_with fail;exact hK.out _ rfl
        .have e1:v 1=_:=hE.1 rfl;have e2:v 2=_:=hE.2.1 rfl;rw[e1,e2]at hK|-;have HX:=Lib.hid hS;clear hS hE hlo;go_wp2_with fail;exact hK.out _ rfl
        .have e3:v 3=_:=hE.1 rfl;rw[e3]at hK|-;have ax:=(hS.cell (p:=⟨ga,fa+j,none⟩) hgaW).trans ca0;have lwa:ga<wz.heap.size:=by have:=hS.size;omega
         have HX:=Lib.hid hS;clear hS hE hlo;go_wp2_with fail;exact hK.out _ rfl
        .have HX:=Lib.hid hS;clear hS hE hlo;go_wp2_with fail;exact hK.out _ rfl
        .have e5:v 5=_:=hE.1 rfl;rw[e5]at hK|-;have bx0:=(hS.cell (p:=⟨w.heap.size,0,none⟩) hNW).trans c0;have bx1:=(hS.cell (p:=⟨w.heap.size,1,none⟩) hNW).trans c1;have lwz:w.heap.size<wz.heap.size:=by have:=hS.size;omega
         have HX:=Lib.hid hS;clear hS hE hlo;go_wp2_with fail;exact hK.out _ rfl
        .have HX:=Lib.hid hS;clear hS hE hlo;go_wp2_with fail;exact hK.out _ rfl
        .have e6:v 6=_:=hE.1 rfl;have e7:v 7=_:=hE.2.1 rfl;rw[e6,e7]at hK|-;have HX:=Lib.hid hS;clear hS hE hlo;go_wp2_with fail;exact hK.out _ rfl
        .have e8:v 8=_:=hE.1 rfl;rw[e8]at hK|-;have ex:=(hS.cell (p:=⟨ge,fe+j,none⟩) hgeW).trans ce0;have lwe:ge<wz.heap.size:=by have:=hS.size;omega
         have HX:=Lib.hid hS;clear hS hE hlo;go_wp2_with fail;exact hK.out _ rfl
        .have HX:=Lib.hid hS;clear hS hE hlo;go_wp2_with fail;exact hK.out _ rfl
        .have e9:v 9=_:=hE.1 rfl;have e10:v 10=_:=hE.2.1 rfl;rw[e9,e10]at hK|-;have hcall:=joined_any (.slice Ar nrow cr) (.slice (some ⟨g3,0,none⟩) k c3) row cs wz (HED.out.later hS) (HCI.out.later hS) HTO.out HBY.out (by rw[HNR.out];omega)
         have HC:=Lib.hid hcall;have HX:=Lib.hid hS;clear hS hE hlo hcall;go_wp2_with fail;refine HC.out.mono ?_;rintro e wy ⟨jv,rfl,ho,hb⟩;have hed:=EdIn.of_OR ho;obtain ⟨Aj,cj,rfl,-⟩:=hed.form;have HBY2:=Lib.hid (HX.out.trans (hb.mono HX.out.size));have HJ:=Lib.hid hed;clear ho hb hed;go_wp2_with fail;refine hK.out _ _ (λj z hj h=>?_) HBY2.out ⟨Aj,cj,rfl,HJ.out⟩
         match j with
         | 0 | 1 | 2 | 3 | 4 | 5 | 6 | 7 | 8 | 9 | 10=>exact h
         | 11=>exact absurd rfl hj
         | 12=>exact h
         | _+13=>exact trivial
        .have e4:v 4=_:=hE.1 rfl;rw[e4]at hK|-;have E11:=hE.2.1 rfl;obtain ⟨Aj,cj,e11,hj⟩:=E11;rw[e11]at hK hj|-;have hcall:=describe_any bb _ (joinF (clF cs) row) wz hj HJB.out (by have:=HJL.out;omega) (HVW.out.later hS)
         rw[HNB.out]at hcall;have HC:=Lib.hid hcall;have HX:=Lib.hid hS;clear hS hE hlo hcall hj e11;go_wp2_with fail;refine HC.out.mono ?_;rintro e wy ⟨rfl,hb⟩;have HBY2:=Lib.hid (HX.out.trans (hb.mono HX.out.size));have HB3:=Lib.hid hb;clear hb;go_wp2_with fail;refine hK.out _ _ (λj z hj h=>?_) HBY2.out rfl
         match j with
         | 0 | 1 | 2 | 3 | 4 | 5 | 6 | 7 | 8 | 9 | 10=>exact h
         | 11=>
          obtain ⟨A,c,e,h2⟩:=h;exact ⟨A,c,e,h2.later HB3.out⟩
         | 12=>exact absurd rfl hj
         | _+13=>exact trivial
       .intro v wz hS hF;have e0:v 0=_:=hF 0 (by decide)
        have e1:v 1=_:=hF 1 (by decide)
        have e2:v 2=_:=hF 2 (by decide)
        have e3:v 3=_:=hF 3 (by decide)
        have e4:v 4=_:=hF 4 (by decide)
        have e5:v 5=_:=hF 5 (by decide)
        have e6:v 6=_:=hF 6 (by decide)
        have e7:v 7=_:=hF 7 (by decide)
        have e8:v 8=_:=hF 8 (by decide)
        have e9:v 9=_:=hF 9 (by decide)
        have e10:v 10=_:=hF 10 (by decide)
        have E11:=hF 11 (by decide)
        have E12:=hF 12 (by decide)
        simp only[putAll,Act.put,pq1,pq2,pq3,Nat.zero_add,Nat.reduceAdd,pq4,pq5,List.drop_succ_cons,List.drop_zero,e0,e1,e2,e3,e4,e5,e6,e7,e8,e9,e10];clear hF e0 e1 e2 e3 e4 e5 e6 e7 e8 e9 e10;have e12:v 12=_:=E12;rw[e12];have hz:=HHZ.out;have hsz:=hS.size;have hmbW:WB.heap.size<W.heap.size:=by omega
        have hmz:MN Tryz.prog 9 WB.heap.size seen.length F wz:=HR.out.mn.kept (hS.block _ hmbW);have hoz:=HR.out.own.later hS;have hbz:Below WB.heap.size WB wz:=HR.out.bl.trans (hS.mono hwr);obtain ⟨dd0,dd1⟩:=hoz.cellC j (by rw[HDL.out];exact hlt)
        have hlz:WB.heap.size+1<wz.heap.size:=by omega
        obtain ⟨nm,hnm⟩:∃x,descT bb (joinF (clF cs) row)=x:=⟨_,rfl⟩;have hkey:keyOf Tryz.prog 9 (.string (bs nm))=some (.string nm):=by
         have h1:=descE_len _ HJB.out;have h2:(boolT bb).length<=5:=by cases bb <;> decide
         have:=WideMaps.keyOf_string_mk (P:=Tryz.prog) (k:=9) Tryz.underlying9 (s:=bs nm) (by rw[size_bs,<-hnm];unfold descT;rw[List.length_append];unfold maxLen;have:=HJL.out;omega)
         rwa [bs_data]at this
        obtain rfl:NB=bs nm:=by rw[<-HNB.out,hnm]
        have HNM:=Lib.hid hnm;have HKEY:=Lib.hid hkey;have HMZ:=Lib.hid hmz;have HOZ:=Lib.hid hoz;have HBZ:=Lib.hid hbz;have hsl2:seen.length<=k:=by
         have h1:=nodup_le (l:=seen) (r:=(List.range j).map (dsc m cs)) HR.out.ri.nd (λx hx=>by
          obtain ⟨s,h1,-,h3⟩:=HR.out.ri.of_ x hx;exact List.mem_map.2 ⟨s,List.mem_range.2 h1,h3⟩)
         simp at h1;omega
        clear hS E11 E12 e12 hmz hoz hbz hnm hkey;by_cases hin:dsc m cs j∈seen
        .have hlook:(Instr.lookup 176 (.map (some WB.heap.size)) (.string (bs nm)) true).run Tryz.prog wz = .ok (.tuple #[.int .i64 ((seen.idxOf (dsc m cs j):Nat):Int), .bool true]) wz:=by
          have h1:=HMZ.out.mv.look_ok K Tryz.underlying176 hz HKEY.out trivial;have h2:=HR.out.sy (dsc m cs j);rw[HDS.out.1]at h2;simp only[HNM.out]at h2;rw[h2,<-HDS.out.1,idxD,if_pos hin]at h1;exact h1
         obtain ⟨ix,hix⟩:∃i,seen.idxOf (dsc m cs j)=i:=⟨_,rfl⟩;rw[hix]at hlook;have hset:=HOZ.out.setC HDL.out j (some ix);have hR2:RdR m WB cs (ds.set j (some ix)) seen F k (j+1) (wz.setCell ⟨WB.heap.size+1,j,none⟩ (.int .i64 (ix:Int))):=
          ⟨HMZ.out.kept (Below.heap_setCell _ _ _ _ (by show WB.heap.size≠WB.heap.size+1;omega)),HR.out.sy,hset,by rw[<-hix];exact HR.out.ri.old hjn HCN.out hin,HBZ.out.setCell (p:=⟨WB.heap.size+1,j,none⟩) (by show WB.heap.size<=WB.heap.size+1;omega) _⟩
         have HR2:=Lib.hid hR2;have HIN:=Lib.hid hin;clear hix hset hR2 hin;go_wp2_with fail;go_roundw
         case rel=>exact ⟨j+1,_,_,_,by omega,by go_num,HR2⟩
         case measure=>simp[intOf];omega
        .have hlook:(Instr.lookup 176 (.map (some WB.heap.size)) (.string (bs nm)) true).run Tryz.prog wz = .ok (.tuple #[.int .i64 0, .bool false]) wz:=by
          have h1:=HMZ.out.mv.look_ok K Tryz.underlying176 hz HKEY.out trivial;have h2:=HR.out.sy (dsc m cs j);rw[HDS.out.1]at h2;simp only[HNM.out]at h2;rw[h2,<-HDS.out.1,idxD,if_neg hin]at h1;exact h1
         have hfn:F (.string nm)=none:=by
          have h2:=HR.out.sy (dsc m cs j);rw[HDS.out.1]at h2;simp only[HNM.out]at h2;rw[h2,<-HDS.out.1,idxD,if_neg hin]
         obtain ⟨sl,hsl3⟩:∃n,seen.length=n:=⟨_,rfl⟩;have hmz:=HMZ.out;rw[hsl3]at hmz hsl2;have HIN:=Lib.hid (And.intro hin hsl3);have HMZ3:=Lib.hid hmz;have HFN:=Lib.hid hfn;clear hin hsl3 hmz hfn;go_wp2_with (first
          | (at_len;refine wpList_len_MN rfl _ 176 rfl 9 3 Tryz.underlying176 WB.heap.size sl F rfl HMZ3.out ?_)
          | (at_mapUpdate;refine wpList_put_MN wz rfl _ _ _ 176 rfl 9 3 K Tryz.underlying176 WB.heap.size sl F rfl HMZ3.out (by unfold maxLen;omega) _ _ _ rfl rfl HKEY.out trivial HFN.out ?_))
         intro wm hmm4 hgm;have hzm:=hgm.size;have hom:OR 3 1 clC (WB.heap.size+1) (.slice (some ⟨WB.heap.size+1,0,none⟩) k k) ds wm:=OR.keep HOZ.out λg hg=>hgm.block g (World.ownsRow.lt HOZ.out g hg).2 (λe=>by
          have:=(World.ownsRow.lt HOZ.out g hg).1;injection e with e;omega)
         obtain ⟨ee0,ee1⟩:=hom.cellC j (by rw[HDL.out];exact hlt)
         have hlm:WB.heap.size+1<wm.heap.size:=by omega
         have hset:=hom.setC HDL.out j (some sl);have hbm:Below WB.heap.size WB wm:=HBZ.out.grown hgm (by omega) (λq hq=>by injection hq with hq;omega)
         have hsy:=HR.out.sy.put (dsc m cs j) HIN.out.1 (sl:Int) (by rw[HIN.out.2])
         rw[HDS.out.1]at hsy;simp only[HNM.out]at hsy;have hri:=HR.out.ri.new hjn HCN.out HIN.out.1;rw[HIN.out.2,HDS.out.1]at hri;have hR2:RdR m WB cs (ds.set j (some sl)) (seen++[(bb,joinF (clF cs) row)]) (updV F (.string nm) (some (.int .i64 (sl:Int)))) k (j+1) (wm.setCell ⟨WB.heap.size+1,j,none⟩ (.int .i64 (sl:Int))):=
          ⟨by rw[List.length_append,HIN.out.2];exact hmm4.kept (Below.heap_setCell _ _ _ _ (by show WB.heap.size≠WB.heap.size+1;omega)),hsy,hset,hri,hbm.setCell (p:=⟨WB.heap.size+1,j,none⟩) (by show WB.heap.size<=WB.heap.size+1;omega) _⟩
         have HR2:=Lib.hid hR2;clear hmm4 hgm hom hset hbm hsy hri hR2 dd0 dd1;go_wp2_with fail;go_roundw
         case rel=>exact ⟨j+1,_,_,_,by omega,by go_num,HR2⟩
         case measure=>simp[intOf];omega
     .have hjk:j=k:=by omega
      have hd:decide ((j:Int)<(k:Int))=false:=decide_eq_false (by omega)
      have HJK:=Lib.hid hjk;clear hjk;obtain ⟨sl,hsl3⟩:∃n,seen.length=n:=⟨_,rfl⟩;have hmn:=HR.out.mn;rw[hsl3]at hmn;have HMN:=Lib.hid hmn;have HSL:=Lib.hid hsl3;have hri:=HR.out.ri;rw[HJK.out,<-HN.out.1]at hri;have HRI:=Lib.hid hri;have hbwr:=HBL.out.trans (HR.out.bl.mono hwB);have HBW:=Lib.hid hbwr;have hbx:=(HR.out.bl.block _ hNB).trans HBX.out;have HBXR:=Lib.hid hbx;clear hmn hsl3 hri hbwr hbx hdl;by_cases he:sl=kn
      .have hde:((sl:Int) == (kn:Int))=true:=by simp;omega
       have HEQ:=Lib.hid he;clear he;go_wp2_with (at_len;refine wpList_len_MN rfl _ 176 rfl 9 3 Tryz.underlying176 WB.heap.size sl F rfl HMN.out ?_);refine post_named λWf hWf=>?_;subst hWf;refine bodyPost_ret (v:=.slice (some ⟨WB.heap.size+1,0,none⟩) k k) (by simp[results,Tryz.results170,go_sem];try rfl) rfl ?_
       refine ⟨_,ds,rfl,HR.out.own.mono (by omega),HBW.out,?_,HH.out.done HV.out HRI.out (by rw[HSL.out,HEQ.out]),λs c hc=>?_⟩
       .rw[HR.out.ri.len,HN.out.1]
       .have:=HRI.out.lt_ s c hc;rwa [HN.out.1]at this
      .have hde:((sl:Int) == (kn:Int))=false:=by simp;omega
       obtain ⟨hn1,hn2,hn3⟩:=HH.out.next HV.out HRI.out (by rw[HSL.out];exact he)
       rw[HSL.out]at hn2 hn3;rw[HN.out.1]at hn3;have HNX:=Lib.hid hn1;clear hn1 he;go_wp2_with (at_len;refine wpList_len_MN rfl _ 176 rfl 9 3 Tryz.underlying176 WB.heap.size sl F rfl HMN.out ?_)
       go_roundg (k+2-sl)
       case measure=>omega
       case rel=>exact ⟨WB.heap.size+1,k,sl,ds,rfl,rfl,by omega,by omega,HR.out.own.mono (by omega),by have:=HNX.out;rwa [HSL.out]at this,HBXR.out,HBW.out⟩
end Go.Proofs.YtdmoogjddmdmbaaGreatDoor
namespace Go.Proofs.YtdmoogjddmdmbaaGreatDoor
set_option linter.unusedVariables false
set_option linter.unusedSimpArgs false
set_option maxRecDepth 100000
open Go.RowKit
theorem least_any (v:Value) (m:Mc) (w:World) (hm:McIn w v m) (hv:Vld m) (hsm:McSm m) (h1:1<=m.ed.length) (hvr:VrOK w):Calls Tryz.prog 139 #[v] w (LePost m w):=
 least_of v m w hm hv hsm h1 λW hb=>classes_any v m W (hm.later hb) hv hsm h1 (hvr.later hb)
end Go.Proofs.YtdmoogjddmdmbaaGreatDoor
namespace Go.Proofs.YtdmoogjddmdmbaaGreatDoor
set_option linter.unusedVariables false
set_option linter.unusedSimpArgs false
set_option maxRecDepth 100000
open Go.RowKit
open Go.Maps (Keyed)
def mcNil:Value:=.agg #[.slice none 0 0, .slice none 0 0]
def CmPost (nd:Nd) (w:World) (e:Ending) (w':World):Prop:=
 Below w.heap.size w w'/\
 ((validF nd≠0/\e = .returned (.tuple #[mcNil, .int .i64 (validF nd)]))\/
  (validF nd=0/\600<posF nd/\e = .returned (.tuple #[mcNil, .int .i64 3]))\/
  (validF nd=0/\posF nd<=600/\∃b x gs rows acs i,Wr ⟨[],[]⟩ b x (gN nd)/\b.fol.length=posF nd/\(∀rs∈b.sets,∀r∈rs,r.2<256)/\CmI b x gs rows acs i/\
   ((2000<gs.length/\e = .returned (.tuple #[mcNil, .int .i64 3]))\/(i=gs.length/\gs.length<=2000/\∃rv m',e = .returned (.tuple #[rv, .int .i64 0])/\McUp w.heap.size w' rv m'/\LeOK ⟨rows,acs⟩ m'))))
theorem leOK_lang {m m':Mc} (h:LeOK m m') (w:List Nat):acF m' w 0=acF m w 0:=by
 rcases h.1 with ⟨-,-,h1⟩ | ⟨h1,rfl⟩
 .exact h1 w
 .have h2:acF m w 0=false:=by
   cases hx:acF m w 0 with
   | false=>rfl
   | true=>exact absurd ⟨w,hx⟩ h1
  rw[h2]
  cases w with
  | nil=>rfl
  | cons c r=>rfl
theorem own_row1 {w:World} {B n:Nat} {e:TypeId} {v:Value} {xs:List Value} (h:w.ownsRow B e 1 v n xs) (hn:0<n):∃g c,v = .slice (some ⟨g,0,none⟩) n c/\(n<=c/\c<=9223372036854775807)/\v.ownBlock=some g/\g<w.heap.size/\∀i,i<n->w.cell? ⟨g,i,none⟩=xs[i]?:=by
 obtain ⟨A,c,rfl,h1,h2⟩:=own_form h;obtain ⟨g,rfl,-,h3,h4⟩:=own_at1 h hn;exact ⟨g,c,rfl,⟨h1,h2⟩,rfl,h3,h4⟩
theorem cp_start {w0:World} {s mb:Nat} {x2 v2 vs vf:Value} {b:Pb} {rows sv:List Value} {w w':World} (hb:BuS w0 s x2 (.map (some mb)) (.slice none 0 0) b vs vf rows sv w) (hk:KeepF [s] [] w w')
  (hcs:w'.heap[s]?=some (.cells #[vs,vf,v2, .map (some mb), .slice none 0 0] 182 (0,0))) (hm:MV Tryz.prog 9 mb 0 (λ_=>none) w') (hmB:w0.heap.size<=mb) (hmw:mb<w.heap.size) (h1:0<b.fol.length) (h2:0<b.sets.length) :
  SbI w0.heap.size s mb vs vf v2 [] (fpG s mb (.slice none 0 0)) w'/\SetC w0 (fpG s mb (.slice none 0 0)) w' vs b.sets/\FolC (fpG s mb (.slice none 0 0)) w' vf b.fol/\Below w0.heap.size w0 w':=by
 have hlt:=hb.lt;have hsl:s<w.heap.size:=(hlt s (by simp[fpS])).2
 have hnd:=hb.nd;rw[List.nodup_cons]at hnd;have hsm:s≠mb:=by
  rintro rfl;obtain ⟨D,⟨es,c,q1,-⟩,-⟩:=hm;rw[hcs]at q1;injection q1 with q1
  cases q1
 have hmap:∀{B k n:Nat} {e:TypeId} {v:Value} {xs:List Value},w.ownsRow B e k v n xs->v.ownBlock≠some mb:=λ{B k n e v xs} ho hv=>by
  obtain ⟨cs,md,q2⟩:=own_type ho mb hv;have q3:=(hk.blk mb hmw (by simp;exact λe=>hsm e.symm)).trans q2
  obtain ⟨D,⟨es,c,q1,-⟩,-⟩:=hm;rw[q3]at q1;injection q1 with q1
  cases q1
 have hfp:∀g,g∈fpG s mb (.slice none 0 0)↔g=s\/g=mb:=λg=>by simp[fpG,blk,Value.ownBlock]
 have hs':∀g,g≠s->g∉[s]:=λg h hm=>h (List.mem_singleton.1 hm);obtain ⟨gS,cS,rfl,hcS,hoS,hgS,hcellS⟩:=own_row1 hb.sets h2;obtain ⟨gF,cF,rfl,hcF,hoF,hgF,hcellF⟩:=own_row1 hb.fol h1;have nS:gS≠s:=λe=>hnd.1 (by rw[<-e];exact List.mem_append_left _ (mem_blk.2 hoS))
 have nF:gF≠s:=λe=>hnd.1 (by rw[<-e];exact List.mem_append_right _ (List.mem_append_left _ (mem_blk.2 hoF)))
 have mS:gS≠mb:=λe=>hmap hb.sets (by rw[hoS,e])
 have mF:gF≠mb:=λe=>hmap hb.fol (by rw[hoF,e])
 refine ⟨⟨.slice none 0 0,[],λ_=>none,rfl,⟨hsm,by simp[Value.ownBlock],by simp[Value.ownBlock]⟩,⟨hb.hs,hmB,Nat.le_trans hb.bel.size hk.size⟩,hcs,hm,λl=>rfl,World.ownsRow_nil _ _ _ _,λi hi=>(by cases hi)⟩,?_,?_,?_⟩
 .refine ⟨_,cS,rfl,hcS, .inr ⟨gS,rfl,Nat.lt_of_lt_of_le hgS hk.size,λh=>by rcases (hfp gS).1 h with h | h;exact nS h;exact mS h,λi hi=>?_⟩⟩
  obtain ⟨v,q1,q2,-⟩:=hb.setv i hi;refine ⟨v,(World.cell?_of_block (a:=⟨gS,i,none⟩) (hk.blk gS hgS (hs' _ nS))).trans ?_,q2⟩;rw[hcellS i hi,q1]
 .refine ⟨gF,cF,rfl,hcF,Nat.lt_of_lt_of_le hgF hk.size,λh=>by rcases (hfp gF).1 h with h | h;exact nF h;exact mF h,λi hi=>?_⟩
  obtain ⟨v,q1,q2⟩:=hb.folv i hi;have nv:v.ownBlock≠some s:=λe=>hnd.1 (List.mem_append_right _ (List.mem_append_right _ (List.mem_flatMap.2 ⟨v,List.mem_of_getElem? q1,mem_blk.2 e⟩)));have mv:v.ownBlock≠some mb:=hmap q2;refine ⟨v,(World.cell?_of_block (a:=⟨gF,i,none⟩) (hk.blk gF hgF (hs' _ nF))).trans ?_,(SL.of_own q2).keep (λg hg hm=>nv (by rw[hg,List.mem_singleton.1 hm])) hk,λg hg hm=>?_,λk hv=>Nat.lt_of_lt_of_le (q2.lt k hv).2 hk.size,λn c e=>?_⟩
  .rw[hcellF i hi,q1]
  .rcases (hfp g).1 hm with h | h
   .exact nv (by rw[hg,h])
   .exact mv (by rw[hg,h])
  .rcases q2.2 with ⟨h3,-⟩ | ⟨g,cap,cur,h3,-⟩
   .rw[h3]at e;injection e with _ _ e;exact e.symm
   .rw[h3]at e;injection e with e;cases e
 .exact hb.bel.trans ⟨hk.os,hk.tape,hk.output,hk.size,λk hk2=>hk.blk k (by have:=hb.bel.size;omega) (λh=>by have:=hb.hs;have:=List.mem_singleton.1 h;omega)⟩
theorem SetC.weak {w0:World} {L L':List Nat} {w:World} {v:Value} {sets:List (List (Nat×Nat))} (h:SetC w0 L w v sets) (hs:∀k∈L',k∈L):SetC w0 L' w v sets:=by
 obtain ⟨A,c,e,hc,h⟩:=h;refine ⟨A,c,e,hc,h.imp id ?_⟩;rintro ⟨g,rfl,hg,hn,hcell⟩;exact ⟨g,rfl,hg,λhm=>hn (hs g hm),hcell⟩
theorem SbI.groups {B s mb:Nat} {v0 v1 v2:Value} {gs:List (List Nat)} {fp:List Nat} {w:World} (h:SbI B s mb v0 v1 v2 gs fp w):∃A c,w.cell? ⟨s,4,none⟩=some (.slice A gs.length c)/\(gs.length<=c/\c<=9223372036854775807)/\
  ∀k (hk:k<gs.length),∃g v,A=some ⟨g,0,none⟩/\g<w.heap.size/\w.cell? ⟨g,k,none⟩=some v/\IL w v gs[k]/\outOf fp v:=by
 obtain ⟨vg,gv,F,rfl,h⟩:=h;obtain ⟨A,c,rfl,hc⟩:=own_form h.own;refine ⟨A,c,by rw[cell_of_row _ _ _ _ _ _ h.cs];rfl,hc,λk hk=>?_⟩
 obtain ⟨g,rfl,-,hg,hcell⟩:=own_at1 h.own (by omega)
 obtain ⟨v,h1,h2,h3,-⟩:=h.gvs k hk;exact ⟨g,v,rfl,hg,by rw[hcell k hk,h1],h2,h3⟩
def EdF (w0:World) (s mb:Nat) (v0 v1 v2:Value) (b:Pb) (gs:List (List Nat)) (fp L:List Nat) (W:World) (x:Value) (w:World):Prop:=
 ∃r row gs' fp',SortedF L r/\(EdIn w x row/\outOf fp' x/\∀g,x.ownBlock=some g->W.heap.size<=g/\g<w.heap.size)/\SbI w0.heap.size s mb v0 v1 v2 gs' fp' w/\KeepF fp fp' W w/\RowI b r gs' row 256/\GrowG b r gs gs'/\gs'.length<=gs.length+257
theorem EdF.later {w0:World} {s mb:Nat} {v0 v1 v2:Value} {b:Pb} {gs:List (List Nat)} {fp L:List Nat} {W:World} {x:Value} {w w':World} (h:EdF w0 s mb v0 v1 v2 b gs fp L W x w) (hb:Below w.heap.size w w'):EdF w0 s mb v0 v1 v2 b gs fp L W x w':=by
 obtain ⟨r,row,gs',fp',h1,⟨h2,h3,h4⟩,h5,h6,h7,h8,h9⟩:=h;exact ⟨r,row,gs',fp',h1,⟨h2.later hb,h3,λg hg=>⟨(h4 g hg).1,Nat.lt_of_lt_of_le (h4 g hg).2 hb.size⟩⟩,h5.later hb,h6.trans (KeepF.of_below hb),h7,h8,h9⟩
structure CpL (w0:World) (s mb:Nat) (v0 v1 v2:Value) (b:Pb) (x:Prt) (P:Nat) (vx vy:Value) (N i:Nat) (gs:List (List Nat)) (fp:List Nat) (rs:List (List Ed)) (acs:List Bool) (vE vA:Value) (gv:List Value) (wr:World):Prop where
 sb:SbI w0.heap.size s mb v0 v1 v2 gs fp wr
 ma:MkM w0.heap.size N fp vE vA gv rs acs wr
 cp:CpS w0 (fp++fpM N vE vA) v0 v1 v2 b x P vx vy wr
 ci:CmI b x gs rs acs i
 bl:Below w0.heap.size w0 wr
theorem cp_next {w0 W w6 w7:World} {s mb P N i:Nat} {v0 v1 v2 vx vy vE vA vE' rv:Value} {b:Pb} {x:Prt} {gs:List (List Nat)} {fp L:List Nat} {rs:List (List Ed)} {acs0 acs:List Bool} {gv:List Value}
  (hma:MkM w0.heap.size N fp vE vA gv rs acs W) (hcp:CpS w0 (fp++fpM N vE vA) v0 v1 v2 b x P vx vy W) (hci:CmI b x gs rs acs0 i) (hac:if i=0 then acs=acs0 else ∃a,acs=acs0++[a]/\(a=true↔∃p∈(gs[i]?).getD [],p∈x.last))
  (hi:i<gs.length) (hbl:Below w0.heap.size w0 W) (hL:∀p,p∈L↔grpF b x gs i p) (hLb:∀p∈L,p<b.sets.length)
  (hE:EdF w0 s mb v0 v1 v2 b gs fp L W rv w6) (hg:w6.grownBy w7 vE.ownBlock) (ho:w7.ownsRow w0.heap.size 187 1 vE' (rs.length+1) (gv++[rv])) (hf:Fresh vE' vE w6.heap.size) (hfp:∀k∈fp,w0.heap.size<=k) :
  ∃row gs' fp',CpL w0 s mb v0 v1 v2 b x P vx vy N (i+1) gs' fp' (rs++[row]) acs vE' vA (gv++[rv]) (w7.setCell ⟨N,0,none⟩ vE')/\gs'.length<=gs.length+257:=by
 obtain ⟨r,row,gs',fp',h1,⟨h2,h3,h4⟩,h5,h6,h7,h8,h9⟩:=hE;have hlt:=hma.lt;have hma6:=hma.keep h6;have hlt6:=h5.lt;have hw0:=hbl.size;obtain ⟨q1,q2⟩:=hma6.addE (λk hk=>(hlt6 k hk).2) h2 (λg hg hm=>by have:=(h4 g hg).1;have:=(hlt g hm).2;omega) h3 (λg hg=>⟨by have:=(h4 g hg).1;omega,(h4 g hg).2⟩) ho hg hf
 refine ⟨row,gs',fp',⟨h5.apart q2 (λk hk=>hma6.out k hk) hma6.types,q1,(hcp.keep (h6.appL _)).keep (q2.appR _),hci.step hi (λp=>(h1.2 p).trans (hL p)) h1.1 (λp hp=>hLb p ((h1.2 p).1 hp)) h8 h7 hac,?_⟩,h9⟩;exact (hbl.trans (h6.below hfp hw0)).trans (q2.below (λk hk=>(hlt k hk).1) (by have:=h6.size;omega))
theorem WrP.later {w0:World} {s:Nat} {x2 x3 x4:Value} {b:Pb} {fp:List Nat} {Lg:LA} {n K:Nat} {w:World} {e:Ending} {w' w'':World} (h:WrP w0 s x2 x3 x4 b fp Lg n K w e w') (hb:Below w'.heap.size w' w''):WrP w0 s x2 x3 x4 b fp Lg n K w e w'':=by
 obtain ⟨b',x,fp',v1,v2,h1,h2,h3,⟨h4,h5⟩,⟨h6,h7⟩,h8⟩:=h;have hk:=KeepF.of_below (fp:=fp') hb;exact ⟨b',x,fp',v1,v2,h1,h2.later hb,h3.trans hk,h4.keep h5 hk,h6.keep h7 hk,h8⟩
theorem BuI.ne_part {w0:World} {s:Nat} {x2 x3 x4:Value} {b:Pb} {fp:List Nat} {w:World} (h:BuI w0 s x2 x3 x4 b fp w) {g:Nat} {cs:Array Value} {m:Nat×Nat} (hg:w.heap[g]?=some (.cells cs 184 m)):g∉fp:=by
 obtain ⟨vs,vf,rows,sv,rfl,h⟩:=h;intro hm;unfold fpS at hm;have key:∀{cs':Array Value} {e:TypeId} {m':Nat×Nat},w.heap[g]?=some (.cells cs' e m')->e≠184->False:=λ{cs' e m'} h1 hne=>by
  rw[hg]at h1;injection h1 with h1;injection h1 with _ h2 _;exact hne h2.symm
 rcases List.mem_cons.1 hm with rfl | hm
 .exact key h.cs (by decide)
 .rcases List.mem_append.1 hm with hm | hm
  .obtain ⟨cs',m',h1⟩:=own_type h.sets g (mem_blk.1 hm);exact key h1 (by decide)
  .rcases List.mem_append.1 hm with hm | hm
   .obtain ⟨cs',m',h1⟩:=own_type h.fol g (mem_blk.1 hm);exact key h1 (by decide)
   .obtain ⟨v,hv,hgv⟩:=List.mem_flatMap.1 hm;obtain ⟨i,hi,he⟩:=List.getElem_of_mem hv;have hrl:rows.length=b.fol.length:=by have:=h.fol.1;omega
    obtain ⟨v',h1,h2⟩:=h.folv i (by omega)
    rw[List.getElem?_eq_getElem hi,he]at h1;obtain rfl:=Option.some.inj h1;obtain ⟨cs',m',h3⟩:=own_type h2 g (mem_blk.1 hgv);exact key h3 (by decide)
theorem own_mono {w:World} {B B' k n:Nat} {e:TypeId} {v:Value} {xs:List Value} (h:w.ownsRow B e k v n xs) (hB:B'<=B):w.ownsRow B' e k v n xs:=
 ⟨h.1,h.2.imp id λ⟨g,cap,cur,h1,h2,h3⟩=>⟨g,cap,cur,h1,Nat.le_trans hB h2,h3⟩⟩
def endsL (last:List Nat) (n k:Nat):List Bool:=(List.range n).map λp=>decide (p∈last.take k)
theorem endsL_zero (last:List Nat) (n:Nat):endsL last n 0=List.replicate n false:=by
 unfold endsL;rw[List.eq_replicate_iff];refine ⟨by simp,λx hx=>?_⟩
 obtain ⟨p,-,rfl⟩:=List.mem_map.1 hx;simp
theorem endsL_len (last:List Nat) (n k:Nat):(endsL last n k).length=n:=by simp[endsL]
theorem endsL_get (last:List Nat) {n p:Nat} (k:Nat) (h:p<n):(endsL last n k)[p]?=some (decide (p∈last.take k)):=by
 unfold endsL;rw[List.getElem?_map,List.getElem?_range h];rfl
theorem endsL_succ {last:List Nat} {n k:Nat} (hk:k<last.length):(endsL last n k).set last[k] true=endsL last n (k+1):=by
 apply List.ext_getElem?;intro p;by_cases hp:p<n
 .rw[endsL_get last (k+1) hp,List.getElem?_set,List.take_succ_eq_append_getElem hk];by_cases e:last[k]=p
  .rw[if_pos e,if_pos (by rw[endsL_len,e];exact hp)]
   simp[e]
  .rw[if_neg e,endsL_get last k hp]
   congr 1
   rw[decide_eq_decide,List.mem_append,List.mem_singleton];exact ⟨.inl,λh=>h.resolve_right λe2=>e e2.symm⟩
 .rw[List.getElem?_eq_none (by rw[List.length_set,endsL_len];omega),List.getElem?_eq_none (by rw[endsL_len];omega)]
theorem bools_new (w:World) (n:Nat) (hn:n<=1000000):OR 4 1 bC w.heap.size (.slice (some ⟨w.heap.size,0,none⟩) n n) (List.replicate n false) (w.alloc (.cells (Array.replicate n (.bool false)) 4)):=by
 have hrow:rowF bC (List.replicate n false)=List.replicate n (.bool false):=by
  unfold rowF
  induction n with
  | zero=>rfl
  | succ n ih=>rw[List.replicate_succ,List.map_cons,List.flatten_cons,ih (by omega),List.replicate_succ];rfl
 refine ⟨by rw[hrow];simp, .inr ⟨w.heap.size,n,Array.replicate n (.bool false),by simp,Nat.le_refl _,heap_alloc_new w _,by simp,by unfold maxLen;omega,by simp,?_⟩⟩
 rw[hrow,List.length_replicate];simp
def folG (b:Pb) (g:List Nat):List Nat:=g.flatMap λp=>folP b p
theorem folG_snoc (b:Pb) (g:List Nat) (p:Nat):folG b (g++[p])=folG b g++folP b p:=by unfold folG;simp
theorem folG_mem {b:Pb} {g:List Nat} {p:Nat}:p∈folG b g↔∃q∈g,p∈folP b q:=by unfold folG;exact List.mem_flatMap
theorem folG_len {b:Pb} {K:Nat} (hK:∀l∈b.fol,l.length<=K):∀g:List Nat,(folG b g).length<=g.length*K
 | []=>by simp[folG]
 | p::r=>by
  have ih:=folG_len hK r;have h1:(folP b p).length<=K:=by
   unfold folP
   cases h:b.fol[p]? with
   | none=>simp
   | some l=>exact hK l (List.mem_of_getElem? h)
  unfold folG at ih|-;rw[List.flatMap_cons,List.length_append,List.length_cons,Nat.succ_mul];omega
theorem mk_bools (n:Nat) (hn:n<=1000000) (w:World):(Instr.makeSlice 70 (.int .i64 (n:Int)) (.int .i64 (n:Int))).run Tryz.prog w = .ok (.slice (some ⟨w.heap.size,0,none⟩) n n) (w.alloc (.cells (Array.replicate n (.bool false)) 4)):=by
 obtain ⟨i0,hi,hz0,hz1,hz2⟩:=info_parts info_bool;have h:=run_makeSlice (P:=Tryz.prog) (w:=w) 70 4 i0 (.bool false) Tryz.underlying70 hi hz0 .i64 .i64 (n:Int) (n:Int) (by omega) (Int.le_refl _) (by rw[hz1];omega) (by rw[hz2];omega) (by omega)
 rw[hz1,Int.toNat_natCast]at h;rw[show madeCells (Value.bool false).cells (n*1)=Array.replicate n (.bool false) from Array.toList_inj.1 (by
  simp only[madeCells,Value.cells,Nat.mul_one,Array.toList_map,Array.toList_range,Array.toList_replicate];rw[List.eq_replicate_iff];refine ⟨by simp,λx hx=>?_⟩
  obtain ⟨i,-,rfl⟩:=List.mem_map.1 hx;simp[Nat.mod_one])]at h
 exact h
def StC7 (s:Nat) (W:World) (c:Nat) (w':World):Prop:=Below s W w'/\(c=0->Below W.heap.size W w')
def factC7 (w0:World) (s:Nat) (x2 x3 x4:Value) (Lg:LA) (pk KK:Nat) (W:World) (kv:Value):Nat->Nat->Value->World->Prop
 | c,0,x,w=>x = .pointer (some ⟨s,0,none⟩)
 | c,1,x,w=>x = .pointer (some ⟨s,0,none⟩)
 | c,2,x,w=>x = .pointer (some ⟨s,0,none⟩)
 | c,3,x,w=>x=kv
 | c,4,x,w=>c=1->WrP w0 s x2 x3 x4 ⟨[],[]⟩ [s] Lg pk KK W (.returned x) w
 | c,5,x,w=>∃g,x = .pointer (some ⟨g,0,none⟩)/\W.heap.size<=g/\g<w.heap.size/\w.heap[g]?=some (.cells #[.slice none 0 0, .slice none 0 0, .bool false] 184 (0,0))
 | _,_,_,_=>True
def StC30 (N:Nat) (W:World) (c:Nat) (w':World):Prop:=W.heap.size<=w'.heap.size/\w'.heap[N]?=W.heap[N]?/\(c<=1->Below W.heap.size W w')
def factC30 (w0:World) (s mb:Nat) (v0 v1 v2:Value) (b:Pb) (gs:List (List Nat)) (fp L:List Nat) (N i cE nL cL:Nat) (AE AL:Option Addr) (gv:List Value) (W:World):Nat->Nat->Value->World->Prop
 | c,0,x,w=>x = .pointer (some ⟨N,0,none⟩)
 | c,1,x,w=>x = .slice AE i cE
 | c,2,x,w=>x = .pointer (some ⟨s,0,none⟩)
 | c,3,x,w=>x = .slice AL nL cL
 | c,4,x,w=>c=1->∃A r c',x = .slice A r.length c'/\SortedF L r/\w.ownsRow W.heap.size 3 1 x r.length (ints r)/\IL w x r
 | c,5,x,w=>c=2->EdF w0 s mb v0 v1 v2 b gs fp L W x w
 | c,6,x,w=>c=3->∃g rv,x = .slice (some ⟨g,0,none⟩) 1 1/\W.heap.size<=g/\g<w.heap.size/\w.cell? ⟨g,0,none⟩=some rv/\rv.oneCell'=true/\EdF w0 s mb v0 v1 v2 b gs fp L W rv w
 | c,7,x,w=>c=4->∃rv w6 A c',x = .slice A (i+1) c'/\EdF w0 s mb v0 v1 v2 b gs fp L W rv w6/\w6.grownBy w (Value.slice AE i cE).ownBlock/\w.ownsRow w0.heap.size 187 1 x (i+1) (gv++[rv])/\Fresh x (.slice AE i cE) w6.heap.size
 | c,8,x,w=>x = .pointer (some ⟨N,0,none⟩)
 | _,_,_,_=>True
set_option maxHeartbeats 16000000 in
theorem compile_any (nd:Nd) (vs:List Value) (w:World) (hn:NdIn w nd vs) (hvr:VrOK w):Calls Tryz.prog 109 #[.agg vs.toArray] w (CmPost nd w):=by
 have HV:=Lib.hid (λW (hW:Below w.heap.size w W)=>valid_any nd vs W (hn.later hW));have HP:=Lib.hid (λW (hW:Below w.heap.size w W) (h:nodesT nd<=200) (hR:rightF nd=true)=>positions_any _ nd vs W (Nat.le_refl _) h hR (hn.later hW));have HW:=Lib.hid (λ(W:World) (s:Nat) (x2 x3 x4:Value) (hW:Below w.heap.size w W) (hR:rightF nd=true) (hp:posF nd<=600)=>write_any W s x2 x3 x4 _ nd vs (Nat.le_refl _) hR hp (hn.later hW));have HVR:=Lib.hid hvr;have hmm:=@run_makeMap Tryz.prog;obtain ⟨ie,hie,he0,he1,he2⟩:=info_parts info_es;obtain ⟨ib,hib,hb0,hb1,hb2⟩:=info_parts info_bool;obtain ⟨ii,hii,hj0,hj1,hj2⟩:=info_parts info_int;obtain ⟨A1,c1,A2,c2,rfl,hr,hc2,hk⟩:=hn.form;have HB:=Lib.hid (show Below w.heap.size w ((w.alloc (.cells #[.int .i64 nd.op, .slice A1 nd.rs.length c1, .slice A2 nd.kids.length c2, .int .i64 nd.mn, .int .i64 nd.mx] 41)).alloc (.cells #[.slice none 0 0, .slice none 0 0] 93)) from ((Below.refl _ _).alloc (Nat.le_refl _) _).alloc (by simp) _)
 have HX0:=Lib.hid (show ((w.alloc (.cells #[.int .i64 nd.op, .slice A1 nd.rs.length c1, .slice A2 nd.kids.length c2, .int .i64 nd.mn, .int .i64 nd.mx] 41)).alloc (.cells #[.slice none 0 0, .slice none 0 0] 93)).heap[w.heap.size]?=some (.cells #[.int .i64 nd.op, .slice A1 nd.rs.length c1, .slice A2 nd.kids.length c2, .int .i64 nd.mn, .int .i64 nd.mx] 41 (0,0)) from (old_alloc _ _ _ (by simp)).trans (heap_alloc_new w _))
 have HX1:=Lib.hid (show ((w.alloc (.cells #[.int .i64 nd.op, .slice A1 nd.rs.length c1, .slice A2 nd.kids.length c2, .int .i64 nd.mn, .int .i64 nd.mx] 41)).alloc (.cells #[.slice none 0 0, .slice none 0 0] 93)).heap[w.heap.size+1]?=some (.cells #[.slice none 0 0, .slice none 0 0] 93 (0,0)) from by simpa using heap_alloc_new (w.alloc _) (.cells #[.slice none 0 0, .slice none 0 0] 93))
 clear hr hk hn hvr
 go_enter Tryz.func109,Tryz.ntmps109
 go_wp2_with fail;refine (HV.out _ HB.out).mono ?_;rintro e w1 ⟨rfl,hb1⟩;have hz1:=hb1.size;simp only[World.size_alloc]at hz1;have HW1:=Lib.hid (show Below w.heap.size w w1 from HB.out.trans (hb1.mono HB.out.size));have hx0:=(hb1.block w.heap.size (by simp;omega)).trans HX0.out
 have hx1:=(hb1.block (w.heap.size+1) (by simp)).trans HX1.out
 obtain ⟨n0,n1,n2,n3,n4⟩:=cells5 hx0;obtain ⟨r0,r1⟩:w1.cell? ⟨w.heap.size+1,0,none⟩=some (.slice none 0 0)/\w1.cell? ⟨w.heap.size+1,1,none⟩=some (.slice none 0 0):=by constructor <;> (rw[cell_of_row _ _ _ _ _ _ hx1]; rfl)
 have f0:w1.frozen? ⟨w.heap.size+1,0,none⟩=false:=by simp[World.frozen?,hx1]
 have f1:w1.frozen? ⟨w.heap.size+1,1,none⟩=false:=by simp[World.frozen?,hx1]
 have lR:w.heap.size+1<w1.heap.size:=(Array.getElem?_eq_some_iff.1 hx1).1;have HY0:=Lib.hid hx0;have HY1:=Lib.hid hx1;obtain ⟨q,hq⟩:∃q,validF nd=q:=⟨_,rfl⟩;rw[hq];clear hx0 hx1 hb1;by_cases hq0:q=0
 case neg=>
  have d1:(q != 0)=true:=by simpa using hq0
  have HQ:=Lib.hid (And.intro hq hq0);clear hq hq0;go_wp2_with fail;refine post_named λWf hWf=>?_;refine bodyPost_ret (v:=.tuple #[mcNil, .int .i64 q]) (by rw[hWf];simp[results,Tryz.results109,go_sem,r0,r1,lR,mcNil];try rfl) rfl ?_
  refine ⟨?_, .inl ⟨by rw[HQ.out.1];exact HQ.out.2,by rw[HQ.out.1]⟩⟩
  rw[hWf];exact (HW1.out.setCell (p:=⟨w.heap.size+1,0,none⟩) (by show w.heap.size<=w.heap.size+1;omega) _).setCell (p:=⟨w.heap.size+1,1,none⟩) (by show w.heap.size<=w.heap.size+1;omega) _
 case pos=>
 subst hq0;have d1:((0:Int) != 0)=false:=rfl;obtain ⟨h200,hdp,hR,hlong⟩:=valid_zero hq;have HQ:=Lib.hid (And.intro hq (And.intro hR h200));clear hq hdp hR hlong h200;go_wp2_with fail;refine (HP.out _ HW1.out HQ.out.2.2 HQ.out.2.1).mono ?_;rintro e w2 ⟨rfl,hb2⟩;have hz2:=hb2.size;have HW2:=Lib.hid (HW1.out.trans (hb2.mono HW1.out.size));have hx0:=(hb2.block w.heap.size (by omega)).trans HY0.out
 have hx1:=(hb2.block (w.heap.size+1) lR).trans HY1.out;clear n0 n1 n2 n3 n4 r0 r1 f0 f1;obtain ⟨n0,n1,n2,n3,n4⟩:=cells5 hx0;obtain ⟨r0,r1⟩:w2.cell? ⟨w.heap.size+1,0,none⟩=some (.slice none 0 0)/\w2.cell? ⟨w.heap.size+1,1,none⟩=some (.slice none 0 0):=by constructor <;> (rw[cell_of_row _ _ _ _ _ _ hx1]; rfl)
 have f0:w2.frozen? ⟨w.heap.size+1,0,none⟩=false:=by simp[World.frozen?,hx1]
 have f1:w2.frozen? ⟨w.heap.size+1,1,none⟩=false:=by simp[World.frozen?,hx1]
 have lR2:w.heap.size+1<w2.heap.size:=by omega
 have HZ0:=Lib.hid hx0;have HZ1:=Lib.hid hx1;obtain ⟨pn,hpn⟩:∃p,posF nd=p:=⟨_,rfl⟩;rw[hpn];clear hx0 hx1 hb2;by_cases hp6:600<pn
 .have d2:decide (600<(pn:Int))=true:=decide_eq_true (by omega)
  have HPN:=Lib.hid (And.intro hpn hp6);clear hpn hp6;go_wp2_with fail;refine post_named λWf hWf=>?_;refine bodyPost_ret (v:=.tuple #[mcNil, .int .i64 3]) (by rw[hWf];simp[results,Tryz.results109,go_sem,r0,r1,lR2,mcNil];try rfl) rfl ?_
  refine ⟨?_, .inr (.inl ⟨HQ.out.1,by rw[HPN.out.1];exact HPN.out.2,rfl⟩)⟩
  rw[hWf];exact (HW2.out.setCell (p:=⟨w.heap.size+1,0,none⟩) (by show w.heap.size<=w.heap.size+1;omega) _).setCell (p:=⟨w.heap.size+1,1,none⟩) (by show w.heap.size<=w.heap.size+1;omega) _
 .have d2:decide (600<(pn:Int))=false:=decide_eq_false (by omega)
  have hroom:posF nd<=600/\cstF nd<=10000000000:=by
   refine ⟨by omega,?_⟩
   have h1:=cst_bd _ nd (Nat.le_refl _) HQ.out.2.1 (by omega)
   have h2:depthT nd<=20:=(valid_zero HQ.out.1).2.1;have h3:depthT nd*posF nd<=20*600:=Nat.mul_le_mul h2 (by omega)
   omega
  have HROOM:=Lib.hid hroom;have HWC:=Lib.hid (HW.out w2 (w2.heap.size+1) (.slice none 0 0) (.map (some w2.heap.size)) (.slice none 0 0) HW2.out HQ.out.2.1 hroom.1);have HPN:=Lib.hid hpn;have HMB:=Lib.hid (MV.made Tryz.prog 9 w2);clear hpn hroom;go_wp2_with fail;refine wp_named λW hW=>?_;have hzW:W.heap.size=w2.heap.size+2:=by rw[hW];simp
  have hbW:Below w2.heap.size w2 W:=by rw[hW];exact ((Below.refl _ _).alloc (Nat.le_refl _) _).alloc (by simp) _
  have hsW:W.heap[w2.heap.size+1]?=some (.cells #[.slice none 0 0, .slice none 0 0, .slice none 0 0, .map (some w2.heap.size), .slice none 0 0] 182 (0,0)):=by rw[hW];simpa using heap_alloc_new (w2.alloc (.map #[] 0)) (.cells #[.slice none 0 0, .slice none 0 0, .slice none 0 0, .map (some w2.heap.size), .slice none 0 0] 182)
  have hmW:MV Tryz.prog 9 w2.heap.size 0 (λ_=>none) W:=by rw[hW];exact HMB.out.kept (old_alloc _ _ _ (by simp))
  have hbu:BuI w2 (w2.heap.size+1) (.slice none 0 0) (.map (some w2.heap.size)) (.slice none 0 0) ⟨[],[]⟩ [w2.heap.size+1] W:=
   ⟨.slice none 0 0, .slice none 0 0,[],[],rfl,⟨by simp[blk,Value.ownBlock],by omega,hsW,World.ownsRow_nil _ _ _ _,λi hi=>(by cases hi),World.ownsRow_nil _ _ _ _,λi hi=>(by cases hi),hbW⟩⟩
  have HBU:=Lib.hid hbu;have HMW:=Lib.hid hmW;have HBW:=Lib.hid hbW;have lnd:w.heap.size<w2.heap.size+1:=by omega
  have m0:=(hbW.cell (p:=⟨w.heap.size,0,none⟩) (by show w.heap.size<w2.heap.size;omega)).trans n0
  have m1:=(hbW.cell (p:=⟨w.heap.size,1,none⟩) (by show w.heap.size<w2.heap.size;omega)).trans n1
  have m2:=(hbW.cell (p:=⟨w.heap.size,2,none⟩) (by show w.heap.size<w2.heap.size;omega)).trans n2
  have m3:=(hbW.cell (p:=⟨w.heap.size,3,none⟩) (by show w.heap.size<w2.heap.size;omega)).trans n3
  have m4:=(hbW.cell (p:=⟨w.heap.size,4,none⟩) (by show w.heap.size<w2.heap.size;omega)).trans n4
  have hS0:StC7 (w2.heap.size+1) W 0 W.drew:=⟨(Below.refl _ _).drew,λ_=>(Below.refl _ _).drew⟩;clear hW hbW hsW hmW hbu n0 n1 n2 n3 n4 r0 r1 f0 f1;refine wp_region_chain 6 [4] (factC7 w2 (w2.heap.size+1) (.slice none 0 0) (.map (some w2.heap.size)) (.slice none 0 0) (gN nd) (posF nd) (cstF nd) W (.agg #[.int .i64 nd.op, .slice A1 nd.rs.length c1, .slice A2 nd.kids.length c2, .int .i64 nd.mn, .int .i64 nd.mx])) (λc w'=>StC7 (w2.heap.size+1) W c w') (by kernel_rfl) (by kernel_rfl) (by kernel_rfl) (by kernel_rfl) (by kernel_rfl) (by kernel_rfl) (by decide) hS0 ?_ ?_
  .simp only[pq4,pq5];refine HSteps.pure (by decide) ?_ (HSteps.pure (by decide) ?_ (HSteps.pure (by decide) ?_ (HSteps.pure (by decide) ?_ (HSteps.eff 0 rfl ?_ (HSteps.free (by decide) ?_ (HSteps.nil))))))
   all_goals first | (with_reducible intro v wz c hlo hS hE K hK;simp only[putAll,Act.put,pq1,pq2,pq3,Nat.zero_add,Nat.reduceAdd,pq4,pq5]at hK|-) | (intro v wz hS hE K hK;simp only[putAll,Act.put,pq1,pq2,pq3,Nat.zero_add,Nat.reduceAdd,pq4,pq5]at hK|-)
   .have HX:=Lib.hid hS;clear hS hE hlo;go_wp2_with fail;exact hK.out _ rfl
   .have e0:v 0=_:=hE.1 rfl;rw[e0]at hK|-;have HX:=Lib.hid hS;clear hS hE hlo;go_wp2_with fail;exact hK.out _ rfl
   .have e1:v 1=_:=hE.1 rfl;rw[e1]at hK|-;have HX:=Lib.hid hS;clear hS hE hlo;go_wp2_with fail;exact hK.out _ rfl
   .have b0z:=(hS.1.cell (p:=⟨w.heap.size,0,none⟩) lnd).trans m0;have b1z:=(hS.1.cell (p:=⟨w.heap.size,1,none⟩) lnd).trans m1;have b2z:=(hS.1.cell (p:=⟨w.heap.size,2,none⟩) lnd).trans m2;have b3z:=(hS.1.cell (p:=⟨w.heap.size,3,none⟩) lnd).trans m3;have b4z:=(hS.1.cell (p:=⟨w.heap.size,4,none⟩) lnd).trans m4;have l1:w.heap.size<wz.heap.size:=by have:=hS.1.size;omega
    have HX:=Lib.hid hS;clear hS hE hlo;go_wp2_with fail;exact hK.out _ rfl
   .have e2:v 2=_:=hE.1 rfl;have e3:v 3=_:=hE.2.1 rfl;rw[e2,e3]at hK|-;have hz:=hS.2 rfl;have hcall:=HWC.out wz ⟨[],[]⟩ [w2.heap.size+1] 0 (HBU.out.later hz) rfl (by have:=HROOM.out.1;show 0+_<=_;omega) (λl hl=>by cases hl) (by have:=HROOM.out.2;omega)
    have HC:=Lib.hid hcall;have HX:=Lib.hid hS;clear hS hE hcall hz;go_wp2_with fail;refine HC.out.mono ?_;rintro e wy ⟨b',y,fp',v1,v2,rfl,hb',hk',hi1,hi2,hw',hl',hne',hln',hK'⟩;have HP:=Lib.hid (And.intro hb' (And.intro hk' (And.intro hi1 (And.intro hi2 (And.intro hw' (And.intro hl' (And.intro hne' (And.intro hln' hK'))))))));clear hb' hk' hi1 hi2 hw' hl' hne' hln' hK';go_wp2_with fail;refine hK.out _ _ (λj z hj h=>?_) ⟨HX.out.1.trans (HP.out.2.1.below (λk hk=>by rw[List.mem_singleton]at hk;omega) (by have:=HX.out.1.size;omega)),λh=>by cases h⟩ (λ_=>⟨b',y,fp',v1,v2,rfl,HP.out.1,(KeepF.of_below (HX.out.2 rfl)).trans HP.out.2.1,HP.out.2.2.1,HP.out.2.2.2.1,HP.out.2.2.2.2.1,HP.out.2.2.2.2.2.1,HP.out.2.2.2.2.2.2.1,HP.out.2.2.2.2.2.2.2.1,λl hl=>by have:=HP.out.2.2.2.2.2.2.2.2 l hl;omega⟩)
    match j with
    | 0 | 1 | 2 | 3=>exact h
    | 4=>exact absurd rfl hj
    | 5=>
     obtain ⟨g,e,h1,h2,h3⟩:=h;exact ⟨g,e,h1,Nat.lt_of_lt_of_le h2 HP.out.2.1.size,(HP.out.2.1.blk g h2 (by rw[List.mem_singleton];omega)).trans h3⟩
    | _+6=>exact trivial
   .have hbz:Below wz.heap.size wz (wz.alloc (.cells #[.slice none 0 0, .slice none 0 0, .bool false] 184)):=(Below.refl _ _).alloc (Nat.le_refl _) _;have hzW:=hS.1.size;have hbs:Below (w2.heap.size+1) W (wz.alloc (.cells #[.slice none 0 0, .slice none 0 0, .bool false] 184)):=hS.1.alloc (by omega) _
    have hb0:c=0->Below W.heap.size W (wz.alloc (.cells #[.slice none 0 0, .slice none 0 0, .bool false] 184)):=λhc=>(hS.2 hc).alloc hzW _;have HX:=Lib.hid (And.intro hbs hb0);have HBZ:=Lib.hid hbz;clear hS hE hlo hbz hbs hb0;go_wp2_with fail;refine hK.out _ _ (λj z hj h=>?_) HX.out ⟨wz.heap.size,rfl,hzW,by simp,by simpa using heap_alloc_new wz (.cells #[.slice none 0 0, .slice none 0 0, .bool false] 184)⟩
    match j with
    | 0 | 1 | 2 | 3=>exact h
    | 4=>exact λhc=>(h hc).later HBZ.out
    | 5=>exact absurd rfl hj
    | _+6=>exact trivial
  .intro v wz hS hF;have e0:v 0=_:=hF 0 (by decide)
   have e1:v 1=_:=hF 1 (by decide)
   have e2:v 2=_:=hF 2 (by decide)
   have e3:v 3=_:=hF 3 (by decide)
   have E4:=hF 4 (by decide)
   have E5:=hF 5 (by decide)
   simp only[putAll,Act.put,pq1,pq2,pq3,Nat.zero_add,Nat.reduceAdd,pq4,pq5,List.drop_succ_cons,List.drop_zero,e0,e1,e2,e3];clear hF e0 e1 e2 e3;obtain ⟨wZ,rfl⟩:∃W:World,W=wz:=⟨_,rfl⟩;obtain ⟨gP,e5,hgP1,hgP2,hgP3⟩:=E5;obtain ⟨b,x,fp,v1,v2,ev,hbu2,hkf,⟨hi1,ho1⟩,⟨hi2,ho2⟩,hwr,hfl,hxne,hxl,hK⟩:=E4 rfl;injection ev with ev;rw[ev,e5];have hgn:gP∉fp:=hbu2.ne_part hgP3;obtain ⟨B1,d1',rfl,hd1⟩:=hi1.form;obtain ⟨B2,d2',rfl,hd2⟩:=hi2.form;obtain ⟨vs,vf,rows,sv,hfp,hbs⟩:=hbu2;obtain ⟨pn',hpn'⟩:∃n,b.fol.length=n:=⟨_,rfl⟩;have hsl:b.sets.length=pn':=by rw[hwr.len,hpn']
   have hfl':pn'=posF nd:=by rw[<-hpn',hfl];show 0+_=_;omega
   have hpp:=pos_pos _ nd (Nat.le_refl _) HQ.out.2.1;have h600:pn'<=600:=by have:=HROOM.out.1;omega
   have hset0:=hbs.sets;have hfol0:=hbs.fol;rw[hsl]at hset0;rw[hpn']at hfol0;obtain ⟨gS,cS,rfl,hcS,hoS,hgS,hcellS⟩:=own_row1 hset0 (by omega)
   obtain ⟨gF,cF,rfl,hcF,hoF,hgF,hcellF⟩:=own_row1 hfol0 (by omega)
   obtain ⟨z0,z1,z2⟩:=cells3 hgP3;have y0:wZ.frozen? ⟨gP,0,none⟩=false:=by simp[World.frozen?,hgP3]
   have y1:wZ.frozen? ⟨gP,1,none⟩=false:=by simp[World.frozen?,hgP3]
   have y2:wZ.frozen? ⟨gP,2,none⟩=false:=by simp[World.frozen?,hgP3]
   obtain ⟨s0,s1,s2,s3,s4⟩:=cells5 hbs.cs;have t2:wZ.frozen? ⟨w2.heap.size+1,2,none⟩=false:=by simp[World.frozen?,hbs.cs]
   have lsz:w2.heap.size+1<wZ.heap.size:=(Array.getElem?_eq_some_iff.1 hbs.cs).1;have ne1:¬gP=w2.heap.size+1:=by omega
   have ne2:¬w2.heap.size+1=gP:=by omega
   have lsz1:w2.heap.size+1<wZ.heap.size+1:=by omega
   have lgP1:gP<wZ.heap.size+1:=by omega
   have hmk:=mk_bools pn' (by omega)
   obtain ⟨nl,hnl⟩:∃n,x.last.length=n:=⟨_,rfl⟩;rw[hnl];obtain ⟨nf,hnf⟩:∃n,x.first.length=n:=⟨_,rfl⟩;rw[hnf];obtain ⟨ee,hee⟩:∃e,x.emp=e:=⟨_,rfl⟩;rw[hee];have hnl6:nl<=600/\nf<=600:=by have:=HROOM.out.1;have:=hxl.1;have:=hxl.2;omega
   have HBS:=Lib.hid (And.intro hbs (And.intro hwr (And.intro hxne hxl)));have HI1:=Lib.hid (And.intro hi1 ho1);have HI2:=Lib.hid (And.intro hi2 ho2);have HKF:=Lib.hid (And.intro hkf hgn);have HN:=Lib.hid (And.intro hpn' (And.intro hsl (And.intro hfl' (And.intro hnl (And.intro hnf (And.intro hee hfp))))));have HKK:=Lib.hid hK;have HSZ:=Lib.hid hS;have HP3:=Lib.hid hgP3;clear hbs hwr hxne hxl hi1 ho1 hi2 ho2 hkf hgn hpn' hsl hfl' hnl hnf hee hfp hK hS hgP3 ev e5 E4 hfl hset0 hfol0;go_wp2_with fail;refine wp_named λW9 hW9=>?_;have hge:W9.heap[wZ.heap.size]?=some (.cells (Array.replicate pn' (.bool false)) 4 (0,0)):=by
    rw[hW9];have h1:=heap_alloc_new ((((wZ.setCell ⟨gP,0,none⟩ (.slice B1 nf d1')).setCell ⟨gP,1,none⟩ (.slice B2 nl d2')).setCell ⟨gP,2,none⟩ (.bool ee)).setCell ⟨w2.heap.size+1,2,none⟩ (.slice (some ⟨wZ.heap.size,0,none⟩) pn' pn')) (.cells (Array.replicate pn' (.bool false)) 4);simpa [World.setCell] using h1
   obtain ⟨W3,hW3⟩:∃W3,W3=((wZ.setCell ⟨gP,0,none⟩ (.slice B1 nf d1')).setCell ⟨gP,1,none⟩ (.slice B2 nl d2')).setCell ⟨gP,2,none⟩ (.bool ee):=⟨_,rfl⟩;rw[<-hW3]at hW9;have hz3:W3.heap.size=wZ.heap.size:=by rw[hW3];simp[World.setCell]
   have hP3:W3.heap[gP]?=some (.cells #[.slice B1 nf d1', .slice B2 nl d2', .bool ee] 184 (0,0)):=by
    rw[hW3];have h1:=set_row3 (set_row3 (set_row3 HP3.out 0 (.slice B1 nf d1')) 1 (.slice B2 nl d2')) 2 (.bool ee);simpa using h1
   have hk3:KeepF [gP] [] wZ W3:=by
    rw[hW3];have hne:∀k,k∉[gP]->k≠gP:=λk hn e=>hn (List.mem_singleton.2 e);exact ⟨rfl,rfl,rfl,by simp[World.setCell],λk _ hn=>(Below.heap_setCell _ ⟨gP,2,none⟩ _ k (hne k hn)).trans ((Below.heap_setCell _ ⟨gP,1,none⟩ _ k (hne k hn)).trans (Below.heap_setCell wZ ⟨gP,0,none⟩ _ k (hne k hn))),λk hk=>by cases hk⟩
   have hs3:W3.heap[w2.heap.size+1]?=some (.cells #[.slice (some ⟨gS,0,none⟩) pn' cS, .slice (some ⟨gF,0,none⟩) pn' cF, .slice none 0 0, .map (some w2.heap.size), .slice none 0 0] 182 (0,0)):=(hk3.blk _ lsz (λh=>ne2 (List.mem_singleton.1 h))).trans HBS.out.1.cs;have hs9:W9.heap[w2.heap.size+1]?=some (.cells #[.slice (some ⟨gS,0,none⟩) pn' cS, .slice (some ⟨gF,0,none⟩) pn' cF, .slice (some ⟨wZ.heap.size,0,none⟩) pn' pn', .map (some w2.heap.size), .slice none 0 0] 182 (0,0)):=by
    rw[hW9,old_alloc _ _ _ (by simp[World.setCell];omega)]
    have h1:=set_row3 hs3 2 (.slice (some ⟨wZ.heap.size,0,none⟩) pn' pn');simpa using h1
   have hk9:KeepF [w2.heap.size+1] [w2.heap.size+1,wZ.heap.size] W3 W9:=by
    rw[hW9];refine ⟨rfl,rfl,rfl,by simp[World.setCell],λk hk hn=>(old_alloc _ _ _ (by simp[World.setCell];exact hk)).trans (Below.heap_setCell _ _ _ _ (λe=>hn (List.mem_singleton.2 e))),λk hk=>?_⟩
    simp only[List.mem_cons,List.not_mem_nil,or_false]at hk|-;exact hk.imp id λh=>by omega
   have hP9:=(hk9.blk gP (by omega) (λh=>ne1 (List.mem_singleton.1 h))).trans hP3
   have hor9:OR 4 1 bC wZ.heap.size (.slice (some ⟨wZ.heap.size,0,none⟩) pn' pn') (endsL x.last pn' 0) W9:=by
    have h1:=bools_new (W3.setCell ⟨w2.heap.size+1,2,none⟩ (.slice (some ⟨wZ.heap.size,0,none⟩) pn' pn')) pn' (by omega)
    rw[show (W3.setCell ⟨w2.heap.size+1,2,none⟩ (.slice (some ⟨wZ.heap.size,0,none⟩) pn' pn')).heap.size=wZ.heap.size by simp[World.setCell];exact hz3]at h1
    rw[endsL_zero,hW9];exact h1
   obtain ⟨gl,fl,cl,ev2,-,hgl,-,hcl⟩:=HI2.out.1.resolve_left (λh=>HBS.out.2.2.1.2 h.1);obtain rfl:B2=some ⟨gl,fl,none⟩:=by injection ev2
   have hnlP:gl≠gP:=λe=>HI2.out.1.ne_part HBS.out.2.2.1.2 HP3.out (by rw[<-e];rfl)
   have hnls:gl≠w2.heap.size+1:=λe=>HI2.out.2 gl rfl (by rw[HN.out.2.2.2.2.2.2,e];simp[fpS])
   have hcl9:∀i (h:i<x.last.length),W9.cell? ⟨gl,fl+i,none⟩=some (.int .i64 (x.last[i]:Int)):=λi h=>(World.cell?_of_block (a:=⟨gl,fl+i,none⟩) ((hk9.blk gl (by omega) (λh=>hnls (List.mem_singleton.1 h))).trans (hk3.blk gl hgl (λh=>hnlP (List.mem_singleton.1 h))))).trans (hcl i h)
   have hz9:W9.heap.size=wZ.heap.size+1:=by rw[hW9];simp[World.setCell];exact hz3
   have hmb9:W9.heap[w2.heap.size]?=W.heap[w2.heap.size]?:=((hk9.blk _ (by omega) (by simp)).trans (hk3.blk _ (by omega) (by simp;omega))).trans (HSZ.out.1.block _ (by omega))
   have HA0:=Lib.hid (show AlR W9 wZ.heap.size wZ.heap.size pn' pn' (endsL x.last pn' 0) W9 from ⟨hor9,KeepF.refl _ _⟩);have HC9:=Lib.hid hcl9;have HS9:=Lib.hid (And.intro hs9 (And.intro hP9 hmb9));have HK9:=Lib.hid (And.intro hk3 hk9);have HW9:=Lib.hid (And.intro hW3 hW9);have hlen9:w2.heap.size+1<W9.heap.size:=by omega
   clear hW9 hW3 hge hP3 hk3 hs3 hs9 hk9 hP9 hor9 hcl hcl9 hmb9 ev2 z0 z1 z2 y0 y1 y2 s0 s1 s2 s3 s4 t2 hmk;go_wp2_with fail
   go_loopw [46] (λiv wr=>∃k:Nat,k<=nl/\iv = .int .i64 (k:Int)/\Hid (AlR W9 wZ.heap.size wZ.heap.size pn' pn' (endsL x.last pn' k) wr)) (λiv _=>nl - (intOf iv).toNat)
   case atStart=>exact ⟨0,Nat.zero_le _,rfl,HA0⟩
   case round=>
    obtain ⟨k,hk,rfl,HA⟩:=hrel;have hwr:=HA.out.kf.size;have hsr:=(HA.out.kf.blk (w2.heap.size+1) hlen9 (by simp;omega)).trans HS9.out.1
    by_cases hlt:k<nl
    .have hd:decide ((k:Int)<(nl:Int))=true:=decide_eq_true (by omega)
     have hdn:decide (k<nl)=true:=decide_eq_true hlt;have hkl:k<x.last.length:=by rw[HN.out.2.2.2.1];exact hlt
     obtain ⟨p,hp⟩:∃p,x.last[k]=p:=⟨_,rfl⟩;have hpn:p<pn':=by
      have:=(HBS.out.2.1.good.lst x.last[k] (List.getElem_mem hkl)).2;rw[hp,HN.out.1]at this;exact this
     have c0:=(World.cell?_of_block (a:=⟨gl,fl+k,none⟩) (HA.out.kf.blk gl (by omega) (by simp;omega))).trans (HC9.out k hkl)
     rw[hp]at c0;have lgl:gl<wr.heap.size:=by omega
     have c2:wr.cell? ⟨w2.heap.size+1,2,none⟩=some (.slice (some ⟨wZ.heap.size,0,none⟩) pn' pn'):=by rw[cell_of_row _ _ _ _ _ _ hsr];rfl
     have lsr:w2.heap.size+1<wr.heap.size:=by omega
     obtain ⟨e1,e2,e3⟩:=HA.out.cell (endsL_get x.last k hpn);have hpd:decide (p<pn')=true:=decide_eq_true hpn;have hset:=HA.out.set (endsL_len _ _ _) p;rw[<-hp,endsL_succ hkl,hp]at hset;have HS:=Lib.hid hset;clear hp hkl hsr hset;go_wp2_with fail;go_roundw
     case rel=>exact ⟨k+1,by omega,by go_num,HS⟩
     case measure=>simp[intOf];omega
    .have hkn:k=nl:=by omega
     have hd:decide ((k:Int)<(nl:Int))=false:=decide_eq_false (by omega)
     have hal:=HA.out;rw[show endsL x.last pn' k=endsL x.last pn' x.last.length from by rw[HN.out.2.2.2.1,hkn]]at hal
     have hkw:KeepF [w2.heap.size+1] [] W3 wr:=by
      have h1:=HK9.out.2.trans (f3:=[]) ⟨hal.kf.os,hal.kf.tape,hal.kf.output,hal.kf.size,λq hq hn=>hal.kf.blk q hq (λh=>hn (by simp at h|-;exact .inr h)),λq hq=>by cases hq⟩
      exact h1
     have hw30:Below w2.heap.size w2 W3:=HBS.out.1.bel.trans (HK9.out.1.below (λq hq=>by rw[List.mem_singleton]at hq;omega) (by omega))
     have hbs3:=HBS.out.1.same (w':=W3) (λq hq=>HK9.out.1.blk q (HBS.out.1.lt q hq).2 (λh=>HKF.out.2 (by rw[HN.out.2.2.2.2.2.2,<-List.mem_singleton.1 h];exact hq))) hw30
     have hmr:MV Tryz.prog 9 w2.heap.size 0 (λ_=>none) wr:=HMW.out.kept ((hal.kf.blk _ (by omega) (by simp;omega)).trans HS9.out.2.2)
     have hz3':W3.heap.size=wZ.heap.size:=hz3;obtain ⟨q1,q2,q3,q4⟩:=cp_start hbs3 hkw hsr hmr (Nat.le_refl _) (by omega) (by rw[HN.out.1];have:=HN.out.2.2.1;omega) (by rw[HN.out.2.1];have:=HN.out.2.2.1;omega)
     have hPr:=(hal.kf.blk gP (by omega) (by simp;omega)).trans HS9.out.2.1
     have hEn:EnC (fpG (w2.heap.size+1) w2.heap.size (.slice none 0 0)) wr (.slice (some ⟨wZ.heap.size,0,none⟩) pn' pn') pn' x.last:=by
      refine ⟨wZ.heap.size,rfl,by omega,by simp[fpG,blk,Value.ownBlock];omega,λp hp=>?_⟩
      have:=(hal.cell (endsL_get x.last x.last.length hp)).1;rw[List.take_length]at this;exact this
     have hi1r:IL wr (.slice B1 x.first.length d1') x.first/\outOf (fpG (w2.heap.size+1) w2.heap.size (.slice none 0 0)) (.slice B1 x.first.length d1'):=by
      obtain ⟨j1,j2⟩:=HI1.out.1.keep (fp:=[gP]) (fp':=[]) (λg hg hm=>by
       have hgg:g=gP:=List.mem_singleton.1 hm;exact HI1.out.1.ne_part HBS.out.2.2.1.1 HP3.out (by rw[hg,hgg])) HK9.out.1
      have hos:∀g,(Value.slice B1 x.first.length d1').ownBlock=some g->g≠w2.heap.size+1:=λg hg e=>HI1.out.2 g hg (by rw[HN.out.2.2.2.2.2.2,e];simp[fpS])
      obtain ⟨j3,-⟩:=j1.keep (fp:=[w2.heap.size+1]) (fp':=[]) (λg hg hm=>hos g hg (List.mem_singleton.1 hm)) hkw;refine ⟨j3,λg hg hm=>?_⟩;simp[fpG,blk,Value.ownBlock]at hm;rcases hm with hm | hm
      .exact hos g hg hm
      .obtain ⟨gx,fx,cx,ex,-,-,-,hcx⟩:=j3.resolve_left (λh=>HBS.out.2.2.1.1 h.1);rw[ex]at hg;simp[Value.ownBlock]at hg;have hx0:=hcx 0 (List.length_pos_iff.2 HBS.out.2.2.1.1);obtain ⟨D,⟨es,c,hmq,-⟩,-⟩:=hmr;simp[World.cell?,hg,hm,hmq]at hx0
     rw[HN.out.2.2.2.2.1]at hi1r;have hcp0:CpS w2 (fpG (w2.heap.size+1) w2.heap.size (.slice none 0 0)) (.slice (some ⟨gS,0,none⟩) pn' cS) (.slice (some ⟨gF,0,none⟩) pn' cF) (.slice (some ⟨wZ.heap.size,0,none⟩) pn' pn') b x gP (.slice B1 nf d1') (.slice (some ⟨gl,fl,none⟩) nl d2') wr:=
      ⟨q2,q3,by rw[HN.out.2.1];exact hEn,⟨by rw[HN.out.2.2.2.2.2.1];exact hPr,by simp[fpG,blk,Value.ownBlock];omega⟩,hi1r⟩
     have hbww:Below w.heap.size w wr:=HW2.out.trans (q4.mono (by have:=HW2.out.size;omega))
     have hnum:=number_any w2.heap.size (w2.heap.size+1) w2.heap.size (.slice (some ⟨gS,0,none⟩) pn' cS) (.slice (some ⟨gF,0,none⟩) pn' cF) (.slice (some ⟨wZ.heap.size,0,none⟩) pn' pn') [] (fpG (w2.heap.size+1) w2.heap.size (.slice none 0 0)) wr [] (.slice none 0 0) q1 (.inl ⟨rfl,rfl⟩) (λg hg=>by simp[Value.ownBlock]at hg) (TI.nil _) (by simp) (λp hp=>by cases hp) (by simp) (HVR.out.below hbww HVR.out.low)
     have HNU:=Lib.hid hnum;have HCP0:=Lib.hid hcp0;have HQ4:=Lib.hid q4;clear hal hkw hw30 hbs3 hmr q1 q2 q3 q4 hPr hEn hi1r hcp0 hbww hnum hsr hkn;go_wp2_with fail;refine HNU.out.mono ?_;rintro e w5 ⟨fp5,rfl,hsb5,hkf5⟩;rw[show addG ([]:List (List Nat)) []=[[]] by simp[addG]]at hsb5
     have hcp5:=HCP0.out.keep hkf5;have hP5:=hcp5.prt.1;rw[HN.out.2.2.2.2.2.1]at hP5;obtain ⟨u0,u1,u2⟩:=cells3 hP5;have lP5:gP<w5.heap.size:=(Array.getElem?_eq_some_iff.1 hP5).1;have hb5:Below w2.heap.size w2 w5:=HQ4.out.trans (hkf5.below (λq hq=>by simp[fpG,blk,Value.ownBlock]at hq;omega) HQ4.out.size)
     have HSB5:=Lib.hid hsb5;have HCP5:=Lib.hid hcp5;have HB5:=Lib.hid hb5;clear hsb5 hkf5 hcp5 hP5 hb5;go_wp2_with fail;refine wp_named λW6 hW6=>?_;have hz6:W6.heap.size=w5.heap.size+2:=by rw[hW6];simp
     have hb6:Below w5.heap.size w5 W6:=by rw[hW6];exact ((Below.refl _ _).alloc (Nat.le_refl _) _).alloc (by simp) _
     have hN6:W6.heap[w5.heap.size+1]?=some (.cells #[.slice none 0 0, .slice (some ⟨w5.heap.size,0,none⟩) 1 1] 93 (0,0)):=by rw[hW6];simpa using heap_alloc_new (w5.alloc (.cells #[.bool ee] 4)) (.cells #[.slice none 0 0, .slice (some ⟨w5.heap.size,0,none⟩) 1 1] 93)
     have h25:=HB5.out.size;have hor0:OR 4 1 bC w5.heap.size (.slice (some ⟨w5.heap.size,0,none⟩) 1 1) [ee] (w5.alloc (.cells #[.bool ee] 4)):=⟨rfl, .inr ⟨w5.heap.size,1,#[.bool ee],rfl,Nat.le_refl _,heap_alloc_new w5 _,by simp,by unfold maxLen;omega,by simp,by simp[rowF,bC]⟩⟩
     have hor6:OR 4 1 bC w2.heap.size (.slice (some ⟨w5.heap.size,0,none⟩) 1 1) [ee] W6:=by rw[hW6];exact (hor0.later ((Below.refl _ _).alloc (by simp) _)).mono h25
     have hfm:∀k,k∈fpM (w5.heap.size+1) (.slice none 0 0) (.slice (some ⟨w5.heap.size,0,none⟩) 1 1)->w5.heap.size<=k:=λk hk=>by
      rcases mem_fpM.1 hk with h | h | h
      .omega
      .simp[Value.ownBlock]at h
      .simp[Value.ownBlock]at h;omega
     have hma6:MkM w2.heap.size (w5.heap.size+1) fp5 (.slice none 0 0) (.slice (some ⟨w5.heap.size,0,none⟩) 1 1) [] [] [ee] W6:=
      ⟨hN6,by omega,World.ownsRow_nil _ _ _ _,λi hi=>(by cases hi),hor6,λk hk hx=>by have:=hfm k hk;have:=(HSB5.out.lt k hx).2;omega⟩
     have hci0:CmI b x [[]] [] [ee] 0:=by rw[<-HN.out.2.2.2.2.2.1];exact CmI.start b x
     have hcl0:CpL w2 (w2.heap.size+1) w2.heap.size (.slice (some ⟨gS,0,none⟩) pn' cS) (.slice (some ⟨gF,0,none⟩) pn' cF) (.slice (some ⟨wZ.heap.size,0,none⟩) pn' pn') b x gP (.slice B1 nf d1') (.slice (some ⟨gl,fl,none⟩) nl d2') (w5.heap.size+1) 0 [[]] fp5 [] [ee] (.slice none 0 0) (.slice (some ⟨w5.heap.size,0,none⟩) 1 1) [] W6:=
      ⟨HSB5.out.later hb6,hma6,HCP5.out.keep ⟨hb6.os,hb6.tape,hb6.output,hb6.size,λk hk _=>hb6.block k hk,λk hk=>(List.mem_append.1 hk).imp id (hfm k)⟩,hci0,HB5.out.trans (hb6.mono h25)⟩
     have HCL0:=Lib.hid hcl0;have HRG:=Lib.hid (show ∀rs∈b.sets,rngF rs=true from λrs h=>by
      obtain ⟨i,hi,rfl⟩:=List.getElem_of_mem h;obtain ⟨v,-,-,h3⟩:=HBS.out.1.setv i hi;exact h3)
     have HBYT:=Lib.hid (show ∀rs∈b.sets,∀r∈rs,r.2<256 from λrs h r hr=>(HCP5.out.set.lt rs h r hr).2);have HLOW:=Lib.hid (show nG<=w2.heap.size from Nat.le_trans HVR.out.low HW2.out.size);have hww2:=HW2.out.size;clear hW6 hb6 hN6 hor0 hor6 hfm hma6 hci0 hcl0 u0 u1 u2;go_wp2_with fail
     go_loopw [10] (λiv wr=>∃(i:Nat) (gs:List (List Nat)) (fp:List Nat) (rs:List (List Ed)) (acs:List Bool) (vE vA:Value) (gv:List Value),iv = .int .i64 (i:Int)/\i<=gs.length/\gs.length<=2000/\Hid (CpL w2 (w2.heap.size+1) w2.heap.size (.slice (some ⟨gS,0,none⟩) pn' cS) (.slice (some ⟨gF,0,none⟩) pn' cF) (.slice (some ⟨wZ.heap.size,0,none⟩) pn' pn') b x gP (.slice B1 nf d1') (.slice (some ⟨gl,fl,none⟩) nl d2') (w5.heap.size+1) i gs fp rs acs vE vA gv wr)) (λiv _=>2001 - (intOf iv).toNat)
     case atStart=>exact ⟨0,[[]],fp5,[],[ee],_,_,[],rfl,Nat.zero_le _,by simp,HCL0⟩
     case round=>
      obtain ⟨i,gs,fp,rs,acs,vE,vA,gv,rfl,hil,hg2,HL⟩:=hrel;obtain ⟨ng,hng⟩:∃n,gs.length=n:=⟨_,rfl⟩;rw[hng]at hil hg2;have hwr:=HL.out.bl.size;obtain ⟨Ag,cg,x4,hcg,hgat⟩:=HL.out.sb.groups;rw[hng]at x4;obtain ⟨lsr,-,-,-⟩:=HL.out.sb.cells;have HNG:=Lib.hid hng;have HGAT:=Lib.hid hgat;clear hng hgat;by_cases hlt:i<ng
      .have hd:decide ((i:Int)<(ng:Int))=true:=decide_eq_true (by omega)
       have hPr:=HL.out.cp.prt.1;obtain ⟨z0,z1,z2⟩:=cells3 hPr;have lPr:gP<wr.heap.size:=(Array.getElem?_eq_some_iff.1 hPr).1;clear hPr;by_cases hi0:i=0
       .have d3:decide ((0:Int)<(i:Int))=false:=decide_eq_false (by omega)
        have d3':decide (0<i)=false:=decide_eq_false (by omega)
        have hrl:=HL.out.ci.rl;have hmkE:=HL.out.ma.own;rw[hrl]at hmkE;obtain ⟨AE,cE,rfl,-,-⟩:=own_form hmkE;have HMA:=Lib.hid HL.out.ma;have HSB:=Lib.hid HL.out.sb;have HCP:=Lib.hid HL.out.cp;have HCI:=Lib.hid HL.out.ci;have HBL:=Lib.hid HL.out.bl;have HRL:=Lib.hid hrl;have HE1:=Lib.hid hmkE;have HI0:=Lib.hid hi0;have HGF:=Lib.hid (show ∀p,p∈x.first↔grpF b x gs i p from λp=>by unfold grpF;rw[if_pos hi0])
        have HLB:=Lib.hid (show ∀p∈x.first,p<b.sets.length from λp hp=>by have:=(HBS.out.2.1.good.fst p hp).2;rw[HBS.out.2.1.len];exact this)
        have HLL:=Lib.hid (show x.first.length<=10000000000000 by rw[HN.out.2.2.2.2.1];omega)
        have HFV:=Lib.hid (show IL wr (.slice B1 nf d1') x.first/\outOf fp (.slice B1 nf d1') from ⟨HL.out.cp.fst.1,λg hg hm=>HL.out.cp.fst.2 g hg (List.mem_append_left _ hm)⟩);clear hrl hmkE hi0;obtain ⟨W,hWeq⟩:∃W:World,W=wr:=⟨_,rfl⟩;subst hWeq;have hNB:=HMA.out.hN;have HNB:=Lib.hid hNB;have xn0:W.cell? ⟨w5.heap.size+1,0,none⟩=some (.slice AE i cE):=by rw[cell_of_row _ _ _ _ _ _ hNB];rfl
        have lN:w5.heap.size+1<W.heap.size:=(Array.getElem?_eq_some_iff.1 hNB).1;have HNF:=Lib.hid (show w5.heap.size+1∉fp from HMA.out.out _ (mem_fpM.2 (.inl rfl)));have HVRW:=Lib.hid (HVR.out.below (HW2.out.trans (HBL.out.mono hww2)) HVR.out.low);have HG0:=Lib.hid HCI.out.g0;have HGL:=Lib.hid (show gs.length<=2000 by rw[HNG.out];exact hg2)
        have hi2:i<=2000:=by omega
        have hS0:StC30 (w5.heap.size+1) W 0 W.drew:=⟨Nat.le_refl _,rfl,λ_=>(Below.refl _ _).drew⟩;have lsW:w2.heap.size+1<W.heap.size:=(HSB.out.cells).1;clear hNB HL;go_wp2_with fail;clear x4 lsr z0 z1 z2 lPr;refine wp_region_chain 9 [4,5,6,7] (factC30 w2 (w2.heap.size+1) w2.heap.size (.slice (some ⟨gS,0,none⟩) pn' cS) (.slice (some ⟨gF,0,none⟩) pn' cF) (.slice (some ⟨wZ.heap.size,0,none⟩) pn' pn') b gs fp x.first (w5.heap.size+1) i cE nf d1' AE B1 gv W) (λc w'=>StC30 (w5.heap.size+1) W c w') (by kernel_rfl) (by kernel_rfl) (by kernel_rfl) (by kernel_rfl) (by kernel_rfl) (by kernel_rfl) (by decide) hS0 ?_ ?_
        .simp only[pq4,pq5];refine HSteps.pure (by decide) ?_ (HSteps.pure (by decide) ?_ (HSteps.pure (by decide) ?_ (HSteps.pure (by decide) ?_ (HSteps.eff 0 rfl ?_ (HSteps.eff 1 rfl ?_ (HSteps.eff 2 rfl ?_ (HSteps.eff 3 rfl ?_ (HSteps.pure (by decide) ?_ (HSteps.nil)))))))))
         all_goals first | (with_reducible intro v wz c hlo hS hE K hK;simp only[putAll,Act.put,pq1,pq2,pq3,Nat.zero_add,Nat.reduceAdd,pq4,pq5]at hK|-) | (intro v wz hS hE K hK;simp only[putAll,Act.put,pq1,pq2,pq3,Nat.zero_add,Nat.reduceAdd,pq4,pq5]at hK|-)
         .have HX:=Lib.hid hS;clear hS hE hlo;go_wp2_with fail;exact hK.out _ rfl
         .have e0:v 0=_:=hE.1 rfl;rw[e0]at hK|-;have c1:=(World.cell?_of_block (a:=⟨w5.heap.size+1,0,none⟩) hS.2.1).trans xn0;have l1:w5.heap.size+1<wz.heap.size:=by have:=hS.1;omega
          have HX:=Lib.hid hS;clear hS hE hlo;go_wp2_with fail;exact hK.out _ rfl
         .have HX:=Lib.hid hS;clear hS hE hlo;go_wp2_with fail;exact hK.out _ rfl
         .have HX:=Lib.hid hS;clear hS hE hlo;go_wp2_with fail;exact hK.out _ rfl
         .have e3:v 3=_:=hE.1 rfl;rw[e3]at hK|-;have hb:=hS.2.2 (by omega)
          have hcall:=sorted_any (.slice B1 nf d1') x.first wz (HFV.out.1.later hb) HLL.out;have HC:=Lib.hid hcall;have HX:=Lib.hid hS;clear hS hE hcall hb;go_wp2_with fail;refine HC.out.mono ?_;rintro e wy ⟨v',r,rfl,hso,how,hil,hbw⟩;obtain ⟨A',c',rfl,-,-⟩:=own_form how;have HP:=Lib.hid (And.intro hso (And.intro (own_mono how HX.out.1) (And.intro hil hbw)));clear hso how hil hbw;go_wp2_with fail;refine hK.out _ _ (λj z hj h=>?_) ⟨Nat.le_trans HX.out.1 HP.out.2.2.2.size,(HP.out.2.2.2.block (w5.heap.size+1) (by have:=HX.out.1;omega)).trans HX.out.2.1,λ_=>(HX.out.2.2 (by omega)).trans (HP.out.2.2.2.mono HX.out.1)⟩ (λ_=>⟨A',r,c',rfl,HP.out.1,HP.out.2.1,HP.out.2.2.1⟩)
          match j with
          | 0 | 1 | 2 | 3 | 8=>exact h
          | 4=>exact absurd rfl hj
          | 5=>exact λhc=>by omega
          | 6=>exact λhc=>by omega
          | 7=>exact λhc=>by omega
          | _+9=>exact trivial
         .have e2:v 2=_:=hE.1 rfl;rw[e2]at hK|-;have E4:=hE.2.1 rfl;obtain ⟨Ar,r,cr,e4,hso,how,hil⟩:=E4 rfl;rw[e4]at hK how hil|-;have hb:=hS.2.2 (by omega)
          have hrb:∀p∈r,p<b.sets.length:=λp hp=>HLB.out p ((hso.2 p).1 hp);have hcall:=edges_any w2 (w2.heap.size+1) w2.heap.size (.slice (some ⟨gS,0,none⟩) pn' cS) (.slice (some ⟨gF,0,none⟩) pn' cF) (.slice (some ⟨wZ.heap.size,0,none⟩) pn' pn') b gs fp wz r _ (HSB.out.later hb) ((HCP.out.later hb).set.weak λk hk=>List.mem_append_left _ hk) (HBL.out.trans (hb.mono HBL.out.size)) HRG.out hil (λg hg hm=>by have:=(how.lt g hg).1;have:=(HSB.out.lt g hm).2;omega) hrb (asc_len (a:=0) hso.1 λp hp=>⟨Nat.zero_le _,by have:=hrb p hp;have:=HN.out.2.1;omega⟩) (by rw[HN.out.2.1];omega) (by have:=HGL.out;omega) HG0.out (HVRW.out.later hb) HLOW.out
          have HC:=Lib.hid hcall;have HX:=Lib.hid (And.intro hS (And.intro hso hb));clear hS hE hcall hb hrb hso how hil E4 e4;go_wp2_with fail;refine HC.out.mono ?_;rintro e wy ⟨row,gs',fp',rv,rfl,⟨hr1,hr2,hr3⟩,hsb,hkf,hri,hgg,hl1,hl2⟩;obtain ⟨A',c',hrf,-,-⟩:=hr1.form;have HP:=Lib.hid (And.intro hr1 (And.intro hr2 (And.intro hr3 (And.intro hsb (And.intro hkf (And.intro hri (And.intro hgg hl1)))))));clear hr1 hr2 hr3 hsb hkf hri hgg hl1 hl2 hrf;go_wp2_with fail;have hz1:=HX.out.1.1;have hz2:=HP.out.2.2.2.2.1.size;refine hK.out _ _ (λj z hj h=>?_) ⟨by omega,(HP.out.2.2.2.2.1.blk (w5.heap.size+1) (by omega) HNF.out).trans HX.out.1.2.1,λh=>by omega⟩ (λ_=>⟨r,row,gs',fp',HX.out.2.1,⟨HP.out.1,HP.out.2.1,λg hg=>⟨by have:=(HP.out.2.2.1 g hg).1;omega,(HP.out.2.2.1 g hg).2⟩⟩,HP.out.2.2.2.1,(KeepF.of_below HX.out.2.2).trans HP.out.2.2.2.2.1,HP.out.2.2.2.2.2.1,HP.out.2.2.2.2.2.2.1,HP.out.2.2.2.2.2.2.2⟩)
          match j with
          | 0 | 1 | 2 | 3 | 8=>exact h
          | 5=>exact absurd rfl hj
          | 4=>exact λhc=>by omega
          | 6=>exact λhc=>by omega
          | 7=>exact λhc=>by omega
          | _+9=>exact trivial
         .have E5:=hE.1 rfl;have hef:=E5 rfl;obtain ⟨r,row,gs',fp',q1,⟨q2,q3,q4⟩,q5⟩:=id hef;obtain ⟨A5,c5,e5,-,-⟩:=q2.form;obtain ⟨n5,hn5⟩:∃n,row.length=n:=⟨_,rfl⟩;rw[hn5]at e5;rw[e5]at hK hef|-;have HEF:=Lib.hid hef;have HX:=Lib.hid hS;clear hS hE hef q1 q2 q3 q4 q5 E5 e5;have hzW:=HX.out.1;go_wp2_with fail;have hbz:Below wz.heap.size wz (wz.alloc (.cells #[.slice A5 n5 c5] 187)):=(Below.refl _ _).alloc (Nat.le_refl _) _;refine hK.out _ _ (λj z hj h=>?_) ⟨by simp;omega,(hbz.block (w5.heap.size+1) (by omega)).trans HX.out.2.1,λh=>by omega⟩ (λ_=>⟨wz.heap.size, .slice A5 n5 c5,rfl,hzW,by simp,by go_simp,rfl,HEF.out.later hbz⟩)
          match j with
          | 0 | 1 | 2 | 3 | 8=>exact h
          | 6=>exact absurd rfl hj
          | 4=>exact λhc=>by omega
          | 5=>exact λhc=>by omega
          | 7=>exact λhc=>by omega
          | _+9=>exact trivial
         .have e1:v 1=_:=hE.1 rfl;rw[e1]at hK|-;have E6:=hE.2.1 rfl;obtain ⟨g,rv,e6,hgW,hgl,hg0,h1c,hef⟩:=E6 rfl;rw[e6]at hK|-;obtain ⟨r,row,gs',fp',q1,q2,q3,q4,q5⟩:=id hef;have hown:wz.ownsRow w2.heap.size 187 1 (.slice AE i cE) i gv:=own_same HE1.out λg hg=>q4.blk g (HE1.out.lt g hg).2 λhm=>HMA.out.out g (mem_fpM.2 (.inr (.inl hg))) hm;have hzz:=hS.1;have hcell:∀j u,([rv]:List Value)[j]?=some u->wz.cell? ((⟨g,0,none⟩:Addr).add j)=some u:=λj u hj=>by
           match j,hj with
           | 0,hj=>simp at hj;rw[<-hj,Addr.add_lit];exact hg0
          have HEF:=Lib.hid hef;have HX:=Lib.hid hS;clear hS hE hef q1 q2 q3 q4 q5 E6;go_wp2_with (at_builtin;refine appI_at rfl _ _ 91 rfl w2.heap.size 187 ie (.slice none 0 0) 1 24 Tryz.underlying91 hie he0 he1 he2 rfl (by decide) _ i gv rfl hown ⟨g,0,none⟩ 1 1 [rv] rfl rfl hcell (by intro u hu;simp at hu;subst hu;exact h1c) (by unfold maxLen;omega) (by omega) (by have:=HBL.out.size;omega) ?_)
          intro v' wx hown1 hg1 hfr;obtain ⟨A',c',rfl,-,-⟩:=own_form hown1;refine hK.out _ _ (λj z hj h=>?_) ⟨Nat.le_trans HX.out.1 hg1.size,(hg1.block (w5.heap.size+1) (by omega) (λe=>HMA.out.neE e.symm)).trans HX.out.2.1,λh=>by omega⟩ (λ_=>⟨rv,wz,A',c',rfl,HEF.out,hg1,hown1,hfr⟩)
          match j with
          | 0 | 1 | 2 | 3 | 8=>exact h
          | 7=>exact absurd rfl hj
          | 4=>exact λhc=>by omega
          | 5=>exact λhc=>by omega
          | 6=>exact λhc=>by omega
          | _+9=>exact trivial
         .have HX:=Lib.hid hS;clear hS hE hlo;go_wp2_with fail;exact hK.out _ rfl
        .intro v wz hS hF;have e0:v 0=_:=hF 0 (by decide)
         have e1:v 1=_:=hF 1 (by decide)
         have e2:v 2=_:=hF 2 (by decide)
         have e3:v 3=_:=hF 3 (by decide)
         have e8:v 8=_:=hF 8 (by decide)
         have E4:=hF 4 (by decide)
         have E5:=hF 5 (by decide)
         have E6:=hF 6 (by decide)
         have E7:=hF 7 (by decide)
         simp only[putAll,Act.put,pq1,pq2,pq3,Nat.zero_add,Nat.reduceAdd,pq4,pq5,List.drop_succ_cons,List.drop_zero,e0,e1,e2,e3,e8];clear hF e0 e1 e2 e3 e8;obtain ⟨rv,w6,A7,c7,e7,hef,hg7,ho7,hf7⟩:=E7 rfl;rw[e7]at ho7 hf7|-;have hNz:=hS.2.1.trans HNB.out;have xz0:wz.cell? ⟨w5.heap.size+1,0,none⟩=some (.slice AE i cE):=by rw[cell_of_row _ _ _ _ _ _ hNz];rfl
         have fz0:wz.frozen? ⟨w5.heap.size+1,0,none⟩=false:=by simp[World.frozen?,hNz]
         have lNz:w5.heap.size+1<wz.heap.size:=(Array.getElem?_eq_some_iff.1 hNz).1;obtain ⟨row,gs',fp',hcl,hgl'⟩:=cp_next (w0:=w2) HMA.out HCP.out HCI.out (by rw[if_pos HI0.out]) (show i<gs.length by rw[HNG.out];exact hlt) HBL.out HGF.out HLB.out hef hg7 (by rw[HRL.out];exact ho7) hf7 (λk hk=>(HSB.out.lt k hk).1)
         have hns1:¬w5.heap.size+1=w2.heap.size+1:=λe=>by have:=hcl.ma.out _ (mem_fpM.2 (.inl rfl));have h8:=hcl.sb;obtain ⟨vg8,gv8,F8,hfp8,-⟩:=h8;rw[hfp8,e]at this;exact this (by simp[fpG])
         have hns2:¬w2.heap.size+1=w5.heap.size+1:=λe=>hns1 e.symm;have hset:∀k,k≠w5.heap.size+1->(wz.setCell ⟨w5.heap.size+1,0,none⟩ (.slice A7 (i+1) c7)).heap[k]?=wz.heap[k]?:=λk hk=>Below.heap_setCell _ _ _ _ hk;obtain ⟨Ag',cg',x4',hcg',-⟩:=hcl.sb.groups;obtain ⟨ng',hng'⟩:∃n,gs'.length=n:=⟨_,rfl⟩;rw[hng']at x4';have x4z:wz.cell? ⟨w2.heap.size+1,4,none⟩=some (.slice Ag' ng' cg'):=(World.cell?_of_block (a:=⟨w2.heap.size+1,4,none⟩) (hset _ hns2)).symm.trans x4';have lsz2:w2.heap.size+1<wz.heap.size:=by have:=hS.1;omega
         have hgb:ng'<=100000:=by rw[<-hng'];have:=HNG.out;omega
         have HCL:=Lib.hid hcl;have HNG':=Lib.hid hng';clear hS hef hg7 ho7 hf7 hNz e7 E4 E5 E6 E7 hcl hgl' x4' hng';by_cases h2k:2000<ng'
         .have d4:decide (2000<(ng':Int))=true:=decide_eq_true (by omega)
          have hRz:=(hset (w.heap.size+1) (by omega)).symm.trans ((HCL.out.bl.block (w.heap.size+1) (by omega)).trans HZ1.out)
          obtain ⟨rz0,rz1⟩:wz.cell? ⟨w.heap.size+1,0,none⟩=some (.slice none 0 0)/\wz.cell? ⟨w.heap.size+1,1,none⟩=some (.slice none 0 0):=by constructor <;> (rw[cell_of_row _ _ _ _ _ _ hRz]; rfl)
          have gz0:wz.frozen? ⟨w.heap.size+1,0,none⟩=false:=by simp[World.frozen?,hRz]
          have gz1:wz.frozen? ⟨w.heap.size+1,1,none⟩=false:=by simp[World.frozen?,hRz]
          have lRz:w.heap.size+1<wz.heap.size:=by omega
          have nRN:¬w.heap.size+1=w5.heap.size+1:=by omega
          have nRN2:¬w5.heap.size+1=w.heap.size+1:=by omega
          clear hRz hset;go_wp2_with fail;refine post_named λWf hWf=>?_;refine bodyPost_ret (v:=.tuple #[mcNil, .int .i64 3]) (by rw[hWf];simp[results,Tryz.results109,go_sem,rz0,rz1,lRz,mcNil];try rfl) rfl ?_
          have hbf:Below w.heap.size w Wf:=by
           rw[hWf];have h1:=HW2.out.trans (HCL.out.bl.mono hww2);exact (h1.setCell (p:=⟨w.heap.size+1,0,none⟩) (by show w.heap.size<=w.heap.size+1;omega) _).setCell (p:=⟨w.heap.size+1,1,none⟩) (by show w.heap.size<=w.heap.size+1;omega) _
          exact ⟨hbf, .inr (.inr ⟨HQ.out.1,HROOM.out.1,b,x,gs',_,_,i+1,HBS.out.2.1,by rw[HN.out.1,HN.out.2.2.1],HBYT.out,HCL.out.ci, .inl ⟨by rw[HNG'.out];exact h2k,rfl⟩⟩)⟩
         .have d4:decide (2000<(ng':Int))=false:=decide_eq_false (by omega)
          have hcil:=HCL.out.ci.il;clear hset;go_wp2_with fail;go_roundw
          case rel=>exact ⟨i+1,gs',fp',_,_,_,_,_,by go_num,hcil,by rw[HNG'.out];omega,HCL⟩
          case measure=>simp[intOf];omega
       .have d3:decide ((0:Int)<(i:Int))=true:=decide_eq_true (by omega)
        have d3':decide (0<i)=true:=decide_eq_true (by omega)
        obtain ⟨gg,gvv,rfl,hgg,x5,hilg,hog⟩:=HGAT.out i (by rw[HNG.out];exact hlt)
        obtain ⟨grp,hgrp⟩:∃g,gs[i]'(by rw[HNG.out];exact hlt)=g:=⟨_,rfl⟩
        rw[hgrp]at hilg;have hgD:(gs[i]?).getD []=grp:=by rw[List.getElem?_eq_getElem (by rw[HNG.out];exact hlt),hgrp];rfl
        have hgm:grp∈gs:=by rw[<-hgrp];exact List.getElem_mem _
        have hgne:grp≠[]:=by
         have:=(HL.out.ci.rch i (by omega) (by rw[HNG.out];exact hlt)).1
         rwa [hgD]at this
        have hgp:∀p∈grp,p<pn':=λp hp=>by have:=HL.out.ci.gl grp hgm p hp;rw[HN.out.2.1]at this;exact this
        obtain ⟨gb,fb,cb,rfl,-,hgb,hcb,hcell⟩:=hilg.resolve_left (λh=>hgne h.1);obtain ⟨np,hnp⟩:∃n,grp.length=n:=⟨_,rfl⟩;rw[hnp]at x5 hcb hog;have hnp6:np<=600:=by rw[<-hnp];exact asc_len (a:=0) (HL.out.ci.srt grp hgm) λp hp=>⟨Nat.zero_le _,by have:=hgp p hp;omega⟩
        have hdi:decide (i<ng)=true:=decide_eq_true hlt;have HI0:=Lib.hid hi0;have HGR:=Lib.hid (And.intro hgD (And.intro hgne (And.intro hgp (And.intro hnp hgm))));have HGC:=Lib.hid hcell;obtain ⟨WB,rfl⟩:∃W:World,W=wr:=⟨_,rfl⟩;clear hi0 hgrp hgD hgm hgne hgp hnp hcell hilg;go_wp2_with fail
        go_loopw [84,11,12] (λkv fv av wr=>∃k:Nat,k<=np/\kv = .int .i64 (k:Int)/\av = .bool ((grp.take k).any λp=>decide (p∈x.last))/\Hid (CU WB.heap.size fv (folG b (grp.take k)) wr)/\Hid (Below WB.heap.size WB wr)) (λkv _ _ _=>np - (intOf kv).toNat)
        case atStart=>exact ⟨0,Nat.zero_le _,rfl,rfl,⟨World.ownsRow_nil _ _ _ _, .inl rfl⟩,Below.refl _ _⟩
        case round=>
         obtain ⟨k,hk,rfl,rfl,HCU,HBW⟩:=hrel;have hwb:=HBW.out.size;obtain ⟨AL,nL,cL,rfl⟩:∃A n c,u11 = .slice A n c:=by
          obtain ⟨A,c,e,-⟩:=own_form HCU.out.1;exact ⟨_,_,_,e⟩
         obtain ⟨acc,hacc⟩:∃a,((grp.take k).any λp=>decide (p∈x.last))=a:=⟨_,rfl⟩;rw[hacc];have HACC:=Lib.hid hacc;clear hacc;have hlenK:(folG b (grp.take k)).length<=k*10000000000:=by
          have h1:=folG_len HKK.out (grp.take k);have h2:(grp.take k).length<=k:=List.length_take_le _ _;have h3:(grp.take k).length*cstF nd<=k*10000000000:=Nat.mul_le_mul h2 (by have:=HROOM.out.2;omega)
          omega
         by_cases hlt2:k<np
         .have hd2:decide ((k:Int)<(np:Int))=true:=decide_eq_true (by omega)
          have hkd:decide (k<np)=true:=decide_eq_true hlt2;have hkl:k<grp.length:=by rw[HGR.out.2.2.2.1];exact hlt2
          obtain ⟨p,hp⟩:∃p,grp[k]=p:=⟨_,rfl⟩;have hpn:p<pn':=by rw[<-hp];exact HGR.out.2.2.1 _ (List.getElem_mem hkl)
          have c0:=(HBW.out.cell (p:=⟨gb,fb+k,none⟩) hgb).trans (HGC.out k hkl);rw[hp]at c0;have lgb:gb<wr.heap.size:=by omega
          have hcpw:=HL.out.cp.later HBW.out;obtain ⟨gF',cF',eF,-,hgF',-,hfolc⟩:=hcpw.fol;have hpf:p<b.fol.length:=by rw[HN.out.1];exact hpn
          obtain ⟨rvv,x6,hsl6,-,-,hnone⟩:=hfolc p hpf;obtain ⟨rfl,-⟩:gF=gF'/\True:=by
           injection eF with eF;injection eF with eF;injection eF with eF;exact ⟨eF,trivial⟩
          obtain ⟨A6,c6,rfl,-⟩:=hsl6.form;obtain ⟨n6,hn6⟩:∃n,b.fol[p].length=n:=⟨_,rfl⟩;rw[hn6]at hsl6 x6 hnone;have hsW:=HL.out.sb.cells;have s1w:=(HBW.out.cell (p:=⟨w2.heap.size+1,1,none⟩) hsW.1).trans hsW.2.2.1;have s2w:=(HBW.out.cell (p:=⟨w2.heap.size+1,2,none⟩) hsW.1).trans hsW.2.2.2;have lsw:w2.heap.size+1<wr.heap.size:=by have:=hsW.1;omega
          obtain ⟨gE,eE,hgE,-,hcE⟩:=hcpw.ends;obtain ⟨rfl,-⟩:wZ.heap.size=gE/\True:=by
           injection eE with eE;injection eE with eE;injection eE with eE;exact ⟨eE,trivial⟩
          have x7:=hcE p (by rw[HN.out.2.1];exact hpn)
          have hpd:decide (p<pn')=true:=decide_eq_true hpn;have hlk:(folG b (grp.take k)).length+(b.fol[p]).length<=10000000000000:=by
           have h1:=HKK.out _ (List.getElem_mem hpf);have:=HROOM.out.2;have:k*10000000000<=599*10000000000:=Nat.mul_le_mul_right _ (by omega)
           omega
          have hst:folG b (grp.take k)++b.fol[p]=folG b (grp.take (k+1)):=by
           rw[List.take_succ_eq_append_getElem hkl,hp,folG_snoc];unfold folP;rw[List.getElem?_eq_getElem hpf];rfl
          have hac2:((grp.take (k+1)).any λp=>decide (p∈x.last))=(acc || decide (p∈x.last)):=by
           rw[List.take_succ_eq_append_getElem hkl,hp,List.any_append,HACC.out];simp
          have HSL:=Lib.hid hsl6;have HST:=Lib.hid (And.intro hst (And.intro hac2 hlk));have HNO:=Lib.hid (λ(h:A6=none)=>hnone n6 c6 (by rw[h]))
          obtain ⟨dd,hdd⟩:∃d,decide (p∈x.last)=d:=⟨_,rfl⟩;rw[hdd]at x7;have HDD:=Lib.hid hdd;clear hp hkl hcpw hfolc hsl6 hnone hsW hcE hst hac2 hlk hdd hlenK hn6 eF eE;go_wp2_with (at_builtin;refine app_CU Tryz.underlying22 hii hj0 hj1 hj2 rfl _ _ _ A6 n6 c6 (folG b (grp.take k)) _ WB.heap.size rfl rfl rfl rfl HCU.out HSL.out HNO.out HST.out.2.2 hwb ?_);intro v' w3 hcu3 hb3;obtain ⟨A3,n3,c3,rfl⟩:∃A n c,v' = .slice A n c:=by
           obtain ⟨A,c,e,-⟩:=own_form hcu3.1;exact ⟨_,_,_,e⟩
          have hbw3:=HBW.out.trans (hb3.mono (Nat.le_refl _));have hwb3:=hb3.size;have hz3w:WB.heap.size<=w3.heap.size:=hbw3.size;have s2w3:=(hb3.cell (p:=⟨w2.heap.size+1,2,none⟩) (by show w2.heap.size+1<WB.heap.size;exact (HL.out.sb.cells).1)).trans s2w
          have x73:=(hb3.cell (p:=⟨wZ.heap.size,p,none⟩) (by obtain ⟨g,e,h1,-⟩:=HL.out.cp.ends;injection e with e;injection e with e;injection e with e;show wZ.heap.size<WB.heap.size;omega)).trans x7
          have lsw3:w2.heap.size+1<w3.heap.size:=by omega
          have lgE3:wZ.heap.size<w3.heap.size:=by omega
          have hcu4:CU WB.heap.size (.slice A3 n3 c3) (folG b (grp.take (k+1))) w3:=by rw[<-HST.out.1];exact hcu3
          have HCU3:=Lib.hid hcu4;have HBW3:=Lib.hid hbw3;clear hcu3 hb3 hcu4 hbw3 c0 x6 s1w s2w x7
          cases acc with
          | true=>
           go_wp2_with fail;go_roundw
           case rel=>exact ⟨k+1,by omega,by go_num,by rw[HST.out.2.1];rfl,HCU3,HBW3⟩
           case measure=>simp[intOf];omega
          | false=>
           go_wp2_with fail;go_roundw
           case rel=>exact ⟨k+1,by omega,by go_num,by rw[HST.out.2.1,HDD.out];rfl,HCU3,HBW3⟩
           case measure=>simp[intOf];omega
         .have hkn:k=np:=by omega
          have hd2:decide ((k:Int)<(np:Int))=false:=decide_eq_false (by omega)
          have htk:grp.take k=grp:=List.take_of_length_le (by rw[HGR.out.2.2.2.1];omega)
          rw[htk]at HCU HACC hlenK;have hrl:=HL.out.ci.rl;have hal:acs.length=i:=by have:=Nat.pos_of_ne_zero HI0.out;rw[HL.out.ci.al];omega
          have hmkE:=HL.out.ma.own;rw[hrl]at hmkE;have hmkA:WB.ownsRow w2.heap.size 4 1 vA acs.length (rowF bC acs):=HL.out.ma.acc;rw[hal]at hmkA;obtain ⟨AE,cE,rfl,-,-⟩:=own_form hmkE;obtain ⟨AV,cA,rfl,-,-⟩:=own_form hmkA;have hNw:=(HBW.out.block (w5.heap.size+1) ((HL.out.ma.lt _ (mem_fpM.2 (.inl rfl))).2)).trans HL.out.ma.hN;obtain ⟨xn0,xn1⟩:wr.cell? ⟨w5.heap.size+1,0,none⟩=some (.slice AE i cE)/\wr.cell? ⟨w5.heap.size+1,1,none⟩=some (.slice AV i cA):=by constructor <;> (rw[cell_of_row _ _ _ _ _ _ hNw]; rfl)
          have fn1:wr.frozen? ⟨w5.heap.size+1,1,none⟩=false:=by simp[World.frozen?,hNw]
          have lNw:w5.heap.size+1<wr.heap.size:=(Array.getElem?_eq_some_iff.1 hNw).1;have hownA:=(own_later hmkA HBW.out).alloc (.cells #[.bool acc] 4);have hcx:∀j u,([.bool acc]:List Value)[j]?=some u->(wr.alloc (.cells #[.bool acc] 4)).cell? ((⟨wr.heap.size,0,none⟩:Addr).add j)=some u:=λj u hj=>by
           match j,hj with
           | 0,hj=>simp at hj;rw[<-hj,Addr.add_lit,cell_of_row _ _ _ _ _ _ (heap_alloc_new wr _)];rfl
          have hbz:w2.heap.size<=(wr.alloc (.cells #[.bool acc] 4)).heap.size:=by simp;omega
          have hbA:Below wr.heap.size wr (wr.alloc (.cells #[.bool acc] 4)):=(Below.refl _ _).alloc (Nat.le_refl _) _;have HBA:=Lib.hid (HBW.out.trans (hbA.mono hwb));have HRL:=Lib.hid (And.intro hrl hal);have HOA:=Lib.hid hownA;have HHE:=Lib.hid hmkE;have HHA:=Lib.hid hmkA;have HACQ:=Lib.hid (show acc=true↔∃p∈(gs[i]?).getD [],p∈x.last from by
           rw[HGR.out.1,<-HACC.out,List.any_eq_true];simp only[decide_eq_true_eq])
          have HLK:=Lib.hid hlenK;clear hrl hal hmkE hmkA hNw hownA hbA htk hlenK hkn;go_wp2_with (at_builtin;refine appI_at rfl _ _ 70 rfl w2.heap.size 4 ib _ 1 1 Tryz.underlying70 hib hb0 hb1 hb2 rfl (by decide) _ i (rowF bC acs) rfl HOA.out ⟨wr.heap.size,0,none⟩ 1 1 [.bool acc] rfl rfl hcx (by intro u hu;simp at hu;subst hu;rfl) (by unfold maxLen;omega) (by omega) hbz ?_)
          intro vA' w8 hown8 hg8 hf8;obtain ⟨A8,c8,rfl,-,-⟩:=own_form hown8;have HMB:=Lib.hid (HL.out.ma.later HBA.out);have nNA:(Value.slice AV i cA).ownBlock≠some (w5.heap.size+1):=HL.out.ma.neA;have hN8:=(hg8.block (w5.heap.size+1) (by simp;omega) (λe=>nNA e.symm)).trans HMB.out.hN
          have x81:w8.cell? ⟨w5.heap.size+1,1,none⟩=some (.slice AV i cA):=by rw[cell_of_row _ _ _ _ _ _ hN8];rfl
          have f81:w8.frozen? ⟨w5.heap.size+1,1,none⟩=false:=by simp[World.frozen?,hN8]
          have lN8:w5.heap.size+1<w8.heap.size:=(Array.getElem?_eq_some_iff.1 hN8).1;have hf8':Fresh (.slice A8 (i+1) c8) (.slice AV i cA) (wr.alloc (.cells #[.bool acc] 4)).heap.size:=by rw[show (wr.alloc (.cells #[.bool acc] 4)).heap.size=wr.heap.size+1 by simp];exact hf8
          have hor8:OR 4 1 bC w2.heap.size (.slice A8 (i+1) c8) (acs++[acc]) w8:=by
           show World.ownsRow _ _ _ _ _ _ _;rw[List.length_append,rowF_app,rowF_single,HRL.out.2];exact hown8
          obtain ⟨q1,q2⟩:=HMB.out.addA (λk hk=>by have:=(HL.out.sb.lt k hk).2;have:=HBA.out.size;omega) hor8 hg8 hf8'
          have hil8:=HCU.out.il.later (show Below wr.heap.size wr (wr.alloc (.cells #[.bool acc] 4)) from (Below.refl _ _).alloc (Nat.le_refl _) _);have houtM:outOf (fpM (w5.heap.size+1) (.slice AE i cE) (.slice AV i cA)) (.slice AL nL cL):=λg hg hm=>by have:=(HCU.out.1.lt g hg).1;have:=(HL.out.ma.lt g hm).2;omega
          have hsb8:=(HL.out.sb.later HBA.out).apart q2 (λk hk=>HMB.out.out k hk) HMB.out.types;have hcp8:=(HL.out.cp.later HBA.out).keep (q2.appR fp);have hbl8:=(HL.out.bl.trans (HBA.out.mono HL.out.bl.size)).trans (q2.below (λk hk=>(HL.out.ma.lt k hk).1) hbz);have hil9:=(hil8.keep houtM q2).1;have houtf:outOf fp (.slice AL nL cL):=λg hg hm=>by have:=(HCU.out.1.lt g hg).1;have:=(HL.out.sb.lt g hm).2;omega
          obtain ⟨W9,hW9⟩:∃W9,W9=w8.setCell ⟨w5.heap.size+1,1,none⟩ (.slice A8 (i+1) c8):=⟨_,rfl⟩;rw[<-hW9]at q1 q2 hsb8 hcp8 hbl8 hil9;have HMA:=Lib.hid q1;have HSB:=Lib.hid hsb8;have HCP:=Lib.hid hcp8;have HCI:=Lib.hid HL.out.ci;have HBL:=Lib.hid hbl8;have HRLB:=Lib.hid HRL.out;have HGF:=Lib.hid (show ∀p,p∈folG b grp↔grpF b x gs i p from λp=>by rw[folG_mem];unfold grpF;rw[if_neg HI0.out,HGR.out.1])
          have HLB:=Lib.hid (show ∀p∈folG b grp,p<b.sets.length from λp hp=>by
           obtain ⟨q,hq,hpq⟩:=folG_mem.1 hp;have:=(HBS.out.2.1.good.cls q (Nat.zero_le _) (by rw[HN.out.1];exact HGR.out.2.2.1 q hq) p hpq).2
           rw[HBS.out.2.1.len];exact this)
          have HLL:=Lib.hid (show (folG b grp).length<=10000000000000 by have:=HLK.out;have:k*10000000000<=600*10000000000:=Nat.mul_le_mul_right _ (by omega);omega)
          have HFV:=Lib.hid (And.intro hil9 houtf);have HWE:=Lib.hid hW9;clear hown8 hg8 hf8 hf8' hN8 hor8 q1 q2 hil8 hil9 houtM houtf hsb8 hcp8 hbl8 hcx hbz xn0 xn1 fn1 lNw;go_wp2_with fail;refine wp_named λW hW=>?_;obtain rfl:W=W9:=hW.trans HWE.out.symm;have HRL:=Lib.hid HRLB.out.1;have HE1:=Lib.hid (show W.ownsRow w2.heap.size 187 1 (.slice AE i cE) i gv from by have:=HMA.out.own;rwa [HRL.out]at this)
          have hNB:=HMA.out.hN;have HNB:=Lib.hid hNB;have xn0:W.cell? ⟨w5.heap.size+1,0,none⟩=some (.slice AE i cE):=by rw[cell_of_row _ _ _ _ _ _ hNB];rfl
          have lN:w5.heap.size+1<W.heap.size:=(Array.getElem?_eq_some_iff.1 hNB).1;have HNF:=Lib.hid (show w5.heap.size+1∉fp from HMA.out.out _ (mem_fpM.2 (.inl rfl)));have HVRW:=Lib.hid (HVR.out.below (HW2.out.trans (HBL.out.mono hww2)) HVR.out.low);have HG0:=Lib.hid HCI.out.g0;have HGL:=Lib.hid (show gs.length<=2000 by rw[HNG.out];exact hg2)
          have hi2:i<=2000:=by omega
          have hS0:StC30 (w5.heap.size+1) W 0 W.drew:=⟨Nat.le_refl _,rfl,λ_=>(Below.refl _ _).drew⟩;have lsW:w2.heap.size+1<W.heap.size:=(HSB.out.cells).1;clear hNB hW x4 lsr z0 z1 z2 lPr x5 x81 f81 lN8;go_wp2_with fail;refine wp_region_chain 9 [4,5,6,7] (factC30 w2 (w2.heap.size+1) w2.heap.size (.slice (some ⟨gS,0,none⟩) pn' cS) (.slice (some ⟨gF,0,none⟩) pn' cF) (.slice (some ⟨wZ.heap.size,0,none⟩) pn' pn') b gs fp (folG b grp) (w5.heap.size+1) i cE nL cL AE AL gv W) (λc w'=>StC30 (w5.heap.size+1) W c w') (by kernel_rfl) (by kernel_rfl) (by kernel_rfl) (by kernel_rfl) (by kernel_rfl) (by kernel_rfl) (by decide) hS0 ?_ ?_
          .simp only[pq4,pq5];refine HSteps.pure (by decide) ?_ (HSteps.pure (by decide) ?_ (HSteps.pure (by decide) ?_ (HSteps.pure (by decide) ?_ (HSteps.eff 0 rfl ?_ (HSteps.eff 1 rfl ?_ (HSteps.eff 2 rfl ?_ (HSteps.eff 3 rfl ?_ (HSteps.pure (by decide) ?_ (HSteps.nil)))))))))
           all_goals first | (with_reducible intro v wz c hlo hS hE K hK;simp only[putAll,Act.put,pq1,pq2,pq3,Nat.zero_add,Nat.reduceAdd,pq4,pq5]at hK|-) | (intro v wz hS hE K hK;simp only[putAll,Act.put,pq1,pq2,pq3,Nat.zero_add,Nat.reduceAdd,pq4,pq5]at hK|-)
           .have HX:=Lib.hid hS;clear hS hE hlo;go_wp2_with fail;exact hK.out _ rfl
           .have e0:v 0=_:=hE.1 rfl;rw[e0]at hK|-;have c1:=(World.cell?_of_block (a:=⟨w5.heap.size+1,0,none⟩) hS.2.1).trans xn0;have l1:w5.heap.size+1<wz.heap.size:=by have:=hS.1;omega
            have HX:=Lib.hid hS;clear hS hE hlo;go_wp2_with fail;exact hK.out _ rfl
           .have HX:=Lib.hid hS;clear hS hE hlo;go_wp2_with fail;exact hK.out _ rfl
           .have HX:=Lib.hid hS;clear hS hE hlo;go_wp2_with fail;exact hK.out _ rfl
           .have e3:v 3=_:=hE.1 rfl;rw[e3]at hK|-;have hb:=hS.2.2 (by omega)
            have hcall:=sorted_any (.slice AL nL cL) (folG b grp) wz (HFV.out.1.later hb) HLL.out;have HC:=Lib.hid hcall;have HX:=Lib.hid hS;clear hS hE hcall hb;go_wp2_with fail;refine HC.out.mono ?_;rintro e wy ⟨v',r,rfl,hso,how,hil,hbw⟩;obtain ⟨A',c',rfl,-,-⟩:=own_form how;have HP:=Lib.hid (And.intro hso (And.intro (own_mono how HX.out.1) (And.intro hil hbw)));clear hso how hil hbw;go_wp2_with fail;refine hK.out _ _ (λj z hj h=>?_) ⟨Nat.le_trans HX.out.1 HP.out.2.2.2.size,(HP.out.2.2.2.block (w5.heap.size+1) (by have:=HX.out.1;omega)).trans HX.out.2.1,λ_=>(HX.out.2.2 (by omega)).trans (HP.out.2.2.2.mono HX.out.1)⟩ (λ_=>⟨A',r,c',rfl,HP.out.1,HP.out.2.1,HP.out.2.2.1⟩)
            match j with
            | 0 | 1 | 2 | 3 | 8=>exact h
            | 4=>exact absurd rfl hj
            | 5=>exact λhc=>by omega
            | 6=>exact λhc=>by omega
            | 7=>exact λhc=>by omega
            | _+9=>exact trivial
           .have e2:v 2=_:=hE.1 rfl;rw[e2]at hK|-;have E4:=hE.2.1 rfl;obtain ⟨Ar,r,cr,e4,hso,how,hil⟩:=E4 rfl;rw[e4]at hK how hil|-;have hb:=hS.2.2 (by omega)
            have hrb:∀p∈r,p<b.sets.length:=λp hp=>HLB.out p ((hso.2 p).1 hp);have hcall:=edges_any w2 (w2.heap.size+1) w2.heap.size (.slice (some ⟨gS,0,none⟩) pn' cS) (.slice (some ⟨gF,0,none⟩) pn' cF) (.slice (some ⟨wZ.heap.size,0,none⟩) pn' pn') b gs fp wz r _ (HSB.out.later hb) ((HCP.out.later hb).set.weak λk hk=>List.mem_append_left _ hk) (HBL.out.trans (hb.mono HBL.out.size)) HRG.out hil (λg hg hm=>by have:=(how.lt g hg).1;have:=(HSB.out.lt g hm).2;omega) hrb (asc_len (a:=0) hso.1 λp hp=>⟨Nat.zero_le _,by have:=hrb p hp;have:=HN.out.2.1;omega⟩) (by rw[HN.out.2.1];omega) (by have:=HGL.out;omega) HG0.out (HVRW.out.later hb) HLOW.out
            have HC:=Lib.hid hcall;have HX:=Lib.hid (And.intro hS (And.intro hso hb));clear hS hE hcall hb hrb hso how hil E4 e4;go_wp2_with fail;refine HC.out.mono ?_;rintro e wy ⟨row,gs',fp',rv,rfl,⟨hr1,hr2,hr3⟩,hsb,hkf,hri,hgg,hl1,hl2⟩;obtain ⟨A',c',hrf,-,-⟩:=hr1.form;have HP:=Lib.hid (And.intro hr1 (And.intro hr2 (And.intro hr3 (And.intro hsb (And.intro hkf (And.intro hri (And.intro hgg hl1)))))));clear hr1 hr2 hr3 hsb hkf hri hgg hl1 hl2 hrf;go_wp2_with fail;have hz1:=HX.out.1.1;have hz2:=HP.out.2.2.2.2.1.size;refine hK.out _ _ (λj z hj h=>?_) ⟨by omega,(HP.out.2.2.2.2.1.blk (w5.heap.size+1) (by omega) HNF.out).trans HX.out.1.2.1,λh=>by omega⟩ (λ_=>⟨r,row,gs',fp',HX.out.2.1,⟨HP.out.1,HP.out.2.1,λg hg=>⟨by have:=(HP.out.2.2.1 g hg).1;omega,(HP.out.2.2.1 g hg).2⟩⟩,HP.out.2.2.2.1,(KeepF.of_below HX.out.2.2).trans HP.out.2.2.2.2.1,HP.out.2.2.2.2.2.1,HP.out.2.2.2.2.2.2.1,HP.out.2.2.2.2.2.2.2⟩)
            match j with
            | 0 | 1 | 2 | 3 | 8=>exact h
            | 5=>exact absurd rfl hj
            | 4=>exact λhc=>by omega
            | 6=>exact λhc=>by omega
            | 7=>exact λhc=>by omega
            | _+9=>exact trivial
           .have E5:=hE.1 rfl;have hef:=E5 rfl;obtain ⟨r,row,gs',fp',q1,⟨q2,q3,q4⟩,q5⟩:=id hef;obtain ⟨A5,c5,e5,-,-⟩:=q2.form;obtain ⟨n5,hn5⟩:∃n,row.length=n:=⟨_,rfl⟩;rw[hn5]at e5;rw[e5]at hK hef|-;have HEF:=Lib.hid hef;have HX:=Lib.hid hS;clear hS hE hef q1 q2 q3 q4 q5 E5 e5;have hzW:=HX.out.1;go_wp2_with fail;have hbz:Below wz.heap.size wz (wz.alloc (.cells #[.slice A5 n5 c5] 187)):=(Below.refl _ _).alloc (Nat.le_refl _) _;refine hK.out _ _ (λj z hj h=>?_) ⟨by simp;omega,(hbz.block (w5.heap.size+1) (by omega)).trans HX.out.2.1,λh=>by omega⟩ (λ_=>⟨wz.heap.size, .slice A5 n5 c5,rfl,hzW,by simp,by go_simp,rfl,HEF.out.later hbz⟩)
            match j with
            | 0 | 1 | 2 | 3 | 8=>exact h
            | 6=>exact absurd rfl hj
            | 4=>exact λhc=>by omega
            | 5=>exact λhc=>by omega
            | 7=>exact λhc=>by omega
            | _+9=>exact trivial
           .have e1:v 1=_:=hE.1 rfl;rw[e1]at hK|-;have E6:=hE.2.1 rfl;obtain ⟨g,rv,e6,hgW,hgl,hg0,h1c,hef⟩:=E6 rfl;rw[e6]at hK|-;obtain ⟨r,row,gs',fp',q1,q2,q3,q4,q5⟩:=id hef;have hown:wz.ownsRow w2.heap.size 187 1 (.slice AE i cE) i gv:=own_same HE1.out λg hg=>q4.blk g (HE1.out.lt g hg).2 λhm=>HMA.out.out g (mem_fpM.2 (.inr (.inl hg))) hm;have hzz:=hS.1;have hcell:∀j u,([rv]:List Value)[j]?=some u->wz.cell? ((⟨g,0,none⟩:Addr).add j)=some u:=λj u hj=>by
             match j,hj with
             | 0,hj=>simp at hj;rw[<-hj,Addr.add_lit];exact hg0
            have HEF:=Lib.hid hef;have HX:=Lib.hid hS;clear hS hE hef q1 q2 q3 q4 q5 E6;go_wp2_with (at_builtin;refine appI_at rfl _ _ 91 rfl w2.heap.size 187 ie (.slice none 0 0) 1 24 Tryz.underlying91 hie he0 he1 he2 rfl (by decide) _ i gv rfl hown ⟨g,0,none⟩ 1 1 [rv] rfl rfl hcell (by intro u hu;simp at hu;subst hu;exact h1c) (by unfold maxLen;omega) (by omega) (by have:=HBL.out.size;omega) ?_)
            intro v' wx hown1 hg1 hfr;obtain ⟨A',c',rfl,-,-⟩:=own_form hown1;refine hK.out _ _ (λj z hj h=>?_) ⟨Nat.le_trans HX.out.1 hg1.size,(hg1.block (w5.heap.size+1) (by omega) (λe=>HMA.out.neE e.symm)).trans HX.out.2.1,λh=>by omega⟩ (λ_=>⟨rv,wz,A',c',rfl,HEF.out,hg1,hown1,hfr⟩)
            match j with
            | 0 | 1 | 2 | 3 | 8=>exact h
            | 7=>exact absurd rfl hj
            | 4=>exact λhc=>by omega
            | 5=>exact λhc=>by omega
            | 6=>exact λhc=>by omega
            | _+9=>exact trivial
           .have HX:=Lib.hid hS;clear hS hE hlo;go_wp2_with fail;exact hK.out _ rfl
          .intro v wz hS hF;have e0:v 0=_:=hF 0 (by decide)
           have e1:v 1=_:=hF 1 (by decide)
           have e2:v 2=_:=hF 2 (by decide)
           have e3:v 3=_:=hF 3 (by decide)
           have e8:v 8=_:=hF 8 (by decide)
           have E4:=hF 4 (by decide)
           have E5:=hF 5 (by decide)
           have E6:=hF 6 (by decide)
           have E7:=hF 7 (by decide)
           simp only[putAll,Act.put,pq1,pq2,pq3,Nat.zero_add,Nat.reduceAdd,pq4,pq5,List.drop_succ_cons,List.drop_zero,e0,e1,e2,e3,e8];clear hF e0 e1 e2 e3 e8;obtain ⟨rv,w6,A7,c7,e7,hef,hg7,ho7,hf7⟩:=E7 rfl;rw[e7]at ho7 hf7|-;have hNz:=hS.2.1.trans HNB.out;have xz0:wz.cell? ⟨w5.heap.size+1,0,none⟩=some (.slice AE i cE):=by rw[cell_of_row _ _ _ _ _ _ hNz];rfl
           have fz0:wz.frozen? ⟨w5.heap.size+1,0,none⟩=false:=by simp[World.frozen?,hNz]
           have lNz:w5.heap.size+1<wz.heap.size:=(Array.getElem?_eq_some_iff.1 hNz).1;obtain ⟨row,gs',fp',hcl,hgl'⟩:=cp_next (w0:=w2) HMA.out HCP.out HCI.out (by rw[if_neg HI0.out];exact ⟨_,rfl,HACQ.out⟩) (show i<gs.length by rw[HNG.out];exact hlt) HBL.out HGF.out HLB.out hef hg7 (by rw[HRL.out];exact ho7) hf7 (λk hk=>(HSB.out.lt k hk).1)
           have hns1:¬w5.heap.size+1=w2.heap.size+1:=λe=>by have:=hcl.ma.out _ (mem_fpM.2 (.inl rfl));have h8:=hcl.sb;obtain ⟨vg8,gv8,F8,hfp8,-⟩:=h8;rw[hfp8,e]at this;exact this (by simp[fpG])
           have hns2:¬w2.heap.size+1=w5.heap.size+1:=λe=>hns1 e.symm;have hset:∀k,k≠w5.heap.size+1->(wz.setCell ⟨w5.heap.size+1,0,none⟩ (.slice A7 (i+1) c7)).heap[k]?=wz.heap[k]?:=λk hk=>Below.heap_setCell _ _ _ _ hk;obtain ⟨Ag',cg',x4',hcg',-⟩:=hcl.sb.groups;obtain ⟨ng',hng'⟩:∃n,gs'.length=n:=⟨_,rfl⟩;rw[hng']at x4';have x4z:wz.cell? ⟨w2.heap.size+1,4,none⟩=some (.slice Ag' ng' cg'):=(World.cell?_of_block (a:=⟨w2.heap.size+1,4,none⟩) (hset _ hns2)).symm.trans x4';have lsz2:w2.heap.size+1<wz.heap.size:=by have:=hS.1;omega
           have hgb:ng'<=100000:=by rw[<-hng'];have:=HNG.out;omega
           have HCL:=Lib.hid hcl;have HNG':=Lib.hid hng';clear hS hef hg7 ho7 hf7 hNz e7 E4 E5 E6 E7 hcl hgl' x4' hng';by_cases h2k:2000<ng'
           .have d4:decide (2000<(ng':Int))=true:=decide_eq_true (by omega)
            have hRz:=(hset (w.heap.size+1) (by omega)).symm.trans ((HCL.out.bl.block (w.heap.size+1) (by omega)).trans HZ1.out)
            obtain ⟨rz0,rz1⟩:wz.cell? ⟨w.heap.size+1,0,none⟩=some (.slice none 0 0)/\wz.cell? ⟨w.heap.size+1,1,none⟩=some (.slice none 0 0):=by constructor <;> (rw[cell_of_row _ _ _ _ _ _ hRz]; rfl)
            have gz0:wz.frozen? ⟨w.heap.size+1,0,none⟩=false:=by simp[World.frozen?,hRz]
            have gz1:wz.frozen? ⟨w.heap.size+1,1,none⟩=false:=by simp[World.frozen?,hRz]
            have lRz:w.heap.size+1<wz.heap.size:=by omega
            have nRN:¬w.heap.size+1=w5.heap.size+1:=by omega
            have nRN2:¬w5.heap.size+1=w.heap.size+1:=by omega
            clear hRz hset;go_wp2_with fail;refine post_named λWf hWf=>?_;refine bodyPost_ret (v:=.tuple #[mcNil, .int .i64 3]) (by rw[hWf];simp[results,Tryz.results109,go_sem,rz0,rz1,lRz,mcNil];try rfl) rfl ?_
            have hbf:Below w.heap.size w Wf:=by
             rw[hWf];have h1:=HW2.out.trans (HCL.out.bl.mono hww2);exact (h1.setCell (p:=⟨w.heap.size+1,0,none⟩) (by show w.heap.size<=w.heap.size+1;omega) _).setCell (p:=⟨w.heap.size+1,1,none⟩) (by show w.heap.size<=w.heap.size+1;omega) _
            exact ⟨hbf, .inr (.inr ⟨HQ.out.1,HROOM.out.1,b,x,gs',_,_,i+1,HBS.out.2.1,by rw[HN.out.1,HN.out.2.2.1],HBYT.out,HCL.out.ci, .inl ⟨by rw[HNG'.out];exact h2k,rfl⟩⟩)⟩
           .have d4:decide (2000<(ng':Int))=false:=decide_eq_false (by omega)
            have hcil:=HCL.out.ci.il;clear hset;go_wp2_with fail;go_roundw
            case rel=>exact ⟨i+1,gs',fp',_,_,_,_,_,by go_num,hcil,by rw[HNG'.out];omega,HCL⟩
            case measure=>simp[intOf];omega
      .have hie:i=ng:=by omega
       have hd:decide ((i:Int)<(ng:Int))=false:=decide_eq_false (by omega)
       have hci:=HL.out.ci;rw[hie,<-HNG.out]at hci;obtain ⟨hvld,hrows,-⟩:=hci.done HBYT.out;have hrl:=HL.out.ci.rl;have h0:1<=i:=by have:=(List.getElem?_eq_some_iff.1 HL.out.ci.g0).1;have:=HNG.out;omega
       have hsm:McSm ⟨rs,acs⟩:=⟨λr hr=>(hrows r hr).2,λr hr=>Nat.le_trans (hrows r hr).1 (by decide),by show rs.length<=_;omega⟩
       have hvrw:=HVR.out.below (HW2.out.trans (HL.out.bl.mono hww2)) HVR.out.low;have hmkE:=HL.out.ma.own;have hmkA:wr.ownsRow w2.heap.size 4 1 vA acs.length (rowF bC acs):=HL.out.ma.acc;obtain ⟨AE,cE,rfl,-,-⟩:=own_form hmkE;obtain ⟨AV,cA,rfl,-,-⟩:=own_form hmkA;have hle:=least_any _ ⟨rs,acs⟩ wr HL.out.ma.mcIn hvld hsm (by show 1<=rs.length;omega) hvrw
       obtain ⟨nE,hnE⟩:∃n,rs.length=n:=⟨_,rfl⟩;obtain ⟨nV,hnV⟩:∃n,acs.length=n:=⟨_,rfl⟩;have hNw:=HL.out.ma.hN;rw[hnE,hnV]at hle hNw;obtain ⟨xn0,xn1⟩:wr.cell? ⟨w5.heap.size+1,0,none⟩=some (.slice AE nE cE)/\wr.cell? ⟨w5.heap.size+1,1,none⟩=some (.slice AV nV cA):=by constructor <;> (rw[cell_of_row _ _ _ _ _ _ hNw]; rfl)
       have lNw:w5.heap.size+1<wr.heap.size:=(Array.getElem?_eq_some_iff.1 hNw).1;have HLE:=Lib.hid hle;have HCI:=Lib.hid hci;clear hci hvld hrows hrl hsm hvrw hmkE hmkA hle hnE hnV hNw hie;go_wp2_with fail;refine HLE.out.mono ?_;rintro e w9 ⟨rv,m',rfl,hup,hb9,hok⟩;obtain ⟨ve9,va9,rfl,he9,ha9⟩:=hup.mc;obtain ⟨A9,c9,rfl,-⟩:=he9.form;obtain ⟨B9,d9,rfl,-⟩:=ha9.form;obtain ⟨n9,hn9⟩:∃n,m'.ed.length=n:=⟨_,rfl⟩;obtain ⟨m9,hm9⟩:∃n,m'.ac.length=n:=⟨_,rfl⟩;rw[hn9,hm9]at hup|-;have hz9:=hb9.size;have hR9:=(hb9.block (w.heap.size+1) (by omega)).trans ((HL.out.bl.block (w.heap.size+1) (by omega)).trans HZ1.out)
       obtain ⟨rz0,rz1⟩:w9.cell? ⟨w.heap.size+1,0,none⟩=some (.slice none 0 0)/\w9.cell? ⟨w.heap.size+1,1,none⟩=some (.slice none 0 0):=by constructor <;> (rw[cell_of_row _ _ _ _ _ _ hR9]; rfl)
       have gz0:w9.frozen? ⟨w.heap.size+1,0,none⟩=false:=by simp[World.frozen?,hR9]
       have gz1:w9.frozen? ⟨w.heap.size+1,1,none⟩=false:=by simp[World.frozen?,hR9]
       have lR9:w.heap.size+1<w9.heap.size:=by omega
       have HUP:=Lib.hid (And.intro hup (And.intro hb9 hok));clear hup hb9 hok he9 ha9 hR9 hn9 hm9;go_wp2_with fail;refine post_named λWf hWf=>?_;refine bodyPost_ret (v:=.tuple #[.agg #[.slice A9 n9 c9, .slice B9 m9 d9], .int .i64 0]) (by rw[hWf];simp[results,Tryz.results109,go_sem,rz0,rz1,lR9];try rfl) rfl ?_
       have hkl:KeepF [w.heap.size+1] [] w9 Wf:=by
        rw[hWf];have hne:∀k,k∉[w.heap.size+1]->k≠w.heap.size+1:=λk hn e=>hn (List.mem_singleton.2 e);exact ⟨rfl,rfl,rfl,by simp[World.setCell],λk _ hn=>(Below.heap_setCell (w9.setCell ⟨w.heap.size+1,0,none⟩ _) ⟨w.heap.size+1,1,none⟩ _ k (hne k hn)).trans (Below.heap_setCell w9 ⟨w.heap.size+1,0,none⟩ _ k (hne k hn)),λk hk=>by cases hk⟩
       have hbw:Below w.heap.size w wr:=HW2.out.trans (HL.out.bl.mono hww2);have hbf:Below w.heap.size w Wf:=(hbw.trans (HUP.out.2.1.mono hbw.size)).trans (hkl.below (λk hk=>by rw[List.mem_singleton]at hk;omega) (by omega))
       have hupf:=(HUP.out.1.keep hkl (λk hk=>by rw[List.mem_singleton]at hk;omega)).mono hbw.size
       exact ⟨hbf, .inr (.inr ⟨HQ.out.1,HROOM.out.1,b,x,gs,rs,acs,gs.length,HBS.out.2.1,by rw[HN.out.1,HN.out.2.2.1],HBYT.out,HCI.out, .inr ⟨rfl,by rw[HNG.out];exact hg2,_,m',rfl,hupf,HUP.out.2.2⟩⟩)⟩
end Go.Proofs.YtdmoogjddmdmbaaGreatDoor
namespace Go.Proofs.YtdmoogjddmdmbaaGreatDoor
set_option linter.unusedVariables false
set_option linter.unusedSimpArgs false
set_option maxRecDepth 100000
open Go.RowKit
def ndAA:Nd:=.mk 4 [] [.mk 1 [(97,97)] [] 0 0] 1 2
def mcAA:Mc:=⟨[[⟨97,97,1⟩],[⟨97,97,2⟩],[]],[false,true,true]⟩
end Go.Proofs.YtdmoogjddmdmbaaGreatDoor
