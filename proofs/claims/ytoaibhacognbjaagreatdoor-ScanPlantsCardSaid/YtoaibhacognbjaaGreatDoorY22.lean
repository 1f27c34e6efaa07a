/- Walks: machine.classes. Conditions: the variables read as laid. · Walks: machine.least. Conditions: the variables read as laid. · A compile: where groups begin; what it answers. · A compile: a round of the groups. -/
import Derived.Test.YtoaibhacognbjaaGreatDoorY16
import Derived.Test.YtoaibhacognbjaaGreatDoorY05
import Derived.Test.YtoaibhacognbjaaGreatDoorY21
import Derived.Test.YtoaibhacognbjaaGreatDoorY12
namespace Go.Proofs.YtoaibhacognbjaaGreatDoor
set_option linter.unusedVariables false
set_option linter.unusedSimpArgs false
set_option maxRecDepth 100000
open Go.RowKit
open Go.Maps (Keyed)
def factCl (N ga fa n ca ge fe ce k:Nat) (bb:Bool) (rv cv:Value) (cs:List (Option Nat)) (row:List Ed) (NB:ByteArray):Nat→Nat→Value→World→Prop
 | c,0,x,w=>x = .pointer (some ⟨N,1,none⟩)
 | c,1,x,w=>x = .slice (some ⟨ga,fa,none⟩) n ca
 | c,2,x,w=>x = .int .i64 (k:Int)
 | c,3,x,w=>x = .pointer (some ⟨ga,fa+k,none⟩)
 | c,4,x,w=>x = .bool bb
 | c,5,x,w=>x = .pointer (some ⟨N,0,none⟩)
 | c,6,x,w=>x = .slice (some ⟨ge,fe,none⟩) n ce
 | c,7,x,w=>x = .int .i64 (k:Int)
 | c,8,x,w=>x = .pointer (some ⟨ge,fe+k,none⟩)
 | c,9,x,w=>x=rv
 | c,10,x,w=>x=cv
 | c,11,x,w=>∃A c,x = .slice A (joinF (clF cs) row).length c∧EdIn w x (joinF (clF cs) row)
 | c,12,x,w=>x = .string NB
 | _,_,_,_=>True
structure RdR (m:Mc) (WB:World) (cs ds:List (Option Nat)) (seen:List (Bool×List Ed)) (F:Lit→Option Value) (n k:Nat) (wr:World):Prop where
 mn:MN Tryz.prog 9 WB.heap.size seen.length F wr
 sy:SaysD F seen
 own:OR 3 1 clC (WB.heap.size+1) (.slice (some ⟨WB.heap.size+1,0,none⟩) n n) ds wr
 ri:RndI m cs ds seen k
 bl:Below WB.heap.size WB wr
set_option maxHeartbeats 16000000 in
theorem classes_any (v:Value) (m:Mc) (w:World) (hm:McIn w v m) (hv:Vld m) (hsm:McSm m) (h1:1≤m.ed.length) (hvr:VrOK w) :
  Calls Tryz.prog 178 #[v] w (ClPost m m.ed.length w):=by
 have hal:=fun W (h:Below w.heap.size w W)=>alive_any v m W (hm.later h) hv hsm h1;obtain ⟨ve,va,rfl,he,ha⟩:=hm;obtain ⟨Ae,ce,rfl,hce1,hce2⟩:=he.form;obtain ⟨Aa,ca,rfl,hca1,hca2⟩:=ha.form;obtain ⟨n,hn⟩:∃n,m.ed.length=n:=⟨_,rfl⟩;have hac:m.ac.length=n:=by rw[hv.len,hn]
 have hnn:=hsm.n;rw[hac]at ha hca1;rw[hn]at he hce1 h1 hnn;rw[hn,hac]at hal;have HAL:=Lib.hid hal;have HE:=Lib.hid he;have HA:=Lib.hid ha;have HV:=Lib.hid hv;have HSM:=Lib.hid hsm;have HN:=Lib.hid (And.intro hn hac);have HVR:=Lib.hid hvr;have K:Keyed Tryz.prog 9:=Maps.string_keyed Tryz.underlying9;have hz:∀w,(zeroValue 3).run Tryz.prog w = .ok (.int .i64 0) w:=fun _=>by kernel_rfl
 have hmk:=mk_zeros n (by omega)
 have hmm:=@run_makeMap Tryz.prog;rw[hac,hn];have hlow:=hvr.low;clear hal he ha hv hsm hn hac hvr
 go_enter Tryz.func178,Tryz.ntmps178
 go_wp2_with fail;refine (HAL.out _ ?hb0).mono ?_
 case hb0=>exact ((Below.refl w.heap.size w).alloc (Nat.le_refl _) _).alloc (by simp) _
 rintro e w1 ⟨rv,o,rfl,hown1,hb1,ho1,ho2⟩;have hzz0:((w.alloc (.cells #[.slice Ae n ce, .slice Aa n ca] 76)).alloc (.cells (Array.replicate n (.int .i64 0)) 3)).heap.size=w.heap.size+2:=by simp
 have hzero:=zeros_new (w.alloc (.cells #[.slice Ae n ce, .slice Aa n ca] 76)) n (by omega)
 have hsz1:(w.alloc (.cells #[.slice Ae n ce, .slice Aa n ca] 76)).heap.size=w.heap.size+1:=by simp
 rw[hsz1]at hzero;have hbx1:w1.heap[w.heap.size]?=some (.cells #[.slice Ae n ce, .slice Aa n ca] 76 (0,0)):=(hb1.block _ (by omega)).trans ((old_alloc _ _ _ (by simp)).trans (heap_alloc_new w _))
 have hcl1:OR 3 1 clC (w.heap.size+1) (.slice (some ⟨w.heap.size+1,0,none⟩) n n) (firstC o 0 n) w1:=by rw[firstC_zero];exact hzero.later hb1
 have hob1:=(BlIn.of_OR hown1);have hb1z:=hb1.size;rw[hzz0]at hb1z;have hbw1:Below w.heap.size w w1:=(((Below.refl w.heap.size w).alloc (Nat.le_refl _) _).alloc (by simp) _).trans (hb1.mono (by omega))
 obtain ⟨Ao,co,eo,hco1,hco2⟩:=hob1.form;subst eo;have HO12:=Lib.hid (And.intro ho1 ho2);have HOB:=Lib.hid hob1;have HBX1:=Lib.hid hbx1;have HCL1:=Lib.hid hcl1;have HBW1:=Lib.hid hbw1;have hgo1:=hown1.1
 -- the row of what is alive lies above
 have hoA:o=[]∨∃g f,Ao=some ⟨g,f,none⟩∧w.heap.size+2≤g:=by
  by_cases h0:o=[]
  ·exact .inl h0
  ·obtain ⟨A,c,e,-,hor⟩:=hown1.cells bC_E;obtain ⟨g,hA,hg,-,-⟩:=hor.resolve_left h0;injection e with e1 _ _;rw[hzz0]at hg;exact .inr ⟨g,0,by rw[e1,hA],hg⟩
 have HOA:=Lib.hid hoA;rw[ho1];rw[ho1]at hco1;clear hown1 hzz0 hzero hsz1 hbx1 hcl1 hob1 hbw1 ho1 ho2 hb1 hgo1 hoA;go_wp2_with fail
 go_loopw [21] (fun iv wr=>∃k:Nat,k≤n∧iv = .int .i64 (k:Int)∧Hid (OR 3 1 clC (w.heap.size+1) (.slice (some ⟨w.heap.size+1,0,none⟩) n n) (firstC o k n) wr)∧Hid (KeepF [w.heap.size+1] [w.heap.size+1] w1 wr)) (fun iv _=>n - (intOf iv).toNat)
 case atStart=>exact ⟨0,Nat.zero_le _,rfl,HCL1,KeepF.refl _ _⟩
 case round=>
  obtain ⟨k,hk,rfl,HC,HK⟩:=hrel;have hwz:=HK.out.size;by_cases hlt:k<n
  ·have hd:decide ((k:Int)<(n:Int))=true:=decide_eq_true (by omega)
   have hkl:k<o.length:=by rw[HO12.out.1];exact hlt
   obtain ⟨g,f,rfl,-,hg,c0⟩:=HOB.out.at_ hkl;have hgA:w.heap.size+2≤g:=by
    rcases HOA.out with h | ⟨g',f',e',h⟩
    ·rw[h]at hkl;cases hkl
    ·injection e' with e';injection e' with e1 _;rw[e1];exact h
   have c0r:=(World.cell?_of_block (a:=⟨g,f+k,none⟩) (HK.out.blk g hg (by simp;omega))).trans c0
   obtain ⟨q,hq⟩:∃q,o[k]=q:=⟨_,rfl⟩;rw[hq]at c0r;have hok:o[k]?=some q:=by rw[List.getElem?_eq_getElem hkl,hq]
   have HOK:=Lib.hid hok;have hgr:g<wr.heap.size:=by omega
   obtain ⟨y0,y1⟩:=HC.out.cellC k (by rw[firstC_len];exact hlt)
   have hgy:=HC.out.lt1;have hkd:decide (k<n)=true:=decide_eq_true hlt;clear c0 hq hok hkl
   cases q with
   | true=>
    go_wp2_with fail;go_roundw
    case rel=>exact ⟨k+1,by omega,by go_num,by rw[firstC_true HOK.out];exact HC,HK⟩
    case measure=>simp[intOf];omega
   | false=>
    have hset:=HC.out.setC (firstC_len _ _ _) k none;have hset2:OR 3 1 clC (w.heap.size+1) (.slice (some ⟨w.heap.size+1,0,none⟩) n n) (firstC o (k+1) n) (wr.setCell ⟨w.heap.size+1,k,none⟩ (.int .i64 (-1))):=by rw[firstC_false HOK.out];exact hset
    have HS2:=Lib.hid hset2;have hk2:KeepF [w.heap.size+1] [w.heap.size+1] w1 (wr.setCell ⟨w.heap.size+1,k,none⟩ (.int .i64 (-1))):=HK.out.trans ⟨rfl,rfl,rfl,by simp[World.setCell],fun q _ hn=>Below.heap_setCell _ _ _ _ (fun e=>hn (by simp[show q=w.heap.size+1 from e])),fun k hk=>.inl hk⟩
    have HK2:=Lib.hid hk2;clear hset hset2 hk2;go_wp2_with fail;go_roundw
    case rel=>exact ⟨k+1,by omega,by go_num,HS2,HK2⟩
    case measure=>simp[intOf];omega
  ·obtain rfl:k=n:=by omega
   have hd:decide ((k:Int)<(k:Int))=false:=decide_eq_false (by omega)
   have hbxr:=(HK.out.blk w.heap.size (by omega) (by simp)).trans HBX1.out
   have hblr:Below w.heap.size w wr:=HBW1.out.trans (HK.out.below (fun q hq=>by rw[List.mem_singleton]at hq;omega) HBW1.out.size)
   have hhd:=HeadC.first (m:=m) (o:=o) (by rw[HO12.out.1,HN.out.1]) (by rw[HN.out.1];exact HO12.out.2) (by rw[HN.out.1];exact h1)
   rw[HN.out.1]at hhd;have HBXR:=Lib.hid hbxr;have HBLR:=Lib.hid hblr;have HHD:=Lib.hid hhd;obtain ⟨W1,rfl⟩:∃W:World,W=wr:=⟨_,rfl⟩;clear hbxr hblr hhd;go_wp2_with fail
   go_loopg [3,6] (k+2) (fun q cv kv wr=>∃(g3 c3 kn:Nat) (cs:List (Option Nat)),cv = .slice (some ⟨g3,0,none⟩) k c3∧kv = .int .i64 (kn:Int)∧q+kn=k+2∧kn≤k∧Hid (OR 3 1 clC (w.heap.size+1) (.slice (some ⟨g3,0,none⟩) k c3) cs wr)∧Hid (HeadC m cs kn)∧Hid (wr.heap[w.heap.size]?=some (.cells #[.slice Ae k ce, .slice Aa k ca] 76 (0,0)))∧Hid (Below w.heap.size w wr))
   case atStart=>exact ⟨w.heap.size+1,k,0,firstC o k k,rfl,rfl,rfl,Nat.zero_le _,HC,HHD,HBXR,HBLR⟩
   case round=>
    obtain ⟨g3,c3,kn,cs,rfl,rfl,hq,hkn,HCS,HH,HBX,HBL⟩:=hrel;obtain ⟨WB,rfl⟩:∃W:World,W=wr:=⟨_,rfl⟩;have hg3:=HCS.out.lt1;have hcsl:cs.length=k:=by rw[HH.out.len,HN.out.1]
    have hwB:=HBL.out.size;have hNB:w.heap.size<WB.heap.size:=(Array.getElem?_eq_some_iff.1 HBX.out).1;have hmn0:MN Tryz.prog 9 WB.heap.size 0 (fun _=>none) (WB.alloc (.map #[] 0)):=MN.made _ _ _;have hz0:=zeros_new (WB.alloc (.map #[] 0)) k (by omega)
    have hszm:(WB.alloc (.map #[] 0)).heap.size=WB.heap.size+1:=by simp
    rw[hszm]at hz0;have hR0:RdR m WB cs (List.replicate k (some 0)) [] (fun _=>none) k 0 ((WB.alloc (.map #[] 0)).alloc (.cells (Array.replicate k (.int .i64 0)) 3)):=
     ⟨hmn0.kept (old_alloc _ _ _ (by omega)),SaysD.nil,hz0,RndI.start _ (by simp[HN.out.1]),((Below.refl _ WB).alloc (Nat.le_refl _) _).alloc (by omega) _⟩
    have HR0:=Lib.hid hR0;have HCSL:=Lib.hid hcsl;clear hmn0 hz0 hszm hR0 hcsl;go_wp2_with fail
    go_loopw [38] (fun iv wr=>∃(j:Nat) (ds:List (Option Nat)) (seen:List (Bool×List Ed)) (F:Lit→Option Value),j≤k∧iv = .int .i64 (j:Int)∧Hid (RdR m WB cs ds seen F k j wr)) (fun iv _=>k - (intOf iv).toNat)
    case atStart=>exact ⟨0,_,[],_,Nat.zero_le _,rfl,HR0⟩
    case round=>
     obtain ⟨j,ds,seen,F,hj,rfl,HR⟩:=hrel;have hwr:=HR.out.bl.size;have hsl:=HR.out.own.lt1;have hdl:ds.length=k:=by rw[HR.out.ri.len,HN.out.1]
     by_cases hlt:j<k
     ·have hd:decide ((j:Int)<(k:Int))=true:=decide_eq_true (by omega)
      have hdn:decide (j<k)=true:=decide_eq_true hlt;have hjn:j<m.ed.length:=by rw[HN.out.1];exact hlt
      obtain ⟨cc0,-⟩:=HCS.out.cellC j (by rw[HCSL.out];exact hlt)
      have cc1:=(HR.out.bl.cell (p:=⟨g3,j,none⟩) hg3).trans cc0;have hg3r:g3<wr.heap.size:=by omega
      obtain ⟨dd0,dd1⟩:=HR.out.own.cellC j (by rw[hdl];exact hlt)
      have HDL:=Lib.hid hdl;clear cc0 hdl
      cases hcl:clF cs j with
      | none=>
       rw[hcl]at cc1;have cc2:wr.cell? ⟨g3,j,none⟩=some (.int .i64 (-1)):=cc1;have hset:=HR.out.own.setC HDL.out j none;have hne:WB.heap.size≠WB.heap.size+1:=by omega
       have hR2:RdR m WB cs (ds.set j none) seen F k (j+1) (wr.setCell ⟨WB.heap.size+1,j,none⟩ (.int .i64 (-1))):=
        ⟨HR.out.mn.kept (Below.heap_setCell _ _ _ _ hne),HR.out.sy,hset,HR.out.ri.none_ hjn hcl,HR.out.bl.setCell (p:=⟨WB.heap.size+1,j,none⟩) (by show WB.heap.size≤WB.heap.size+1;omega) _⟩
       have HR2:=Lib.hid hR2;clear cc1 hcl hset hR2;go_wp2_with fail;go_roundw
       case rel=>exact ⟨j+1,_,_,_,by omega,by go_num,HR2⟩
       case measure=>simp[intOf];omega
      | some cl=>
       rw[hcl]at cc1;have cc2:wr.cell? ⟨g3,j,none⟩=some (.int .i64 (cl:Int)):=cc1;have hdc:decide ((cl:Int)<0)=false:=decide_eq_false (by omega)
       have hcn:clF cs j≠none:=by rw[hcl];simp
       have HCN:=Lib.hid hcn;have hbwr:=HBL.out.trans (HR.out.bl.mono hwB);obtain ⟨ga,fa,rfl,-,hga,ca0'⟩:=HA.out.at_ (show j<m.ac.length by rw[HN.out.2];exact hlt)
       obtain ⟨ge,fe,rv0,rfl,-,hge,ce0',hed0⟩:=HE.out.at_ hjn;have ca0:=(World.cell?_of_block (a:=⟨ga,fa+j,none⟩) (hbwr.block ga hga)).trans ca0';have ce0:=(World.cell?_of_block (a:=⟨ge,fe+j,none⟩) (hbwr.block ge hge)).trans ce0';have hed:=hed0.later hbwr;obtain ⟨row,hrow⟩:∃r,m.ed[j]=r:=⟨_,rfl⟩;obtain ⟨bb,hbb⟩:∃b,m.ac[j]'(by rw[HN.out.2];exact hlt)=b:=⟨_,rfl⟩
       rw[hrow]at hed;rw[hbb]at ca0;have hrm:row∈m.ed:=by rw[←hrow];exact List.getElem_mem hjn
       have hrM:rowM m j=row:=by unfold rowM;rw[List.getElem?_eq_getElem hjn,hrow];rfl
       have haM:(m.ac[j]?).getD false=bb:=by rw[List.getElem?_eq_getElem (by rw[HN.out.2];exact hlt),hbb];rfl
       have hdsc:dsc m cs j=(bb,joinF (clF cs) row):=by unfold dsc descF;rw[hrM,haM]
       have hjb:=joinF_by (cls:=clF cs) (HV.out.srt row hrm) (HSM.out.by_ row hrm);have HTO:=Lib.hid (show ∀e∈row,e.to<cs.length from fun e he=>by rw[HCSL.out,←HN.out.1];exact HV.out.to row hrm e he)
       have HBY:=Lib.hid (HSM.out.by_ row hrm);have HJB:=Lib.hid (show ∀e∈joinF (clF cs) row,e.lo<256∧e.hi<256∧e.to<1000000 from fun e he=>by
        obtain ⟨h1,h2,f,hf,h3⟩:=hjb e he;have:=HH.out.lt _ _ h3;have:=HN.out.1;exact ⟨h1,h2,by omega⟩)
       have hrl:=HSM.out.rl row hrm;have HJL:=Lib.hid (show (joinF (clF cs) row).length≤10000 from Nat.le_trans (joinF_len _ _) hrl);have hbx:=(HR.out.bl.block _ hNB).trans HBX.out;obtain ⟨c0,c1⟩:wr.cell? ⟨w.heap.size,0,none⟩=some (.slice (some ⟨ge,fe,none⟩) k ce)∧wr.cell? ⟨w.heap.size,1,none⟩=some (.slice (some ⟨ga,fa,none⟩) k ca):=by
        constructor <;> (rw[cell_of_row _ _ _ _ _ _ hbx]; rfl)
       have hNW:w.heap.size<wr.heap.size:=by omega
       have hgaW:ga<wr.heap.size:=by omega
       have hgeW:ge<wr.heap.size:=by omega
       obtain ⟨Ar,cr,hrf,-⟩:=hed.form;obtain ⟨nrow,hnrow⟩:∃n,row.length=n:=⟨_,rfl⟩;rw[hnrow]at hrf hrl;subst hrf;have hed':EdIn wr (.slice Ar nrow cr) row:=hed;have HED:=Lib.hid hed';have HCI:=Lib.hid ((ClIn.of_OR HCS.out).later HR.out.bl);have HVW:=Lib.hid (HVR.out.below hbwr hlow);have HDS:=Lib.hid (And.intro hdsc hcl);have HNR:=Lib.hid hnrow;obtain ⟨W,hWeq⟩:∃W:World,W=wr:=⟨_,rfl⟩;subst hWeq;have hS0:Below W.heap.size W W.drew:=(Below.refl _ _).drew;have HDD:=Lib.hid (And.intro dd0 dd1);have HHZ:=Lib.hid hz;obtain ⟨NB,hNB⟩:∃N,bs (descT bb (joinF (clF cs) row))=N:=⟨_,rfl⟩;have HNB:=Lib.hid hNB;clear hNB;clear cc1 hcl hcn hbwr hga ca0' hge ce0' hed0 hed hed' hrow hbb hrm hrM haM hdsc hjb hbx dd0 dd1 hmk hmm hz;go_wp2_with fail;refine wp_region_chain 13 [] (factCl w.heap.size ga fa k ca ge fe ce j bb (.slice Ar nrow cr) (.slice (some ⟨g3,0,none⟩) k c3) cs row NB) (fun _ w'=>Below W.heap.size W w') (by kernel_rfl) (by kernel_rfl) (by kernel_rfl) (by kernel_rfl) (by kernel_rfl) (by kernel_rfl) (by decide) hS0 ?_ ?_
       ·simp only[pq4,pq5];refine HSteps.pure (by decide) ?_ (HSteps.pure (by decide) ?_ (HSteps.pure (by decide) ?_ (HSteps.pure (by decide) ?_ (HSteps.pure (by decide) ?_ (HSteps.pure (by decide) ?_ (HSteps.pure (by decide) ?_ (HSteps.pure (by decide) ?_ (HSteps.pure (by decide) ?_ (HSteps.pure (by decide) ?_ (HSteps.pure (by decide) ?_ (HSteps.free (by decide) ?_ (HSteps.free (by decide) ?_ (HSteps.nil)))))))))))))
        all_goals first | (intro v wz c hlo hS hE K hK;simp only[putAll,Act.put,pq1,pq2,pq3,Nat.zero_add,Nat.reduceAdd,pq4,pq5]at hK⊢) | (intro v wz hS hE K hK;simp only[putAll,Act.put,pq1,pq2,pq3,Nat.zero_add,Nat.reduceAdd,pq4,pq5]at hK⊢)
        ·have HX:=Lib.hid hS;clear hS hE hlo;go_wp2_with fail;exact hK.out _ rfl
        ·have e0:v 0=_:=hE.1 rfl;rw[e0]at hK⊢;have bx0:=(hS.cell (p:=⟨w.heap.size,0,none⟩) hNW).trans c0;have bx1:=(hS.cell (p:=⟨w.heap.size,1,none⟩) hNW).trans c1;have lwz:w.heap.size<wz.heap.size:=by have:=hS.size;omega
         have HX:=Lib.hid hS;clear hS hE hlo;go_wp2_with fail;exact hK.out _ rfl
        ·have HX:=Lib.hid hS;clear hS hE hlo;go_wp2_with fail;exact hK.out _ rfl
        ·have e1:v 1=_:=hE.1 rfl;have e2:v 2=_:=hE.2.1 rfl;rw[e1,e2]at hK⊢;have HX:=Lib.hid hS;clear hS hE hlo;go_wp2_with fail;exact hK.out _ rfl
        ·have e3:v 3=_:=hE.1 rfl;rw[e3]at hK⊢;have ax:=(hS.cell (p:=⟨ga,fa+j,none⟩) hgaW).trans ca0;have lwa:ga<wz.heap.size:=by have:=hS.size;omega
         have HX:=Lib.hid hS;clear hS hE hlo;go_wp2_with fail;exact hK.out _ rfl
        ·have HX:=Lib.hid hS;clear hS hE hlo;go_wp2_with fail;exact hK.out _ rfl
        ·have e5:v 5=_:=hE.1 rfl;rw[e5]at hK⊢;have bx0:=(hS.cell (p:=⟨w.heap.size,0,none⟩) hNW).trans c0;have bx1:=(hS.cell (p:=⟨w.heap.size,1,none⟩) hNW).trans c1;have lwz:w.heap.size<wz.heap.size:=by have:=hS.size;omega
         have HX:=Lib.hid hS;clear hS hE hlo;go_wp2_with fail;exact hK.out _ rfl
        ·have HX:=Lib.hid hS;clear hS hE hlo;go_wp2_with fail;exact hK.out _ rfl
        ·have e6:v 6=_:=hE.1 rfl;have e7:v 7=_:=hE.2.1 rfl;rw[e6,e7]at hK⊢;have HX:=Lib.hid hS;clear hS hE hlo;go_wp2_with fail;exact hK.out _ rfl
        ·have e8:v 8=_:=hE.1 rfl;rw[e8]at hK⊢;have ex:=(hS.cell (p:=⟨ge,fe+j,none⟩) hgeW).trans ce0;have lwe:ge<wz.heap.size:=by have:=hS.size;omega
         have HX:=Lib.hid hS;clear hS hE hlo;go_wp2_with fail;exact hK.out _ rfl
        ·have HX:=Lib.hid hS;clear hS hE hlo;go_wp2_with fail;exact hK.out _ rfl
        ·have e9:v 9=_:=hE.1 rfl;have e10:v 10=_:=hE.2.1 rfl;rw[e9,e10]at hK⊢;have hcall:=joined_any (.slice Ar nrow cr) (.slice (some ⟨g3,0,none⟩) k c3) row cs wz (HED.out.later hS) (HCI.out.later hS) HTO.out HBY.out (by rw[HNR.out];omega)
         have HC:=Lib.hid hcall;have HX:=Lib.hid hS;clear hS hE hlo hcall;go_wp2_with fail;refine HC.out.mono ?_;rintro e wy ⟨jv,rfl,ho,hb⟩;have hed:=EdIn.of_OR ho;obtain ⟨Aj,cj,rfl,-⟩:=hed.form;have HBY2:=Lib.hid (HX.out.trans (hb.mono HX.out.size));have HJ:=Lib.hid hed;clear ho hb hed;go_wp2_with fail;refine hK.out _ _ (fun j z hj h=>?_) HBY2.out ⟨Aj,cj,rfl,HJ.out⟩
         match j with
         | 0 | 1 | 2 | 3 | 4 | 5 | 6 | 7 | 8 | 9 | 10=>exact h
         | 11=>exact absurd rfl hj
         | 12=>exact h
         | _+13=>exact trivial
        ·have e4:v 4=_:=hE.1 rfl;rw[e4]at hK⊢;have E11:=hE.2.1 rfl;obtain ⟨Aj,cj,e11,hj⟩:=E11;rw[e11]at hK hj⊢;have hcall:=describe_any bb _ (joinF (clF cs) row) wz hj HJB.out (by have:=HJL.out;omega) (HVW.out.later hS)
         rw[HNB.out]at hcall;have HC:=Lib.hid hcall;have HX:=Lib.hid hS;clear hS hE hlo hcall hj e11;go_wp2_with fail;refine HC.out.mono ?_;rintro e wy ⟨rfl,hb⟩;have HBY2:=Lib.hid (HX.out.trans (hb.mono HX.out.size));have HB3:=Lib.hid hb;clear hb;go_wp2_with fail;refine hK.out _ _ (fun j z hj h=>?_) HBY2.out rfl
         match j with
         | 0 | 1 | 2 | 3 | 4 | 5 | 6 | 7 | 8 | 9 | 10=>exact h
         | 11=>
          obtain ⟨A,c,e,h2⟩:=h;exact ⟨A,c,e,h2.later HB3.out⟩
         | 12=>exact absurd rfl hj
         | _+13=>exact trivial
       ·intro v wz hS hF;have e0:v 0=_:=hF 0 (by decide)
        have e1:v 1=_:=hF 1 (by decide)
        have e2:v 2=_:=hF 2 (by decide)
        have e3:v 3=_:=hF 3 (by decide)
        have e4:v 4=_:=hF 4 (by decide)
        have e5:v 5=_:=hF 5 (by decide)
        have e6:v 6=_:=hF 6 (by decide)
        have e7:v 7=_:=hF 7 (by decide)
        have e8:v 8=_:=hF 8 (by decide)
        have e9:v 9=_:=hF 9 (by decide)
        have e10:v 10=_:=hF 10 (by decide)
        have E11:=hF 11 (by decide)
        have E12:=hF 12 (by decide)
        simp only[putAll,Act.put,pq1,pq2,pq3,Nat.zero_add,Nat.reduceAdd,pq4,pq5,List.drop_succ_cons,List.drop_zero,e0,e1,e2,e3,e4,e5,e6,e7,e8,e9,e10];clear hF e0 e1 e2 e3 e4 e5 e6 e7 e8 e9 e10;have e12:v 12=_:=E12;rw[e12];have hz:=HHZ.out;have hsz:=hS.size;have hmbW:WB.heap.size<W.heap.size:=by omega
        have hmz:MN Tryz.prog 9 WB.heap.size seen.length F wz:=HR.out.mn.kept (hS.block _ hmbW);have hoz:=HR.out.own.later hS;have hbz:Below WB.heap.size WB wz:=HR.out.bl.trans (hS.mono hwr);obtain ⟨dd0,dd1⟩:=hoz.cellC j (by rw[HDL.out];exact hlt)
        have hlz:WB.heap.size+1<wz.heap.size:=by omega
        obtain ⟨nm,hnm⟩:∃x,descT bb (joinF (clF cs) row)=x:=⟨_,rfl⟩;have hkey:keyOf Tryz.prog 9 (.string (bs nm))=some (.string nm):=by
         have h1:=descE_len _ HJB.out;have h2:(boolT bb).length≤5:=by cases bb <;> decide
         have:=WideMaps.keyOf_string_mk (P:=Tryz.prog) (k:=9) Tryz.underlying9 (s:=bs nm) (by rw[size_bs,←hnm];unfold descT;rw[List.length_append];unfold maxLen;have:=HJL.out;omega)
         rwa [bs_data]at this
        obtain rfl:NB=bs nm:=by rw[←HNB.out,hnm]
        have HNM:=Lib.hid hnm;have HKEY:=Lib.hid hkey;have HMZ:=Lib.hid hmz;have HOZ:=Lib.hid hoz;have HBZ:=Lib.hid hbz;have hsl2:seen.length≤k:=by
         have h1:=nodup_le (l:=seen) (r:=(List.range j).map (dsc m cs)) HR.out.ri.nd (fun x hx=>by
          obtain ⟨s,h1,-,h3⟩:=HR.out.ri.of_ x hx;exact List.mem_map.2 ⟨s,List.mem_range.2 h1,h3⟩)
         simp at h1;omega
        clear hS E11 E12 e12 hmz hoz hbz hnm hkey;by_cases hin:dsc m cs j∈seen
        ·have hlook:(Instr.lookup 163 (.map (some WB.heap.size)) (.string (bs nm)) true).run Tryz.prog wz = .ok (.tuple #[.int .i64 ((seen.idxOf (dsc m cs j):Nat):Int), .bool true]) wz:=by
          have h1:=HMZ.out.mv.look_ok K Tryz.underlying163 hz HKEY.out trivial;have h2:=HR.out.sy (dsc m cs j);rw[HDS.out.1]at h2;simp only[HNM.out]at h2;rw[h2,←HDS.out.1,idxD,if_pos hin]at h1;exact h1
         obtain ⟨ix,hix⟩:∃i,seen.idxOf (dsc m cs j)=i:=⟨_,rfl⟩;rw[hix]at hlook;have hset:=HOZ.out.setC HDL.out j (some ix);have hR2:RdR m WB cs (ds.set j (some ix)) seen F k (j+1) (wz.setCell ⟨WB.heap.size+1,j,none⟩ (.int .i64 (ix:Int))):=
          ⟨HMZ.out.kept (Below.heap_setCell _ _ _ _ (by show WB.heap.size≠WB.heap.size+1;omega)),HR.out.sy,hset,by rw[←hix];exact HR.out.ri.old hjn HCN.out hin,HBZ.out.setCell (p:=⟨WB.heap.size+1,j,none⟩) (by show WB.heap.size≤WB.heap.size+1;omega) _⟩
         have HR2:=Lib.hid hR2;have HIN:=Lib.hid hin;clear hix hset hR2 hin;go_wp2_with fail;go_roundw
         case rel=>exact ⟨j+1,_,_,_,by omega,by go_num,HR2⟩
         case measure=>simp[intOf];omega
        ·have hlook:(Instr.lookup 163 (.map (some WB.heap.size)) (.string (bs nm)) true).run Tryz.prog wz = .ok (.tuple #[.int .i64 0, .bool false]) wz:=by
          have h1:=HMZ.out.mv.look_ok K Tryz.underlying163 hz HKEY.out trivial;have h2:=HR.out.sy (dsc m cs j);rw[HDS.out.1]at h2;simp only[HNM.out]at h2;rw[h2,←HDS.out.1,idxD,if_neg hin]at h1;exact h1
         have hfn:F (.string nm)=none:=by
          have h2:=HR.out.sy (dsc m cs j);rw[HDS.out.1]at h2;simp only[HNM.out]at h2;rw[h2,←HDS.out.1,idxD,if_neg hin]
         obtain ⟨sl,hsl3⟩:∃n,seen.length=n:=⟨_,rfl⟩;have hmz:=HMZ.out;rw[hsl3]at hmz hsl2;have HIN:=Lib.hid (And.intro hin hsl3);have HMZ3:=Lib.hid hmz;have HFN:=Lib.hid hfn;clear hin hsl3 hmz hfn;go_wp2_with (first
          | (at_len;refine wpList_len_MN rfl _ 163 rfl 9 3 Tryz.underlying163 WB.heap.size sl F rfl HMZ3.out ?_)
          | (at_mapUpdate;refine wpList_put_MN wz rfl _ _ _ 163 rfl 9 3 K Tryz.underlying163 WB.heap.size sl F rfl HMZ3.out (by unfold maxLen;omega) _ _ _ rfl rfl HKEY.out trivial HFN.out ?_))
         intro wm hmm4 hgm;have hzm:=hgm.size;have hom:OR 3 1 clC (WB.heap.size+1) (.slice (some ⟨WB.heap.size+1,0,none⟩) k k) ds wm:=OR.keep HOZ.out fun g hg=>hgm.block g (World.ownsRow.lt HOZ.out g hg).2 (fun e=>by
          have:=(World.ownsRow.lt HOZ.out g hg).1;injection e with e;omega)
         obtain ⟨ee0,ee1⟩:=hom.cellC j (by rw[HDL.out];exact hlt)
         have hlm:WB.heap.size+1<wm.heap.size:=by omega
         have hset:=hom.setC HDL.out j (some sl);have hbm:Below WB.heap.size WB wm:=HBZ.out.grown hgm (by omega) (fun q hq=>by injection hq with hq;omega)
         have hsy:=HR.out.sy.put (dsc m cs j) HIN.out.1 (sl:Int) (by rw[HIN.out.2])
         rw[HDS.out.1]at hsy;simp only[HNM.out]at hsy;have hri:=HR.out.ri.new hjn HCN.out HIN.out.1;rw[HIN.out.2,HDS.out.1]at hri;have hR2:RdR m WB cs (ds.set j (some sl)) (seen++[(bb,joinF (clF cs) row)]) (updV F (.string nm) (some (.int .i64 (sl:Int)))) k (j+1) (wm.setCell ⟨WB.heap.size+1,j,none⟩ (.int .i64 (sl:Int))):=
          ⟨by rw[List.length_append,HIN.out.2];exact hmm4.kept (Below.heap_setCell _ _ _ _ (by show WB.heap.size≠WB.heap.size+1;omega)),hsy,hset,hri,hbm.setCell (p:=⟨WB.heap.size+1,j,none⟩) (by show WB.heap.size≤WB.heap.size+1;omega) _⟩
         have HR2:=Lib.hid hR2;clear hmm4 hgm hom hset hbm hsy hri hR2 dd0 dd1;go_wp2_with fail;go_roundw
         case rel=>exact ⟨j+1,_,_,_,by omega,by go_num,HR2⟩
         case measure=>simp[intOf];omega
     ·have hjk:j=k:=by omega
      have hd:decide ((j:Int)<(k:Int))=false:=decide_eq_false (by omega)
      have HJK:=Lib.hid hjk;clear hjk;obtain ⟨sl,hsl3⟩:∃n,seen.length=n:=⟨_,rfl⟩;have hmn:=HR.out.mn;rw[hsl3]at hmn;have HMN:=Lib.hid hmn;have HSL:=Lib.hid hsl3;have hri:=HR.out.ri;rw[HJK.out,←HN.out.1]at hri;have HRI:=Lib.hid hri;have hbwr:=HBL.out.trans (HR.out.bl.mono hwB);have HBW:=Lib.hid hbwr;have hbx:=(HR.out.bl.block _ hNB).trans HBX.out;have HBXR:=Lib.hid hbx;clear hmn hsl3 hri hbwr hbx hdl;by_cases he:sl=kn
      ·have hde:((sl:Int) == (kn:Int))=true:=by simp;omega
       have HEQ:=Lib.hid he;clear he;go_wp2_with (at_len;refine wpList_len_MN rfl _ 163 rfl 9 3 Tryz.underlying163 WB.heap.size sl F rfl HMN.out ?_);refine post_named fun Wf hWf=>?_;subst hWf;refine bodyPost_ret (v:=.slice (some ⟨WB.heap.size+1,0,none⟩) k k) (by simp[results,Tryz.results178,go_sem];try rfl) rfl ?_
       refine ⟨_,ds,rfl,HR.out.own.mono (by omega),HBW.out,?_,HH.out.done HV.out HRI.out (by rw[HSL.out,HEQ.out]),fun s c hc=>?_⟩
       ·rw[HR.out.ri.len,HN.out.1]
       ·have:=HRI.out.lt_ s c hc;rwa [HN.out.1]at this
      ·have hde:((sl:Int) == (kn:Int))=false:=by simp;omega
       obtain ⟨hn1,hn2,hn3⟩:=HH.out.next HV.out HRI.out (by rw[HSL.out];exact he)
       rw[HSL.out]at hn2 hn3;rw[HN.out.1]at hn3;have HNX:=Lib.hid hn1;clear hn1 he;go_wp2_with (at_len;refine wpList_len_MN rfl _ 163 rfl 9 3 Tryz.underlying163 WB.heap.size sl F rfl HMN.out ?_)
       go_roundg (k+2-sl)
       case measure=>omega
       case rel=>exact ⟨WB.heap.size+1,k,sl,ds,rfl,rfl,by omega,by omega,HR.out.own.mono (by omega),by have:=HNX.out;rwa [HSL.out]at this,HBXR.out,HBW.out⟩
end Go.Proofs.YtoaibhacognbjaaGreatDoor
namespace Go.Proofs.YtoaibhacognbjaaGreatDoor
set_option linter.unusedVariables false
set_option linter.unusedSimpArgs false
set_option maxRecDepth 100000
open Go.RowKit
theorem least_any (v:Value) (m:Mc) (w:World) (hm:McIn w v m) (hv:Vld m) (hsm:McSm m) (h1:1≤m.ed.length) (hvr:VrOK w):Calls Tryz.prog 139 #[v] w (LePost m w):=
 least_of v m w hm hv hsm h1 fun W hb=>classes_any v m W (hm.later hb) hv hsm h1 (hvr.later hb)
end Go.Proofs.YtoaibhacognbjaaGreatDoor
namespace Go.Proofs.YtoaibhacognbjaaGreatDoor
set_option linter.unusedVariables false
set_option linter.unusedSimpArgs false
set_option maxRecDepth 100000
open Go.RowKit
open Go.Maps (Keyed)
def mcNil:Value:=.agg #[.slice none 0 0, .slice none 0 0]
def CmPost (nd:Nd) (w:World) (e:Ending) (w':World):Prop:=
 Below w.heap.size w w'∧
 ((validF nd≠0∧e = .returned (.tuple #[mcNil, .int .i64 (validF nd)]))∨
  (validF nd=0∧600<posF nd∧e = .returned (.tuple #[mcNil, .int .i64 3]))∨
  (validF nd=0∧posF nd≤600∧∃b x gs rows acs i,Wr ⟨[],[]⟩ b x (gN nd)∧b.fol.length=posF nd∧(∀rs∈b.sets,∀r∈rs,r.2<256)∧CmI b x gs rows acs i∧
   ((2000<gs.length∧e = .returned (.tuple #[mcNil, .int .i64 3]))∨(i=gs.length∧gs.length≤2000∧∃rv m',e = .returned (.tuple #[rv, .int .i64 0])∧McUp w.heap.size w' rv m'∧LeOK ⟨rows,acs⟩ m'))))
theorem leOK_lang {m m':Mc} (h:LeOK m m') (w:List Nat):acF m' w 0=acF m w 0:=by
 rcases h.1 with ⟨-,-,h1⟩ | ⟨h1,rfl⟩
 ·exact h1 w
 ·have h2:acF m w 0=false:=by
   cases hx:acF m w 0 with
   | false=>rfl
   | true=>exact absurd ⟨w,hx⟩ h1
  rw[h2]
  cases w with
  | nil=>rfl
  | cons c r=>rfl
theorem own_row1 {w:World} {B n:Nat} {e:TypeId} {v:Value} {xs:List Value} (h:w.ownsRow B e 1 v n xs) (hn:0<n):∃g c,v = .slice (some ⟨g,0,none⟩) n c∧(n≤c∧c≤9223372036854775807)∧v.ownBlock=some g∧g<w.heap.size∧∀i,i<n→w.cell? ⟨g,i,none⟩=xs[i]?:=by
 obtain ⟨A,c,rfl,h1,h2⟩:=own_form h;obtain ⟨g,rfl,-,h3,h4⟩:=own_at1 h hn;exact ⟨g,c,rfl,⟨h1,h2⟩,rfl,h3,h4⟩
theorem cp_start {w0:World} {s mb:Nat} {x2 v2 vs vf:Value} {b:Pb} {rows sv:List Value} {w w':World} (hb:BuS w0 s x2 (.map (some mb)) (.slice none 0 0) b vs vf rows sv w) (hk:KeepF [s] [] w w')
  (hcs:w'.heap[s]?=some (.cells #[vs,vf,v2, .map (some mb), .slice none 0 0] 182 (0,0))) (hm:MV Tryz.prog 9 mb 0 (fun _=>none) w') (hmB:w0.heap.size≤mb) (hmw:mb<w.heap.size) (h1:0<b.fol.length) (h2:0<b.sets.length) :
  SbI w0.heap.size s mb vs vf v2 [] (fpG s mb (.slice none 0 0)) w'∧SetC w0 (fpG s mb (.slice none 0 0)) w' vs b.sets∧FolC (fpG s mb (.slice none 0 0)) w' vf b.fol∧Below w0.heap.size w0 w':=by
 have hlt:=hb.lt;have hsl:s<w.heap.size:=(hlt s (by simp[fpS])).2
 have hnd:=hb.nd;rw[List.nodup_cons]at hnd;have hsm:s≠mb:=by
  rintro rfl;obtain ⟨D,⟨es,c,q1,-⟩,-⟩:=hm;rw[hcs]at q1;injection q1 with q1
  cases q1
 have hmap:∀{B k n:Nat} {e:TypeId} {v:Value} {xs:List Value},w.ownsRow B e k v n xs→v.ownBlock≠some mb:=fun {B k n e v xs} ho hv=>by
  obtain ⟨cs,md,q2⟩:=own_type ho mb hv;have q3:=(hk.blk mb hmw (by simp;exact fun e=>hsm e.symm)).trans q2
  obtain ⟨D,⟨es,c,q1,-⟩,-⟩:=hm;rw[q3]at q1;injection q1 with q1
  cases q1
 have hfp:∀g,g∈fpG s mb (.slice none 0 0)↔g=s∨g=mb:=fun g=>by simp[fpG,blk,Value.ownBlock]
 have hs':∀g,g≠s→g∉[s]:=fun g h hm=>h (List.mem_singleton.1 hm);obtain ⟨gS,cS,rfl,hcS,hoS,hgS,hcellS⟩:=own_row1 hb.sets h2;obtain ⟨gF,cF,rfl,hcF,hoF,hgF,hcellF⟩:=own_row1 hb.fol h1;have nS:gS≠s:=fun e=>hnd.1 (by rw[←e];exact List.mem_append_left _ (mem_blk.2 hoS))
 have nF:gF≠s:=fun e=>hnd.1 (by rw[←e];exact List.mem_append_right _ (List.mem_append_left _ (mem_blk.2 hoF)))
 have mS:gS≠mb:=fun e=>hmap hb.sets (by rw[hoS,e])
 have mF:gF≠mb:=fun e=>hmap hb.fol (by rw[hoF,e])
 refine ⟨⟨.slice none 0 0,[],fun _=>none,rfl,⟨hsm,by simp[Value.ownBlock],by simp[Value.ownBlock]⟩,⟨hb.hs,hmB,Nat.le_trans hb.bel.size hk.size⟩,hcs,hm,fun l=>rfl,World.ownsRow_nil _ _ _ _,fun i hi=>(by cases hi)⟩,?_,?_,?_⟩
 ·refine ⟨_,cS,rfl,hcS, .inr ⟨gS,rfl,Nat.lt_of_lt_of_le hgS hk.size,fun h=>by rcases (hfp gS).1 h with h | h;exact nS h;exact mS h,fun i hi=>?_⟩⟩
  obtain ⟨v,q1,q2,-⟩:=hb.setv i hi;refine ⟨v,(World.cell?_of_block (a:=⟨gS,i,none⟩) (hk.blk gS hgS (hs' _ nS))).trans ?_,q2⟩;rw[hcellS i hi,q1]
 ·refine ⟨gF,cF,rfl,hcF,Nat.lt_of_lt_of_le hgF hk.size,fun h=>by rcases (hfp gF).1 h with h | h;exact nF h;exact mF h,fun i hi=>?_⟩
  obtain ⟨v,q1,q2⟩:=hb.folv i hi;have nv:v.ownBlock≠some s:=fun e=>hnd.1 (List.mem_append_right _ (List.mem_append_right _ (List.mem_flatMap.2 ⟨v,List.mem_of_getElem? q1,mem_blk.2 e⟩)));have mv:v.ownBlock≠some mb:=hmap q2;refine ⟨v,(World.cell?_of_block (a:=⟨gF,i,none⟩) (hk.blk gF hgF (hs' _ nF))).trans ?_,(SL.of_own q2).keep (fun g hg hm=>nv (by rw[hg,List.mem_singleton.1 hm])) hk,fun g hg hm=>?_,fun k hv=>Nat.lt_of_lt_of_le (q2.lt k hv).2 hk.size,fun n c e=>?_⟩
  ·rw[hcellF i hi,q1]
  ·rcases (hfp g).1 hm with h | h
   ·exact nv (by rw[hg,h])
   ·exact mv (by rw[hg,h])
  ·rcases q2.2 with ⟨h3,-⟩ | ⟨g,cap,cur,h3,-⟩
   ·rw[h3]at e;injection e with _ _ e;exact e.symm
   ·rw[h3]at e;injection e with e;cases e
 ·exact hb.bel.trans ⟨hk.os,hk.tape,hk.output,hk.size,fun k hk2=>hk.blk k (by have:=hb.bel.size;omega) (fun h=>by have:=hb.hs;have:=List.mem_singleton.1 h;omega)⟩
theorem SetC.weak {w0:World} {L L':List Nat} {w:World} {v:Value} {sets:List (List (Nat×Nat))} (h:SetC w0 L w v sets) (hs:∀k∈L',k∈L):SetC w0 L' w v sets:=by
 obtain ⟨A,c,e,hc,h⟩:=h;refine ⟨A,c,e,hc,h.imp id ?_⟩;rintro ⟨g,rfl,hg,hn,hcell⟩;exact ⟨g,rfl,hg,fun hm=>hn (hs g hm),hcell⟩
theorem SbI.groups {B s mb:Nat} {v0 v1 v2:Value} {gs:List (List Nat)} {fp:List Nat} {w:World} (h:SbI B s mb v0 v1 v2 gs fp w):∃A c,w.cell? ⟨s,4,none⟩=some (.slice A gs.length c)∧(gs.length≤c∧c≤9223372036854775807)∧
  ∀k (hk:k<gs.length),∃g v,A=some ⟨g,0,none⟩∧g<w.heap.size∧w.cell? ⟨g,k,none⟩=some v∧IL w v gs[k]∧outOf fp v:=by
 obtain ⟨vg,gv,F,rfl,h⟩:=h;obtain ⟨A,c,rfl,hc⟩:=own_form h.own;refine ⟨A,c,by rw[cell_of_row _ _ _ _ _ _ h.cs];rfl,hc,fun k hk=>?_⟩
 obtain ⟨g,rfl,-,hg,hcell⟩:=own_at1 h.own (by omega)
 obtain ⟨v,h1,h2,h3,-⟩:=h.gvs k hk;exact ⟨g,v,rfl,hg,by rw[hcell k hk,h1],h2,h3⟩
def EdF (w0:World) (s mb:Nat) (v0 v1 v2:Value) (b:Pb) (gs:List (List Nat)) (fp L:List Nat) (W:World) (x:Value) (w:World):Prop:=
 ∃r row gs' fp',SortedF L r∧(EdIn w x row∧outOf fp' x∧∀g,x.ownBlock=some g→W.heap.size≤g∧g<w.heap.size)∧SbI w0.heap.size s mb v0 v1 v2 gs' fp' w∧KeepF fp fp' W w∧RowI b r gs' row 256∧GrowG b r gs gs'∧gs'.length≤gs.length+257
theorem EdF.later {w0:World} {s mb:Nat} {v0 v1 v2:Value} {b:Pb} {gs:List (List Nat)} {fp L:List Nat} {W:World} {x:Value} {w w':World} (h:EdF w0 s mb v0 v1 v2 b gs fp L W x w) (hb:Below w.heap.size w w'):EdF w0 s mb v0 v1 v2 b gs fp L W x w':=by
 obtain ⟨r,row,gs',fp',h1,⟨h2,h3,h4⟩,h5,h6,h7,h8,h9⟩:=h;exact ⟨r,row,gs',fp',h1,⟨h2.later hb,h3,fun g hg=>⟨(h4 g hg).1,Nat.lt_of_lt_of_le (h4 g hg).2 hb.size⟩⟩,h5.later hb,h6.trans (KeepF.of_below hb),h7,h8,h9⟩
structure CpL (w0:World) (s mb:Nat) (v0 v1 v2:Value) (b:Pb) (x:Prt) (P:Nat) (vx vy:Value) (N i:Nat) (gs:List (List Nat)) (fp:List Nat) (rs:List (List Ed)) (acs:List Bool) (vE vA:Value) (gv:List Value) (wr:World):Prop where
 sb:SbI w0.heap.size s mb v0 v1 v2 gs fp wr
 ma:MkM w0.heap.size N fp vE vA gv rs acs wr
 cp:CpS w0 (fp++fpM N vE vA) v0 v1 v2 b x P vx vy wr
 ci:CmI b x gs rs acs i
 bl:Below w0.heap.size w0 wr
theorem cp_next {w0 W w6 w7:World} {s mb P N i:Nat} {v0 v1 v2 vx vy vE vA vE' rv:Value} {b:Pb} {x:Prt} {gs:List (List Nat)} {fp L:List Nat} {rs:List (List Ed)} {acs0 acs:List Bool} {gv:List Value}
  (hma:MkM w0.heap.size N fp vE vA gv rs acs W) (hcp:CpS w0 (fp++fpM N vE vA) v0 v1 v2 b x P vx vy W) (hci:CmI b x gs rs acs0 i) (hac:if i=0 then acs=acs0 else ∃a,acs=acs0++[a]∧(a=true↔∃p∈(gs[i]?).getD [],p∈x.last))
  (hi:i<gs.length) (hbl:Below w0.heap.size w0 W) (hL:∀p,p∈L↔grpF b x gs i p) (hLb:∀p∈L,p<b.sets.length)
  (hE:EdF w0 s mb v0 v1 v2 b gs fp L W rv w6) (hg:w6.grownBy w7 vE.ownBlock) (ho:w7.ownsRow w0.heap.size 167 1 vE' (rs.length+1) (gv++[rv])) (hf:Fresh vE' vE w6.heap.size) (hfp:∀k∈fp,w0.heap.size≤k) :
  ∃row gs' fp',CpL w0 s mb v0 v1 v2 b x P vx vy N (i+1) gs' fp' (rs++[row]) acs vE' vA (gv++[rv]) (w7.setCell ⟨N,0,none⟩ vE')∧gs'.length≤gs.length+257:=by
 obtain ⟨r,row,gs',fp',h1,⟨h2,h3,h4⟩,h5,h6,h7,h8,h9⟩:=hE;have hlt:=hma.lt;have hma6:=hma.keep h6;have hlt6:=h5.lt;have hw0:=hbl.size;obtain ⟨q1,q2⟩:=hma6.addE (fun k hk=>(hlt6 k hk).2) h2 (fun g hg hm=>by have:=(h4 g hg).1;have:=(hlt g hm).2;omega) h3 (fun g hg=>⟨by have:=(h4 g hg).1;omega,(h4 g hg).2⟩) ho hg hf
 refine ⟨row,gs',fp',⟨h5.apart q2 (fun k hk=>hma6.out k hk) hma6.types,q1,(hcp.keep (h6.appL _)).keep (q2.appR _),hci.step hi (fun p=>(h1.2 p).trans (hL p)) h1.1 (fun p hp=>hLb p ((h1.2 p).1 hp)) h8 h7 hac,?_⟩,h9⟩;exact (hbl.trans (h6.below hfp hw0)).trans (q2.below (fun k hk=>(hlt k hk).1) (by have:=h6.size;omega))
theorem WrP.later {w0:World} {s:Nat} {x2 x3 x4:Value} {b:Pb} {fp:List Nat} {Lg:LA} {n K:Nat} {w:World} {e:Ending} {w' w'':World} (h:WrP w0 s x2 x3 x4 b fp Lg n K w e w') (hb:Below w'.heap.size w' w''):WrP w0 s x2 x3 x4 b fp Lg n K w e w'':=by
 obtain ⟨b',x,fp',v1,v2,h1,h2,h3,⟨h4,h5⟩,⟨h6,h7⟩,h8⟩:=h;have hk:=KeepF.of_below (fp:=fp') hb;exact ⟨b',x,fp',v1,v2,h1,h2.later hb,h3.trans hk,h4.keep h5 hk,h6.keep h7 hk,h8⟩
theorem BuI.ne_part {w0:World} {s:Nat} {x2 x3 x4:Value} {b:Pb} {fp:List Nat} {w:World} (h:BuI w0 s x2 x3 x4 b fp w) {g:Nat} {cs:Array Value} {m:Nat×Nat} (hg:w.heap[g]?=some (.cells cs 184 m)):g∉fp:=by
 obtain ⟨vs,vf,rows,sv,rfl,h⟩:=h;intro hm;unfold fpS at hm;have key:∀{cs':Array Value} {e:TypeId} {m':Nat×Nat},w.heap[g]?=some (.cells cs' e m')→e≠184→False:=fun {cs' e m'} h1 hne=>by
  rw[hg]at h1;injection h1 with h1;injection h1 with _ h2 _;exact hne h2.symm
 rcases List.mem_cons.1 hm with rfl | hm
 ·exact key h.cs (by decide)
 ·rcases List.mem_append.1 hm with hm | hm
  ·obtain ⟨cs',m',h1⟩:=own_type h.sets g (mem_blk.1 hm);exact key h1 (by decide)
  ·rcases List.mem_append.1 hm with hm | hm
   ·obtain ⟨cs',m',h1⟩:=own_type h.fol g (mem_blk.1 hm);exact key h1 (by decide)
   ·obtain ⟨v,hv,hgv⟩:=List.mem_flatMap.1 hm;obtain ⟨i,hi,he⟩:=List.getElem_of_mem hv;have hrl:rows.length=b.fol.length:=by have:=h.fol.1;omega
    obtain ⟨v',h1,h2⟩:=h.folv i (by omega)
    rw[List.getElem?_eq_getElem hi,he]at h1;obtain rfl:=Option.some.inj h1;obtain ⟨cs',m',h3⟩:=own_type h2 g (mem_blk.1 hgv);exact key h3 (by decide)
theorem own_mono {w:World} {B B' k n:Nat} {e:TypeId} {v:Value} {xs:List Value} (h:w.ownsRow B e k v n xs) (hB:B'≤B):w.ownsRow B' e k v n xs:=
 ⟨h.1,h.2.imp id fun ⟨g,cap,cur,h1,h2,h3⟩=>⟨g,cap,cur,h1,Nat.le_trans hB h2,h3⟩⟩
def endsL (last:List Nat) (n k:Nat):List Bool:=(List.range n).map fun p=>decide (p∈last.take k)
theorem endsL_zero (last:List Nat) (n:Nat):endsL last n 0=List.replicate n false:=by
 unfold endsL;rw[List.eq_replicate_iff];refine ⟨by simp,fun x hx=>?_⟩
 obtain ⟨p,-,rfl⟩:=List.mem_map.1 hx;simp
theorem endsL_len (last:List Nat) (n k:Nat):(endsL last n k).length=n:=by simp[endsL]
theorem endsL_get (last:List Nat) {n p:Nat} (k:Nat) (h:p<n):(endsL last n k)[p]?=some (decide (p∈last.take k)):=by
 unfold endsL;rw[List.getElem?_map,List.getElem?_range h];rfl
theorem endsL_succ {last:List Nat} {n k:Nat} (hk:k<last.length):(endsL last n k).set last[k] true=endsL last n (k+1):=by
 apply List.ext_getElem?;intro p;by_cases hp:p<n
 ·rw[endsL_get last (k+1) hp,List.getElem?_set,List.take_succ_eq_append_getElem hk];by_cases e:last[k]=p
  ·rw[if_pos e,if_pos (by rw[endsL_len,e];exact hp)]
   simp[e]
  ·rw[if_neg e,endsL_get last k hp]
   congr 1
   rw[decide_eq_decide,List.mem_append,List.mem_singleton];exact ⟨.inl,fun h=>h.resolve_right fun e2=>e e2.symm⟩
 ·rw[List.getElem?_eq_none (by rw[List.length_set,endsL_len];omega),List.getElem?_eq_none (by rw[endsL_len];omega)]
theorem bools_new (w:World) (n:Nat) (hn:n≤1000000):OR 4 1 bC w.heap.size (.slice (some ⟨w.heap.size,0,none⟩) n n) (List.replicate n false) (w.alloc (.cells (Array.replicate n (.bool false)) 4)):=by
 have hrow:rowF bC (List.replicate n false)=List.replicate n (.bool false):=by
  unfold rowF
  induction n with
  | zero=>rfl
  | succ n ih=>rw[List.replicate_succ,List.map_cons,List.flatten_cons,ih (by omega),List.replicate_succ];rfl
 refine ⟨by rw[hrow];simp, .inr ⟨w.heap.size,n,Array.replicate n (.bool false),by simp,Nat.le_refl _,heap_alloc_new w _,by simp,by unfold maxLen;omega,by simp,?_⟩⟩
 rw[hrow,List.length_replicate];simp
def folG (b:Pb) (g:List Nat):List Nat:=g.flatMap fun p=>folP b p
theorem folG_snoc (b:Pb) (g:List Nat) (p:Nat):folG b (g++[p])=folG b g++folP b p:=by unfold folG;simp
theorem folG_mem {b:Pb} {g:List Nat} {p:Nat}:p∈folG b g↔∃q∈g,p∈folP b q:=by unfold folG;exact List.mem_flatMap
theorem folG_len {b:Pb} {K:Nat} (hK:∀l∈b.fol,l.length≤K):∀g:List Nat,(folG b g).length≤g.length*K
 | []=>by simp[folG]
 | p::r=>by
  have ih:=folG_len hK r;have h1:(folP b p).length≤K:=by
   unfold folP
   cases h:b.fol[p]? with
   | none=>simp
   | some l=>exact hK l (List.mem_of_getElem? h)
  unfold folG at ih⊢;rw[List.flatMap_cons,List.length_append,List.length_cons,Nat.succ_mul];omega
end Go.Proofs.YtoaibhacognbjaaGreatDoor
