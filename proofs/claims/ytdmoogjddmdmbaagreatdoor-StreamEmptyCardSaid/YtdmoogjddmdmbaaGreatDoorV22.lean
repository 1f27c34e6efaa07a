/- Walks. -/
import Derived.Test.YtdmoogjddmdmbaaGreatDoorV16
import Derived.Test.YtdmoogjddmdmbaaGreatDoorV05
import Derived.Test.YtdmoogjddmdmbaaGreatDoorV21
import Derived.Test.YtdmoogjddmdmbaaGreatDoorV12
import Derived.Test.YtdmoogjddmdmbaaGreatDoorV14
set_option maxRecDepth 100000
set_option maxHeartbeats 16000000
set_option linter.unusedVariables false
set_option linter.unusedSimpArgs false
namespace Go.Proofs.YtdmoogjddmdmbaaGreatDoor
open Go.RowKit
section
set_option linter.unusedVariables false
set_option linter.unusedSimpArgs false
open Go.RowKit
open Go.Maps (Keyed)
def Ve (N ga fa n ca ge fe ce k:Nat) (bb:Bool) (rv cv:Value) (cs:List (Option Nat)) (row:List Ed) (NB:ByteArray):Nat->Nat->Value->World->Prop
 | c,0,x,w=>x = .pointer (some ⟨N,1,none⟩)
 | c,1,x,w=>x = .slice (some ⟨ga,fa,none⟩) n ca
 | c,2,x,w=>x = .int .i64 (k:Int)
 | c,3,x,w=>x = .pointer (some ⟨ga,fa+k,none⟩)
 | c,4,x,w=>x = .bool bb
 | c,5,x,w=>x = .pointer (some ⟨N,0,none⟩)
 | c,6,x,w=>x = .slice (some ⟨ge,fe,none⟩) n ce
 | c,7,x,w=>x = .int .i64 (k:Int)
 | c,8,x,w=>x = .pointer (some ⟨ge,fe+k,none⟩)
 | c,9,x,w=>x=rv
 | c,10,x,w=>x=cv
 | c,11,x,w=>∃A c,x = .slice A (bJ (bR cs) row).length c/\dR w x (bJ (bR cs) row)
 | c,12,x,w=>x = .string NB
 | _,_,_,_=>True
structure RdR (m:Mc) (WB:World) (cs ds:List (Option Nat)) (seen:List (Bool×List Ed)) (F:Lit->Option Value) (n k:Nat) (wr:World):Prop where
 mn:MN Tryz.prog 9 WB.heap.size seen.length F wr
 sy:ub F seen
 own:OR 3 1 zf (WB.heap.size+1) (.slice (some ⟨WB.heap.size+1,0,none⟩) n n) ds wr
 ri:jh m cs ds seen k
 bl:Below WB.heap.size WB wr
set_option maxHeartbeats 16000000 in
theorem Cf (v:Value) (m:Mc) (w:World) (hm:ia w v m) (hv:pL m) (eQ:sf m) (h1:1<=m.ed.length) (om:cd w) :
  Calls Tryz.prog 170 #[v] w (Mp m m.ed.length w):=by
 have nQ:=λW (h:Below w.heap.size w W)=>Iw v m W (hm.later h) hv eQ h1;obtain ⟨ve,va,rfl,he,ha⟩:=hm;obtain ⟨Ae,ce,rfl,qO,Ix⟩:=he.form;obtain ⟨Aa,ca,rfl,Ek,UH⟩:=ha.form;obtain ⟨n,hn⟩:∃n,m.ed.length=n:=⟨_,rfl⟩;have sS:m.ac.length=n:=by rw[hv.len,hn]
 have DV:=eQ.n;rw[sS]at ha Ek;rw[hn]at he qO h1 DV;rw[hn,sS]at nQ;have HAL:=Lib.hid nQ;have HE:=Lib.hid he;have HA:=Lib.hid ha;have HV:=Lib.hid hv;have KO:=Lib.hid eQ;have HN:=Lib.hid (And.intro hn sS);have qN:=Lib.hid om;have K:Keyed Tryz.prog 9:=Maps.string_keyed Tryz.underlying9;have hz:∀w,(zeroValue 3).run Tryz.prog w = .ok (.int .i64 0) w:=λ_=>by kernel_rfl
 have hmk:=Ca n (by omega)
 have hmm:=@run_makeMap Tryz.prog;rw[sS,hn];have fV:=om.low;clear nQ he ha hv eQ hn sS om
 go_enter Tryz.func170,Tryz.ntmps170
 go_wp2_with fail;refine (HAL.out _ ?hb0).mono ?_
 case hb0=>exact ((Below.refl w.heap.size w).alloc (Nat.le_refl _) _).alloc (by simp) _
 rintro e w1 ⟨rv,o,rfl,hown1,hb1,zj,wG⟩;have Vg:((w.alloc (.cells #[.slice Ae n ce, .slice Aa n ca] 93)).alloc (.cells (Array.replicate n (.int .i64 0)) 3)).heap.size=w.heap.size+2:=by simp
 have hzero:=qW (w.alloc (.cells #[.slice Ae n ce, .slice Aa n ca] 93)) n (by omega)
 have Qp:(w.alloc (.cells #[.slice Ae n ce, .slice Aa n ca] 93)).heap.size=w.heap.size+1:=by simp
 rw[Qp]at hzero;have Cg:w1.heap[w.heap.size]?=some (.cells #[.slice Ae n ce, .slice Aa n ca] 93 (0,0)):=(hb1.block _ (by omega)).trans ((au _ _ _ (by simp)).trans (heap_alloc_new w _))
 have aaX:OR 3 1 zf (w.heap.size+1) (.slice (some ⟨w.heap.size+1,0,none⟩) n n) (dD o 0 n) w1:=by rw[Cc];exact hzero.later hb1
 have Vh:=(nR.gW hown1);have aht:=hb1.size;rw[Vg]at aht;have mo:Below w.heap.size w w1:=(((Below.refl w.heap.size w).alloc (Nat.le_refl _) _).alloc (by simp) _).trans (hb1.mono (by omega))
 obtain ⟨Ao,co,eo,ahu,ard⟩:=Vh.form;subst eo;have Vi:=Lib.hid (And.intro zj wG);have HOB:=Lib.hid Vh;have ahv:=Lib.hid Cg;have ahw:=Lib.hid aaX;have aaY:=Lib.hid mo;have ahx:=hown1.1
 -- the row of what is alive lies above
 have hoA:o=[]\/∃g f,Ao=some ⟨g,f,none⟩/\w.heap.size+2<=g:=by
  by_cases h0:o=[]
  .exact .inl h0
  .obtain ⟨A,c,e,-,eA⟩:=hown1.cells LH;obtain ⟨g,hA,hg,-,-⟩:=eA.resolve_left h0;injection e with e1 _ _;rw[Vg]at hg;exact .inr ⟨g,0,by rw[e1,hA],hg⟩
 have HOA:=Lib.hid hoA;rw[zj];rw[zj]at ahu;clear hown1 Vg hzero Qp Cg aaX Vh mo zj wG hb1 ahx hoA;go_wp2_with fail
 go_loopw [21] (λiv wr=>∃k:Nat,k<=n/\iv = .int .i64 (k:Int)/\Hid (OR 3 1 zf (w.heap.size+1) (.slice (some ⟨w.heap.size+1,0,none⟩) n n) (dD o k n) wr)/\Hid (ah [w.heap.size+1] [w.heap.size+1] w1 wr)) (λiv _=>n - (intOf iv).toNat)
 case atStart=>exact ⟨0,Nat.zero_le _,rfl,ahw,ah.refl _ _⟩
 case round=>
  obtain ⟨k,hk,rfl,HC,HK⟩:=hrel;have xp:=HK.out.size;by_cases hlt:k<n
  .have hd:decide ((k:Int)<(n:Int))=true:=decide_eq_true (by omega)
   have di:k<o.length:=by rw[Vi.out.1];exact hlt
   obtain ⟨g,f,rfl,-,hg,c0⟩:=HOB.out.at_ di;have hgA:w.heap.size+2<=g:=by
    rcases HOA.out with h | ⟨g',f',e',h⟩
    .rw[h]at di;cases di
    .injection e' with e';injection e' with e1 _;rw[e1];exact h
   have c0r:=(World.cell?_of_block (a:=⟨g,f+k,none⟩) (HK.out.blk g hg (by simp;omega))).trans c0
   obtain ⟨q,hq⟩:∃q,o[k]=q:=⟨_,rfl⟩;rw[hq]at c0r;have hok:o[k]?=some q:=by rw[List.getElem?_eq_getElem di,hq]
   have HOK:=Lib.hid hok;have oC:g<wr.heap.size:=by omega
   obtain ⟨y0,y1⟩:=HC.out.ug k (by rw[fU];exact hlt)
   have hgy:=HC.out.lt1;have cR:decide (k<n)=true:=decide_eq_true hlt;clear c0 hq hok di
   cases q with
   | true=>
    go_wp2_with fail;go_roundw
    case rel=>exact ⟨k+1,by omega,by go_num,by rw[Cd HOK.out];exact HC,HK⟩
    case measure=>simp[intOf];omega
   | false=>
    have bg:=HC.out.QC (fU _ _ _) k none;have TA:OR 3 1 zf (w.heap.size+1) (.slice (some ⟨w.heap.size+1,0,none⟩) n n) (dD o (k+1) n) (wr.setCell ⟨w.heap.size+1,k,none⟩ (.int .i64 (-1))):=by rw[zi HOK.out];exact bg
    have Vc:=Lib.hid TA;have bM:ah [w.heap.size+1] [w.heap.size+1] w1 (wr.setCell ⟨w.heap.size+1,k,none⟩ (.int .i64 (-1))):=HK.out.trans ⟨rfl,rfl,rfl,by simp[World.setCell],λq _ hn=>Below.heap_setCell _ _ _ _ (λe=>hn (by simp[show q=w.heap.size+1 from e])),λk hk=>.inl hk⟩
    have PA:=Lib.hid bM;clear bg TA bM;go_wp2_with fail;go_roundw
    case rel=>exact ⟨k+1,by omega,by go_num,Vc,PA⟩
    case measure=>simp[intOf];omega
  .obtain rfl:k=n:=by omega
   have hd:decide ((k:Int)<(k:Int))=false:=decide_eq_false (by omega)
   have aaZ:=(HK.out.blk w.heap.size (by omega) (by simp)).trans ahv.out
   have aa0:Below w.heap.size w wr:=aaY.out.trans (HK.out.below (λq hq=>by rw[List.mem_singleton]at hq;omega) aaY.out.size)
   have hhd:=ml.first (m:=m) (o:=o) (by rw[Vi.out.1,HN.out.1]) (by rw[HN.out.1];exact Vi.out.2) (by rw[HN.out.1];exact h1)
   rw[HN.out.1]at hhd;have Vj:=Lib.hid aaZ;have ahA:=Lib.hid aa0;have HHD:=Lib.hid hhd;obtain ⟨W1,rfl⟩:∃W:World,W=wr:=⟨_,rfl⟩;clear aaZ aa0 hhd;go_wp2_with fail
   go_loopg [3,6] (k+2) (λq cv kv wr=>∃(g3 c3 kn:Nat) (cs:List (Option Nat)),cv = .slice (some ⟨g3,0,none⟩) k c3/\kv = .int .i64 (kn:Int)/\q+kn=k+2/\kn<=k/\Hid (OR 3 1 zf (w.heap.size+1) (.slice (some ⟨g3,0,none⟩) k c3) cs wr)/\Hid (ml m cs kn)/\Hid (wr.heap[w.heap.size]?=some (.cells #[.slice Ae k ce, .slice Aa k ca] 93 (0,0)))/\Hid (Below w.heap.size w wr))
   case atStart=>exact ⟨w.heap.size+1,k,0,dD o k k,rfl,rfl,rfl,Nat.zero_le _,HC,HHD,Vj,ahA⟩
   case round=>
    obtain ⟨g3,c3,kn,cs,rfl,rfl,hq,hkn,PB,HH,vT,sw⟩:=hrel;obtain ⟨WB,rfl⟩:∃W:World,W=wr:=⟨_,rfl⟩;have rQ:=PB.out.lt1;have aa1:cs.length=k:=by rw[HH.out.len,HN.out.1]
    have hwB:=sw.out.size;have EI:w.heap.size<WB.heap.size:=(Array.getElem?_eq_some_iff.1 vT.out).1;have aa2:MN Tryz.prog 9 WB.heap.size 0 (λ_=>none) (WB.alloc (.map #[] 0)):=MN.made _ _ _;have hz0:=qW (WB.alloc (.map #[] 0)) k (by omega)
    have aa3:(WB.alloc (.map #[] 0)).heap.size=WB.heap.size+1:=by simp
    rw[aa3]at hz0;have KP:RdR m WB cs (List.replicate k (some 0)) [] (λ_=>none) k 0 ((WB.alloc (.map #[] 0)).alloc (.cells (Array.replicate k (.int .i64 0)) 3)):=
     ⟨aa2.kept (au _ _ _ (by omega)),ub.nil,hz0,jh.start _ (by simp[HN.out.1]),((Below.refl _ WB).alloc (Nat.le_refl _) _).alloc (by omega) _⟩
    have LI:=Lib.hid KP;have aa4:=Lib.hid aa1;clear aa2 hz0 aa3 KP aa1;go_wp2_with fail
    go_loopw [38] (λiv wr=>∃(j:Nat) (ds:List (Option Nat)) (seen:List (Bool×List Ed)) (F:Lit->Option Value),j<=k/\iv = .int .i64 (j:Int)/\Hid (RdR m WB cs ds seen F k j wr)) (λiv _=>k - (intOf iv).toNat)
    case atStart=>exact ⟨0,_,[],_,Nat.zero_le _,rfl,LI⟩
    case round=>
     obtain ⟨j,ds,seen,F,hj,rfl,HR⟩:=hrel;have hwr:=HR.out.bl.size;have hsl:=HR.out.own.lt1;have QD:ds.length=k:=by rw[HR.out.ri.len,HN.out.1]
     by_cases hlt:j<k
     .have hd:decide ((j:Int)<(k:Int))=true:=decide_eq_true (by omega)
      have iI:decide (j<k)=true:=decide_eq_true hlt;have PC:j<m.ed.length:=by rw[HN.out.1];exact hlt
      obtain ⟨QE,-⟩:=PB.out.ug j (by rw[aa4.out];exact hlt)
      have QF:=(HR.out.bl.cell (p:=⟨g3,j,none⟩) rQ).trans QE;have arj:g3<wr.heap.size:=by omega
      obtain ⟨dd0,dd1⟩:=HR.out.own.ug j (by rw[QD];exact hlt)
      have HDL:=Lib.hid QD;clear QE QD
      cases bD:bR cs j with
      | none=>
       rw[bD]at QF;have cc2:wr.cell? ⟨g3,j,none⟩=some (.int .i64 (-1)):=QF;have bg:=HR.out.own.QC HDL.out j none;have hne:WB.heap.size≠WB.heap.size+1:=by omega
       have uh:RdR m WB cs (ds.set j none) seen F k (j+1) (wr.setCell ⟨WB.heap.size+1,j,none⟩ (.int .i64 (-1))):=
        ⟨HR.out.mn.kept (Below.heap_setCell _ _ _ _ hne),HR.out.sy,bg,HR.out.ri.none_ PC bD,HR.out.bl.setCell (p:=⟨WB.heap.size+1,j,none⟩) (by show WB.heap.size<=WB.heap.size+1;omega) _⟩
       have xq:=Lib.hid uh;clear QF bD bg uh;go_wp2_with fail;go_roundw
       case rel=>exact ⟨j+1,_,_,_,by omega,by go_num,xq⟩
       case measure=>simp[intOf];omega
      | some cl=>
       rw[bD]at QF;have cc2:wr.cell? ⟨g3,j,none⟩=some (.int .i64 (cl:Int)):=QF;have ui:decide ((cl:Int)<0)=false:=decide_eq_false (by omega)
       have Y3:bR cs j≠none:=by rw[bD];simp
       have HCN:=Lib.hid Y3;have Ch:=sw.out.trans (HR.out.bl.mono hwB);obtain ⟨ga,fa,rfl,-,KU,aa6⟩:=HA.out.at_ (show j<m.ac.length by rw[HN.out.2];exact hlt)
       obtain ⟨ge,fe,rv0,rfl,-,Vk,aa7,Ms⟩:=HE.out.at_ PC;have ca0:=(World.cell?_of_block (a:=⟨ga,fa+j,none⟩) (Ch.block ga KU)).trans aa6;have ce0:=(World.cell?_of_block (a:=⟨ge,fe+j,none⟩) (Ch.block ge Vk)).trans aa7;have vR:=Ms.later Ch;obtain ⟨row,hrow⟩:∃r,m.ed[j]=r:=⟨_,rfl⟩;obtain ⟨bb,xz⟩:∃b,m.ac[j]'(by rw[HN.out.2];exact hlt)=b:=⟨_,rfl⟩
       rw[hrow]at vR;rw[xz]at ca0;have jN:row∈m.ed:=by rw[<-hrow];exact List.getElem_mem PC
       have hrM:br m j=row:=by unfold br;rw[List.getElem?_eq_getElem PC,hrow];rfl
       have haM:(m.ac[j]?).getD false=bb:=by rw[List.getElem?_eq_getElem (by rw[HN.out.2];exact hlt),xz];rfl
       have aba:Bg m cs j=(bb,bJ (bR cs) row):=by unfold Bg mj;rw[hrM,haM]
       have Y7:=uj (cls:=bR cs) (HV.out.rR row jN) (KO.out.ku row jN);have Y8:=Lib.hid (show ∀e∈row,e.to<cs.length from λe he=>by rw[aa4.out,<-HN.out.1];exact HV.out.to row jN e he)
       have D5:=Lib.hid (KO.out.ku row jN);have QG:=Lib.hid (show ∀e∈bJ (bR cs) row,e.lo<256/\e.hi<256/\e.to<1000000 from λe he=>by
        obtain ⟨h1,h2,f,hf,h3⟩:=Y7 e he;have:=HH.out.lt _ _ h3;have:=HN.out.1;exact ⟨h1,h2,by omega⟩)
       have rJ:=KO.out.rl row jN;have HJL:=Lib.hid (show (bJ (bR cs) row).length<=10000 from Nat.le_trans (qZ _ _) rJ);have gU:=(HR.out.bl.block _ EI).trans vT.out;obtain ⟨c0,c1⟩:wr.cell? ⟨w.heap.size,0,none⟩=some (.slice (some ⟨ge,fe,none⟩) k ce)/\wr.cell? ⟨w.heap.size,1,none⟩=some (.slice (some ⟨ga,fa,none⟩) k ca):=by
        constructor <;> (rw[cell_of_row _ _ _ _ _ _ gU]; rfl)
       have Vl:w.heap.size<wr.heap.size:=by omega
       have ahC:ga<wr.heap.size:=by omega
       have ahD:ge<wr.heap.size:=by omega
       obtain ⟨Ar,cr,Bw,-⟩:=vR.form;obtain ⟨zk,xG⟩:∃n,row.length=n:=⟨_,rfl⟩;rw[xG]at Bw rJ;subst Bw;have Mu:dR wr (.slice Ar zk cr) row:=vR;have HED:=Lib.hid Mu;have Ci:=Lib.hid ((wE.gW PB.out).later HR.out.bl);have KZ:=Lib.hid (qN.out.below Ch fV);have TB:=Lib.hid (And.intro aba bD);have Y9:=Lib.hid xG;obtain ⟨W,EJ⟩:∃W:World,W=wr:=⟨_,rfl⟩;subst EJ;have eU:Below W.heap.size W W.drew:=(Below.refl _ _).drew;have HDD:=Lib.hid (And.intro dd0 dd1);have HHZ:=Lib.hid hz;obtain ⟨NB,EI⟩:∃N,bs (oh bb (bJ (bR cs) row))=N:=⟨_,rfl⟩;have TC:=Lib.hid EI;clear EI;clear QF bD Y3 Ch KU aa6 Vk aa7 Ms vR Mu hrow xz jN hrM haM aba Y7 gU dd0 dd1 hmk hmm hz;go_wp2_with fail;refine aq 13 [] (Ve w.heap.size ga fa k ca ge fe ce j bb (.slice Ar zk cr) (.slice (some ⟨g3,0,none⟩) k c3) cs row NB) (λ_ w'=>Below W.heap.size W w') (by kernel_rfl) (by kernel_rfl) (by kernel_rfl) (by kernel_rfl) (by kernel_rfl) (by kernel_rfl) (by decide) eU ?_ ?_
       .simp only[cP,cQ];refine ae.pure (by decide) ?_ (ae.pure (by decide) ?_ (ae.pure (by decide) ?_ (ae.pure (by decide) ?_ (ae.pure (by decide) ?_ (ae.pure (by decide) ?_ (ae.pure (by decide) ?_ (ae.pure (by decide) ?_ (ae.pure (by decide) ?_ (ae.pure (by decide) ?_ (ae.pure (by decide) ?_ (ae.free (by decide) ?_ (ae.free (by decide) ?_ (ae.nil)))))))))))))
        all_goals first | (with_reducible intro v wz c aD hS hE K hK;simp only[ai,Act.put,eh,ek,ep,Nat.zero_add,Nat.reduceAdd,cP,cQ]at hK|-) | (intro v wz hS hE K hK;simp only[ai,Act.put,eh,ek,ep,Nat.zero_add,Nat.reduceAdd,cP,cQ]at hK|-)
        .have HX:=Lib.hid hS;clear hS hE aD;go_wp2_with fail;exact hK.out _ rfl
        .have e0:v 0=_:=hE.1 rfl;rw[e0]at hK|-;have bx0:=(hS.cell (p:=⟨w.heap.size,0,none⟩) Vl).trans c0;have bx1:=(hS.cell (p:=⟨w.heap.size,1,none⟩) Vl).trans c1;have lwz:w.heap.size<wz.heap.size:=by have:=hS.size;omega
         have HX:=Lib.hid hS;clear hS hE aD;go_wp2_with fail;exact hK.out _ rfl
        .have HX:=Lib.hid hS;clear hS hE aD;go_wp2_with fail;exact hK.out _ rfl
        .have e1:v 1=_:=hE.1 rfl;have e2:v 2=_:=hE.2.1 rfl;rw[e1,e2]at hK|-;have HX:=Lib.hid hS;clear hS hE aD;go_wp2_with fail;exact hK.out _ rfl
        .have e3:v 3=_:=hE.1 rfl;rw[e3]at hK|-;have ax:=(hS.cell (p:=⟨ga,fa+j,none⟩) ahC).trans ca0;have lwa:ga<wz.heap.size:=by have:=hS.size;omega
         have HX:=Lib.hid hS;clear hS hE aD;go_wp2_with fail;exact hK.out _ rfl
        .have HX:=Lib.hid hS;clear hS hE aD;go_wp2_with fail;exact hK.out _ rfl
        .have e5:v 5=_:=hE.1 rfl;rw[e5]at hK|-;have bx0:=(hS.cell (p:=⟨w.heap.size,0,none⟩) Vl).trans c0;have bx1:=(hS.cell (p:=⟨w.heap.size,1,none⟩) Vl).trans c1;have lwz:w.heap.size<wz.heap.size:=by have:=hS.size;omega
         have HX:=Lib.hid hS;clear hS hE aD;go_wp2_with fail;exact hK.out _ rfl
        .have HX:=Lib.hid hS;clear hS hE aD;go_wp2_with fail;exact hK.out _ rfl
        .have e6:v 6=_:=hE.1 rfl;have e7:v 7=_:=hE.2.1 rfl;rw[e6,e7]at hK|-;have HX:=Lib.hid hS;clear hS hE aD;go_wp2_with fail;exact hK.out _ rfl
        .have e8:v 8=_:=hE.1 rfl;rw[e8]at hK|-;have ex:=(hS.cell (p:=⟨ge,fe+j,none⟩) ahD).trans ce0;have lwe:ge<wz.heap.size:=by have:=hS.size;omega
         have HX:=Lib.hid hS;clear hS hE aD;go_wp2_with fail;exact hK.out _ rfl
        .have HX:=Lib.hid hS;clear hS hE aD;go_wp2_with fail;exact hK.out _ rfl
        .have e9:v 9=_:=hE.1 rfl;have pA:v 10=_:=hE.2.1 rfl;rw[e9,pA]at hK|-;have aF:=uk (.slice Ar zk cr) (.slice (some ⟨g3,0,none⟩) k c3) row cs wz (HED.out.later hS) (Ci.out.later hS) Y8.out D5.out (by rw[Y9.out];omega)
         have HC:=Lib.hid aF;have HX:=Lib.hid hS;clear hS hE aD aF;go_wp2_with fail;refine HC.out.mono ?_;rintro e wy ⟨jv,rfl,ho,hb⟩;have vR:=dR.gW ho;obtain ⟨Aj,cj,rfl,-⟩:=vR.form;have Mv:=Lib.hid (HX.out.trans (hb.mono HX.out.size));have HJ:=Lib.hid vR;clear ho hb vR;go_wp2_with fail;refine hK.out _ _ (λj z hj h=>?_) Mv.out ⟨Aj,cj,rfl,HJ.out⟩
         match j with
         | 0 | 1 | 2 | 3 | 4 | 5 | 6 | 7 | 8 | 9 | 10=>exact h
         | 11=>exact absurd rfl hj
         | 12=>exact h
         | _+13=>exact trivial
        .have e4:v 4=_:=hE.1 rfl;rw[e4]at hK|-;have Mw:=hE.2.1 rfl;obtain ⟨Aj,cj,tP,hj⟩:=Mw;rw[tP]at hK hj|-;have aF:=zl bb _ (bJ (bR cs) row) wz hj QG.out (by have:=HJL.out;omega) (KZ.out.later hS)
         rw[TC.out]at aF;have HC:=Lib.hid aF;have HX:=Lib.hid hS;clear hS hE aD aF hj tP;go_wp2_with fail;refine HC.out.mono ?_;rintro e wy ⟨rfl,hb⟩;have Mv:=Lib.hid (HX.out.trans (hb.mono HX.out.size));have y7:=Lib.hid hb;clear hb;go_wp2_with fail;refine hK.out _ _ (λj z hj h=>?_) Mv.out rfl
         match j with
         | 0 | 1 | 2 | 3 | 4 | 5 | 6 | 7 | 8 | 9 | 10=>exact h
         | 11=>
          obtain ⟨A,c,e,h2⟩:=h;exact ⟨A,c,e,h2.later y7.out⟩
         | 12=>exact absurd rfl hj
         | _+13=>exact trivial
       .intro v wz hS hF;have e0:v 0=_:=hF 0 (by decide)
        have e1:v 1=_:=hF 1 (by decide)
        have e2:v 2=_:=hF 2 (by decide)
        have e3:v 3=_:=hF 3 (by decide)
        have e4:v 4=_:=hF 4 (by decide)
        have e5:v 5=_:=hF 5 (by decide)
        have e6:v 6=_:=hF 6 (by decide)
        have e7:v 7=_:=hF 7 (by decide)
        have e8:v 8=_:=hF 8 (by decide)
        have e9:v 9=_:=hF 9 (by decide)
        have pA:v 10=_:=hF 10 (by decide)
        have Mw:=hF 11 (by decide)
        have Za:=hF 12 (by decide)
        simp only[ai,Act.put,eh,ek,ep,Nat.zero_add,Nat.reduceAdd,cP,cQ,List.drop_succ_cons,List.drop_zero,e0,e1,e2,e3,e4,e5,e6,e7,e8,e9,pA];clear hF e0 e1 e2 e3 e4 e5 e6 e7 e8 e9 pA;have rM:v 12=_:=Za;rw[rM];have hz:=HHZ.out;have hsz:=hS.size;have ahE:WB.heap.size<W.heap.size:=by omega
        have PD:MN Tryz.prog 9 WB.heap.size seen.length F wz:=HR.out.mn.kept (hS.block _ ahE);have hoz:=HR.out.own.later hS;have dh:Below WB.heap.size WB wz:=HR.out.bl.trans (hS.mono hwr);obtain ⟨dd0,dd1⟩:=hoz.ug j (by rw[HDL.out];exact hlt)
        have hlz:WB.heap.size+1<wz.heap.size:=by omega
        obtain ⟨nm,iO⟩:∃x,oh bb (bJ (bR cs) row)=x:=⟨_,rfl⟩;have jD:keyOf Tryz.prog 9 (.string (bs nm))=some (.string nm):=by
         have h1:=ra _ QG.out;have h2:(boolT bb).length<=5:=by cases bb <;> decide
         have:=WideMaps.keyOf_string_mk (P:=Tryz.prog) (k:=9) Tryz.underlying9 (s:=bs nm) (by rw[dj,<-iO];unfold oh;rw[List.length_append];unfold maxLen;have:=HJL.out;omega)
         rwa [GC]at this
        obtain rfl:NB=bs nm:=by rw[<-TC.out,iO]
        have PE:=Lib.hid iO;have Ja:=Lib.hid jD;have HMZ:=Lib.hid PD;have HOZ:=Lib.hid hoz;have vY:=Lib.hid dh;have abb:seen.length<=k:=by
         have h1:=jW (l:=seen) (r:=(List.range j).map (Bg m cs)) HR.out.ri.nd (λx hx=>by
          obtain ⟨s,h1,-,h3⟩:=HR.out.ri.Y4 x hx;exact List.mem_map.2 ⟨s,List.mem_range.2 h1,h3⟩)
         simp at h1;omega
        clear hS Mw Za rM PD hoz dh iO jD;by_cases dk:Bg m cs j∈seen
        .have rS:(Instr.lookup 176 (.map (some WB.heap.size)) (.string (bs nm)) true).run Tryz.prog wz = .ok (.tuple #[.int .i64 ((seen.idxOf (Bg m cs j):Nat):Int), .bool true]) wz:=by
          have h1:=HMZ.out.mv.look_ok K Tryz.underlying176 hz Ja.out trivial;have h2:=HR.out.sy (Bg m cs j);rw[TB.out.1]at h2;simp only[PE.out]at h2;rw[h2,<-TB.out.1,I8,if_pos dk]at h1;exact h1
         obtain ⟨ix,ED⟩:∃i,seen.idxOf (Bg m cs j)=i:=⟨_,rfl⟩;rw[ED]at rS;have bg:=HOZ.out.QC HDL.out j (some ix);have uh:RdR m WB cs (ds.set j (some ix)) seen F k (j+1) (wz.setCell ⟨WB.heap.size+1,j,none⟩ (.int .i64 (ix:Int))):=
          ⟨HMZ.out.kept (Below.heap_setCell _ _ _ _ (by show WB.heap.size≠WB.heap.size+1;omega)),HR.out.sy,bg,by rw[<-ED];exact HR.out.ri.old PC HCN.out dk,vY.out.setCell (p:=⟨WB.heap.size+1,j,none⟩) (by show WB.heap.size<=WB.heap.size+1;omega) _⟩
         have xq:=Lib.hid uh;have Zb:=Lib.hid dk;clear ED bg uh dk;go_wp2_with fail;go_roundw
         case rel=>exact ⟨j+1,_,_,_,by omega,by go_num,xq⟩
         case measure=>simp[intOf];omega
        .have rS:(Instr.lookup 176 (.map (some WB.heap.size)) (.string (bs nm)) true).run Tryz.prog wz = .ok (.tuple #[.int .i64 0, .bool false]) wz:=by
          have h1:=HMZ.out.mv.look_ok K Tryz.underlying176 hz Ja.out trivial;have h2:=HR.out.sy (Bg m cs j);rw[TB.out.1]at h2;simp only[PE.out]at h2;rw[h2,<-TB.out.1,I8,if_neg dk]at h1;exact h1
         have Pw:F (.string nm)=none:=by
          have h2:=HR.out.sy (Bg m cs j);rw[TB.out.1]at h2;simp only[PE.out]at h2;rw[h2,<-TB.out.1,I8,if_neg dk]
         obtain ⟨sl,EK⟩:∃n,seen.length=n:=⟨_,rfl⟩;have PD:=HMZ.out;rw[EK]at PD abb;have Zb:=Lib.hid (And.intro dk EK);have abc:=Lib.hid PD;have HFN:=Lib.hid Pw;clear dk EK PD Pw;go_wp2_with (first
          | (at_len;refine jE rfl _ 176 rfl 9 3 Tryz.underlying176 WB.heap.size sl F rfl abc.out ?_)
          | (at_mapUpdate;refine wF wz rfl _ _ _ 176 rfl 9 3 K Tryz.underlying176 WB.heap.size sl F rfl abc.out (by unfold maxLen;omega) _ _ _ rfl rfl Ja.out trivial HFN.out ?_))
         intro wm abd wH;have hzm:=wH.size;have hom:OR 3 1 zf (WB.heap.size+1) (.slice (some ⟨WB.heap.size+1,0,none⟩) k k) ds wm:=OR.keep HOZ.out λg hg=>wH.block g (World.ownsRow.lt HOZ.out g hg).2 (λe=>by
          have:=(World.ownsRow.lt HOZ.out g hg).1;injection e with e;omega)
         obtain ⟨ee0,ee1⟩:=hom.ug j (by rw[HDL.out];exact hlt)
         have QH:WB.heap.size+1<wm.heap.size:=by omega
         have bg:=hom.QC HDL.out j (some sl);have hbm:Below WB.heap.size WB wm:=vY.out.grown wH (by omega) (λq hq=>by injection hq with hq;omega)
         have Mx:=HR.out.sy.put (Bg m cs j) Zb.out.1 (sl:Int) (by rw[Zb.out.2])
         rw[TB.out.1]at Mx;simp only[PE.out]at Mx;have Bh:=HR.out.ri.new PC HCN.out Zb.out.1;rw[Zb.out.2,TB.out.1]at Bh;have uh:RdR m WB cs (ds.set j (some sl)) (seen++[(bb,bJ (bR cs) row)]) (jV F (.string nm) (some (.int .i64 (sl:Int)))) k (j+1) (wm.setCell ⟨WB.heap.size+1,j,none⟩ (.int .i64 (sl:Int))):=
          ⟨by rw[List.length_append,Zb.out.2];exact abd.kept (Below.heap_setCell _ _ _ _ (by show WB.heap.size≠WB.heap.size+1;omega)),Mx,bg,Bh,hbm.setCell (p:=⟨WB.heap.size+1,j,none⟩) (by show WB.heap.size<=WB.heap.size+1;omega) _⟩
         have xq:=Lib.hid uh;clear abd wH hom bg hbm Mx Bh uh dd0 dd1;go_wp2_with fail;go_roundw
         case rel=>exact ⟨j+1,_,_,_,by omega,by go_num,xq⟩
         case measure=>simp[intOf];omega
     .have Zc:j=k:=by omega
      have hd:decide ((j:Int)<(k:Int))=false:=decide_eq_false (by omega)
      have HJK:=Lib.hid Zc;clear Zc;obtain ⟨sl,EK⟩:∃n,seen.length=n:=⟨_,rfl⟩;have hmn:=HR.out.mn;rw[EK]at hmn;have HMN:=Lib.hid hmn;have My:=Lib.hid EK;have Bh:=HR.out.ri;rw[HJK.out,<-HN.out.1]at Bh;have HRI:=Lib.hid Bh;have Ch:=sw.out.trans (HR.out.bl.mono hwB);have bI:=Lib.hid Ch;have gU:=(HR.out.bl.block _ EI).trans vT.out;have Vj:=Lib.hid gU;clear hmn EK Bh Ch gU QD;by_cases he:sl=kn
      .have hde:((sl:Int) == (kn:Int))=true:=by simp;omega
       have Mz:=Lib.hid he;clear he;go_wp2_with (at_len;refine jE rfl _ 176 rfl 9 3 Tryz.underlying176 WB.heap.size sl F rfl HMN.out ?_);refine ar λWf cH=>?_;subst cH;refine bodyPost_ret (v:=.slice (some ⟨WB.heap.size+1,0,none⟩) k k) (by simp[results,Tryz.results170,go_sem];try rfl) rfl ?_
       refine ⟨_,ds,rfl,HR.out.own.mono (by omega),bI.out,?_,HH.out.done HV.out HRI.out (by rw[My.out,Mz.out]),λs c hc=>?_⟩
       .rw[HR.out.ri.len,HN.out.1]
       .have:=HRI.out.lt_ s c hc;rwa [HN.out.1]at this
      .have hde:((sl:Int) == (kn:Int))=false:=by simp;omega
       obtain ⟨pE,mV,K8⟩:=HH.out.next HV.out HRI.out (by rw[My.out];exact he)
       rw[My.out]at mV K8;rw[HN.out.1]at K8;have Zd:=Lib.hid pE;clear pE he;go_wp2_with (at_len;refine jE rfl _ 176 rfl 9 3 Tryz.underlying176 WB.heap.size sl F rfl HMN.out ?_)
       go_roundg (k+2-sl)
       case measure=>omega
       case rel=>exact ⟨WB.heap.size+1,k,sl,ds,rfl,rfl,by omega,by omega,HR.out.own.mono (by omega),by have:=Zd.out;rwa [My.out]at this,Vj.out,bI.out⟩
end
section
set_option linter.unusedVariables false
set_option linter.unusedSimpArgs false
open Go.RowKit
theorem Jl (v:Value) (m:Mc) (w:World) (hm:ia w v m) (hv:pL m) (eQ:sf m) (h1:1<=m.ed.length) (om:cd w):Calls Tryz.prog 139 #[v] w (NN m w):=
 NS v m w hm hv eQ h1 λW hb=>Cf v m W (hm.later hb) hv eQ h1 (om.later hb)
end
section
set_option linter.unusedVariables false
set_option linter.unusedSimpArgs false
open Go.RowKit
open Go.Maps (Keyed)
def iP:Value:=.agg #[.slice none 0 0, .slice none 0 0]
def MC (nd:Nd) (w:World) (e:Ending) (w':World):Prop:=
 Below w.heap.size w w'/\
 ((bk nd≠0/\e = .returned (.tuple #[iP, .int .i64 (bk nd)]))\/
  (bk nd=0/\600<aK nd/\e = .returned (.tuple #[iP, .int .i64 3]))\/
  (bk nd=0/\aK nd<=600/\∃b x gs rows bE i,Wr ⟨[],[]⟩ b x (gN nd)/\b.fol.length=aK nd/\(∀rs∈b.sets,∀r∈rs,r.2<256)/\ER b x gs rows bE i/\
   ((2000<gs.length/\e = .returned (.tuple #[iP, .int .i64 3]))\/(i=gs.length/\gs.length<=2000/\∃rv m',e = .returned (.tuple #[rv, .int .i64 0])/\j0 w.heap.size w' rv m'/\Jo ⟨rows,bE⟩ m'))))
theorem Jp {m m':Mc} (h:Jo m m') (w:List Nat):jn m' w 0=jn m w 0:=by
 rcases h.1 with ⟨-,-,h1⟩ | ⟨h1,rfl⟩
 .exact h1 w
 .have h2:jn m w 0=false:=by
   cases hx:jn m w 0 with
   | false=>rfl
   | true=>exact absurd ⟨w,hx⟩ h1
  rw[h2]
  cases w with
  | nil=>rfl
  | cons c r=>rfl
theorem pX {w:World} {B n:Nat} {e:TypeId} {v:Value} {xs:List Value} (h:w.ownsRow B e 1 v n xs) (hn:0<n):∃g c,v = .slice (some ⟨g,0,none⟩) n c/\(n<=c/\c<=9223372036854775807)/\v.ownBlock=some g/\g<w.heap.size/\∀i,i<n->w.cell? ⟨g,i,none⟩=xs[i]?:=by
 obtain ⟨A,c,rfl,h1,h2⟩:=ag h;obtain ⟨g,rfl,-,h3,h4⟩:=th h hn;exact ⟨g,c,rfl,⟨h1,h2⟩,rfl,h3,h4⟩
theorem MH {w0:World} {s mb:Nat} {x2 v2 vs vf:Value} {b:Pb} {rows sv:List Value} {w w':World} (hb:Bs w0 s x2 (.map (some mb)) (.slice none 0 0) b vs vf rows sv w) (hk:ah [s] [] w w')
  (hcs:w'.heap[s]?=some (.cells #[vs,vf,v2, .map (some mb), .slice none 0 0] 182 (0,0))) (hm:MV Tryz.prog 9 mb 0 (λ_=>none) w') (hmB:w0.heap.size<=mb) (hmw:mb<w.heap.size) (h1:0<b.fol.length) (h2:0<b.sets.length) :
  rU w0.heap.size s mb vs vf v2 [] (iQ s mb (.slice none 0 0)) w'/\nU w0 (iQ s mb (.slice none 0 0)) w' vs b.sets/\MU (iQ s mb (.slice none 0 0)) w' vf b.fol/\Below w0.heap.size w0 w':=by
 have hlt:=hb.lt;have hsl:s<w.heap.size:=(hlt s (by simp[jM])).2
 have bL:=hb.nd;rw[List.nodup_cons]at bL;have eQ:s≠mb:=by
  rintro rfl;obtain ⟨D,⟨es,c,q1,-⟩,-⟩:=hm;rw[hcs]at q1;injection q1 with q1
  cases q1
 have VR:∀{B k n:Nat} {e:TypeId} {v:Value} {xs:List Value},w.ownsRow B e k v n xs->v.ownBlock≠some mb:=λ{B k n e v xs} ho hv=>by
  obtain ⟨cs,md,q2⟩:=aT ho mb hv;have q3:=(hk.blk mb hmw (by simp;exact λe=>eQ e.symm)).trans q2
  obtain ⟨D,⟨es,c,q1,-⟩,-⟩:=hm;rw[q3]at q1;injection q1 with q1
  cases q1
 have vU:∀g,g∈iQ s mb (.slice none 0 0)↔g=s\/g=mb:=λg=>by simp[iQ,blk,Value.ownBlock]
 have Lb:∀g,g≠s->g∉[s]:=λg h hm=>h (List.mem_singleton.1 hm);obtain ⟨gS,cS,rfl,TE,hoS,Vt,ME⟩:=pX hb.sets h2;obtain ⟨gF,cF,rfl,MF,hoF,QN,MG⟩:=pX hb.fol h1;have nS:gS≠s:=λe=>bL.1 (by rw[<-e];exact List.mem_append_left _ (aA.2 hoS))
 have nF:gF≠s:=λe=>bL.1 (by rw[<-e];exact List.mem_append_right _ (List.mem_append_left _ (aA.2 hoF)))
 have mS:gS≠mb:=λe=>VR hb.sets (by rw[hoS,e])
 have mF:gF≠mb:=λe=>VR hb.fol (by rw[hoF,e])
 refine ⟨⟨.slice none 0 0,[],λ_=>none,rfl,⟨eQ,by simp[Value.ownBlock],by simp[Value.ownBlock]⟩,⟨hb.hs,hmB,Nat.le_trans hb.eP.size hk.size⟩,hcs,hm,λl=>rfl,World.ownsRow_nil _ _ _ _,λi hi=>(by cases hi)⟩,?_,?_,?_⟩
 .refine ⟨_,cS,rfl,TE, .inr ⟨gS,rfl,Nat.lt_of_lt_of_le Vt hk.size,λh=>by rcases (vU gS).1 h with h | h;exact nS h;exact mS h,λi hi=>?_⟩⟩
  obtain ⟨v,q1,q2,-⟩:=hb.Lx i hi;refine ⟨v,(World.cell?_of_block (a:=⟨gS,i,none⟩) (hk.blk gS Vt (Lb _ nS))).trans ?_,q2⟩;rw[ME i hi,q1]
 .refine ⟨gF,cF,rfl,MF,Nat.lt_of_lt_of_le QN hk.size,λh=>by rcases (vU gF).1 h with h | h;exact nF h;exact mF h,λi hi=>?_⟩
  obtain ⟨v,q1,q2⟩:=hb.Ei i hi;have nv:v.ownBlock≠some s:=λe=>bL.1 (List.mem_append_right _ (List.mem_append_right _ (List.mem_flatMap.2 ⟨v,List.mem_of_getElem? q1,aA.2 e⟩)));have mv:v.ownBlock≠some mb:=VR q2;refine ⟨v,(World.cell?_of_block (a:=⟨gF,i,none⟩) (hk.blk gF QN (Lb _ nF))).trans ?_,(SL.fS q2).keep (λg hg hm=>nv (by rw[hg,List.mem_singleton.1 hm])) hk,λg hg hm=>?_,λk hv=>Nat.lt_of_lt_of_le (q2.lt k hv).2 hk.size,λn c e=>?_⟩
  .rw[MG i hi,q1]
  .rcases (vU g).1 hm with h | h
   .exact nv (by rw[hg,h])
   .exact mv (by rw[hg,h])
  .rcases q2.2 with ⟨h3,-⟩ | ⟨g,cap,cur,h3,-⟩
   .rw[h3]at e;injection e with _ _ e;exact e.symm
   .rw[h3]at e;injection e with e;cases e
 .exact hb.eP.trans ⟨hk.os,hk.tape,hk.output,hk.size,λk bM=>hk.blk k (by have:=hb.eP.size;omega) (λh=>by have:=hb.hs;have:=List.mem_singleton.1 h;omega)⟩
end
section
set_option linter.unusedVariables false
set_option linter.unusedSimpArgs false
open Go.RowKit
open Go.Maps (Keyed)
theorem nU.oK {w0:World} {L L':List Nat} {w:World} {v:Value} {sets:List (List (Nat×Nat))} (h:nU w0 L w v sets) (hs:∀k∈L',k∈L):nU w0 L' w v sets:=by
 obtain ⟨A,c,e,hc,h⟩:=h;refine ⟨A,c,e,hc,h.imp id ?_⟩;rintro ⟨g,rfl,hg,hn,hcell⟩;exact ⟨g,rfl,hg,λhm=>hn (hs g hm),hcell⟩
theorem rU.ES {B s mb:Nat} {v0 v1 v2:Value} {gs:List (List Nat)} {fp:List Nat} {w:World} (h:rU B s mb v0 v1 v2 gs fp w):∃A c,w.cell? ⟨s,4,none⟩=some (.slice A gs.length c)/\(gs.length<=c/\c<=9223372036854775807)/\
  ∀k (hk:k<gs.length),∃g v,A=some ⟨g,0,none⟩/\g<w.heap.size/\w.cell? ⟨g,k,none⟩=some v/\IL w v gs[k]/\aG fp v:=by
 obtain ⟨vg,gv,F,rfl,h⟩:=h;obtain ⟨A,c,rfl,hc⟩:=ag h.own;refine ⟨A,c,by rw[cell_of_row _ _ _ _ _ _ h.cs];rfl,hc,λk hk=>?_⟩
 obtain ⟨g,rfl,-,hg,hcell⟩:=th h.own (by omega)
 obtain ⟨v,h1,h2,h3,-⟩:=h.Q1 k hk;exact ⟨g,v,rfl,hg,by rw[hcell k hk,h1],h2,h3⟩
def Vn (w0:World) (s mb:Nat) (v0 v1 v2:Value) (b:Pb) (gs:List (List Nat)) (fp L:List Nat) (W:World) (x:Value) (w:World):Prop:=
 ∃r row eZ fp',kB L r/\(dR w x row/\aG fp' x/\∀g,x.ownBlock=some g->W.heap.size<=g/\g<w.heap.size)/\rU w0.heap.size s mb v0 v1 v2 eZ fp' w/\ah fp fp' W w/\eu b r eZ row 256/\mq b r gs eZ/\eZ.length<=gs.length+257
theorem Vn.later {w0:World} {s mb:Nat} {v0 v1 v2:Value} {b:Pb} {gs:List (List Nat)} {fp L:List Nat} {W:World} {x:Value} {w w':World} (h:Vn w0 s mb v0 v1 v2 b gs fp L W x w) (hb:Below w.heap.size w w'):Vn w0 s mb v0 v1 v2 b gs fp L W x w':=by
 obtain ⟨r,row,eZ,fp',h1,⟨h2,h3,h4⟩,h5,h6,h7,h8,h9⟩:=h;exact ⟨r,row,eZ,fp',h1,⟨h2.later hb,h3,λg hg=>⟨(h4 g hg).1,Nat.lt_of_lt_of_le (h4 g hg).2 hb.size⟩⟩,h5.later hb,h6.trans (ah.aa hb),h7,h8,h9⟩
structure CpL (w0:World) (s mb:Nat) (v0 v1 v2:Value) (b:Pb) (x:dw) (P:Nat) (vx vy:Value) (N i:Nat) (gs:List (List Nat)) (fp:List Nat) (rs:List (List Ed)) (bE:List Bool) (vE vA:Value) (gv:List Value) (wr:World):Prop where
 sb:rU w0.heap.size s mb v0 v1 v2 gs fp wr
 ma:iR w0.heap.size N fp vE vA gv rs bE wr
 cp:QP w0 (fp++lA N vE vA) v0 v1 v2 b x P vx vy wr
 ci:ER b x gs rs bE i
 bl:Below w0.heap.size w0 wr
theorem GN {w0 W w6 w7:World} {s mb P N i:Nat} {v0 v1 v2 vx vy vE vA pG rv:Value} {b:Pb} {x:dw} {gs:List (List Nat)} {fp L:List Nat} {rs:List (List Ed)} {VS bE:List Bool} {gv:List Value}
  (hma:iR w0.heap.size N fp vE vA gv rs bE W) (Zr:QP w0 (fp++lA N vE vA) v0 v1 v2 b x P vx vy W) (xJ:ER b x gs rs VS i) (sS:if i=0 then bE=VS else ∃a,bE=VS++[a]/\(a=true↔∃p∈(gs[i]?).getD [],p∈x.last))
  (hi:i<gs.length) (oc:Below w0.heap.size w0 W) (hL:∀p,p∈L↔nT b x gs i p) (hLb:∀p∈L,p<b.sets.length)
  (hE:Vn w0 s mb v0 v1 v2 b gs fp L W rv w6) (hg:w6.grownBy w7 vE.ownBlock) (ho:w7.ownsRow w0.heap.size 187 1 pG (rs.length+1) (gv++[rv])) (hf:cW pG vE w6.heap.size) (vU:∀k∈fp,w0.heap.size<=k) :
  ∃row eZ fp',CpL w0 s mb v0 v1 v2 b x P vx vy N (i+1) eZ fp' (rs++[row]) bE pG vA (gv++[rv]) (w7.setCell ⟨N,0,none⟩ pG)/\eZ.length<=gs.length+257:=by
 obtain ⟨r,row,eZ,fp',h1,⟨h2,h3,h4⟩,h5,h6,h7,h8,h9⟩:=hE;have hlt:=hma.lt;have Je:=hma.keep h6;have ait:=h5.lt;have Gr:=oc.size;obtain ⟨q1,q2⟩:=Je.ux (λk hk=>(ait k hk).2) h2 (λg hg hm=>by have:=(h4 g hg).1;have:=(hlt g hm).2;omega) h3 (λg hg=>⟨by have:=(h4 g hg).1;omega,(h4 g hg).2⟩) ho hg hf
 refine ⟨row,eZ,fp',⟨h5.apart q2 (λk hk=>Je.out k hk) Je.types,q1,(Zr.keep (h6.ais _)).keep (q2.abP _),xJ.step hi (λp=>(h1.2 p).trans (hL p)) h1.1 (λp hp=>hLb p ((h1.2 p).1 hp)) h8 h7 sS,?_⟩,h9⟩;exact (oc.trans (h6.below vU Gr)).trans (q2.below (λk hk=>(hlt k hk).1) (by have:=h6.size;omega))
theorem QI.later {w0:World} {s:Nat} {x2 x3 x4:Value} {b:Pb} {fp:List Nat} {Lg:LA} {n K:Nat} {w:World} {e:Ending} {w' w'':World} (h:QI w0 s x2 x3 x4 b fp Lg n K w e w') (hb:Below w'.heap.size w' w''):QI w0 s x2 x3 x4 b fp Lg n K w e w'':=by
 obtain ⟨b',x,fp',v1,v2,h1,h2,h3,⟨h4,h5⟩,⟨h6,h7⟩,h8⟩:=h;have hk:=ah.aa (fp:=fp') hb;exact ⟨b',x,fp',v1,v2,h1,h2.later hb,h3.trans hk,h4.keep h5 hk,h6.keep h7 hk,h8⟩
theorem py.pW {w0:World} {s:Nat} {x2 x3 x4:Value} {b:Pb} {fp:List Nat} {w:World} (h:py w0 s x2 x3 x4 b fp w) {g:Nat} {cs:Array Value} {m:Nat×Nat} (hg:w.heap[g]?=some (.cells cs 184 m)):g∉fp:=by
 obtain ⟨vs,vf,rows,sv,rfl,h⟩:=h;intro hm;unfold jM at hm;have key:∀{cs':Array Value} {e:TypeId} {m':Nat×Nat},w.heap[g]?=some (.cells cs' e m')->e≠184->False:=λ{cs' e m'} h1 hne=>by
  rw[hg]at h1;injection h1 with h1;injection h1 with _ h2 _;exact hne h2.symm
 rcases List.mem_cons.1 hm with rfl | hm
 .exact key h.cs (by decide)
 .rcases List.mem_append.1 hm with hm | hm
  .obtain ⟨cs',m',h1⟩:=aT h.sets g (aA.1 hm);exact key h1 (by decide)
  .rcases List.mem_append.1 hm with hm | hm
   .obtain ⟨cs',m',h1⟩:=aT h.fol g (aA.1 hm);exact key h1 (by decide)
   .obtain ⟨v,hv,BJ⟩:=List.mem_flatMap.1 hm;obtain ⟨i,hi,he⟩:=List.getElem_of_mem hv;have rJ:rows.length=b.fol.length:=by have:=h.fol.1;omega
    obtain ⟨v',h1,h2⟩:=h.Ei i (by omega)
    rw[List.getElem?_eq_getElem hi,he]at h1;obtain rfl:=Option.some.inj h1;obtain ⟨cs',m',h3⟩:=aT h2 g (aA.1 BJ);exact key h3 (by decide)
theorem aS {w:World} {B B' k n:Nat} {e:TypeId} {v:Value} {xs:List Value} (h:w.ownsRow B e k v n xs) (hB:B'<=B):w.ownsRow B' e k v n xs:=
 ⟨h.1,h.2.imp id λ⟨g,cap,cur,h1,h2,h3⟩=>⟨g,cap,cur,h1,Nat.le_trans hB h2,h3⟩⟩
def jX (last:List Nat) (n k:Nat):List Bool:=(List.range n).map λp=>decide (p∈last.take k)
theorem EO (last:List Nat) (n:Nat):jX last n 0=List.replicate n false:=by
 unfold jX;rw[List.eq_replicate_iff];refine ⟨by simp,λx hx=>?_⟩
 obtain ⟨p,-,rfl⟩:=List.mem_map.1 hx;simp
theorem mY (last:List Nat) (n k:Nat):(jX last n k).length=n:=by simp[jX]
theorem mX (last:List Nat) {n p:Nat} (k:Nat) (h:p<n):(jX last n k)[p]?=some (decide (p∈last.take k)):=by
 unfold jX;rw[List.getElem?_map,List.getElem?_range h];rfl
theorem EP {last:List Nat} {n k:Nat} (hk:k<last.length):(jX last n k).set last[k] true=jX last n (k+1):=by
 apply List.ext_getElem?;intro p;by_cases hp:p<n
 .rw[mX last (k+1) hp,List.getElem?_set,List.take_succ_eq_append_getElem hk];by_cases e:last[k]=p
  .rw[if_pos e,if_pos (by rw[mY,e];exact hp)]
   simp[e]
  .rw[if_neg e,mX last k hp]
   congr 1
   rw[decide_eq_decide,List.mem_append,List.mem_singleton];exact ⟨.inl,λh=>h.resolve_right λe2=>e e2.symm⟩
 .rw[List.getElem?_eq_none (by rw[List.length_set,mY];omega),List.getElem?_eq_none (by rw[mY];omega)]
theorem Jc (w:World) (n:Nat) (hn:n<=1000000):OR 4 1 bC w.heap.size (.slice (some ⟨w.heap.size,0,none⟩) n n) (List.replicate n false) (w.alloc (.cells (Array.replicate n (.bool false)) 4)):=by
 have hrow:aY bC (List.replicate n false)=List.replicate n (.bool false):=by
  unfold aY
  induction n with
  | zero=>rfl
  | succ n ih=>rw[List.replicate_succ,List.map_cons,List.flatten_cons,ih (by omega),List.replicate_succ];rfl
 refine ⟨by rw[hrow];simp, .inr ⟨w.heap.size,n,Array.replicate n (.bool false),by simp,Nat.le_refl _,heap_alloc_new w _,by simp,by unfold maxLen;omega,by simp,?_⟩⟩
 rw[hrow,List.length_replicate];simp
def jY (b:Pb) (g:List Nat):List Nat:=g.flatMap λp=>de b p
theorem Ji (b:Pb) (g:List Nat) (p:Nat):jY b (g++[p])=jY b g++de b p:=by unfold jY;simp
theorem Cn {b:Pb} {g:List Nat} {p:Nat}:p∈jY b g↔∃q∈g,p∈de b q:=by unfold jY;exact List.mem_flatMap
theorem Cm {b:Pb} {K:Nat} (hK:∀l∈b.fol,l.length<=K):∀g:List Nat,(jY b g).length<=g.length*K
 | []=>by simp[jY]
 | p::r=>by
  have ih:=Cm hK r;have h1:(de b p).length<=K:=by
   unfold de
   cases h:b.fol[p]? with
   | none=>simp
   | some l=>exact hK l (List.mem_of_getElem? h)
  unfold jY at ih|-;rw[List.flatMap_cons,List.length_append,List.length_cons,Nat.succ_mul];omega
end
section
set_option linter.unusedVariables false
set_option linter.unusedSimpArgs false
open Go.RowKit
open Go.Maps (Keyed)
theorem MA (n:Nat) (hn:n<=1000000) (w:World):(Instr.makeSlice 70 (.int .i64 (n:Int)) (.int .i64 (n:Int))).run Tryz.prog w = .ok (.slice (some ⟨w.heap.size,0,none⟩) n n) (w.alloc (.cells (Array.replicate n (.bool false)) 4)):=by
 obtain ⟨i0,hi,hz0,hz1,hz2⟩:=info_parts mW;have h:=run_makeSlice (P:=Tryz.prog) (w:=w) 70 4 i0 (.bool false) Tryz.underlying70 hi hz0 .i64 .i64 (n:Int) (n:Int) (by omega) (Int.le_refl _) (by rw[hz1];omega) (by rw[hz2];omega) (by omega)
 rw[hz1,Int.toNat_natCast]at h;rw[show madeCells (Value.bool false).cells (n*1)=Array.replicate n (.bool false) from Array.toList_inj.1 (by
  simp only[madeCells,Value.cells,Nat.mul_one,Array.toList_map,Array.toList_range,Array.toList_replicate];rw[List.eq_replicate_iff];refine ⟨by simp,λx hx=>?_⟩
  obtain ⟨i,-,rfl⟩:=List.mem_map.1 hx;simp[Nat.mod_one])]at h
 exact h
def abf (s:Nat) (W:World) (c:Nat) (w':World):Prop:=Below s W w'/\(c=0->Below W.heap.size W w')
def Vm (w0:World) (s:Nat) (x2 x3 x4:Value) (Lg:LA) (pk KK:Nat) (W:World) (kv:Value):Nat->Nat->Value->World->Prop
 | c,0,x,w=>x = .pointer (some ⟨s,0,none⟩)
 | c,1,x,w=>x = .pointer (some ⟨s,0,none⟩)
 | c,2,x,w=>x = .pointer (some ⟨s,0,none⟩)
 | c,3,x,w=>x=kv
 | c,4,x,w=>c=1->QI w0 s x2 x3 x4 ⟨[],[]⟩ [s] Lg pk KK W (.returned x) w
 | c,5,x,w=>∃g,x = .pointer (some ⟨g,0,none⟩)/\W.heap.size<=g/\g<w.heap.size/\w.heap[g]?=some (.cells #[.slice none 0 0, .slice none 0 0, .bool false] 184 (0,0))
 | _,_,_,_=>True
def GD (N:Nat) (W:World) (c:Nat) (w':World):Prop:=W.heap.size<=w'.heap.size/\w'.heap[N]?=W.heap[N]?/\(c<=1->Below W.heap.size W w')
def GF (w0:World) (s mb:Nat) (v0 v1 v2:Value) (b:Pb) (gs:List (List Nat)) (fp L:List Nat) (N i cE nL cL:Nat) (AE AL:Option Addr) (gv:List Value) (W:World):Nat->Nat->Value->World->Prop
 | c,0,x,w=>x = .pointer (some ⟨N,0,none⟩)
 | c,1,x,w=>x = .slice AE i cE
 | c,2,x,w=>x = .pointer (some ⟨s,0,none⟩)
 | c,3,x,w=>x = .slice AL nL cL
 | c,4,x,w=>c=1->∃A r c',x = .slice A r.length c'/\kB L r/\w.ownsRow W.heap.size 3 1 x r.length (bG r)/\IL w x r
 | c,5,x,w=>c=2->Vn w0 s mb v0 v1 v2 b gs fp L W x w
 | c,6,x,w=>c=3->∃g rv,x = .slice (some ⟨g,0,none⟩) 1 1/\W.heap.size<=g/\g<w.heap.size/\w.cell? ⟨g,0,none⟩=some rv/\rv.oneCell'=true/\Vn w0 s mb v0 v1 v2 b gs fp L W rv w
 | c,7,x,w=>c=4->∃rv w6 A c',x = .slice A (i+1) c'/\Vn w0 s mb v0 v1 v2 b gs fp L W rv w6/\w6.grownBy w (Value.slice AE i cE).ownBlock/\w.ownsRow w0.heap.size 187 1 x (i+1) (gv++[rv])/\cW x (.slice AE i cE) w6.heap.size
 | c,8,x,w=>x = .pointer (some ⟨N,0,none⟩)
 | _,_,_,_=>True
set_option maxHeartbeats 16000000 in
theorem Cj (nd:Nd) (vs:List Value) (w:World) (hn:bX w nd vs) (om:cd w):Calls Tryz.prog 109 #[.agg vs.toArray] w (MC nd w):=by
 have HV:=Lib.hid (λW (hW:Below w.heap.size w W)=>re nd vs W (hn.later hW));have HP:=Lib.hid (λW (hW:Below w.heap.size w W) (h:aC nd<=200) (hR:aE nd=true)=>wI _ nd vs W (Nat.le_refl _) h hR (hn.later hW));have HW:=Lib.hid (λ(W:World) (s:Nat) (x2 x3 x4:Value) (hW:Below w.heap.size w W) (hR:aE nd=true) (hp:aK nd<=600)=>Jb W s x2 x3 x4 _ nd vs (Nat.le_refl _) hR hp (hn.later hW));have qN:=Lib.hid om;have hmm:=@run_makeMap Tryz.prog;obtain ⟨ie,sR,he0,he1,TD⟩:=info_parts GG;obtain ⟨ib,xn,hb0,hb1,aL⟩:=info_parts mW;obtain ⟨ii,Ze,GH,sY,pS⟩:=info_parts ft;obtain ⟨A1,c1,A2,c2,rfl,hr,sV,hk⟩:=hn.form;have HB:=Lib.hid (show Below w.heap.size w ((w.alloc (.cells #[.int .i64 nd.op, .slice A1 nd.rs.length c1, .slice A2 nd.kids.length c2, .int .i64 nd.mn, .int .i64 nd.mx] 41)).alloc (.cells #[.slice none 0 0, .slice none 0 0] 93)) from ((Below.refl _ _).alloc (Nat.le_refl _) _).alloc (by simp) _)
 have Zf:=Lib.hid (show ((w.alloc (.cells #[.int .i64 nd.op, .slice A1 nd.rs.length c1, .slice A2 nd.kids.length c2, .int .i64 nd.mn, .int .i64 nd.mx] 41)).alloc (.cells #[.slice none 0 0, .slice none 0 0] 93)).heap[w.heap.size]?=some (.cells #[.int .i64 nd.op, .slice A1 nd.rs.length c1, .slice A2 nd.kids.length c2, .int .i64 nd.mn, .int .i64 nd.mx] 41 (0,0)) from (au _ _ _ (by simp)).trans (heap_alloc_new w _))
 have Vo:=Lib.hid (show ((w.alloc (.cells #[.int .i64 nd.op, .slice A1 nd.rs.length c1, .slice A2 nd.kids.length c2, .int .i64 nd.mn, .int .i64 nd.mx] 41)).alloc (.cells #[.slice none 0 0, .slice none 0 0] 93)).heap[w.heap.size+1]?=some (.cells #[.slice none 0 0, .slice none 0 0] 93 (0,0)) from by simpa using heap_alloc_new (w.alloc _) (.cells #[.slice none 0 0, .slice none 0 0] 93))
 clear hr hk hn om
 go_enter Tryz.func109,Tryz.ntmps109
 go_wp2_with fail;refine (HV.out _ HB.out).mono ?_;rintro e w1 ⟨rfl,hb1⟩;have hz1:=hb1.size;simp only[World.size_alloc]at hz1;have lq:=Lib.hid (show Below w.heap.size w w1 from HB.out.trans (hb1.mono HB.out.size));have EL:=(hb1.block w.heap.size (by simp;omega)).trans Zf.out
 have jB:=(hb1.block (w.heap.size+1) (by simp)).trans Vo.out
 obtain ⟨n0,n1,n2,n3,n4⟩:=aJ EL;obtain ⟨r0,r1⟩:w1.cell? ⟨w.heap.size+1,0,none⟩=some (.slice none 0 0)/\w1.cell? ⟨w.heap.size+1,1,none⟩=some (.slice none 0 0):=by constructor <;> (rw[cell_of_row _ _ _ _ _ _ jB]; rfl)
 have f0:w1.frozen? ⟨w.heap.size+1,0,none⟩=false:=by simp[World.frozen?,jB]
 have f1:w1.frozen? ⟨w.heap.size+1,1,none⟩=false:=by simp[World.frozen?,jB]
 have lR:w.heap.size+1<w1.heap.size:=(Array.getElem?_eq_some_iff.1 jB).1;have HY0:=Lib.hid EL;have HY1:=Lib.hid jB;obtain ⟨q,hq⟩:∃q,bk nd=q:=⟨_,rfl⟩;rw[hq];clear EL jB hb1;by_cases tH:q=0
 case neg=>
  have d1:(q != 0)=true:=by simpa using tH
  have HQ:=Lib.hid (And.intro hq tH);clear hq tH;go_wp2_with fail;refine ar λWf cH=>?_;refine bodyPost_ret (v:=.tuple #[iP, .int .i64 q]) (by rw[cH];simp[results,Tryz.results109,go_sem,r0,r1,lR,iP];try rfl) rfl ?_
  refine ⟨?_, .inl ⟨by rw[HQ.out.1];exact HQ.out.2,by rw[HQ.out.1]⟩⟩
  rw[cH];exact (lq.out.setCell (p:=⟨w.heap.size+1,0,none⟩) (by show w.heap.size<=w.heap.size+1;omega) _).setCell (p:=⟨w.heap.size+1,1,none⟩) (by show w.heap.size<=w.heap.size+1;omega) _
 case pos=>
 subst tH;have d1:((0:Int) != 0)=false:=rfl;obtain ⟨oI,QJ,hR,abg⟩:=kE hq;have HQ:=Lib.hid (And.intro hq (And.intro hR oI));clear hq QJ hR abg oI;go_wp2_with fail;refine (HP.out _ lq.out HQ.out.2.2 HQ.out.2.1).mono ?_;rintro e w2 ⟨rfl,aL⟩;have hz2:=aL.size;have wJ:=Lib.hid (lq.out.trans (aL.mono lq.out.size));have EL:=(aL.block w.heap.size (by omega)).trans HY0.out
 have jB:=(aL.block (w.heap.size+1) lR).trans HY1.out;clear n0 n1 n2 n3 n4 r0 r1 f0 f1;obtain ⟨n0,n1,n2,n3,n4⟩:=aJ EL;obtain ⟨r0,r1⟩:w2.cell? ⟨w.heap.size+1,0,none⟩=some (.slice none 0 0)/\w2.cell? ⟨w.heap.size+1,1,none⟩=some (.slice none 0 0):=by constructor <;> (rw[cell_of_row _ _ _ _ _ _ jB]; rfl)
 have f0:w2.frozen? ⟨w.heap.size+1,0,none⟩=false:=by simp[World.frozen?,jB]
 have f1:w2.frozen? ⟨w.heap.size+1,1,none⟩=false:=by simp[World.frozen?,jB]
 have lR2:w.heap.size+1<w2.heap.size:=by omega
 have HZ0:=Lib.hid EL;have QL:=Lib.hid jB;obtain ⟨pn,xH⟩:∃p,aK nd=p:=⟨_,rfl⟩;rw[xH];clear EL jB aL;by_cases hp6:600<pn
 .have d2:decide (600<(pn:Int))=true:=decide_eq_true (by omega)
  have HPN:=Lib.hid (And.intro xH hp6);clear xH hp6;go_wp2_with fail;refine ar λWf cH=>?_;refine bodyPost_ret (v:=.tuple #[iP, .int .i64 3]) (by rw[cH];simp[results,Tryz.results109,go_sem,r0,r1,lR2,iP];try rfl) rfl ?_
  refine ⟨?_, .inr (.inl ⟨HQ.out.1,by rw[HPN.out.1];exact HPN.out.2,rfl⟩)⟩
  rw[cH];exact (wJ.out.setCell (p:=⟨w.heap.size+1,0,none⟩) (by show w.heap.size<=w.heap.size+1;omega) _).setCell (p:=⟨w.heap.size+1,1,none⟩) (by show w.heap.size<=w.heap.size+1;omega) _
 .have d2:decide (600<(pn:Int))=false:=decide_eq_false (by omega)
  have jq:aK nd<=600/\eV nd<=10000000000:=by
   refine ⟨by omega,?_⟩
   have h1:=Vp _ nd (Nat.le_refl _) HQ.out.2.1 (by omega)
   have h2:cC nd<=20:=(kE HQ.out.1).2.1;have h3:cC nd*aK nd<=20*600:=Nat.mul_le_mul h2 (by omega)
   omega
  have fQ:=Lib.hid jq;have Vq:=Lib.hid (HW.out w2 (w2.heap.size+1) (.slice none 0 0) (.map (some w2.heap.size)) (.slice none 0 0) wJ.out HQ.out.2.1 jq.1);have HPN:=Lib.hid xH;have Zg:=Lib.hid (MV.made Tryz.prog 9 w2);clear xH jq;go_wp2_with fail;refine dv λW hW=>?_;have po:W.heap.size=w2.heap.size+2:=by rw[hW];simp
  have cJ:Below w2.heap.size w2 W:=by rw[hW];exact ((Below.refl _ _).alloc (Nat.le_refl _) _).alloc (by simp) _
  have Ev:W.heap[w2.heap.size+1]?=some (.cells #[.slice none 0 0, .slice none 0 0, .slice none 0 0, .map (some w2.heap.size), .slice none 0 0] 182 (0,0)):=by rw[hW];simpa using heap_alloc_new (w2.alloc (.map #[] 0)) (.cells #[.slice none 0 0, .slice none 0 0, .slice none 0 0, .map (some w2.heap.size), .slice none 0 0] 182)
  have hmW:MV Tryz.prog 9 w2.heap.size 0 (λ_=>none) W:=by rw[hW];exact Zg.out.kept (au _ _ _ (by simp))
  have oD:py w2 (w2.heap.size+1) (.slice none 0 0) (.map (some w2.heap.size)) (.slice none 0 0) ⟨[],[]⟩ [w2.heap.size+1] W:=
   ⟨.slice none 0 0, .slice none 0 0,[],[],rfl,⟨by simp[blk,Value.ownBlock],by omega,Ev,World.ownsRow_nil _ _ _ _,λi hi=>(by cases hi),World.ownsRow_nil _ _ _ _,λi hi=>(by cases hi),cJ⟩⟩
  have Pt:=Lib.hid oD;have EM:=Lib.hid hmW;have bI:=Lib.hid cJ;have lnd:w.heap.size<w2.heap.size+1:=by omega
  have m0:=(cJ.cell (p:=⟨w.heap.size,0,none⟩) (by show w.heap.size<w2.heap.size;omega)).trans n0
  have m1:=(cJ.cell (p:=⟨w.heap.size,1,none⟩) (by show w.heap.size<w2.heap.size;omega)).trans n1
  have m2:=(cJ.cell (p:=⟨w.heap.size,2,none⟩) (by show w.heap.size<w2.heap.size;omega)).trans n2
  have m3:=(cJ.cell (p:=⟨w.heap.size,3,none⟩) (by show w.heap.size<w2.heap.size;omega)).trans n3
  have m4:=(cJ.cell (p:=⟨w.heap.size,4,none⟩) (by show w.heap.size<w2.heap.size;omega)).trans n4
  have eU:abf (w2.heap.size+1) W 0 W.drew:=⟨(Below.refl _ _).drew,λ_=>(Below.refl _ _).drew⟩;clear hW cJ Ev hmW oD n0 n1 n2 n3 n4 r0 r1 f0 f1;refine aq 6 [4] (Vm w2 (w2.heap.size+1) (.slice none 0 0) (.map (some w2.heap.size)) (.slice none 0 0) (gN nd) (aK nd) (eV nd) W (.agg #[.int .i64 nd.op, .slice A1 nd.rs.length c1, .slice A2 nd.kids.length c2, .int .i64 nd.mn, .int .i64 nd.mx])) (λc w'=>abf (w2.heap.size+1) W c w') (by kernel_rfl) (by kernel_rfl) (by kernel_rfl) (by kernel_rfl) (by kernel_rfl) (by kernel_rfl) (by decide) eU ?_ ?_
  .simp only[cP,cQ];refine ae.pure (by decide) ?_ (ae.pure (by decide) ?_ (ae.pure (by decide) ?_ (ae.pure (by decide) ?_ (ae.oJ 0 rfl ?_ (ae.free (by decide) ?_ (ae.nil))))))
   all_goals first | (with_reducible intro v wz c aD hS hE K hK;simp only[ai,Act.put,eh,ek,ep,Nat.zero_add,Nat.reduceAdd,cP,cQ]at hK|-) | (intro v wz hS hE K hK;simp only[ai,Act.put,eh,ek,ep,Nat.zero_add,Nat.reduceAdd,cP,cQ]at hK|-)
   .have HX:=Lib.hid hS;clear hS hE aD;go_wp2_with fail;exact hK.out _ rfl
   .have e0:v 0=_:=hE.1 rfl;rw[e0]at hK|-;have HX:=Lib.hid hS;clear hS hE aD;go_wp2_with fail;exact hK.out _ rfl
   .have e1:v 1=_:=hE.1 rfl;rw[e1]at hK|-;have HX:=Lib.hid hS;clear hS hE aD;go_wp2_with fail;exact hK.out _ rfl
   .have b0z:=(hS.1.cell (p:=⟨w.heap.size,0,none⟩) lnd).trans m0;have b1z:=(hS.1.cell (p:=⟨w.heap.size,1,none⟩) lnd).trans m1;have b2z:=(hS.1.cell (p:=⟨w.heap.size,2,none⟩) lnd).trans m2;have b3z:=(hS.1.cell (p:=⟨w.heap.size,3,none⟩) lnd).trans m3;have b4z:=(hS.1.cell (p:=⟨w.heap.size,4,none⟩) lnd).trans m4;have l1:w.heap.size<wz.heap.size:=by have:=hS.1.size;omega
    have HX:=Lib.hid hS;clear hS hE aD;go_wp2_with fail;exact hK.out _ rfl
   .have e2:v 2=_:=hE.1 rfl;have e3:v 3=_:=hE.2.1 rfl;rw[e2,e3]at hK|-;have hz:=hS.2 rfl;have aF:=Vq.out wz ⟨[],[]⟩ [w2.heap.size+1] 0 (Pt.out.later hz) rfl (by have:=fQ.out.1;show 0+_<=_;omega) (λl hl=>by cases hl) (by have:=fQ.out.2;omega)
    have HC:=Lib.hid aF;have HX:=Lib.hid hS;clear hS hE aF hz;go_wp2_with fail;refine HC.out.mono ?_;rintro e wy ⟨b',y,fp',v1,v2,rfl,hb',hk',iD,ez,hw',je,dO,eX,hK'⟩;have HP:=Lib.hid (And.intro hb' (And.intro hk' (And.intro iD (And.intro ez (And.intro hw' (And.intro je (And.intro dO (And.intro eX hK'))))))));clear hb' hk' iD ez hw' je dO eX hK';go_wp2_with fail;refine hK.out _ _ (λj z hj h=>?_) ⟨HX.out.1.trans (HP.out.2.1.below (λk hk=>by rw[List.mem_singleton]at hk;omega) (by have:=HX.out.1.size;omega)),λh=>by cases h⟩ (λ_=>⟨b',y,fp',v1,v2,rfl,HP.out.1,(ah.aa (HX.out.2 rfl)).trans HP.out.2.1,HP.out.2.2.1,HP.out.2.2.2.1,HP.out.2.2.2.2.1,HP.out.2.2.2.2.2.1,HP.out.2.2.2.2.2.2.1,HP.out.2.2.2.2.2.2.2.1,λl hl=>by have:=HP.out.2.2.2.2.2.2.2.2 l hl;omega⟩)
    match j with
    | 0 | 1 | 2 | 3=>exact h
    | 4=>exact absurd rfl hj
    | 5=>
     obtain ⟨g,e,h1,h2,h3⟩:=h;exact ⟨g,e,h1,Nat.lt_of_lt_of_le h2 HP.out.2.1.size,(HP.out.2.1.blk g h2 (by rw[List.mem_singleton];omega)).trans h3⟩
    | _+6=>exact trivial
   .have dh:Below wz.heap.size wz (wz.alloc (.cells #[.slice none 0 0, .slice none 0 0, .bool false] 184)):=(Below.refl _ _).alloc (Nat.le_refl _) _;have po:=hS.1.size;have dK:Below (w2.heap.size+1) W (wz.alloc (.cells #[.slice none 0 0, .slice none 0 0, .bool false] 184)):=hS.1.alloc (by omega) _
    have hb0:c=0->Below W.heap.size W (wz.alloc (.cells #[.slice none 0 0, .slice none 0 0, .bool false] 184)):=λhc=>(hS.2 hc).alloc po _;have HX:=Lib.hid (And.intro dK hb0);have vY:=Lib.hid dh;clear hS hE aD dh dK hb0;go_wp2_with fail;refine hK.out _ _ (λj z hj h=>?_) HX.out ⟨wz.heap.size,rfl,po,by simp,by simpa using heap_alloc_new wz (.cells #[.slice none 0 0, .slice none 0 0, .bool false] 184)⟩
    match j with
    | 0 | 1 | 2 | 3=>exact h
    | 4=>exact λhc=>(h hc).later vY.out
    | 5=>exact absurd rfl hj
    | _+6=>exact trivial
  .intro v wz hS hF;have e0:v 0=_:=hF 0 (by decide)
   have e1:v 1=_:=hF 1 (by decide)
   have e2:v 2=_:=hF 2 (by decide)
   have e3:v 3=_:=hF 3 (by decide)
   have E4:=hF 4 (by decide)
   have E5:=hF 5 (by decide)
   simp only[ai,Act.put,eh,ek,ep,Nat.zero_add,Nat.reduceAdd,cP,cQ,List.drop_succ_cons,List.drop_zero,e0,e1,e2,e3];clear hF e0 e1 e2 e3;obtain ⟨wZ,rfl⟩:∃W:World,W=wz:=⟨_,rfl⟩;obtain ⟨gP,e5,ary,arz,EN⟩:=E5;obtain ⟨b,x,fp,v1,v2,ev,abj,km,⟨iD,zj⟩,⟨ez,wG⟩,hwr,kF,abk,BI,hK⟩:=E4 rfl;injection ev with ev;rw[ev,e5];have hgn:gP∉fp:=abj.pW EN;obtain ⟨B1,GI,rfl,hd1⟩:=iD.form;obtain ⟨B2,Vr,rfl,jO⟩:=ez.form;obtain ⟨vs,vf,rows,sv,vU,dK⟩:=abj;obtain ⟨dG,MD⟩:∃n,b.fol.length=n:=⟨_,rfl⟩;have hsl:b.sets.length=dG:=by rw[hwr.len,MD]
   have abm:dG=aK nd:=by rw[<-MD,kF];show 0+_=_;omega
   have QM:=GJ _ nd (Nat.le_refl _) HQ.out.2.1;have wK:dG<=600:=by have:=fQ.out.1;omega
   have um:=dK.sets;have uo:=dK.fol;rw[hsl]at um;rw[MD]at uo;obtain ⟨gS,cS,rfl,TE,hoS,Vt,ME⟩:=pX um (by omega)
   obtain ⟨gF,cF,rfl,MF,hoF,QN,MG⟩:=pX uo (by omega)
   obtain ⟨z0,z1,z2⟩:=aR EN;have y0:wZ.frozen? ⟨gP,0,none⟩=false:=by simp[World.frozen?,EN]
   have y1:wZ.frozen? ⟨gP,1,none⟩=false:=by simp[World.frozen?,EN]
   have y2:wZ.frozen? ⟨gP,2,none⟩=false:=by simp[World.frozen?,EN]
   obtain ⟨s0,s1,s2,s3,s4⟩:=aJ dK.cs;have t2:wZ.frozen? ⟨w2.heap.size+1,2,none⟩=false:=by simp[World.frozen?,dK.cs]
   have lsz:w2.heap.size+1<wZ.heap.size:=(Array.getElem?_eq_some_iff.1 dK.cs).1;have ne1:¬gP=w2.heap.size+1:=by omega
   have ne2:¬w2.heap.size+1=gP:=by omega
   have arC:w2.heap.size+1<wZ.heap.size+1:=by omega
   have arD:gP<wZ.heap.size+1:=by omega
   have hmk:=MA dG (by omega)
   obtain ⟨nl,lZ⟩:∃n,x.last.length=n:=⟨_,rfl⟩;rw[lZ];obtain ⟨nf,LV⟩:∃n,x.first.length=n:=⟨_,rfl⟩;rw[LV];obtain ⟨ee,hee⟩:∃e,x.emp=e:=⟨_,rfl⟩;rw[hee];have arE:nl<=600/\nf<=600:=by have:=fQ.out.1;have:=BI.1;have:=BI.2;omega
   have xy:=Lib.hid (And.intro dK (And.intro hwr (And.intro abk BI)));have GK:=Lib.hid (And.intro iD zj);have si:=Lib.hid (And.intro ez wG);have YU:=Lib.hid (And.intro km hgn);have HN:=Lib.hid (And.intro MD (And.intro hsl (And.intro abm (And.intro lZ (And.intro LV (And.intro hee vU))))));have Zh:=Lib.hid hK;have Tq:=Lib.hid hS;have HP3:=Lib.hid EN;clear dK hwr abk BI iD zj ez wG km hgn MD hsl abm lZ LV hee vU hK hS EN ev e5 E4 kF um uo;go_wp2_with fail;refine dv λW9 ua=>?_;have Vk:W9.heap[wZ.heap.size]?=some (.cells (Array.replicate dG (.bool false)) 4 (0,0)):=by
    rw[ua];have h1:=heap_alloc_new ((((wZ.setCell ⟨gP,0,none⟩ (.slice B1 nf GI)).setCell ⟨gP,1,none⟩ (.slice B2 nl Vr)).setCell ⟨gP,2,none⟩ (.bool ee)).setCell ⟨w2.heap.size+1,2,none⟩ (.slice (some ⟨wZ.heap.size,0,none⟩) dG dG)) (.cells (Array.replicate dG (.bool false)) 4);simpa [World.setCell] using h1
   obtain ⟨W3,Bi⟩:∃W3,W3=((wZ.setCell ⟨gP,0,none⟩ (.slice B1 nf GI)).setCell ⟨gP,1,none⟩ (.slice B2 nl Vr)).setCell ⟨gP,2,none⟩ (.bool ee):=⟨_,rfl⟩;rw[<-Bi]at ua;have D4:W3.heap.size=wZ.heap.size:=by rw[Bi];simp[World.setCell]
   have hP3:W3.heap[gP]?=some (.cells #[.slice B1 nf GI, .slice B2 nl Vr, .bool ee] 184 (0,0)):=by
    rw[Bi];have h1:=bh (bh (bh HP3.out 0 (.slice B1 nf GI)) 1 (.slice B2 nl Vr)) 2 (.bool ee);simpa using h1
   have Gs:ah [gP] [] wZ W3:=by
    rw[Bi];have hne:∀k,k∉[gP]->k≠gP:=λk hn e=>hn (List.mem_singleton.2 e);exact ⟨rfl,rfl,rfl,by simp[World.setCell],λk _ hn=>(Below.heap_setCell _ ⟨gP,2,none⟩ _ k (hne k hn)).trans ((Below.heap_setCell _ ⟨gP,1,none⟩ _ k (hne k hn)).trans (Below.heap_setCell wZ ⟨gP,0,none⟩ _ k (hne k hn))),λk hk=>by cases hk⟩
   have hs3:W3.heap[w2.heap.size+1]?=some (.cells #[.slice (some ⟨gS,0,none⟩) dG cS, .slice (some ⟨gF,0,none⟩) dG cF, .slice none 0 0, .map (some w2.heap.size), .slice none 0 0] 182 (0,0)):=(Gs.blk _ lsz (λh=>ne2 (List.mem_singleton.1 h))).trans xy.out.1.cs;have hs9:W9.heap[w2.heap.size+1]?=some (.cells #[.slice (some ⟨gS,0,none⟩) dG cS, .slice (some ⟨gF,0,none⟩) dG cF, .slice (some ⟨wZ.heap.size,0,none⟩) dG dG, .map (some w2.heap.size), .slice none 0 0] 182 (0,0)):=by
    rw[ua,au _ _ _ (by simp[World.setCell];omega)]
    have h1:=bh hs3 2 (.slice (some ⟨wZ.heap.size,0,none⟩) dG dG);simpa using h1
   have QO:ah [w2.heap.size+1] [w2.heap.size+1,wZ.heap.size] W3 W9:=by
    rw[ua];refine ⟨rfl,rfl,rfl,by simp[World.setCell],λk hk hn=>(au _ _ _ (by simp[World.setCell];exact hk)).trans (Below.heap_setCell _ _ _ _ (λe=>hn (List.mem_singleton.2 e))),λk hk=>?_⟩
    simp only[List.mem_cons,List.not_mem_nil,or_false]at hk|-;exact hk.imp id λh=>by omega
   have hP9:=(QO.blk gP (by omega) (λh=>ne1 (List.mem_singleton.1 h))).trans hP3
   have pY:OR 4 1 bC wZ.heap.size (.slice (some ⟨wZ.heap.size,0,none⟩) dG dG) (jX x.last dG 0) W9:=by
    have h1:=Jc (W3.setCell ⟨w2.heap.size+1,2,none⟩ (.slice (some ⟨wZ.heap.size,0,none⟩) dG dG)) dG (by omega)
    rw[show (W3.setCell ⟨w2.heap.size+1,2,none⟩ (.slice (some ⟨wZ.heap.size,0,none⟩) dG dG)).heap.size=wZ.heap.size by simp[World.setCell];exact D4]at h1
    rw[EO,ua];exact h1
   obtain ⟨gl,fl,cl,ev2,-,dV,-,bD⟩:=si.out.1.resolve_left (λh=>xy.out.2.2.1.2 h.1);obtain rfl:B2=some ⟨gl,fl,none⟩:=by injection ev2
   have ahO:gl≠gP:=λe=>si.out.1.pW xy.out.2.2.1.2 HP3.out (by rw[<-e];rfl)
   have ahP:gl≠w2.heap.size+1:=λe=>si.out.2 gl rfl (by rw[HN.out.2.2.2.2.2.2,e];simp[jM])
   have abp:∀i (h:i<x.last.length),W9.cell? ⟨gl,fl+i,none⟩=some (.int .i64 (x.last[i]:Int)):=λi h=>(World.cell?_of_block (a:=⟨gl,fl+i,none⟩) ((QO.blk gl (by omega) (λh=>ahP (List.mem_singleton.1 h))).trans (Gs.blk gl dV (λh=>ahO (List.mem_singleton.1 h))))).trans (bD i h)
   have hz9:W9.heap.size=wZ.heap.size+1:=by rw[ua];simp[World.setCell];exact D4
   have abq:W9.heap[w2.heap.size]?=W.heap[w2.heap.size]?:=((QO.blk _ (by omega) (by simp)).trans (Gs.blk _ (by omega) (by simp;omega))).trans (Tq.out.1.block _ (by omega))
   have HA0:=Lib.hid (show Iv W9 wZ.heap.size wZ.heap.size dG dG (jX x.last dG 0) W9 from ⟨pY,ah.refl _ _⟩);have HC9:=Lib.hid abp;have HS9:=Lib.hid (And.intro hs9 (And.intro hP9 abq));have HK9:=Lib.hid (And.intro Gs QO);have HW9:=Lib.hid (And.intro Bi ua);have abr:w2.heap.size+1<W9.heap.size:=by omega
   clear ua Bi Vk hP3 Gs hs3 hs9 QO hP9 pY bD abp abq ev2 z0 z1 z2 y0 y1 y2 s0 s1 s2 s3 s4 t2 hmk;go_wp2_with fail
   go_loopw [46] (λiv wr=>∃k:Nat,k<=nl/\iv = .int .i64 (k:Int)/\Hid (Iv W9 wZ.heap.size wZ.heap.size dG dG (jX x.last dG k) wr)) (λiv _=>nl - (intOf iv).toNat)
   case atStart=>exact ⟨0,Nat.zero_le _,rfl,HA0⟩
   case round=>
    obtain ⟨k,hk,rfl,HA⟩:=hrel;have hwr:=HA.out.kf.size;have vV:=(HA.out.kf.blk (w2.heap.size+1) abr (by simp;omega)).trans HS9.out.1
    by_cases hlt:k<nl
    .have hd:decide ((k:Int)<(nl:Int))=true:=decide_eq_true (by omega)
     have iI:decide (k<nl)=true:=decide_eq_true hlt;have di:k<x.last.length:=by rw[HN.out.2.2.2.1];exact hlt
     obtain ⟨p,hp⟩:∃p,x.last[k]=p:=⟨_,rfl⟩;have xH:p<dG:=by
      have:=(xy.out.2.1.good.kj x.last[k] (List.getElem_mem di)).2;rw[hp,HN.out.1]at this;exact this
     have c0:=(World.cell?_of_block (a:=⟨gl,fl+k,none⟩) (HA.out.kf.blk gl (by omega) (by simp;omega))).trans (HC9.out k di)
     rw[hp]at c0;have lgl:gl<wr.heap.size:=by omega
     have c2:wr.cell? ⟨w2.heap.size+1,2,none⟩=some (.slice (some ⟨wZ.heap.size,0,none⟩) dG dG):=by rw[cell_of_row _ _ _ _ _ _ vV];rfl
     have lsr:w2.heap.size+1<wr.heap.size:=by omega
     obtain ⟨e1,e2,e3⟩:=HA.out.cell (mX x.last k xH);have hpd:decide (p<dG)=true:=decide_eq_true xH;have bg:=HA.out.set (mY _ _ _) p;rw[<-hp,EP di,hp]at bg;have HS:=Lib.hid bg;clear hp di vV bg;go_wp2_with fail;go_roundw
     case rel=>exact ⟨k+1,by omega,by go_num,HS⟩
     case measure=>simp[intOf];omega
    .have hkn:k=nl:=by omega
     have hd:decide ((k:Int)<(nl:Int))=false:=decide_eq_false (by omega)
     have nQ:=HA.out;rw[show jX x.last dG k=jX x.last dG x.last.length from by rw[HN.out.2.2.2.1,hkn]]at nQ
     have hkw:ah [w2.heap.size+1] [] W3 wr:=by
      have h1:=HK9.out.2.trans (f3:=[]) ⟨nQ.kf.os,nQ.kf.tape,nQ.kf.output,nQ.kf.size,λq hq hn=>nQ.kf.blk q hq (λh=>hn (by simp at h|-;exact .inr h)),λq hq=>by cases hq⟩
      exact h1
     have abt:Below w2.heap.size w2 W3:=xy.out.1.eP.trans (HK9.out.1.below (λq hq=>by rw[List.mem_singleton]at hq;omega) (by omega))
     have abu:=xy.out.1.same (w':=W3) (λq hq=>HK9.out.1.blk q (xy.out.1.lt q hq).2 (λh=>YU.out.2 (by rw[HN.out.2.2.2.2.2.2,<-List.mem_singleton.1 h];exact hq))) abt
     have sW:MV Tryz.prog 9 w2.heap.size 0 (λ_=>none) wr:=EM.out.kept ((nQ.kf.blk _ (by omega) (by simp;omega)).trans HS9.out.2.2)
     have arK:W3.heap.size=wZ.heap.size:=D4;obtain ⟨q1,q2,q3,q4⟩:=MH abu hkw vV sW (Nat.le_refl _) (by omega) (by rw[HN.out.1];have:=HN.out.2.2.1;omega) (by rw[HN.out.2.1];have:=HN.out.2.2.1;omega)
     have Zi:=(nQ.kf.blk gP (by omega) (by simp;omega)).trans HS9.out.2.1
     have hEn:EnC (iQ (w2.heap.size+1) w2.heap.size (.slice none 0 0)) wr (.slice (some ⟨wZ.heap.size,0,none⟩) dG dG) dG x.last:=by
      refine ⟨wZ.heap.size,rfl,by omega,by simp[iQ,blk,Value.ownBlock];omega,λp hp=>?_⟩
      have:=(nQ.cell (mX x.last x.last.length hp)).1;rw[List.take_length]at this;exact this
     have Vu:IL wr (.slice B1 x.first.length GI) x.first/\aG (iQ (w2.heap.size+1) w2.heap.size (.slice none 0 0)) (.slice B1 x.first.length GI):=by
      obtain ⟨j1,j2⟩:=GK.out.1.keep (fp:=[gP]) (fp':=[]) (λg hg hm=>by
       have TF:g=gP:=List.mem_singleton.1 hm;exact GK.out.1.pW xy.out.2.2.1.1 HP3.out (by rw[hg,TF])) HK9.out.1
      have hos:∀g,(Value.slice B1 x.first.length GI).ownBlock=some g->g≠w2.heap.size+1:=λg hg e=>GK.out.2 g hg (by rw[HN.out.2.2.2.2.2.2,e];simp[jM])
      obtain ⟨j3,-⟩:=j1.keep (fp:=[w2.heap.size+1]) (fp':=[]) (λg hg hm=>hos g hg (List.mem_singleton.1 hm)) hkw;refine ⟨j3,λg hg hm=>?_⟩;simp[iQ,blk,Value.ownBlock]at hm;rcases hm with hm | hm
      .exact hos g hg hm
      .obtain ⟨gx,fx,cx,ex,-,-,-,mZ⟩:=j3.resolve_left (λh=>xy.out.2.2.1.1 h.1);rw[ex]at hg;simp[Value.ownBlock]at hg;have EL:=mZ 0 (List.length_pos_iff.2 xy.out.2.2.1.1);obtain ⟨D,⟨es,c,hmq,-⟩,-⟩:=sW;simp[World.cell?,hg,hm,hmq]at EL
     rw[HN.out.2.2.2.2.1]at Vu;have abw:QP w2 (iQ (w2.heap.size+1) w2.heap.size (.slice none 0 0)) (.slice (some ⟨gS,0,none⟩) dG cS) (.slice (some ⟨gF,0,none⟩) dG cF) (.slice (some ⟨wZ.heap.size,0,none⟩) dG dG) b x gP (.slice B1 nf GI) (.slice (some ⟨gl,fl,none⟩) nl Vr) wr:=
      ⟨q2,q3,by rw[HN.out.2.1];exact hEn,⟨by rw[HN.out.2.2.2.2.2.1];exact Zi,by simp[iQ,blk,Value.ownBlock];omega⟩,Vu⟩
     have Jd:Below w.heap.size w wr:=wJ.out.trans (q4.mono (by have:=wJ.out.size;omega))
     have rf:=uq w2.heap.size (w2.heap.size+1) w2.heap.size (.slice (some ⟨gS,0,none⟩) dG cS) (.slice (some ⟨gF,0,none⟩) dG cF) (.slice (some ⟨wZ.heap.size,0,none⟩) dG dG) [] (iQ (w2.heap.size+1) w2.heap.size (.slice none 0 0)) wr [] (.slice none 0 0) q1 (.inl ⟨rfl,rfl⟩) (λg hg=>by simp[Value.ownBlock]at hg) (TI.nil _) (by simp) (λp hp=>by cases hp) (by simp) (qN.out.below Jd qN.out.low)
     have HNU:=Lib.hid rf;have ahV:=Lib.hid abw;have HQ4:=Lib.hid q4;clear nQ hkw abt abu sW q1 q2 q3 q4 Zi hEn Vu abw Jd rf vV hkn;go_wp2_with fail;refine HNU.out.mono ?_;rintro e w5 ⟨fp5,rfl,Vv,Vw⟩;rw[show ir ([]:List (List Nat)) []=[[]] by simp[ir]]at Vv
     have Vx:=ahV.out.keep Vw;have hP5:=Vx.prt.1;rw[HN.out.2.2.2.2.2.1]at hP5;obtain ⟨u0,u1,u2⟩:=aR hP5;have lP5:gP<w5.heap.size:=(Array.getElem?_eq_some_iff.1 hP5).1;have gH:Below w2.heap.size w2 w5:=HQ4.out.trans (Vw.below (λq hq=>by simp[iQ,blk,Value.ownBlock]at hq;omega) HQ4.out.size)
     have abx:=Lib.hid Vv;have aby:=Lib.hid Vx;have Vy:=Lib.hid gH;clear Vv Vw Vx hP5 gH;go_wp2_with fail;refine dv λW6 sA=>?_;have hz6:W6.heap.size=w5.heap.size+2:=by rw[sA];simp
     have rh:Below w5.heap.size w5 W6:=by rw[sA];exact ((Below.refl _ _).alloc (Nat.le_refl _) _).alloc (by simp) _
     have hN6:W6.heap[w5.heap.size+1]?=some (.cells #[.slice none 0 0, .slice (some ⟨w5.heap.size,0,none⟩) 1 1] 93 (0,0)):=by rw[sA];simpa using heap_alloc_new (w5.alloc (.cells #[.bool ee] 4)) (.cells #[.slice none 0 0, .slice (some ⟨w5.heap.size,0,none⟩) 1 1] 93)
     have h25:=Vy.out.size;have abz:OR 4 1 bC w5.heap.size (.slice (some ⟨w5.heap.size,0,none⟩) 1 1) [ee] (w5.alloc (.cells #[.bool ee] 4)):=⟨rfl, .inr ⟨w5.heap.size,1,#[.bool ee],rfl,Nat.le_refl _,heap_alloc_new w5 _,by simp,by unfold maxLen;omega,by simp,by simp[aY,bC]⟩⟩
     have abA:OR 4 1 bC w2.heap.size (.slice (some ⟨w5.heap.size,0,none⟩) 1 1) [ee] W6:=by rw[sA];exact (abz.later ((Below.refl _ _).alloc (by simp) _)).mono h25
     have hfm:∀k,k∈lA (w5.heap.size+1) (.slice none 0 0) (.slice (some ⟨w5.heap.size,0,none⟩) 1 1)->w5.heap.size<=k:=λk hk=>by
      rcases aV.1 hk with h | h | h
      .omega
      .simp[Value.ownBlock]at h
      .simp[Value.ownBlock]at h;omega
     have Je:iR w2.heap.size (w5.heap.size+1) fp5 (.slice none 0 0) (.slice (some ⟨w5.heap.size,0,none⟩) 1 1) [] [] [ee] W6:=
      ⟨hN6,by omega,World.ownsRow_nil _ _ _ _,λi hi=>(by cases hi),abA,λk hk hx=>by have:=hfm k hk;have:=(abx.out.lt k hx).2;omega⟩
     have abC:ER b x [[]] [] [ee] 0:=by rw[<-HN.out.2.2.2.2.2.1];exact ER.start b x
     have abD:CpL w2 (w2.heap.size+1) w2.heap.size (.slice (some ⟨gS,0,none⟩) dG cS) (.slice (some ⟨gF,0,none⟩) dG cF) (.slice (some ⟨wZ.heap.size,0,none⟩) dG dG) b x gP (.slice B1 nf GI) (.slice (some ⟨gl,fl,none⟩) nl Vr) (w5.heap.size+1) 0 [[]] fp5 [] [ee] (.slice none 0 0) (.slice (some ⟨w5.heap.size,0,none⟩) 1 1) [] W6:=
      ⟨abx.out.later rh,Je,aby.out.keep ⟨rh.os,rh.tape,rh.output,rh.size,λk hk _=>rh.block k hk,λk hk=>(List.mem_append.1 hk).imp id (hfm k)⟩,abC,Vy.out.trans (rh.mono h25)⟩
     have ahY:=Lib.hid abD;have HRG:=Lib.hid (show ∀rs∈b.sets,fN rs=true from λrs h=>by
      obtain ⟨i,hi,rfl⟩:=List.getElem_of_mem h;obtain ⟨v,-,-,h3⟩:=xy.out.1.Lx i hi;exact h3)
     have QQ:=Lib.hid (show ∀rs∈b.sets,∀r∈rs,r.2<256 from λrs h r hr=>(aby.out.set.lt rs h r hr).2);have aW:=Lib.hid (show nG<=w2.heap.size from Nat.le_trans qN.out.low wJ.out.size);have Jf:=wJ.out.size;clear sA rh hN6 abz abA hfm Je abC abD u0 u1 u2;go_wp2_with fail
     go_loopw [10] (λiv wr=>∃(i:Nat) (gs:List (List Nat)) (fp:List Nat) (rs:List (List Ed)) (bE:List Bool) (vE vA:Value) (gv:List Value),iv = .int .i64 (i:Int)/\i<=gs.length/\gs.length<=2000/\Hid (CpL w2 (w2.heap.size+1) w2.heap.size (.slice (some ⟨gS,0,none⟩) dG cS) (.slice (some ⟨gF,0,none⟩) dG cF) (.slice (some ⟨wZ.heap.size,0,none⟩) dG dG) b x gP (.slice B1 nf GI) (.slice (some ⟨gl,fl,none⟩) nl Vr) (w5.heap.size+1) i gs fp rs bE vE vA gv wr)) (λiv _=>2001 - (intOf iv).toNat)
     case atStart=>exact ⟨0,[[]],fp5,[],[ee],_,_,[],rfl,Nat.zero_le _,by simp,ahY⟩
     case round=>
      obtain ⟨i,gs,fp,rs,bE,vE,vA,gv,rfl,eY,jC,HL⟩:=hrel;obtain ⟨ng,Jg⟩:∃n,gs.length=n:=⟨_,rfl⟩;rw[Jg]at eY jC;have hwr:=HL.out.bl.size;obtain ⟨Ag,cg,x4,hcg,abF⟩:=HL.out.sb.ES;rw[Jg]at x4;obtain ⟨lsr,-,-,-⟩:=HL.out.sb.cells;have Jh:=Lib.hid Jg;have ahZ:=Lib.hid abF;clear Jg abF;by_cases hlt:i<ng
      .have hd:decide ((i:Int)<(ng:Int))=true:=decide_eq_true (by omega)
       have Zi:=HL.out.cp.prt.1;obtain ⟨z0,z1,z2⟩:=aR Zi;have lPr:gP<wr.heap.size:=(Array.getElem?_eq_some_iff.1 Zi).1;clear Zi;by_cases DZ:i=0
       .have d3:decide ((0:Int)<(i:Int))=false:=decide_eq_false (by omega)
        have d3':decide (0<i)=false:=decide_eq_false (by omega)
        have rJ:=HL.out.ci.rl;have jF:=HL.out.ma.own;rw[rJ]at jF;obtain ⟨AE,cE,rfl,-,-⟩:=ag jF;have GL:=Lib.hid HL.out.ma;have QR:=Lib.hid HL.out.sb;have MI:=Lib.hid HL.out.cp;have Ci:=Lib.hid HL.out.ci;have sw:=Lib.hid HL.out.bl;have Px:=Lib.hid rJ;have K9:=Lib.hid jF;have Py:=Lib.hid DZ;have HGF:=Lib.hid (show ∀p,p∈x.first↔nT b x gs i p from λp=>by unfold nT;rw[if_pos DZ])
        have TG:=Lib.hid (show ∀p∈x.first,p<b.sets.length from λp hp=>by have:=(xy.out.2.1.good.fst p hp).2;rw[xy.out.2.1.len];exact this)
        have HLL:=Lib.hid (show x.first.length<=10000000000000 by rw[HN.out.2.2.2.2.1];omega)
        have HFV:=Lib.hid (show IL wr (.slice B1 nf GI) x.first/\aG fp (.slice B1 nf GI) from ⟨HL.out.cp.fst.1,λg hg hm=>HL.out.cp.fst.2 g hg (List.mem_append_left _ hm)⟩);clear rJ jF DZ;obtain ⟨W,EJ⟩:∃W:World,W=wr:=⟨_,rfl⟩;subst EJ;have EI:=GL.out.hN;have TC:=Lib.hid EI;have QS:W.cell? ⟨w5.heap.size+1,0,none⟩=some (.slice AE i cE):=by rw[cell_of_row _ _ _ _ _ _ EI];rfl
        have lN:w5.heap.size+1<W.heap.size:=(Array.getElem?_eq_some_iff.1 EI).1;have HNF:=Lib.hid (show w5.heap.size+1∉fp from GL.out.out _ (aV.2 (.inl rfl)));have Vz:=Lib.hid (qN.out.below (wJ.out.trans (sw.out.mono Jf)) qN.out.low);have HG0:=Lib.hid Ci.out.g0;have HGL:=Lib.hid (show gs.length<=2000 by rw[Jh.out];exact jC)
        have ez:i<=2000:=by omega
        have eU:GD (w5.heap.size+1) W 0 W.drew:=⟨Nat.le_refl _,rfl,λ_=>(Below.refl _ _).drew⟩;have lsW:w2.heap.size+1<W.heap.size:=(QR.out.cells).1;clear EI HL;go_wp2_with fail;clear x4 lsr z0 z1 z2 lPr;refine aq 9 [4,5,6,7] (GF w2 (w2.heap.size+1) w2.heap.size (.slice (some ⟨gS,0,none⟩) dG cS) (.slice (some ⟨gF,0,none⟩) dG cF) (.slice (some ⟨wZ.heap.size,0,none⟩) dG dG) b gs fp x.first (w5.heap.size+1) i cE nf GI AE B1 gv W) (λc w'=>GD (w5.heap.size+1) W c w') (by kernel_rfl) (by kernel_rfl) (by kernel_rfl) (by kernel_rfl) (by kernel_rfl) (by kernel_rfl) (by decide) eU ?_ ?_
        .simp only[cP,cQ];refine ae.pure (by decide) ?_ (ae.pure (by decide) ?_ (ae.pure (by decide) ?_ (ae.pure (by decide) ?_ (ae.oJ 0 rfl ?_ (ae.oJ 1 rfl ?_ (ae.oJ 2 rfl ?_ (ae.oJ 3 rfl ?_ (ae.pure (by decide) ?_ (ae.nil)))))))))
         all_goals first | (with_reducible intro v wz c aD hS hE K hK;simp only[ai,Act.put,eh,ek,ep,Nat.zero_add,Nat.reduceAdd,cP,cQ]at hK|-) | (intro v wz hS hE K hK;simp only[ai,Act.put,eh,ek,ep,Nat.zero_add,Nat.reduceAdd,cP,cQ]at hK|-)
         .have HX:=Lib.hid hS;clear hS hE aD;go_wp2_with fail;exact hK.out _ rfl
         .have e0:v 0=_:=hE.1 rfl;rw[e0]at hK|-;have c1:=(World.cell?_of_block (a:=⟨w5.heap.size+1,0,none⟩) hS.2.1).trans QS;have l1:w5.heap.size+1<wz.heap.size:=by have:=hS.1;omega
          have HX:=Lib.hid hS;clear hS hE aD;go_wp2_with fail;exact hK.out _ rfl
         .have HX:=Lib.hid hS;clear hS hE aD;go_wp2_with fail;exact hK.out _ rfl
         .have HX:=Lib.hid hS;clear hS hE aD;go_wp2_with fail;exact hK.out _ rfl
         .have e3:v 3=_:=hE.1 rfl;rw[e3]at hK|-;have hb:=hS.2.2 (by omega)
          have aF:=iM (.slice B1 nf GI) x.first wz (HFV.out.1.later hb) HLL.out;have HC:=Lib.hid aF;have HX:=Lib.hid hS;clear hS hE aF hb;go_wp2_with fail;refine HC.out.mono ?_;rintro e wy ⟨v',r,rfl,pC,how,eY,aP⟩;obtain ⟨A',c',rfl,-,-⟩:=ag how;have HP:=Lib.hid (And.intro pC (And.intro (aS how HX.out.1) (And.intro eY aP)));clear pC how eY aP;go_wp2_with fail;refine hK.out _ _ (λj z hj h=>?_) ⟨Nat.le_trans HX.out.1 HP.out.2.2.2.size,(HP.out.2.2.2.block (w5.heap.size+1) (by have:=HX.out.1;omega)).trans HX.out.2.1,λ_=>(HX.out.2.2 (by omega)).trans (HP.out.2.2.2.mono HX.out.1)⟩ (λ_=>⟨A',r,c',rfl,HP.out.1,HP.out.2.1,HP.out.2.2.1⟩)
          match j with
          | 0 | 1 | 2 | 3 | 8=>exact h
          | 4=>exact absurd rfl hj
          | 5=>exact λhc=>by omega
          | 6=>exact λhc=>by omega
          | 7=>exact λhc=>by omega
          | _+9=>exact trivial
         .have e2:v 2=_:=hE.1 rfl;rw[e2]at hK|-;have E4:=hE.2.1 rfl;obtain ⟨Ar,r,cr,e4,pC,how,eY⟩:=E4 rfl;rw[e4]at hK how eY|-;have hb:=hS.2.2 (by omega)
          have Ck:∀p∈r,p<b.sets.length:=λp hp=>TG.out p ((pC.2 p).1 hp);have aF:=xI w2 (w2.heap.size+1) w2.heap.size (.slice (some ⟨gS,0,none⟩) dG cS) (.slice (some ⟨gF,0,none⟩) dG cF) (.slice (some ⟨wZ.heap.size,0,none⟩) dG dG) b gs fp wz r _ (QR.out.later hb) ((MI.out.later hb).set.oK λk hk=>List.mem_append_left _ hk) (sw.out.trans (hb.mono sw.out.size)) HRG.out eY (λg hg hm=>by have:=(how.lt g hg).1;have:=(QR.out.lt g hm).2;omega) Ck (kH (a:=0) pC.1 λp hp=>⟨Nat.zero_le _,by have:=Ck p hp;have:=HN.out.2.1;omega⟩) (by rw[HN.out.2.1];omega) (by have:=HGL.out;omega) HG0.out (Vz.out.later hb) aW.out
          have HC:=Lib.hid aF;have HX:=Lib.hid (And.intro hS (And.intro pC hb));clear hS hE aF hb Ck pC how eY E4 e4;go_wp2_with fail;refine HC.out.mono ?_;rintro e wy ⟨row,eZ,fp',rv,rfl,⟨kI,lu,GM⟩,La,km,Bh,TF,D6,kA⟩;obtain ⟨A',c',Bw,-,-⟩:=kI.form;have HP:=Lib.hid (And.intro kI (And.intro lu (And.intro GM (And.intro La (And.intro km (And.intro Bh (And.intro TF D6)))))));clear kI lu GM La km Bh TF D6 kA Bw;go_wp2_with fail;have hz1:=HX.out.1.1;have hz2:=HP.out.2.2.2.2.1.size;refine hK.out _ _ (λj z hj h=>?_) ⟨by omega,(HP.out.2.2.2.2.1.blk (w5.heap.size+1) (by omega) HNF.out).trans HX.out.1.2.1,λh=>by omega⟩ (λ_=>⟨r,row,eZ,fp',HX.out.2.1,⟨HP.out.1,HP.out.2.1,λg hg=>⟨by have:=(HP.out.2.2.1 g hg).1;omega,(HP.out.2.2.1 g hg).2⟩⟩,HP.out.2.2.2.1,(ah.aa HX.out.2.2).trans HP.out.2.2.2.2.1,HP.out.2.2.2.2.2.1,HP.out.2.2.2.2.2.2.1,HP.out.2.2.2.2.2.2.2⟩)
          match j with
          | 0 | 1 | 2 | 3 | 8=>exact h
          | 5=>exact absurd rfl hj
          | 4=>exact λhc=>by omega
          | 6=>exact λhc=>by omega
          | 7=>exact λhc=>by omega
          | _+9=>exact trivial
         .have E5:=hE.1 rfl;have sB:=E5 rfl;obtain ⟨r,row,eZ,fp',q1,⟨q2,q3,q4⟩,q5⟩:=id sB;obtain ⟨A5,c5,e5,-,-⟩:=q2.form;obtain ⟨n5,Zj⟩:∃n,row.length=n:=⟨_,rfl⟩;rw[Zj]at e5;rw[e5]at hK sB|-;have VA:=Lib.hid sB;have HX:=Lib.hid hS;clear hS hE sB q1 q2 q3 q4 q5 E5 e5;have po:=HX.out.1;go_wp2_with fail;have dh:Below wz.heap.size wz (wz.alloc (.cells #[.slice A5 n5 c5] 187)):=(Below.refl _ _).alloc (Nat.le_refl _) _;refine hK.out _ _ (λj z hj h=>?_) ⟨by simp;omega,(dh.block (w5.heap.size+1) (by omega)).trans HX.out.2.1,λh=>by omega⟩ (λ_=>⟨wz.heap.size, .slice A5 n5 c5,rfl,po,by simp,by go_simp,rfl,VA.out.later dh⟩)
          match j with
          | 0 | 1 | 2 | 3 | 8=>exact h
          | 6=>exact absurd rfl hj
          | 4=>exact λhc=>by omega
          | 5=>exact λhc=>by omega
          | 7=>exact λhc=>by omega
          | _+9=>exact trivial
         .have e1:v 1=_:=hE.1 rfl;rw[e1]at hK|-;have E6:=hE.2.1 rfl;obtain ⟨g,rv,e6,PF,dV,ur,h1c,sB⟩:=E6 rfl;rw[e6]at hK|-;obtain ⟨r,row,eZ,fp',q1,q2,q3,q4,q5⟩:=id sB;have hown:wz.ownsRow w2.heap.size 187 1 (.slice AE i cE) i gv:=ak K9.out λg hg=>q4.blk g (K9.out.lt g hg).2 λhm=>GL.out.out g (aV.2 (.inr (.inl hg))) hm;have Cl:=hS.1;have hcell:∀j u,([rv]:List Value)[j]?=some u->wz.cell? ((⟨g,0,none⟩:Addr).add j)=some u:=λj u hj=>by
           match j,hj with
           | 0,hj=>simp at hj;rw[<-hj,Addr.add_lit];exact ur
          have VA:=Lib.hid sB;have HX:=Lib.hid hS;clear hS hE sB q1 q2 q3 q4 q5 E6;go_wp2_with (at_builtin;refine cN rfl _ _ 91 rfl w2.heap.size 187 ie (.slice none 0 0) 1 24 Tryz.underlying91 sR he0 he1 TD rfl (by decide) _ i gv rfl hown ⟨g,0,none⟩ 1 1 [rv] rfl rfl hcell (by intro u hu;simp at hu;subst hu;exact h1c) (by unfold maxLen;omega) (by omega) (by have:=sw.out.size;omega) ?_)
          intro v' wx hown1 et eJ;obtain ⟨A',c',rfl,-,-⟩:=ag hown1;refine hK.out _ _ (λj z hj h=>?_) ⟨Nat.le_trans HX.out.1 et.size,(et.block (w5.heap.size+1) (by omega) (λe=>GL.out.Zk e.symm)).trans HX.out.2.1,λh=>by omega⟩ (λ_=>⟨rv,wz,A',c',rfl,VA.out,et,hown1,eJ⟩)
          match j with
          | 0 | 1 | 2 | 3 | 8=>exact h
          | 7=>exact absurd rfl hj
          | 4=>exact λhc=>by omega
          | 5=>exact λhc=>by omega
          | 6=>exact λhc=>by omega
          | _+9=>exact trivial
         .have HX:=Lib.hid hS;clear hS hE aD;go_wp2_with fail;exact hK.out _ rfl
        .intro v wz hS hF;have e0:v 0=_:=hF 0 (by decide)
         have e1:v 1=_:=hF 1 (by decide)
         have e2:v 2=_:=hF 2 (by decide)
         have e3:v 3=_:=hF 3 (by decide)
         have e8:v 8=_:=hF 8 (by decide)
         have E4:=hF 4 (by decide)
         have E5:=hF 5 (by decide)
         have E6:=hF 6 (by decide)
         have E7:=hF 7 (by decide)
         simp only[ai,Act.put,eh,ek,ep,Nat.zero_add,Nat.reduceAdd,cP,cQ,List.drop_succ_cons,List.drop_zero,e0,e1,e2,e3,e8];clear hF e0 e1 e2 e3 e8;obtain ⟨rv,w6,A7,c7,e7,sB,QT,VB,Bj⟩:=E7 rfl;rw[e7]at VB Bj|-;have QU:=hS.2.1.trans TC.out;have xz0:wz.cell? ⟨w5.heap.size+1,0,none⟩=some (.slice AE i cE):=by rw[cell_of_row _ _ _ _ _ _ QU];rfl
         have fz0:wz.frozen? ⟨w5.heap.size+1,0,none⟩=false:=by simp[World.frozen?,QU]
         have lNz:w5.heap.size+1<wz.heap.size:=(Array.getElem?_eq_some_iff.1 QU).1;obtain ⟨row,eZ,fp',bD,VC⟩:=GN (w0:=w2) GL.out MI.out Ci.out (by rw[if_pos Py.out]) (show i<gs.length by rw[Jh.out];exact hlt) sw.out HGF.out TG.out sB QT (by rw[Px.out];exact VB) Bj (λk hk=>(QR.out.lt k hk).1)
         have MJ:¬w5.heap.size+1=w2.heap.size+1:=λe=>by have:=bD.ma.out _ (aV.2 (.inl rfl));have h8:=bD.sb;obtain ⟨vg8,gv8,F8,VD,-⟩:=h8;rw[VD,e]at this;exact this (by simp[iQ])
         have zm:¬w2.heap.size+1=w5.heap.size+1:=λe=>MJ e.symm;have bg:∀k,k≠w5.heap.size+1->(wz.setCell ⟨w5.heap.size+1,0,none⟩ (.slice A7 (i+1) c7)).heap[k]?=wz.heap[k]?:=λk hk=>Below.heap_setCell _ _ _ _ hk;obtain ⟨Ag',cg',VE,ah9,-⟩:=bD.sb.ES;obtain ⟨MK,zn⟩:∃n,eZ.length=n:=⟨_,rfl⟩;rw[zn]at VE;have x4z:wz.cell? ⟨w2.heap.size+1,4,none⟩=some (.slice Ag' MK cg'):=(World.cell?_of_block (a:=⟨w2.heap.size+1,4,none⟩) (bg _ zm)).symm.trans VE;have aia:w2.heap.size+1<wz.heap.size:=by have:=hS.1;omega
         have Bd:MK<=100000:=by rw[<-zn];have:=Jh.out;omega
         have lL:=Lib.hid bD;have ML:=Lib.hid zn;clear hS sB QT VB Bj QU e7 E4 E5 E6 E7 bD VC VE zn;by_cases h2k:2000<MK
         .have d4:decide (2000<(MK:Int))=true:=decide_eq_true (by omega)
          have QV:=(bg (w.heap.size+1) (by omega)).symm.trans ((lL.out.bl.block (w.heap.size+1) (by omega)).trans QL.out)
          obtain ⟨rz0,rz1⟩:wz.cell? ⟨w.heap.size+1,0,none⟩=some (.slice none 0 0)/\wz.cell? ⟨w.heap.size+1,1,none⟩=some (.slice none 0 0):=by constructor <;> (rw[cell_of_row _ _ _ _ _ _ QV]; rfl)
          have gz0:wz.frozen? ⟨w.heap.size+1,0,none⟩=false:=by simp[World.frozen?,QV]
          have gz1:wz.frozen? ⟨w.heap.size+1,1,none⟩=false:=by simp[World.frozen?,QV]
          have lRz:w.heap.size+1<wz.heap.size:=by omega
          have nRN:¬w.heap.size+1=w5.heap.size+1:=by omega
          have aid:¬w5.heap.size+1=w.heap.size+1:=by omega
          clear QV bg;go_wp2_with fail;refine ar λWf cH=>?_;refine bodyPost_ret (v:=.tuple #[iP, .int .i64 3]) (by rw[cH];simp[results,Tryz.results109,go_sem,rz0,rz1,lRz,iP];try rfl) rfl ?_
          have oH:Below w.heap.size w Wf:=by
           rw[cH];have h1:=wJ.out.trans (lL.out.bl.mono Jf);exact (h1.setCell (p:=⟨w.heap.size+1,0,none⟩) (by show w.heap.size<=w.heap.size+1;omega) _).setCell (p:=⟨w.heap.size+1,1,none⟩) (by show w.heap.size<=w.heap.size+1;omega) _
          exact ⟨oH, .inr (.inr ⟨HQ.out.1,fQ.out.1,b,x,eZ,_,_,i+1,xy.out.2.1,by rw[HN.out.1,HN.out.2.2.1],QQ.out,lL.out.ci, .inl ⟨by rw[ML.out];exact h2k,rfl⟩⟩)⟩
         .have d4:decide (2000<(MK:Int))=false:=decide_eq_false (by omega)
          have VF:=lL.out.ci.il;clear bg;go_wp2_with fail;go_roundw
          case rel=>exact ⟨i+1,eZ,fp',_,_,_,_,_,by go_num,VF,by rw[ML.out];omega,lL⟩
          case measure=>simp[intOf];omega
       .have d3:decide ((0:Int)<(i:Int))=true:=decide_eq_true (by omega)
        have d3':decide (0<i)=true:=decide_eq_true (by omega)
        obtain ⟨gg,gvv,rfl,TF,x5,VG,hog⟩:=ahZ.out i (by rw[Jh.out];exact hlt)
        obtain ⟨pZ,QW⟩:∃g,gs[i]'(by rw[Jh.out];exact hlt)=g:=⟨_,rfl⟩
        rw[QW]at VG;have hgD:(gs[i]?).getD []=pZ:=by rw[List.getElem?_eq_getElem (by rw[Jh.out];exact hlt),QW];rfl
        have wH:pZ∈gs:=by rw[<-QW];exact List.getElem_mem _
        have VH:pZ≠[]:=by
         have:=(HL.out.ci.rch i (by omega) (by rw[Jh.out];exact hlt)).1
         rwa [hgD]at this
        have hgp:∀p∈pZ,p<dG:=λp hp=>by have:=HL.out.ci.gl pZ wH p hp;rw[HN.out.2.1]at this;exact this
        obtain ⟨gb,fb,cb,rfl,-,Bd,xE,hcell⟩:=VG.resolve_left (λh=>VH h.1);obtain ⟨np,hnp⟩:∃n,pZ.length=n:=⟨_,rfl⟩;rw[hnp]at x5 xE hog;have arU:np<=600:=by rw[<-hnp];exact kH (a:=0) (HL.out.ci.rR pZ wH) λp hp=>⟨Nat.zero_le _,by have:=hgp p hp;omega⟩
        have hdi:decide (i<ng)=true:=decide_eq_true hlt;have Py:=Lib.hid DZ;have Zl:=Lib.hid (And.intro hgD (And.intro VH (And.intro hgp (And.intro hnp wH))));have HGC:=Lib.hid hcell;obtain ⟨WB,rfl⟩:∃W:World,W=wr:=⟨_,rfl⟩;clear DZ QW hgD wH VH hgp hnp hcell VG;go_wp2_with fail
        go_loopw [84,11,12] (λkv fv av wr=>∃k:Nat,k<=np/\kv = .int .i64 (k:Int)/\av = .bool ((pZ.take k).any λp=>decide (p∈x.last))/\Hid (CU WB.heap.size fv (jY b (pZ.take k)) wr)/\Hid (Below WB.heap.size WB wr)) (λkv _ _ _=>np - (intOf kv).toNat)
        case atStart=>exact ⟨0,Nat.zero_le _,rfl,rfl,⟨World.ownsRow_nil _ _ _ _, .inl rfl⟩,Below.refl _ _⟩
        case round=>
         obtain ⟨k,hk,rfl,rfl,Zm,bI⟩:=hrel;have Gg:=bI.out.size;obtain ⟨AL,nL,cL,rfl⟩:∃A n c,u11 = .slice A n c:=by
          obtain ⟨A,c,e,-⟩:=ag Zm.out.1;exact ⟨_,_,_,e⟩
         obtain ⟨acc,hacc⟩:∃a,((pZ.take k).any λp=>decide (p∈x.last))=a:=⟨_,rfl⟩;rw[hacc];have VI:=Lib.hid hacc;clear hacc;have GP:(jY b (pZ.take k)).length<=k*10000000000:=by
          have h1:=Cm Zh.out (pZ.take k);have h2:(pZ.take k).length<=k:=List.length_take_le _ _;have h3:(pZ.take k).length*eV nd<=k*10000000000:=Nat.mul_le_mul h2 (by have:=fQ.out.2;omega)
          omega
         by_cases uu:k<np
         .have jO:decide ((k:Int)<(np:Int))=true:=decide_eq_true (by omega)
          have cR:decide (k<np)=true:=decide_eq_true uu;have di:k<pZ.length:=by rw[Zl.out.2.2.2.1];exact uu
          obtain ⟨p,hp⟩:∃p,pZ[k]=p:=⟨_,rfl⟩;have xH:p<dG:=by rw[<-hp];exact Zl.out.2.2.1 _ (List.getElem_mem di)
          have c0:=(bI.out.cell (p:=⟨gb,fb+k,none⟩) Bd).trans (HGC.out k di);rw[hp]at c0;have lgb:gb<wr.heap.size:=by omega
          have VJ:=HL.out.cp.later bI.out;obtain ⟨gF',cF',eF,-,arX,-,TH⟩:=VJ.fol;have hpf:p<b.fol.length:=by rw[HN.out.1];exact xH
          obtain ⟨rvv,x6,QX,-,-,MO⟩:=TH p hpf;obtain ⟨rfl,-⟩:gF=gF'/\True:=by
           injection eF with eF;injection eF with eF;injection eF with eF;exact ⟨eF,trivial⟩
          obtain ⟨A6,c6,rfl,-⟩:=QX.form;obtain ⟨n6,hn6⟩:∃n,b.fol[p].length=n:=⟨_,rfl⟩;rw[hn6]at QX x6 MO;have Ev:=HL.out.sb.cells;have s1w:=(bI.out.cell (p:=⟨w2.heap.size+1,1,none⟩) Ev.1).trans Ev.2.2.1;have s2w:=(bI.out.cell (p:=⟨w2.heap.size+1,2,none⟩) Ev.1).trans Ev.2.2.2;have lsw:w2.heap.size+1<wr.heap.size:=by have:=Ev.1;omega
          obtain ⟨gE,eE,hgE,-,Ps⟩:=VJ.ends;obtain ⟨rfl,-⟩:wZ.heap.size=gE/\True:=by
           injection eE with eE;injection eE with eE;injection eE with eE;exact ⟨eE,trivial⟩
          have x7:=Ps p (by rw[HN.out.2.1];exact xH)
          have hpd:decide (p<dG)=true:=decide_eq_true xH;have hlk:(jY b (pZ.take k)).length+(b.fol[p]).length<=10000000000000:=by
           have h1:=Zh.out _ (List.getElem_mem hpf);have:=fQ.out.2;have:k*10000000000<=599*10000000000:=Nat.mul_le_mul_right _ (by omega)
           omega
          have bT:jY b (pZ.take k)++b.fol[p]=jY b (pZ.take (k+1)):=by
           rw[List.take_succ_eq_append_getElem di,hp,Ji];unfold de;rw[List.getElem?_eq_getElem hpf];rfl
          have QY:((pZ.take (k+1)).any λp=>decide (p∈x.last))=(acc || decide (p∈x.last)):=by
           rw[List.take_succ_eq_append_getElem di,hp,List.any_append,VI.out];simp
          have My:=Lib.hid QX;have lY:=Lib.hid (And.intro bT (And.intro QY hlk));have Zn:=Lib.hid (λ(h:A6=none)=>MO n6 c6 (by rw[h]))
          obtain ⟨dd,hdd⟩:∃d,decide (p∈x.last)=d:=⟨_,rfl⟩;rw[hdd]at x7;have HDD:=Lib.hid hdd;clear hp di VJ TH QX MO Ev Ps bT QY hlk hdd GP hn6 eF eE;go_wp2_with (at_builtin;refine VK Tryz.underlying22 Ze GH sY pS rfl _ _ _ A6 n6 c6 (jY b (pZ.take k)) _ WB.heap.size rfl rfl rfl rfl Zm.out My.out Zn.out lY.out.2.2 Gg ?_);intro v' w3 Jj dc;obtain ⟨A3,n3,c3,rfl⟩:∃A n c,v' = .slice A n c:=by
           obtain ⟨A,c,e,-⟩:=ag Jj.1;exact ⟨_,_,_,e⟩
          have VL:=bI.out.trans (dc.mono (Nat.le_refl _));have arZ:=dc.size;have ar0:WB.heap.size<=w3.heap.size:=VL.size;have ar1:=(dc.cell (p:=⟨w2.heap.size+1,2,none⟩) (by show w2.heap.size+1<WB.heap.size;exact (HL.out.sb.cells).1)).trans s2w
          have x73:=(dc.cell (p:=⟨wZ.heap.size,p,none⟩) (by obtain ⟨g,e,h1,-⟩:=HL.out.cp.ends;injection e with e;injection e with e;injection e with e;show wZ.heap.size<WB.heap.size;omega)).trans x7
          have ar2:w2.heap.size+1<w3.heap.size:=by omega
          have ar3:wZ.heap.size<w3.heap.size:=by omega
          have abI:CU WB.heap.size (.slice A3 n3 c3) (jY b (pZ.take (k+1))) w3:=by rw[<-lY.out.1];exact Jj
          have abJ:=Lib.hid abI;have MP:=Lib.hid VL;clear Jj dc abI VL c0 x6 s1w s2w x7
          cases acc with
          | true=>
           go_wp2_with fail;go_roundw
           case rel=>exact ⟨k+1,by omega,by go_num,by rw[lY.out.2.1];rfl,abJ,MP⟩
           case measure=>simp[intOf];omega
          | false=>
           go_wp2_with fail;go_roundw
           case rel=>exact ⟨k+1,by omega,by go_num,by rw[lY.out.2.1,HDD.out];rfl,abJ,MP⟩
           case measure=>simp[intOf];omega
         .have hkn:k=np:=by omega
          have jO:decide ((k:Int)<(np:Int))=false:=decide_eq_false (by omega)
          have xD:pZ.take k=pZ:=List.take_of_length_le (by rw[Zl.out.2.2.2.1];omega)
          rw[xD]at Zm VI GP;have rJ:=HL.out.ci.rl;have nQ:bE.length=i:=by have:=Nat.pos_of_ne_zero Py.out;rw[HL.out.ci.al];omega
          have jF:=HL.out.ma.own;rw[rJ]at jF;have kJ:WB.ownsRow w2.heap.size 4 1 vA bE.length (aY bC bE):=HL.out.ma.acc;rw[nQ]at kJ;obtain ⟨AE,cE,rfl,-,-⟩:=ag jF;obtain ⟨AV,cA,rfl,-,-⟩:=ag kJ;have QZ:=(bI.out.block (w5.heap.size+1) ((HL.out.ma.lt _ (aV.2 (.inl rfl))).2)).trans HL.out.ma.hN;obtain ⟨QS,xn1⟩:wr.cell? ⟨w5.heap.size+1,0,none⟩=some (.slice AE i cE)/\wr.cell? ⟨w5.heap.size+1,1,none⟩=some (.slice AV i cA):=by constructor <;> (rw[cell_of_row _ _ _ _ _ _ QZ]; rfl)
          have fn1:wr.frozen? ⟨w5.heap.size+1,1,none⟩=false:=by simp[World.frozen?,QZ]
          have lNw:w5.heap.size+1<wr.heap.size:=(Array.getElem?_eq_some_iff.1 QZ).1;have cT:=(bj kJ bI.out).alloc (.cells #[.bool acc] 4);have mZ:∀j u,([.bool acc]:List Value)[j]?=some u->(wr.alloc (.cells #[.bool acc] 4)).cell? ((⟨wr.heap.size,0,none⟩:Addr).add j)=some u:=λj u hj=>by
           match j,hj with
           | 0,hj=>simp at hj;rw[<-hj,Addr.add_lit,cell_of_row _ _ _ _ _ _ (heap_alloc_new wr _)];rfl
          have dh:w2.heap.size<=(wr.alloc (.cells #[.bool acc] 4)).heap.size:=by simp;omega
          have Q0:Below wr.heap.size wr (wr.alloc (.cells #[.bool acc] 4)):=(Below.refl _ _).alloc (Nat.le_refl _) _;have PG:=Lib.hid (bI.out.trans (Q0.mono Gg));have Px:=Lib.hid (And.intro rJ nQ);have HOA:=Lib.hid cT;have HHE:=Lib.hid jF;have HHA:=Lib.hid kJ;have aij:=Lib.hid (show acc=true↔∃p∈(gs[i]?).getD [],p∈x.last from by
           rw[Zl.out.1,<-VI.out,List.any_eq_true];simp only[decide_eq_true_eq])
          have HLK:=Lib.hid GP;clear rJ nQ jF kJ QZ cT Q0 xD GP hkn;go_wp2_with (at_builtin;refine cN rfl _ _ 70 rfl w2.heap.size 4 ib _ 1 1 Tryz.underlying70 xn hb0 hb1 aL rfl (by decide) _ i (aY bC bE) rfl HOA.out ⟨wr.heap.size,0,none⟩ 1 1 [.bool acc] rfl rfl mZ (by intro u hu;simp at hu;subst hu;rfl) (by unfold maxLen;omega) (by omega) dh ?_)
          intro rT w8 MQ TJ wL;obtain ⟨A8,c8,rfl,-,-⟩:=ag MQ;have Zg:=Lib.hid (HL.out.ma.later PG.out);have nNA:(Value.slice AV i cA).ownBlock≠some (w5.heap.size+1):=HL.out.ma.neA;have hN8:=(TJ.block (w5.heap.size+1) (by simp;omega) (λe=>nNA e.symm)).trans Zg.out.hN
          have x81:w8.cell? ⟨w5.heap.size+1,1,none⟩=some (.slice AV i cA):=by rw[cell_of_row _ _ _ _ _ _ hN8];rfl
          have f81:w8.frozen? ⟨w5.heap.size+1,1,none⟩=false:=by simp[World.frozen?,hN8]
          have lN8:w5.heap.size+1<w8.heap.size:=(Array.getElem?_eq_some_iff.1 hN8).1;have wM:cW (.slice A8 (i+1) c8) (.slice AV i cA) (wr.alloc (.cells #[.bool acc] 4)).heap.size:=by rw[show (wr.alloc (.cells #[.bool acc] 4)).heap.size=wr.heap.size+1 by simp];exact wL
          have abN:OR 4 1 bC w2.heap.size (.slice A8 (i+1) c8) (bE++[acc]) w8:=by
           show World.ownsRow _ _ _ _ _ _ _;rw[List.length_append,bA,bf,Px.out.2];exact MQ
          obtain ⟨q1,q2⟩:=Zg.out.aik (λk hk=>by have:=(HL.out.sb.lt k hk).2;have:=PG.out.size;omega) abN TJ wM
          have abO:=Zm.out.il.later (show Below wr.heap.size wr (wr.alloc (.cells #[.bool acc] 4)) from (Below.refl _ _).alloc (Nat.le_refl _) _);have TK:aG (lA (w5.heap.size+1) (.slice AE i cE) (.slice AV i cA)) (.slice AL nL cL):=λg hg hm=>by have:=(Zm.out.1.lt g hg).1;have:=(HL.out.ma.lt g hm).2;omega
          have Jk:=(HL.out.sb.later PG.out).apart q2 (λk hk=>Zg.out.out k hk) Zg.out.types;have VM:=(HL.out.cp.later PG.out).keep (q2.abP fp);have VN:=(HL.out.bl.trans (PG.out.mono HL.out.bl.size)).trans (q2.below (λk hk=>(HL.out.ma.lt k hk).1) dh);have VO:=(abO.keep TK q2).1;have TL:aG fp (.slice AL nL cL):=λg hg hm=>by have:=(Zm.out.1.lt g hg).1;have:=(HL.out.sb.lt g hm).2;omega
          obtain ⟨W9,ua⟩:∃W9,W9=w8.setCell ⟨w5.heap.size+1,1,none⟩ (.slice A8 (i+1) c8):=⟨_,rfl⟩;rw[<-ua]at q1 q2 Jk VM VN VO;have GL:=Lib.hid q1;have QR:=Lib.hid Jk;have MI:=Lib.hid VM;have Ci:=Lib.hid HL.out.ci;have sw:=Lib.hid VN;have ail:=Lib.hid Px.out;have HGF:=Lib.hid (show ∀p,p∈jY b pZ↔nT b x gs i p from λp=>by rw[Cn];unfold nT;rw[if_neg Py.out,Zl.out.1])
          have TG:=Lib.hid (show ∀p∈jY b pZ,p<b.sets.length from λp hp=>by
           obtain ⟨q,hq,hpq⟩:=Cn.1 hp;have:=(xy.out.2.1.good.cls q (Nat.zero_le _) (by rw[HN.out.1];exact Zl.out.2.2.1 q hq) p hpq).2
           rw[xy.out.2.1.len];exact this)
          have HLL:=Lib.hid (show (jY b pZ).length<=10000000000000 by have:=HLK.out;have:k*10000000000<=600*10000000000:=Nat.mul_le_mul_right _ (by omega);omega)
          have HFV:=Lib.hid (And.intro VO TL);have HWE:=Lib.hid ua;clear MQ TJ wL wM hN8 abN q1 q2 abO VO TK TL Jk VM VN mZ dh QS xn1 fn1 lNw;go_wp2_with fail;refine dv λW hW=>?_;obtain rfl:W=W9:=hW.trans HWE.out.symm;have Px:=Lib.hid ail.out.1;have K9:=Lib.hid (show W.ownsRow w2.heap.size 187 1 (.slice AE i cE) i gv from by have:=GL.out.own;rwa [Px.out]at this)
          have EI:=GL.out.hN;have TC:=Lib.hid EI;have QS:W.cell? ⟨w5.heap.size+1,0,none⟩=some (.slice AE i cE):=by rw[cell_of_row _ _ _ _ _ _ EI];rfl
          have lN:w5.heap.size+1<W.heap.size:=(Array.getElem?_eq_some_iff.1 EI).1;have HNF:=Lib.hid (show w5.heap.size+1∉fp from GL.out.out _ (aV.2 (.inl rfl)));have Vz:=Lib.hid (qN.out.below (wJ.out.trans (sw.out.mono Jf)) qN.out.low);have HG0:=Lib.hid Ci.out.g0;have HGL:=Lib.hid (show gs.length<=2000 by rw[Jh.out];exact jC)
          have ez:i<=2000:=by omega
          have eU:GD (w5.heap.size+1) W 0 W.drew:=⟨Nat.le_refl _,rfl,λ_=>(Below.refl _ _).drew⟩;have lsW:w2.heap.size+1<W.heap.size:=(QR.out.cells).1;clear EI hW x4 lsr z0 z1 z2 lPr x5 x81 f81 lN8;go_wp2_with fail;refine aq 9 [4,5,6,7] (GF w2 (w2.heap.size+1) w2.heap.size (.slice (some ⟨gS,0,none⟩) dG cS) (.slice (some ⟨gF,0,none⟩) dG cF) (.slice (some ⟨wZ.heap.size,0,none⟩) dG dG) b gs fp (jY b pZ) (w5.heap.size+1) i cE nL cL AE AL gv W) (λc w'=>GD (w5.heap.size+1) W c w') (by kernel_rfl) (by kernel_rfl) (by kernel_rfl) (by kernel_rfl) (by kernel_rfl) (by kernel_rfl) (by decide) eU ?_ ?_
          .simp only[cP,cQ];refine ae.pure (by decide) ?_ (ae.pure (by decide) ?_ (ae.pure (by decide) ?_ (ae.pure (by decide) ?_ (ae.oJ 0 rfl ?_ (ae.oJ 1 rfl ?_ (ae.oJ 2 rfl ?_ (ae.oJ 3 rfl ?_ (ae.pure (by decide) ?_ (ae.nil)))))))))
           all_goals first | (with_reducible intro v wz c aD hS hE K hK;simp only[ai,Act.put,eh,ek,ep,Nat.zero_add,Nat.reduceAdd,cP,cQ]at hK|-) | (intro v wz hS hE K hK;simp only[ai,Act.put,eh,ek,ep,Nat.zero_add,Nat.reduceAdd,cP,cQ]at hK|-)
           .have HX:=Lib.hid hS;clear hS hE aD;go_wp2_with fail;exact hK.out _ rfl
           .have e0:v 0=_:=hE.1 rfl;rw[e0]at hK|-;have c1:=(World.cell?_of_block (a:=⟨w5.heap.size+1,0,none⟩) hS.2.1).trans QS;have l1:w5.heap.size+1<wz.heap.size:=by have:=hS.1;omega
            have HX:=Lib.hid hS;clear hS hE aD;go_wp2_with fail;exact hK.out _ rfl
           .have HX:=Lib.hid hS;clear hS hE aD;go_wp2_with fail;exact hK.out _ rfl
           .have HX:=Lib.hid hS;clear hS hE aD;go_wp2_with fail;exact hK.out _ rfl
           .have e3:v 3=_:=hE.1 rfl;rw[e3]at hK|-;have hb:=hS.2.2 (by omega)
            have aF:=iM (.slice AL nL cL) (jY b pZ) wz (HFV.out.1.later hb) HLL.out;have HC:=Lib.hid aF;have HX:=Lib.hid hS;clear hS hE aF hb;go_wp2_with fail;refine HC.out.mono ?_;rintro e wy ⟨v',r,rfl,pC,how,eY,aP⟩;obtain ⟨A',c',rfl,-,-⟩:=ag how;have HP:=Lib.hid (And.intro pC (And.intro (aS how HX.out.1) (And.intro eY aP)));clear pC how eY aP;go_wp2_with fail;refine hK.out _ _ (λj z hj h=>?_) ⟨Nat.le_trans HX.out.1 HP.out.2.2.2.size,(HP.out.2.2.2.block (w5.heap.size+1) (by have:=HX.out.1;omega)).trans HX.out.2.1,λ_=>(HX.out.2.2 (by omega)).trans (HP.out.2.2.2.mono HX.out.1)⟩ (λ_=>⟨A',r,c',rfl,HP.out.1,HP.out.2.1,HP.out.2.2.1⟩)
            match j with
            | 0 | 1 | 2 | 3 | 8=>exact h
            | 4=>exact absurd rfl hj
            | 5=>exact λhc=>by omega
            | 6=>exact λhc=>by omega
            | 7=>exact λhc=>by omega
            | _+9=>exact trivial
           .have e2:v 2=_:=hE.1 rfl;rw[e2]at hK|-;have E4:=hE.2.1 rfl;obtain ⟨Ar,r,cr,e4,pC,how,eY⟩:=E4 rfl;rw[e4]at hK how eY|-;have hb:=hS.2.2 (by omega)
            have Ck:∀p∈r,p<b.sets.length:=λp hp=>TG.out p ((pC.2 p).1 hp);have aF:=xI w2 (w2.heap.size+1) w2.heap.size (.slice (some ⟨gS,0,none⟩) dG cS) (.slice (some ⟨gF,0,none⟩) dG cF) (.slice (some ⟨wZ.heap.size,0,none⟩) dG dG) b gs fp wz r _ (QR.out.later hb) ((MI.out.later hb).set.oK λk hk=>List.mem_append_left _ hk) (sw.out.trans (hb.mono sw.out.size)) HRG.out eY (λg hg hm=>by have:=(how.lt g hg).1;have:=(QR.out.lt g hm).2;omega) Ck (kH (a:=0) pC.1 λp hp=>⟨Nat.zero_le _,by have:=Ck p hp;have:=HN.out.2.1;omega⟩) (by rw[HN.out.2.1];omega) (by have:=HGL.out;omega) HG0.out (Vz.out.later hb) aW.out
            have HC:=Lib.hid aF;have HX:=Lib.hid (And.intro hS (And.intro pC hb));clear hS hE aF hb Ck pC how eY E4 e4;go_wp2_with fail;refine HC.out.mono ?_;rintro e wy ⟨row,eZ,fp',rv,rfl,⟨kI,lu,GM⟩,La,km,Bh,TF,D6,kA⟩;obtain ⟨A',c',Bw,-,-⟩:=kI.form;have HP:=Lib.hid (And.intro kI (And.intro lu (And.intro GM (And.intro La (And.intro km (And.intro Bh (And.intro TF D6)))))));clear kI lu GM La km Bh TF D6 kA Bw;go_wp2_with fail;have hz1:=HX.out.1.1;have hz2:=HP.out.2.2.2.2.1.size;refine hK.out _ _ (λj z hj h=>?_) ⟨by omega,(HP.out.2.2.2.2.1.blk (w5.heap.size+1) (by omega) HNF.out).trans HX.out.1.2.1,λh=>by omega⟩ (λ_=>⟨r,row,eZ,fp',HX.out.2.1,⟨HP.out.1,HP.out.2.1,λg hg=>⟨by have:=(HP.out.2.2.1 g hg).1;omega,(HP.out.2.2.1 g hg).2⟩⟩,HP.out.2.2.2.1,(ah.aa HX.out.2.2).trans HP.out.2.2.2.2.1,HP.out.2.2.2.2.2.1,HP.out.2.2.2.2.2.2.1,HP.out.2.2.2.2.2.2.2⟩)
            match j with
            | 0 | 1 | 2 | 3 | 8=>exact h
            | 5=>exact absurd rfl hj
            | 4=>exact λhc=>by omega
            | 6=>exact λhc=>by omega
            | 7=>exact λhc=>by omega
            | _+9=>exact trivial
           .have E5:=hE.1 rfl;have sB:=E5 rfl;obtain ⟨r,row,eZ,fp',q1,⟨q2,q3,q4⟩,q5⟩:=id sB;obtain ⟨A5,c5,e5,-,-⟩:=q2.form;obtain ⟨n5,Zj⟩:∃n,row.length=n:=⟨_,rfl⟩;rw[Zj]at e5;rw[e5]at hK sB|-;have VA:=Lib.hid sB;have HX:=Lib.hid hS;clear hS hE sB q1 q2 q3 q4 q5 E5 e5;have po:=HX.out.1;go_wp2_with fail;have dh:Below wz.heap.size wz (wz.alloc (.cells #[.slice A5 n5 c5] 187)):=(Below.refl _ _).alloc (Nat.le_refl _) _;refine hK.out _ _ (λj z hj h=>?_) ⟨by simp;omega,(dh.block (w5.heap.size+1) (by omega)).trans HX.out.2.1,λh=>by omega⟩ (λ_=>⟨wz.heap.size, .slice A5 n5 c5,rfl,po,by simp,by go_simp,rfl,VA.out.later dh⟩)
            match j with
            | 0 | 1 | 2 | 3 | 8=>exact h
            | 6=>exact absurd rfl hj
            | 4=>exact λhc=>by omega
            | 5=>exact λhc=>by omega
            | 7=>exact λhc=>by omega
            | _+9=>exact trivial
           .have e1:v 1=_:=hE.1 rfl;rw[e1]at hK|-;have E6:=hE.2.1 rfl;obtain ⟨g,rv,e6,PF,dV,ur,h1c,sB⟩:=E6 rfl;rw[e6]at hK|-;obtain ⟨r,row,eZ,fp',q1,q2,q3,q4,q5⟩:=id sB;have hown:wz.ownsRow w2.heap.size 187 1 (.slice AE i cE) i gv:=ak K9.out λg hg=>q4.blk g (K9.out.lt g hg).2 λhm=>GL.out.out g (aV.2 (.inr (.inl hg))) hm;have Cl:=hS.1;have hcell:∀j u,([rv]:List Value)[j]?=some u->wz.cell? ((⟨g,0,none⟩:Addr).add j)=some u:=λj u hj=>by
             match j,hj with
             | 0,hj=>simp at hj;rw[<-hj,Addr.add_lit];exact ur
            have VA:=Lib.hid sB;have HX:=Lib.hid hS;clear hS hE sB q1 q2 q3 q4 q5 E6;go_wp2_with (at_builtin;refine cN rfl _ _ 91 rfl w2.heap.size 187 ie (.slice none 0 0) 1 24 Tryz.underlying91 sR he0 he1 TD rfl (by decide) _ i gv rfl hown ⟨g,0,none⟩ 1 1 [rv] rfl rfl hcell (by intro u hu;simp at hu;subst hu;exact h1c) (by unfold maxLen;omega) (by omega) (by have:=sw.out.size;omega) ?_)
            intro v' wx hown1 et eJ;obtain ⟨A',c',rfl,-,-⟩:=ag hown1;refine hK.out _ _ (λj z hj h=>?_) ⟨Nat.le_trans HX.out.1 et.size,(et.block (w5.heap.size+1) (by omega) (λe=>GL.out.Zk e.symm)).trans HX.out.2.1,λh=>by omega⟩ (λ_=>⟨rv,wz,A',c',rfl,VA.out,et,hown1,eJ⟩)
            match j with
            | 0 | 1 | 2 | 3 | 8=>exact h
            | 7=>exact absurd rfl hj
            | 4=>exact λhc=>by omega
            | 5=>exact λhc=>by omega
            | 6=>exact λhc=>by omega
            | _+9=>exact trivial
           .have HX:=Lib.hid hS;clear hS hE aD;go_wp2_with fail;exact hK.out _ rfl
          .intro v wz hS hF;have e0:v 0=_:=hF 0 (by decide)
           have e1:v 1=_:=hF 1 (by decide)
           have e2:v 2=_:=hF 2 (by decide)
           have e3:v 3=_:=hF 3 (by decide)
           have e8:v 8=_:=hF 8 (by decide)
           have E4:=hF 4 (by decide)
           have E5:=hF 5 (by decide)
           have E6:=hF 6 (by decide)
           have E7:=hF 7 (by decide)
           simp only[ai,Act.put,eh,ek,ep,Nat.zero_add,Nat.reduceAdd,cP,cQ,List.drop_succ_cons,List.drop_zero,e0,e1,e2,e3,e8];clear hF e0 e1 e2 e3 e8;obtain ⟨rv,w6,A7,c7,e7,sB,QT,VB,Bj⟩:=E7 rfl;rw[e7]at VB Bj|-;have QU:=hS.2.1.trans TC.out;have xz0:wz.cell? ⟨w5.heap.size+1,0,none⟩=some (.slice AE i cE):=by rw[cell_of_row _ _ _ _ _ _ QU];rfl
           have fz0:wz.frozen? ⟨w5.heap.size+1,0,none⟩=false:=by simp[World.frozen?,QU]
           have lNz:w5.heap.size+1<wz.heap.size:=(Array.getElem?_eq_some_iff.1 QU).1;obtain ⟨row,eZ,fp',bD,VC⟩:=GN (w0:=w2) GL.out MI.out Ci.out (by rw[if_neg Py.out];exact ⟨_,rfl,aij.out⟩) (show i<gs.length by rw[Jh.out];exact hlt) sw.out HGF.out TG.out sB QT (by rw[Px.out];exact VB) Bj (λk hk=>(QR.out.lt k hk).1)
           have MJ:¬w5.heap.size+1=w2.heap.size+1:=λe=>by have:=bD.ma.out _ (aV.2 (.inl rfl));have h8:=bD.sb;obtain ⟨vg8,gv8,F8,VD,-⟩:=h8;rw[VD,e]at this;exact this (by simp[iQ])
           have zm:¬w2.heap.size+1=w5.heap.size+1:=λe=>MJ e.symm;have bg:∀k,k≠w5.heap.size+1->(wz.setCell ⟨w5.heap.size+1,0,none⟩ (.slice A7 (i+1) c7)).heap[k]?=wz.heap[k]?:=λk hk=>Below.heap_setCell _ _ _ _ hk;obtain ⟨Ag',cg',VE,ah9,-⟩:=bD.sb.ES;obtain ⟨MK,zn⟩:∃n,eZ.length=n:=⟨_,rfl⟩;rw[zn]at VE;have x4z:wz.cell? ⟨w2.heap.size+1,4,none⟩=some (.slice Ag' MK cg'):=(World.cell?_of_block (a:=⟨w2.heap.size+1,4,none⟩) (bg _ zm)).symm.trans VE;have aia:w2.heap.size+1<wz.heap.size:=by have:=hS.1;omega
           have Bd:MK<=100000:=by rw[<-zn];have:=Jh.out;omega
           have lL:=Lib.hid bD;have ML:=Lib.hid zn;clear hS sB QT VB Bj QU e7 E4 E5 E6 E7 bD VC VE zn;by_cases h2k:2000<MK
           .have d4:decide (2000<(MK:Int))=true:=decide_eq_true (by omega)
            have QV:=(bg (w.heap.size+1) (by omega)).symm.trans ((lL.out.bl.block (w.heap.size+1) (by omega)).trans QL.out)
            obtain ⟨rz0,rz1⟩:wz.cell? ⟨w.heap.size+1,0,none⟩=some (.slice none 0 0)/\wz.cell? ⟨w.heap.size+1,1,none⟩=some (.slice none 0 0):=by constructor <;> (rw[cell_of_row _ _ _ _ _ _ QV]; rfl)
            have gz0:wz.frozen? ⟨w.heap.size+1,0,none⟩=false:=by simp[World.frozen?,QV]
            have gz1:wz.frozen? ⟨w.heap.size+1,1,none⟩=false:=by simp[World.frozen?,QV]
            have lRz:w.heap.size+1<wz.heap.size:=by omega
            have nRN:¬w.heap.size+1=w5.heap.size+1:=by omega
            have aid:¬w5.heap.size+1=w.heap.size+1:=by omega
            clear QV bg;go_wp2_with fail;refine ar λWf cH=>?_;refine bodyPost_ret (v:=.tuple #[iP, .int .i64 3]) (by rw[cH];simp[results,Tryz.results109,go_sem,rz0,rz1,lRz,iP];try rfl) rfl ?_
            have oH:Below w.heap.size w Wf:=by
             rw[cH];have h1:=wJ.out.trans (lL.out.bl.mono Jf);exact (h1.setCell (p:=⟨w.heap.size+1,0,none⟩) (by show w.heap.size<=w.heap.size+1;omega) _).setCell (p:=⟨w.heap.size+1,1,none⟩) (by show w.heap.size<=w.heap.size+1;omega) _
            exact ⟨oH, .inr (.inr ⟨HQ.out.1,fQ.out.1,b,x,eZ,_,_,i+1,xy.out.2.1,by rw[HN.out.1,HN.out.2.2.1],QQ.out,lL.out.ci, .inl ⟨by rw[ML.out];exact h2k,rfl⟩⟩)⟩
           .have d4:decide (2000<(MK:Int))=false:=decide_eq_false (by omega)
            have VF:=lL.out.ci.il;clear bg;go_wp2_with fail;go_roundw
            case rel=>exact ⟨i+1,eZ,fp',_,_,_,_,_,by go_num,VF,by rw[ML.out];omega,lL⟩
            case measure=>simp[intOf];omega
      .have sR:i=ng:=by omega
       have hd:decide ((i:Int)<(ng:Int))=false:=decide_eq_false (by omega)
       have xJ:=HL.out.ci;rw[sR,<-Jh.out]at xJ;obtain ⟨abQ,lB,-⟩:=xJ.done QQ.out;have rJ:=HL.out.ci.rl;have h0:1<=i:=by have:=(List.getElem?_eq_some_iff.1 HL.out.ci.g0).1;have:=Jh.out;omega
       have eQ:sf ⟨rs,bE⟩:=⟨λr hr=>(lB r hr).2,λr hr=>Nat.le_trans (lB r hr).1 (by decide),by show rs.length<=_;omega⟩
       have MR:=qN.out.below (wJ.out.trans (HL.out.bl.mono Jf)) qN.out.low;have jF:=HL.out.ma.own;have kJ:wr.ownsRow w2.heap.size 4 1 vA bE.length (aY bC bE):=HL.out.ma.acc;obtain ⟨AE,cE,rfl,-,-⟩:=ag jF;obtain ⟨AV,cA,rfl,-,-⟩:=ag kJ;have hle:=Jl _ ⟨rs,bE⟩ wr HL.out.ma.abR abQ eQ (by show 1<=rs.length;omega) MR
       obtain ⟨nE,Zo⟩:∃n,rs.length=n:=⟨_,rfl⟩;obtain ⟨nV,Zp⟩:∃n,bE.length=n:=⟨_,rfl⟩;have QZ:=HL.out.ma.hN;rw[Zo,Zp]at hle QZ;obtain ⟨QS,xn1⟩:wr.cell? ⟨w5.heap.size+1,0,none⟩=some (.slice AE nE cE)/\wr.cell? ⟨w5.heap.size+1,1,none⟩=some (.slice AV nV cA):=by constructor <;> (rw[cell_of_row _ _ _ _ _ _ QZ]; rfl)
       have lNw:w5.heap.size+1<wr.heap.size:=(Array.getElem?_eq_some_iff.1 QZ).1;have TM:=Lib.hid hle;have Ci:=Lib.hid xJ;clear xJ abQ lB rJ eQ MR jF kJ hle Zo Zp QZ sR;go_wp2_with fail;refine TM.out.mono ?_;rintro e w9 ⟨rv,m',rfl,vZ,pF,hok⟩;obtain ⟨ve9,va9,rfl,he9,ha9⟩:=vZ.mc;obtain ⟨A9,c9,rfl,-⟩:=he9.form;obtain ⟨B9,d9,rfl,-⟩:=ha9.form;obtain ⟨n9,hn9⟩:∃n,m'.ed.length=n:=⟨_,rfl⟩;obtain ⟨m9,hm9⟩:∃n,m'.ac.length=n:=⟨_,rfl⟩;rw[hn9,hm9]at vZ|-;have hz9:=pF.size;have hR9:=(pF.block (w.heap.size+1) (by omega)).trans ((HL.out.bl.block (w.heap.size+1) (by omega)).trans QL.out)
       obtain ⟨rz0,rz1⟩:w9.cell? ⟨w.heap.size+1,0,none⟩=some (.slice none 0 0)/\w9.cell? ⟨w.heap.size+1,1,none⟩=some (.slice none 0 0):=by constructor <;> (rw[cell_of_row _ _ _ _ _ _ hR9]; rfl)
       have gz0:w9.frozen? ⟨w.heap.size+1,0,none⟩=false:=by simp[World.frozen?,hR9]
       have gz1:w9.frozen? ⟨w.heap.size+1,1,none⟩=false:=by simp[World.frozen?,hR9]
       have lR9:w.heap.size+1<w9.heap.size:=by omega
       have HUP:=Lib.hid (And.intro vZ (And.intro pF hok));clear vZ pF hok he9 ha9 hR9 hn9 hm9;go_wp2_with fail;refine ar λWf cH=>?_;refine bodyPost_ret (v:=.tuple #[.agg #[.slice A9 n9 c9, .slice B9 m9 d9], .int .i64 0]) (by rw[cH];simp[results,Tryz.results109,go_sem,rz0,rz1,lR9];try rfl) rfl ?_
       have di:ah [w.heap.size+1] [] w9 Wf:=by
        rw[cH];have hne:∀k,k∉[w.heap.size+1]->k≠w.heap.size+1:=λk hn e=>hn (List.mem_singleton.2 e);exact ⟨rfl,rfl,rfl,by simp[World.setCell],λk _ hn=>(Below.heap_setCell (w9.setCell ⟨w.heap.size+1,0,none⟩ _) ⟨w.heap.size+1,1,none⟩ _ k (hne k hn)).trans (Below.heap_setCell w9 ⟨w.heap.size+1,0,none⟩ _ k (hne k hn)),λk hk=>by cases hk⟩
       have aP:Below w.heap.size w wr:=wJ.out.trans (HL.out.bl.mono Jf);have oH:Below w.heap.size w Wf:=(aP.trans (HUP.out.2.1.mono aP.size)).trans (di.below (λk hk=>by rw[List.mem_singleton]at hk;omega) (by omega))
       have ain:=(HUP.out.1.keep di (λk hk=>by rw[List.mem_singleton]at hk;omega)).mono aP.size
       exact ⟨oH, .inr (.inr ⟨HQ.out.1,fQ.out.1,b,x,gs,rs,bE,gs.length,xy.out.2.1,by rw[HN.out.1,HN.out.2.2.1],QQ.out,Ci.out, .inr ⟨rfl,by rw[Jh.out];exact jC,_,m',rfl,ain,HUP.out.2.2⟩⟩)⟩
end
section
set_option linter.unusedVariables false
set_option linter.unusedSimpArgs false
open Go.RowKit
def aqo:Nd:=.mk 4 [] [.mk 1 [(97,97)] [] 0 0] 1 2
def aqp:Mc:=⟨[[⟨97,97,1⟩],[⟨97,97,2⟩],[]],[false,true,true]⟩
end
end Go.Proofs.YtdmoogjddmdmbaaGreatDoor
