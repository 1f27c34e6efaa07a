/- Walks. -/
import Derived.Test.YtdmoogjddmdmbaaGreatDoorX37
import Derived.Test.YtdmoogjddmdmbaaGreatDoorX18
set_option maxRecDepth 100000
set_option maxHeartbeats 16000000
set_option linter.unusedVariables false
set_option linter.unusedSimpArgs false
namespace Go.Proofs.YtdmoogjddmdmbaaGreatDoor
open Go.RowKit
def Ty(g b:Nat)(w:World):Prop:=w.heap[b]?=some (.cells #[.string qC,.int .i64 4,.slice none 0 0,.slice (some ⟨g,0,none⟩) 1 1,.int .i64 1,.int .i64 2,.bool false,.int .i64 0,.int .i64 0,.slice none 0 0,.int .i64 0] 44 (0,0))
theorem Ty.later{g b:Nat}{w w':World}(h:Ty g b w)(hb:Below w.heap.size w w'):Ty g b w':=(hb.block b (γ h).1).trans h
theorem Ty.cells{g b:Nat}{w:World}(h:Ty g b w):(w.cell? ⟨b,0,none⟩=some (.string qC)/\w.cell? ⟨b,1,none⟩=some (.int .i64 4)/\w.cell? ⟨b,2,none⟩=some (.slice none 0 0)/\w.cell? ⟨b,3,none⟩=some (.slice (some ⟨g,0,none⟩) 1 1)/\w.cell? ⟨b,4,none⟩=some (.int .i64 1)/\w.cell? ⟨b,5,none⟩=some (.int .i64 2))/\(w.cell? ⟨b,6,none⟩=some (.bool false)/\w.cell? ⟨b,7,none⟩=some (.int .i64 0)/\w.cell? ⟨b,8,none⟩=some (.int .i64 0)/\w.cell? ⟨b,9,none⟩=some (.slice none 0 0)/\w.cell? ⟨b,10,none⟩=some (.int .i64 0))/\b<w.heap.size:=by
 refine ⟨⟨?_,?_,?_,?_,?_,?_⟩,⟨?_,?_,?_,?_,?_⟩,(γ h).1⟩ <;> (rw[cell_of_row _ _ _ _ _ _ h]; rfl)
theorem EE(g q:Nat)(w:World)(h:om g q w)(jL:dn w):Calls Tryz.prog 81 #[(.agg #[.string qC,.int .i64 4,.slice none 0 0,.slice (some ⟨g,0,none⟩) 1 1,.int .i64 1,.int .i64 2,.bool false,.int .i64 0,.int .i64 0,.slice none 0 0,.int .i64 0])] w λe w'=>∃rv,e=.returned (.tuple #[rv,.int .i64 0])/\iB w.heap.size w' rv eR/\Below w.heap.size w w':=by
 have HC:=Z λW (hb:Below w.heap.size w W)=>rV oI (ZY g) W (h.later hb).nd (jL.later hb);have HS:=Z λW (hb:Below w.heap.size w W)=>Nq g q W (h.later hb);have HL:=Z λW (hb:Below w.heap.size w W)=>RJ g q W (h.later hb);clear h jL
 go_enter Tryz.func81,Tryz.ntmps81
 go_wp2_with fail;refine aH λW0 aP=>?_;have hb0:Below w.heap.size w W0:=by rw[aP];exact (υ.alloc I _).alloc ξ _
 have nW:Ty g w.heap.size W0:=by rw[aP];exact (aB _ _ _ ξ).trans (heap_alloc_new w _)
 have zN:W0.heap[w.heap.size+1]?=some (.cells #[.slice none 0 0,.slice none 0 0] 93 (0,0)):=by rw[aP];simpa using heap_alloc_new (w.alloc (.cells #[.string qC,.int .i64 4,.slice none 0 0,.slice (some ⟨g,0,none⟩) 1 1,.int .i64 1,.int .i64 2,.bool false,.int .i64 0,.int .i64 0,.slice none 0 0,.int .i64 0] 44)) (.cells #[.slice none 0 0,.slice none 0 0] 93)
 have H0:=Z (H hb0 (H nW zN));clear aP hb0 nW zN;refine (RL W0).mono ?_;rintro e w1 ⟨rfl,hb1⟩;have H1:=Z (H (H0.out.1.trans (hb1.mono H0.out.1.size)) (H (H0.out.2.1.later hb1) ((hb1.block _ (γ H0.out.2.2).1).trans H0.out.2.2)));clear hb1;obtain ⟨⟨c0,c1,c2,c3,c4,c5⟩,⟨c6,c7,c8,c9,mR⟩,lb⟩:=H1.out.2.1.cells;go_wp2_with fail;refine (HC.out w1 H1.out.1).mono ?_;rintro e w2 fK;obtain ⟨aJ,rv,rfl,lK⟩:=aaq fK;obtain ⟨ve,va,rfl,he,ha⟩:=id lK.mc;obtain ⟨Ae,ce,rfl,-⟩:=he.form;obtain ⟨Aa,ca,rfl,-⟩:=ha.form;have l1:eR.ed.length=3:=rfl;have l2:eR.ac.length=3:=rfl;rw[l1,l2]at lK|-;have HU:=Z lK;have H2:=Z (H (H1.out.1.trans (aJ.mono H1.out.1.size)) (H (H1.out.2.1.later aJ) ((aJ.block _ (γ H1.out.2.2).1).trans H1.out.2.2)));clear aJ;clear c0 c1 c2 c3 c4 c5 c6 c7 c8 c9 mR lb;clear fK lK he ha l1 l2;obtain ⟨⟨c0,c1,c2,c3,c4,c5⟩,⟨c6,c7,c8,c9,mR⟩,lb⟩:=H2.out.2.1.cells;have lb2:w.heap.size<w2.heap.size+1:=Y;have nb:w.heap.size≠w2.heap.size:=Y;go_wp2_with fail;refine aH λW3 mK=>?_;have bW:Below w2.heap.size w2 W3:=by rw[mK];exact υ.alloc I _
 have TR:W3.heap[w2.heap.size]?=some (.cells #[.slice Ae 3 ce,.slice Aa 3 ca] 93 (0,0)):=by rw[mK];exact heap_alloc_new w2 _
 have V5:=Z TR;have HD3:=Z bW;have H3:=Z (H (H2.out.1.trans (bW.mono H2.out.1.size)) (H (H2.out.2.1.later bW) ((bW.block _ (γ H2.out.2.2).1).trans H2.out.2.2)));clear bW;clear c0 c1 c2 c3 c4 c5 c6 c7 c8 c9 mR lb;clear mK TR lb2 nb;refine (HS.out W3 H3.out.1).mono ?_;rintro e w4 ⟨rfl,dM⟩;have HD4:=Z (HD3.out.trans (dM.mono HD3.out.size));have HM4:=Z ((dM.block _ (γ V5.out).1).trans V5.out);have H4:=Z (H (H3.out.1.trans (dM.mono H3.out.1.size)) (H (H3.out.2.1.later dM) ((dM.block _ (γ H3.out.2.2).1).trans H3.out.2.2)));clear dM;obtain ⟨⟨c0,c1,c2,c3,c4,c5⟩,⟨c6,c7,c8,c9,mR⟩,lb⟩:=H4.out.2.1.cells;go_wp2_with fail;clear c0 c1 c2 c3 c4 c5 c6 c7 c8 c9 mR lb;refine (HL.out w4 H4.out.1).mono ?_;rintro e w5 ⟨rfl,jq⟩;have HD5:=Z (HD4.out.trans (jq.mono HD4.out.size));have HM5:=Z ((jq.block _ (γ HM4.out).1).trans HM4.out);have H5:=Z (H (H4.out.1.trans (jq.mono H4.out.1.size)) (H (H4.out.2.1.later jq) ((jq.block _ (γ H4.out.2.2).1).trans H4.out.2.2)));clear jq;obtain ⟨⟨c0,c1,c2,c3,c4,c5⟩,⟨c6,c7,c8,c9,mR⟩,lb⟩:=H5.out.2.1.cells;go_wp2_with fail;refine (E0 w5).mono ?_;rintro e w6 ⟨rfl,rfl⟩;go_wp2_with fail;refine (Ns _ _ _ w6).mono ?_;rintro e w7 ⟨rfl,rfl⟩;obtain ⟨m0,m1⟩:w7.cell? ⟨w2.heap.size,0,none⟩=some (.slice Ae 3 ce)/\w7.cell? ⟨w2.heap.size,1,none⟩=some (.slice Aa 3 ca):=by constructor <;> (rw[cell_of_row _ _ _ _ _ _ HM5.out]; rfl)
 have lm:w2.heap.size<w7.heap.size:=(γ HM5.out).1;have GM:=H5.out.2.2;obtain ⟨r0,r1⟩:w7.cell? ⟨w.heap.size+1,0,none⟩=some (.slice none 0 0)/\w7.cell? ⟨w.heap.size+1,1,none⟩=some (.slice none 0 0):=by constructor <;> (rw[cell_of_row _ _ _ _ _ _ GM]; rfl)
 have lr:w.heap.size+1<w7.heap.size:=(γ GM).1;have fr0:w7.frozen? ⟨w.heap.size+1,0,none⟩=false:=by simp[World.frozen?,GM]
 have fr1:w7.frozen? ⟨w.heap.size+1,1,none⟩=false:=by simp[World.frozen?,GM]
 clear GM;go_wp2_with fail;refine az λWf bY=>?_;refine bodyPost_ret (v:=.tuple #[.agg #[.slice Ae 3 ce,.slice Aa 3 ca],.int .i64 0]) (by rw[bY];simp[results,Tryz.results81,go_sem,r0,r1,lr];try rfl) rfl ?_
 have aU:aj [w.heap.size+1] [] w7 Wf:=by
  rw[bY];have hne:∀k,k∉[w.heap.size+1]->k≠w.heap.size+1:=λk hn e=>hn (List.mem_singleton.2 e);exact ⟨rfl,rfl,rfl,by simp[World.setCell],λk _ hn=>(Below.heap_setCell (w7.setCell ⟨w.heap.size+1,0,none⟩ _) ⟨w.heap.size+1,1,none⟩ _ k (hne k hn)).trans (Below.heap_setCell w7 ⟨w.heap.size+1,0,none⟩ _ k (hne k hn)),λk hk=>by cases hk⟩
 have hz1:=(γ H1.out.2.2).1;have pN:Below w.heap.size w Wf:=H5.out.1.trans (aU.below (λk hk=>by rw[List.mem_singleton]at hk;omega) H5.out.1.size)
 exact ⟨_,rfl,((HU.out.later HD5.out).keep aU (λk hk=>by rw[List.mem_singleton]at hk;omega)).mono H1.out.1.size,pN⟩
def ED(b:Nat):List (Nat×Value)->World->World
 | [],w=>w
 | (o,v)::r,w=>ED b r (w.setCell ⟨b,o,none⟩ v)
theorem xH(b:Nat):∀(l:List (Nat×Value)) (w:World),aj [b] [] w (ED b l w)
 | [],w=>⟨rfl,rfl,rfl,I,λ_ _ _=>rfl,λk hk=>by cases hk⟩
 | (o,v)::r,w=>by
  have h:=xH b r (w.setCell ⟨b,o,none⟩ v);have hz:(w.setCell ⟨b,o,none⟩ v).heap.size=w.heap.size:=by simp[World.setCell]
  exact ⟨h.os,h.tape,h.output,by have:=h.size;rw[hz]at this;exact this,λk hk hn=>(h.blk k (by rw[hz];exact hk) hn).trans (Below.heap_setCell _ ⟨b,o,none⟩ _ k (λe=>hn (List.mem_singleton.2 e))),λk hk=>by cases hk⟩
theorem KZ(g q:Nat)(w:World)(h:om g q w)(jL:dn w):Calls Tryz.prog 67 #[.agg #[.string qC,.int .i64 4,.slice none 0 0,.slice (some ⟨g,0,none⟩) 1 1,.int .i64 1,.int .i64 2,.bool false,.int .i64 0,.int .i64 0,.slice none 0 0,.int .i64 0]] w λe w'=>∃Ae ce Aa ca,e=.returned (.tuple #[.agg #[.string qC,.int .i64 4,.slice none 0 0,.slice (some ⟨g,0,none⟩) 1 1,.int .i64 1,.int .i64 2,.bool false,.int .i64 0,.int .i64 0,.slice none 0 0,.int .i64 0,.slice Ae 3 ce,.slice Aa 3 ca],.int .i64 0])/\iB w.heap.size w' (.agg #[.slice Ae 3 ce,.slice Aa 3 ca]) eR/\Below w.heap.size w w':=by
 have HC:=Z λW (hb:Below w.heap.size w W)=>EE g q W (h.later hb) (jL.later hb);clear h jL
 go_enter Tryz.func67,Tryz.ntmps67
 go_wp2_with fail;refine aH λW0 aP=>?_;have hb0:Below w.heap.size w W0:=by rw[aP];exact (υ.alloc I _).alloc ξ _
 have nW:Ty g w.heap.size W0:=by rw[aP];exact (aB _ _ _ ξ).trans (heap_alloc_new w _)
 have zN:W0.heap[w.heap.size+1]?=some (.cells #[.string ⟨#[]⟩,.int .i64 0,.slice none 0 0,.slice none 0 0,.int .i64 0,.int .i64 0,.bool false,.int .i64 0,.int .i64 0,.slice none 0 0,.int .i64 0,.slice none 0 0,.slice none 0 0] 95 (0,0)):=by rw[aP];simpa using heap_alloc_new (w.alloc (.cells #[.string qC,.int .i64 4,.slice none 0 0,.slice (some ⟨g,0,none⟩) 1 1,.int .i64 1,.int .i64 2,.bool false,.int .i64 0,.int .i64 0,.slice none 0 0,.int .i64 0] 44)) (.cells #[.string ⟨#[]⟩,.int .i64 0,.slice none 0 0,.slice none 0 0,.int .i64 0,.int .i64 0,.bool false,.int .i64 0,.int .i64 0,.slice none 0 0,.int .i64 0,.slice none 0 0,.slice none 0 0] 95)
 have H0:=Z (H hb0 (H nW zN));clear aP hb0 nW zN;refine (HC.out W0 H0.out.1).mono ?_;rintro e w1 ⟨rv,rfl,lK,hb1⟩;obtain ⟨ve,va,rfl,he,ha⟩:=id lK.mc;obtain ⟨Ae,ce,rfl,-⟩:=he.form;obtain ⟨Aa,ca,rfl,-⟩:=ha.form;have l1:eR.ed.length=3:=rfl;have l2:eR.ac.length=3:=rfl;rw[l1,l2]at lK|-;have HU:=Z lK;have H1:=Z (H (H0.out.1.trans (hb1.mono H0.out.1.size)) (H (H0.out.2.1.later hb1) ((hb1.block _ (γ H0.out.2.2).1).trans H0.out.2.2)));clear hb1 lK he ha l1 l2;obtain ⟨⟨c0,c1,c2,c3,c4,c5⟩,⟨c6,c7,c8,c9,mR⟩,lb⟩:=H1.out.2.1.cells;have lU:=H1.out.2.2;have r0:w1.cell? ⟨w.heap.size+1,0,none⟩=some (.string ⟨#[]⟩):=by rw[cell_of_row _ _ _ _ _ _ lU];rfl
 have r1:w1.cell? ⟨w.heap.size+1,1,none⟩=some (.int .i64 0):=by rw[cell_of_row _ _ _ _ _ _ lU];rfl
 have r2:w1.cell? ⟨w.heap.size+1,2,none⟩=some (.slice none 0 0):=by rw[cell_of_row _ _ _ _ _ _ lU];rfl
 have r3:w1.cell? ⟨w.heap.size+1,3,none⟩=some (.slice none 0 0):=by rw[cell_of_row _ _ _ _ _ _ lU];rfl
 have r4:w1.cell? ⟨w.heap.size+1,4,none⟩=some (.int .i64 0):=by rw[cell_of_row _ _ _ _ _ _ lU];rfl
 have r5:w1.cell? ⟨w.heap.size+1,5,none⟩=some (.int .i64 0):=by rw[cell_of_row _ _ _ _ _ _ lU];rfl
 have r6:w1.cell? ⟨w.heap.size+1,6,none⟩=some (.bool false):=by rw[cell_of_row _ _ _ _ _ _ lU];rfl
 have r7:w1.cell? ⟨w.heap.size+1,7,none⟩=some (.int .i64 0):=by rw[cell_of_row _ _ _ _ _ _ lU];rfl
 have r8:w1.cell? ⟨w.heap.size+1,8,none⟩=some (.int .i64 0):=by rw[cell_of_row _ _ _ _ _ _ lU];rfl
 have r9:w1.cell? ⟨w.heap.size+1,9,none⟩=some (.slice none 0 0):=by rw[cell_of_row _ _ _ _ _ _ lU];rfl
 have r10:w1.cell? ⟨w.heap.size+1,10,none⟩=some (.int .i64 0):=by rw[cell_of_row _ _ _ _ _ _ lU];rfl
 have r11:w1.cell? ⟨w.heap.size+1,11,none⟩=some (.slice none 0 0):=by rw[cell_of_row _ _ _ _ _ _ lU];rfl
 have r12:w1.cell? ⟨w.heap.size+1,12,none⟩=some (.slice none 0 0):=by rw[cell_of_row _ _ _ _ _ _ lU];rfl
 have f0:w1.frozen? ⟨w.heap.size+1,0,none⟩=false:=by simp[World.frozen?,lU]
 have f1:w1.frozen? ⟨w.heap.size+1,1,none⟩=false:=by simp[World.frozen?,lU]
 have f2:w1.frozen? ⟨w.heap.size+1,2,none⟩=false:=by simp[World.frozen?,lU]
 have f3:w1.frozen? ⟨w.heap.size+1,3,none⟩=false:=by simp[World.frozen?,lU]
 have f4:w1.frozen? ⟨w.heap.size+1,4,none⟩=false:=by simp[World.frozen?,lU]
 have f5:w1.frozen? ⟨w.heap.size+1,5,none⟩=false:=by simp[World.frozen?,lU]
 have f6:w1.frozen? ⟨w.heap.size+1,6,none⟩=false:=by simp[World.frozen?,lU]
 have f7:w1.frozen? ⟨w.heap.size+1,7,none⟩=false:=by simp[World.frozen?,lU]
 have f8:w1.frozen? ⟨w.heap.size+1,8,none⟩=false:=by simp[World.frozen?,lU]
 have f9:w1.frozen? ⟨w.heap.size+1,9,none⟩=false:=by simp[World.frozen?,lU]
 have f10:w1.frozen? ⟨w.heap.size+1,10,none⟩=false:=by simp[World.frozen?,lU]
 have f11:w1.frozen? ⟨w.heap.size+1,11,none⟩=false:=by simp[World.frozen?,lU]
 have f12:w1.frozen? ⟨w.heap.size+1,12,none⟩=false:=by simp[World.frozen?,lU]
 have lr:w.heap.size+1<w1.heap.size:=(γ lU).1;have lb2:w.heap.size<w1.heap.size+1:=Y;have lr2:w.heap.size+1<w1.heap.size+1:=Y;have nb:w.heap.size≠w1.heap.size:=Y;have nr:w.heap.size+1≠w1.heap.size:=Y;clear lU;go_wp2_with fail;refine az λWf bY=>?_;refine bodyPost_ret (v:=.tuple #[.agg #[.string qC,.int .i64 4,.slice none 0 0,.slice (some ⟨g,0,none⟩) 1 1,.int .i64 1,.int .i64 2,.bool false,.int .i64 0,.int .i64 0,.slice none 0 0,.int .i64 0,.slice Ae 3 ce,.slice Aa 3 ca],.int .i64 0]) (by rw[bY];simp[results,Tryz.results67,go_sem,r0,r1,r2,r3,r4,r5,r6,r7,r8,r9,r10,r11,r12,lr,lr2,nr];try rfl) rfl ?_
 obtain ⟨W9,qT⟩:∃W,W=ED (w.heap.size+1) [(0,.string qC),(1,.int .i64 4),(2,.slice none 0 0),(3,.slice (some ⟨g,0,none⟩) 1 1),(4,.int .i64 1),(5,.int .i64 2),(6,.bool false),(7,.int .i64 0),(8,.int .i64 0),(9,.slice none 0 0),(10,.int .i64 0),(11,.slice Ae 3 ce),(12,.slice Aa 3 ca)] w1:=⟨_,rfl⟩;have ajB:Wf=W9.alloc (.cells #[.slice Ae 3 ce,.slice Aa 3 ca] 93):=by rw[bY,qT];rfl
 have aU:aj [w.heap.size+1] [] w1 W9:=by rw[qT];exact xH _ _ _
 have ja:Below W9.heap.size W9 Wf:=by rw[ajB];exact υ.alloc I _
 have hz0:=(γ H0.out.2.2).1;have pN:Below w.heap.size w W9:=H1.out.1.trans (aU.below (λk hk=>by rw[List.mem_singleton]at hk;omega) H1.out.1.size)
 exact ⟨Ae,ce,Aa,ca,rfl,((HU.out.keep aU (λk hk=>by rw[List.mem_singleton]at hk;omega)).later ja).mono H0.out.1.size,pN.trans (ja.mono pN.size)⟩
end Go.Proofs.YtdmoogjddmdmbaaGreatDoor
