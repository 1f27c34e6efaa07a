/- library.Compile at the kind of chapter 8's example. · scan.finder at the kind of chapter 8's example. · scan.finder of any kind. -/
import Derived.Test.YtadjdkickjjieaaGreatDoorY36
import Derived.Test.YtadjdkickjjieaaGreatDoorY23
import Derived.Test.YtadjdkickjjieaaGreatDoorY29
namespace Go.Proofs.YtadjdkickjjieaaGreatDoor
set_option linter.unusedVariables false
set_option linter.unusedSimpArgs false
set_option maxRecDepth 100000
open Go.RowKit
def bxK (g b:Nat) (w:World):Prop:=w.heap[b]?=some (.cells #[.string nmX, .int .i64 4, .slice none 0 0, .slice (some ⟨g,0,none⟩) 1 1, .int .i64 1, .int .i64 2, .bool false, .int .i64 0, .int .i64 0, .slice none 0 0, .int .i64 0] 34 (0,0))
theorem bxK.later {g b:Nat} {w w':World} (h:bxK g b w) (hb:Below w.heap.size w w'):bxK g b w':=(hb.block b (Array.getElem?_eq_some_iff.1 h).1).trans h
theorem bxK.cells {g b:Nat} {w:World} (h:bxK g b w):(w.cell? ⟨b,0,none⟩=some (.string nmX)/\w.cell? ⟨b,1,none⟩=some (.int .i64 4)/\w.cell? ⟨b,2,none⟩=some (.slice none 0 0)/\w.cell? ⟨b,3,none⟩=some (.slice (some ⟨g,0,none⟩) 1 1)/\w.cell? ⟨b,4,none⟩=some (.int .i64 1)/\w.cell? ⟨b,5,none⟩=some (.int .i64 2))/\(w.cell? ⟨b,6,none⟩=some (.bool false)/\w.cell? ⟨b,7,none⟩=some (.int .i64 0)/\w.cell? ⟨b,8,none⟩=some (.int .i64 0)/\w.cell? ⟨b,9,none⟩=some (.slice none 0 0)/\w.cell? ⟨b,10,none⟩=some (.int .i64 0))/\b<w.heap.size:=by
 refine ⟨⟨?_,?_,?_,?_,?_,?_⟩,⟨?_,?_,?_,?_,?_⟩,(Array.getElem?_eq_some_iff.1 h).1⟩ <;> (rw[cell_of_row _ _ _ _ _ _ h]; rfl)
set_option maxHeartbeats 8000000 in
theorem zHQ (g q:Nat) (w:World) (h:LfA g q w) (hvr:VrOK w):Calls Tryz.prog 60 #[(.agg #[.string nmX, .int .i64 4, .slice none 0 0, .slice (some ⟨g,0,none⟩) 1 1, .int .i64 1, .int .i64 2, .bool false, .int .i64 0, .int .i64 0, .slice none 0 0, .int .i64 0])] w λe w'=>∃rv,e = .returned (.tuple #[rv, .int .i64 0])/\McUp w.heap.size w' rv mcAA/\Below w.heap.size w w':=by
 have HC:=Lib.hid λW (hb:Below w.heap.size w W)=>zDq ndAA (vsA g) W (h.later hb).nd (hvr.later hb);have HS:=Lib.hid λW (hb:Below w.heap.size w W)=>zKV g q W (h.later hb);have HL:=Lib.hid λW (hb:Below w.heap.size w W)=>zL0 g q W (h.later hb);clear h hvr
 go_enter Tryz.func60,Tryz.ntmps60
 go_wp2_with fail;refine zAM λW0 hW0=>?_;have hb0:Below w.heap.size w W0:=by rw[hW0];exact ((Below.refl _ _).alloc (Nat.le_refl _) _).alloc (by simp) _
 have hK0:bxK g w.heap.size W0:=by rw[hW0];exact (zAI _ _ _ (by simp)).trans (heap_alloc_new w _)
 have hR0:W0.heap[w.heap.size+1]?=some (.cells #[.slice none 0 0, .slice none 0 0] 73 (0,0)):=by rw[hW0];simpa using heap_alloc_new (w.alloc (.cells #[.string nmX, .int .i64 4, .slice none 0 0, .slice (some ⟨g,0,none⟩) 1 1, .int .i64 1, .int .i64 2, .bool false, .int .i64 0, .int .i64 0, .slice none 0 0, .int .i64 0] 34)) (.cells #[.slice none 0 0, .slice none 0 0] 73)
 have H0:=Lib.hid (And.intro hb0 (And.intro hK0 hR0));clear hW0 hb0 hK0 hR0;refine (zLY W0).mono ?_;rintro e w1 ⟨rfl,hb1⟩;have H1:=Lib.hid (And.intro (H0.out.1.trans (hb1.mono H0.out.1.size)) (And.intro (H0.out.2.1.later hb1) ((hb1.block _ (Array.getElem?_eq_some_iff.1 H0.out.2.2).1).trans H0.out.2.2)));clear hb1;obtain ⟨⟨c0,c1,c2,c3,c4,c5⟩,⟨c6,c7,c8,c9,c10⟩,lb⟩:=H1.out.2.1.cells;go_wp2_with fail;refine (HC.out w1 H1.out.1).mono ?_;rintro e w2 hpost;obtain ⟨hb2,rv,rfl,hup⟩:=zNN hpost;obtain ⟨ve,va,rfl,he,ha⟩:=id hup.mc;obtain ⟨Ae,ce,rfl,-⟩:=he.form;obtain ⟨Aa,ca,rfl,-⟩:=ha.form;have l1:mcAA.ed.length=3:=rfl;have l2:mcAA.ac.length=3:=rfl;rw[l1,l2]at hup|-;have HU:=Lib.hid hup;have H2:=Lib.hid (And.intro (H1.out.1.trans (hb2.mono H1.out.1.size)) (And.intro (H1.out.2.1.later hb2) ((hb2.block _ (Array.getElem?_eq_some_iff.1 H1.out.2.2).1).trans H1.out.2.2)));clear hb2;clear c0 c1 c2 c3 c4 c5 c6 c7 c8 c9 c10 lb;clear hpost hup he ha l1 l2;obtain ⟨⟨c0,c1,c2,c3,c4,c5⟩,⟨c6,c7,c8,c9,c10⟩,lb⟩:=H2.out.2.1.cells;have lb2:w.heap.size<w2.heap.size+1:=by omega
 have nb:w.heap.size≠w2.heap.size:=by omega
 go_wp2_with fail;refine zAM λW3 hW3=>?_;have hb3:Below w2.heap.size w2 W3:=by rw[hW3];exact (Below.refl _ _).alloc (Nat.le_refl _) _
 have hM3:W3.heap[w2.heap.size]?=some (.cells #[.slice Ae 3 ce, .slice Aa 3 ca] 73 (0,0)):=by rw[hW3];exact heap_alloc_new w2 _
 have HM3:=Lib.hid hM3;have HD3:=Lib.hid hb3;have H3:=Lib.hid (And.intro (H2.out.1.trans (hb3.mono H2.out.1.size)) (And.intro (H2.out.2.1.later hb3) ((hb3.block _ (Array.getElem?_eq_some_iff.1 H2.out.2.2).1).trans H2.out.2.2)));clear hb3;clear c0 c1 c2 c3 c4 c5 c6 c7 c8 c9 c10 lb;clear hW3 hM3 lb2 nb;refine (HS.out W3 H3.out.1).mono ?_;rintro e w4 ⟨rfl,hb4⟩;have HD4:=Lib.hid (HD3.out.trans (hb4.mono HD3.out.size));have HM4:=Lib.hid ((hb4.block _ (Array.getElem?_eq_some_iff.1 HM3.out).1).trans HM3.out);have H4:=Lib.hid (And.intro (H3.out.1.trans (hb4.mono H3.out.1.size)) (And.intro (H3.out.2.1.later hb4) ((hb4.block _ (Array.getElem?_eq_some_iff.1 H3.out.2.2).1).trans H3.out.2.2)));clear hb4;obtain ⟨⟨c0,c1,c2,c3,c4,c5⟩,⟨c6,c7,c8,c9,c10⟩,lb⟩:=H4.out.2.1.cells;go_wp2_with fail;clear c0 c1 c2 c3 c4 c5 c6 c7 c8 c9 c10 lb;refine (HL.out w4 H4.out.1).mono ?_;rintro e w5 ⟨rfl,hb5⟩;have HD5:=Lib.hid (HD4.out.trans (hb5.mono HD4.out.size));have HM5:=Lib.hid ((hb5.block _ (Array.getElem?_eq_some_iff.1 HM4.out).1).trans HM4.out);have H5:=Lib.hid (And.intro (H4.out.1.trans (hb5.mono H4.out.1.size)) (And.intro (H4.out.2.1.later hb5) ((hb5.block _ (Array.getElem?_eq_some_iff.1 H4.out.2.2).1).trans H4.out.2.2)));clear hb5;obtain ⟨⟨c0,c1,c2,c3,c4,c5⟩,⟨c6,c7,c8,c9,c10⟩,lb⟩:=H5.out.2.1.cells;go_wp2_with fail;refine (zHD w5).mono ?_;rintro e w6 ⟨rfl,rfl⟩;go_wp2_with fail;refine (zJf _ _ _ w6).mono ?_;rintro e w7 ⟨rfl,rfl⟩;obtain ⟨m0,m1⟩:w7.cell? ⟨w2.heap.size,0,none⟩=some (.slice Ae 3 ce)/\w7.cell? ⟨w2.heap.size,1,none⟩=some (.slice Aa 3 ca):=by constructor <;> (rw[cell_of_row _ _ _ _ _ _ HM5.out]; rfl)
 have lm:w2.heap.size<w7.heap.size:=(Array.getElem?_eq_some_iff.1 HM5.out).1;have hR7:=H5.out.2.2;obtain ⟨r0,r1⟩:w7.cell? ⟨w.heap.size+1,0,none⟩=some (.slice none 0 0)/\w7.cell? ⟨w.heap.size+1,1,none⟩=some (.slice none 0 0):=by constructor <;> (rw[cell_of_row _ _ _ _ _ _ hR7]; rfl)
 have lr:w.heap.size+1<w7.heap.size:=(Array.getElem?_eq_some_iff.1 hR7).1;have fr0:w7.frozen? ⟨w.heap.size+1,0,none⟩=false:=by simp[World.frozen?,hR7]
 have fr1:w7.frozen? ⟨w.heap.size+1,1,none⟩=false:=by simp[World.frozen?,hR7]
 clear hR7;go_wp2_with fail;refine zAD λWf hWf=>?_;refine bodyPost_ret (v:=.tuple #[.agg #[.slice Ae 3 ce, .slice Aa 3 ca], .int .i64 0]) (by rw[hWf];simp[results,Tryz.results60,go_sem,r0,r1,lr];try rfl) rfl ?_
 have hkl:KeepF [w.heap.size+1] [] w7 Wf:=by
  rw[hWf];have hne:∀k,k∉[w.heap.size+1]->k≠w.heap.size+1:=λk hn e=>hn (List.mem_singleton.2 e);exact ⟨rfl,rfl,rfl,by simp[World.setCell],λk _ hn=>(Below.heap_setCell (w7.setCell ⟨w.heap.size+1,0,none⟩ _) ⟨w.heap.size+1,1,none⟩ _ k (hne k hn)).trans (Below.heap_setCell w7 ⟨w.heap.size+1,0,none⟩ _ k (hne k hn)),λk hk=>by cases hk⟩
 have hz1:=(Array.getElem?_eq_some_iff.1 H1.out.2.2).1;have hbf:Below w.heap.size w Wf:=H5.out.1.trans (hkl.below (λk hk=>by rw[List.mem_singleton]at hk;omega) H5.out.1.size)
 exact ⟨_,rfl,((HU.out.later HD5.out).keep hkl (λk hk=>by rw[List.mem_singleton]at hk;omega)).mono H1.out.1.size,hbf⟩
def zGU (b:Nat):List (Nat×Value)->World->World
 | [],w=>w
 | (o,v)::r,w=>zGU b r (w.setCell ⟨b,o,none⟩ v)
theorem zDp (b:Nat):∀(l:List (Nat×Value)) (w:World),KeepF [b] [] w (zGU b l w)
 | [],w=>⟨rfl,rfl,rfl,Nat.le_refl _,λ_ _ _=>rfl,λk hk=>by cases hk⟩
 | (o,v)::r,w=>by
  have h:=zDp b r (w.setCell ⟨b,o,none⟩ v);have hz:(w.setCell ⟨b,o,none⟩ v).heap.size=w.heap.size:=by simp[World.setCell]
  exact ⟨h.os,h.tape,h.output,by have:=h.size;rw[hz]at this;exact this,λk hk hn=>(h.blk k (by rw[hz];exact hk) hn).trans (Below.heap_setCell _ ⟨b,o,none⟩ _ k (λe=>hn (List.mem_singleton.2 e))),λk hk=>by cases hk⟩
set_option maxHeartbeats 16000000 in
theorem zKN (g q:Nat) (w:World) (h:LfA g q w) (hvr:VrOK w):Calls Tryz.prog 31 #[.agg #[.string nmX, .int .i64 4, .slice none 0 0, .slice (some ⟨g,0,none⟩) 1 1, .int .i64 1, .int .i64 2, .bool false, .int .i64 0, .int .i64 0, .slice none 0 0, .int .i64 0]] w λe w'=>∃Ae ce Aa ca,e = .returned (.tuple #[.agg #[.string nmX, .int .i64 4, .slice none 0 0, .slice (some ⟨g,0,none⟩) 1 1, .int .i64 1, .int .i64 2, .bool false, .int .i64 0, .int .i64 0, .slice none 0 0, .int .i64 0, .slice Ae 3 ce, .slice Aa 3 ca], .int .i64 0])/\McUp w.heap.size w' (.agg #[.slice Ae 3 ce, .slice Aa 3 ca]) mcAA/\Below w.heap.size w w':=by
 have HC:=Lib.hid λW (hb:Below w.heap.size w W)=>zHQ g q W (h.later hb) (hvr.later hb);clear h hvr
 go_enter Tryz.func31,Tryz.ntmps31
 go_wp2_with fail;refine zAM λW0 hW0=>?_;have hb0:Below w.heap.size w W0:=by rw[hW0];exact ((Below.refl _ _).alloc (Nat.le_refl _) _).alloc (by simp) _
 have hK0:bxK g w.heap.size W0:=by rw[hW0];exact (zAI _ _ _ (by simp)).trans (heap_alloc_new w _)
 have hR0:W0.heap[w.heap.size+1]?=some (.cells #[.string ⟨#[]⟩, .int .i64 0, .slice none 0 0, .slice none 0 0, .int .i64 0, .int .i64 0, .bool false, .int .i64 0, .int .i64 0, .slice none 0 0, .int .i64 0, .slice none 0 0, .slice none 0 0] 75 (0,0)):=by rw[hW0];simpa using heap_alloc_new (w.alloc (.cells #[.string nmX, .int .i64 4, .slice none 0 0, .slice (some ⟨g,0,none⟩) 1 1, .int .i64 1, .int .i64 2, .bool false, .int .i64 0, .int .i64 0, .slice none 0 0, .int .i64 0] 34)) (.cells #[.string ⟨#[]⟩, .int .i64 0, .slice none 0 0, .slice none 0 0, .int .i64 0, .int .i64 0, .bool false, .int .i64 0, .int .i64 0, .slice none 0 0, .int .i64 0, .slice none 0 0, .slice none 0 0] 75)
 have H0:=Lib.hid (And.intro hb0 (And.intro hK0 hR0));clear hW0 hb0 hK0 hR0;refine (HC.out W0 H0.out.1).mono ?_;rintro e w1 ⟨rv,rfl,hup,hb1⟩;obtain ⟨ve,va,rfl,he,ha⟩:=id hup.mc;obtain ⟨Ae,ce,rfl,-⟩:=he.form;obtain ⟨Aa,ca,rfl,-⟩:=ha.form;have l1:mcAA.ed.length=3:=rfl;have l2:mcAA.ac.length=3:=rfl;rw[l1,l2]at hup|-;have HU:=Lib.hid hup;have H1:=Lib.hid (And.intro (H0.out.1.trans (hb1.mono H0.out.1.size)) (And.intro (H0.out.2.1.later hb1) ((hb1.block _ (Array.getElem?_eq_some_iff.1 H0.out.2.2).1).trans H0.out.2.2)));clear hb1 hup he ha l1 l2;obtain ⟨⟨c0,c1,c2,c3,c4,c5⟩,⟨c6,c7,c8,c9,c10⟩,lb⟩:=H1.out.2.1.cells;have hR1:=H1.out.2.2;have r0:w1.cell? ⟨w.heap.size+1,0,none⟩=some (.string ⟨#[]⟩):=by rw[cell_of_row _ _ _ _ _ _ hR1];rfl
 have r1:w1.cell? ⟨w.heap.size+1,1,none⟩=some (.int .i64 0):=by rw[cell_of_row _ _ _ _ _ _ hR1];rfl
 have r2:w1.cell? ⟨w.heap.size+1,2,none⟩=some (.slice none 0 0):=by rw[cell_of_row _ _ _ _ _ _ hR1];rfl
 have r3:w1.cell? ⟨w.heap.size+1,3,none⟩=some (.slice none 0 0):=by rw[cell_of_row _ _ _ _ _ _ hR1];rfl
 have r4:w1.cell? ⟨w.heap.size+1,4,none⟩=some (.int .i64 0):=by rw[cell_of_row _ _ _ _ _ _ hR1];rfl
 have r5:w1.cell? ⟨w.heap.size+1,5,none⟩=some (.int .i64 0):=by rw[cell_of_row _ _ _ _ _ _ hR1];rfl
 have r6:w1.cell? ⟨w.heap.size+1,6,none⟩=some (.bool false):=by rw[cell_of_row _ _ _ _ _ _ hR1];rfl
 have r7:w1.cell? ⟨w.heap.size+1,7,none⟩=some (.int .i64 0):=by rw[cell_of_row _ _ _ _ _ _ hR1];rfl
 have r8:w1.cell? ⟨w.heap.size+1,8,none⟩=some (.int .i64 0):=by rw[cell_of_row _ _ _ _ _ _ hR1];rfl
 have r9:w1.cell? ⟨w.heap.size+1,9,none⟩=some (.slice none 0 0):=by rw[cell_of_row _ _ _ _ _ _ hR1];rfl
 have r10:w1.cell? ⟨w.heap.size+1,10,none⟩=some (.int .i64 0):=by rw[cell_of_row _ _ _ _ _ _ hR1];rfl
 have r11:w1.cell? ⟨w.heap.size+1,11,none⟩=some (.slice none 0 0):=by rw[cell_of_row _ _ _ _ _ _ hR1];rfl
 have r12:w1.cell? ⟨w.heap.size+1,12,none⟩=some (.slice none 0 0):=by rw[cell_of_row _ _ _ _ _ _ hR1];rfl
 have f0:w1.frozen? ⟨w.heap.size+1,0,none⟩=false:=by simp[World.frozen?,hR1]
 have f1:w1.frozen? ⟨w.heap.size+1,1,none⟩=false:=by simp[World.frozen?,hR1]
 have f2:w1.frozen? ⟨w.heap.size+1,2,none⟩=false:=by simp[World.frozen?,hR1]
 have f3:w1.frozen? ⟨w.heap.size+1,3,none⟩=false:=by simp[World.frozen?,hR1]
 have f4:w1.frozen? ⟨w.heap.size+1,4,none⟩=false:=by simp[World.frozen?,hR1]
 have f5:w1.frozen? ⟨w.heap.size+1,5,none⟩=false:=by simp[World.frozen?,hR1]
 have f6:w1.frozen? ⟨w.heap.size+1,6,none⟩=false:=by simp[World.frozen?,hR1]
 have f7:w1.frozen? ⟨w.heap.size+1,7,none⟩=false:=by simp[World.frozen?,hR1]
 have f8:w1.frozen? ⟨w.heap.size+1,8,none⟩=false:=by simp[World.frozen?,hR1]
 have f9:w1.frozen? ⟨w.heap.size+1,9,none⟩=false:=by simp[World.frozen?,hR1]
 have f10:w1.frozen? ⟨w.heap.size+1,10,none⟩=false:=by simp[World.frozen?,hR1]
 have f11:w1.frozen? ⟨w.heap.size+1,11,none⟩=false:=by simp[World.frozen?,hR1]
 have f12:w1.frozen? ⟨w.heap.size+1,12,none⟩=false:=by simp[World.frozen?,hR1]
 have lr:w.heap.size+1<w1.heap.size:=(Array.getElem?_eq_some_iff.1 hR1).1;have lb2:w.heap.size<w1.heap.size+1:=by omega
 have lr2:w.heap.size+1<w1.heap.size+1:=by omega
 have nb:w.heap.size≠w1.heap.size:=by omega
 have nr:w.heap.size+1≠w1.heap.size:=by omega
 clear hR1;go_wp2_with fail;refine zAD λWf hWf=>?_;refine bodyPost_ret (v:=.tuple #[.agg #[.string nmX, .int .i64 4, .slice none 0 0, .slice (some ⟨g,0,none⟩) 1 1, .int .i64 1, .int .i64 2, .bool false, .int .i64 0, .int .i64 0, .slice none 0 0, .int .i64 0, .slice Ae 3 ce, .slice Aa 3 ca], .int .i64 0]) (by rw[hWf];simp[results,Tryz.results31,go_sem,r0,r1,r2,r3,r4,r5,r6,r7,r8,r9,r10,r11,r12,lr,lr2,nr];try rfl) rfl ?_
 obtain ⟨W9,hW9⟩:∃W,W=zGU (w.heap.size+1) [(0, .string nmX),(1, .int .i64 4),(2, .slice none 0 0),(3, .slice (some ⟨g,0,none⟩) 1 1),(4, .int .i64 1),(5, .int .i64 2),(6, .bool false),(7, .int .i64 0),(8, .int .i64 0),(9, .slice none 0 0),(10, .int .i64 0),(11, .slice Ae 3 ce),(12, .slice Aa 3 ca)] w1:=⟨_,rfl⟩;have hWf2:Wf=W9.alloc (.cells #[.slice Ae 3 ce, .slice Aa 3 ca] 73):=by rw[hWf,hW9];rfl
 have hkl:KeepF [w.heap.size+1] [] w1 W9:=by rw[hW9];exact zDp _ _ _
 have hb9:Below W9.heap.size W9 Wf:=by rw[hWf2];exact (Below.refl _ _).alloc (Nat.le_refl _) _
 have hz0:=(Array.getElem?_eq_some_iff.1 H0.out.2.2).1;have hbf:Below w.heap.size w W9:=H1.out.1.trans (hkl.below (λk hk=>by rw[List.mem_singleton]at hk;omega) H1.out.1.size)
 exact ⟨Ae,ce,Aa,ca,rfl,((HU.out.keep hkl (λk hk=>by rw[List.mem_singleton]at hk;omega)).later hb9).mono H0.out.1.size,hbf.trans (hb9.mono hbf.size)⟩
theorem LcPost.one {k:Kn} {w w':World} {e:Ending} (h:LcPost k w e w'):Below w.heap.size w w'/\∃(er:Int) (m:Mc) (x:M2),LcA k er m/\e = .returned (.tuple #[.agg #[.slice x.a1 x.n1 x.c1, .slice x.a2 x.n2 x.c2], .int .i64 er])/\(er=0->McUp w.heap.size w' x.val m):=by
 obtain ⟨hb,er,m,hl,h⟩:=h;refine ⟨hb,er,m,?_⟩;rcases h with ⟨h0,rfl⟩ | ⟨rfl,rv,rfl,hup⟩
 .exact ⟨⟨none,0,0,none,0,0⟩,hl,rfl,λe=>absurd e h0⟩
 .obtain ⟨ve,va,rfl,he,ha⟩:=id hup.mc;obtain ⟨Ae,ce,rfl,-⟩:=he.form;obtain ⟨Aa,ca,rfl,-⟩:=ha.form;exact ⟨⟨Ae,_,ce,Aa,_,ca⟩,hl,rfl,λ_=>hup⟩
def zM3 (u:KC) (k:Kn) (w:World) (e:Ending) (w':World):Prop:=Below w.heap.size w w'/\∃(er:Int) (m:Mc) (x:M2),LcA k er m/\e = .returned (.tuple #[.agg #[.string u.nm, .int .i64 u.op, .slice u.a1 u.n1 u.c1, .slice u.a2 u.n2 u.c2, .int .i64 u.mn, .int .i64 u.mx, .bool u.wh, .int .i64 u.ck, .int .i64 u.en, .slice u.a3 u.n3 u.c3, .int .i64 u.nr, .slice x.a1 x.n1 x.c1, .slice x.a2 x.n2 x.c2], .int .i64 er])/\(er=0->McUp w.heap.size w' x.val m)
set_option maxHeartbeats 16000000 in
theorem zHH (u:KC) (k:Kn) (w:World) (h:KnIn w u k) (hvr:VrOK w) (hnm:k.nm.size<=140737488355328):Calls Tryz.prog 31 #[.agg #[.string u.nm, .int .i64 u.op, .slice u.a1 u.n1 u.c1, .slice u.a2 u.n2 u.c2, .int .i64 u.mn, .int .i64 u.mx, .bool u.wh, .int .i64 u.ck, .int .i64 u.en, .slice u.a3 u.n3 u.c3, .int .i64 u.nr]] w (zM3 u k w):=by
 have HC:=Lib.hid λW (hb:Below w.heap.size w W)=>zFB u k W (h.later hb) (hvr.later hb) hnm;clear h hvr hnm
 go_enter Tryz.func31,Tryz.ntmps31
 go_wp2_with fail;refine zAM λW0 hW0=>?_;have hb0:Below w.heap.size w W0:=by rw[hW0];exact ((Below.refl _ _).alloc (Nat.le_refl _) _).alloc (by simp) _
 have hK0:bxU u w.heap.size W0:=by rw[hW0];exact (zAI _ _ _ (by simp)).trans (heap_alloc_new w _)
 have hR0:W0.heap[w.heap.size+1]?=some (.cells #[.string ⟨#[]⟩, .int .i64 0, .slice none 0 0, .slice none 0 0, .int .i64 0, .int .i64 0, .bool false, .int .i64 0, .int .i64 0, .slice none 0 0, .int .i64 0, .slice none 0 0, .slice none 0 0] 75 (0,0)):=by rw[hW0];simpa using heap_alloc_new (w.alloc (.cells #[.string u.nm, .int .i64 u.op, .slice u.a1 u.n1 u.c1, .slice u.a2 u.n2 u.c2, .int .i64 u.mn, .int .i64 u.mx, .bool u.wh, .int .i64 u.ck, .int .i64 u.en, .slice u.a3 u.n3 u.c3, .int .i64 u.nr] 34)) (.cells #[.string ⟨#[]⟩, .int .i64 0, .slice none 0 0, .slice none 0 0, .int .i64 0, .int .i64 0, .bool false, .int .i64 0, .int .i64 0, .slice none 0 0, .int .i64 0, .slice none 0 0, .slice none 0 0] 75)
 have H0:=Lib.hid (And.intro hb0 (And.intro hK0 hR0));clear hW0 hb0 hK0 hR0;refine (HC.out W0 H0.out.1).mono ?_;rintro e w1 hpost;obtain ⟨hb1,er,m,x,hl,rfl,hup⟩:=hpost.one;have HU:=Lib.hid (And.intro hl hup);have H1:=Lib.hid (And.intro (H0.out.1.trans (hb1.mono H0.out.1.size)) (And.intro (H0.out.2.1.later hb1) ((hb1.block _ (Array.getElem?_eq_some_iff.1 H0.out.2.2).1).trans H0.out.2.2)));clear hb1 hup hl hpost;obtain ⟨⟨c0,c1,c2,c3,c4,c5⟩,⟨c6,c7,c8,c9,c10⟩,lb⟩:=H1.out.2.1.cells;have hR1:=H1.out.2.2;have r0:w1.cell? ⟨w.heap.size+1,0,none⟩=some (.string ⟨#[]⟩):=by rw[cell_of_row _ _ _ _ _ _ hR1];rfl
 have r1:w1.cell? ⟨w.heap.size+1,1,none⟩=some (.int .i64 0):=by rw[cell_of_row _ _ _ _ _ _ hR1];rfl
 have r2:w1.cell? ⟨w.heap.size+1,2,none⟩=some (.slice none 0 0):=by rw[cell_of_row _ _ _ _ _ _ hR1];rfl
 have r3:w1.cell? ⟨w.heap.size+1,3,none⟩=some (.slice none 0 0):=by rw[cell_of_row _ _ _ _ _ _ hR1];rfl
 have r4:w1.cell? ⟨w.heap.size+1,4,none⟩=some (.int .i64 0):=by rw[cell_of_row _ _ _ _ _ _ hR1];rfl
 have r5:w1.cell? ⟨w.heap.size+1,5,none⟩=some (.int .i64 0):=by rw[cell_of_row _ _ _ _ _ _ hR1];rfl
 have r6:w1.cell? ⟨w.heap.size+1,6,none⟩=some (.bool false):=by rw[cell_of_row _ _ _ _ _ _ hR1];rfl
 have r7:w1.cell? ⟨w.heap.size+1,7,none⟩=some (.int .i64 0):=by rw[cell_of_row _ _ _ _ _ _ hR1];rfl
 have r8:w1.cell? ⟨w.heap.size+1,8,none⟩=some (.int .i64 0):=by rw[cell_of_row _ _ _ _ _ _ hR1];rfl
 have r9:w1.cell? ⟨w.heap.size+1,9,none⟩=some (.slice none 0 0):=by rw[cell_of_row _ _ _ _ _ _ hR1];rfl
 have r10:w1.cell? ⟨w.heap.size+1,10,none⟩=some (.int .i64 0):=by rw[cell_of_row _ _ _ _ _ _ hR1];rfl
 have r11:w1.cell? ⟨w.heap.size+1,11,none⟩=some (.slice none 0 0):=by rw[cell_of_row _ _ _ _ _ _ hR1];rfl
 have r12:w1.cell? ⟨w.heap.size+1,12,none⟩=some (.slice none 0 0):=by rw[cell_of_row _ _ _ _ _ _ hR1];rfl
 have f0:w1.frozen? ⟨w.heap.size+1,0,none⟩=false:=by simp[World.frozen?,hR1]
 have f1:w1.frozen? ⟨w.heap.size+1,1,none⟩=false:=by simp[World.frozen?,hR1]
 have f2:w1.frozen? ⟨w.heap.size+1,2,none⟩=false:=by simp[World.frozen?,hR1]
 have f3:w1.frozen? ⟨w.heap.size+1,3,none⟩=false:=by simp[World.frozen?,hR1]
 have f4:w1.frozen? ⟨w.heap.size+1,4,none⟩=false:=by simp[World.frozen?,hR1]
 have f5:w1.frozen? ⟨w.heap.size+1,5,none⟩=false:=by simp[World.frozen?,hR1]
 have f6:w1.frozen? ⟨w.heap.size+1,6,none⟩=false:=by simp[World.frozen?,hR1]
 have f7:w1.frozen? ⟨w.heap.size+1,7,none⟩=false:=by simp[World.frozen?,hR1]
 have f8:w1.frozen? ⟨w.heap.size+1,8,none⟩=false:=by simp[World.frozen?,hR1]
 have f9:w1.frozen? ⟨w.heap.size+1,9,none⟩=false:=by simp[World.frozen?,hR1]
 have f10:w1.frozen? ⟨w.heap.size+1,10,none⟩=false:=by simp[World.frozen?,hR1]
 have f11:w1.frozen? ⟨w.heap.size+1,11,none⟩=false:=by simp[World.frozen?,hR1]
 have f12:w1.frozen? ⟨w.heap.size+1,12,none⟩=false:=by simp[World.frozen?,hR1]
 have lr:w.heap.size+1<w1.heap.size:=(Array.getElem?_eq_some_iff.1 hR1).1;have lb2:w.heap.size<w1.heap.size+1:=by omega
 have lr2:w.heap.size+1<w1.heap.size+1:=by omega
 have nb:w.heap.size≠w1.heap.size:=by omega
 have nr:w.heap.size+1≠w1.heap.size:=by omega
 clear hR1;go_wp2_with fail;refine zAD λWf hWf=>?_;refine bodyPost_ret (v:=.tuple #[.agg #[.string u.nm, .int .i64 u.op, .slice u.a1 u.n1 u.c1, .slice u.a2 u.n2 u.c2, .int .i64 u.mn, .int .i64 u.mx, .bool u.wh, .int .i64 u.ck, .int .i64 u.en, .slice u.a3 u.n3 u.c3, .int .i64 u.nr, .slice x.a1 x.n1 x.c1, .slice x.a2 x.n2 x.c2], .int .i64 er]) (by rw[hWf];simp[results,Tryz.results31,go_sem,r0,r1,r2,r3,r4,r5,r6,r7,r8,r9,r10,r11,r12,lr,lr2,nr];try rfl) rfl ?_
 obtain ⟨W9,hW9⟩:∃W,W=zGU (w.heap.size+1) [(0, .string u.nm),(1, .int .i64 u.op),(2, .slice u.a1 u.n1 u.c1),(3, .slice u.a2 u.n2 u.c2),(4, .int .i64 u.mn),(5, .int .i64 u.mx),(6, .bool u.wh),(7, .int .i64 u.ck),(8, .int .i64 u.en),(9, .slice u.a3 u.n3 u.c3),(10, .int .i64 u.nr),(11, .slice x.a1 x.n1 x.c1),(12, .slice x.a2 x.n2 x.c2)] w1:=⟨_,rfl⟩;have hWf2:Wf=W9.alloc (.cells #[.slice x.a1 x.n1 x.c1, .slice x.a2 x.n2 x.c2] 73):=by rw[hWf,hW9];rfl
 have hkl:KeepF [w.heap.size+1] [] w1 W9:=by rw[hW9];exact zDp _ _ _
 have hb9:Below W9.heap.size W9 Wf:=by rw[hWf2];exact (Below.refl _ _).alloc (Nat.le_refl _) _
 have hz0:=(Array.getElem?_eq_some_iff.1 H0.out.2.2).1;have hbf:Below w.heap.size w W9:=H1.out.1.trans (hkl.below (λk hk=>by rw[List.mem_singleton]at hk;omega) H1.out.1.size)
 exact ⟨hbf.trans (hb9.mono hbf.size),er,m,x,HU.out.1,rfl,λe0=>(((HU.out.2 e0).keep hkl (λk hk=>by rw[List.mem_singleton]at hk;omega)).later hb9).mono H0.out.1.size⟩
end Go.Proofs.YtadjdkickjjieaaGreatDoor
