/- Walks. -/
import Derived.Test.YtdmoogjddmdmbaaGreatDoorX19
import Derived.Test.YtdmoogjddmdmbaaGreatDoorX35
set_option maxRecDepth 100000
set_option maxHeartbeats 16000000
set_option linter.unusedVariables false
set_option linter.unusedSimpArgs false
namespace Go.Proofs.YtdmoogjddmdmbaaGreatDoor
open Go.RowKit
theorem JQ(g q:Nat)(w:World)(h:om g q w):Calls Tryz.prog 28 #[(.agg #[.int .i64 4,.slice none 0 0,.slice (some ⟨g,0,none⟩) 1 1,.int .i64 1,.int .i64 2])] w λe w'=>e=.returned (.int .i64 0)/\Below w.heap.size w w':=by
 have sX:=Z h;clear h
 go_enter Tryz.func28,Tryz.ntmps28
 go_wp2_with fail;refine aH λW0 aP=>?_;have hb0:Below w.heap.size w W0:=by rw[aP];exact υ.alloc I _
 have hX:Ue g w.heap.size W0:=by rw[aP];exact heap_alloc_new w _
 have cH:=Z hb0;have HX:=Z hX;clear aP hb0 hX;refine (Oh g q W0 (sX.out.later cH.out)).mono ?_;rintro e w1 ⟨rfl,hb1⟩;have aX:=Z (cH.out.trans (hb1.mono cH.out.size));have iM:=(hb1.block w.heap.size (γ HX.out).1).trans HX.out;obtain ⟨c0,c1,c2,c3,c4⟩:=aw iM;have lb:w.heap.size<w1.heap.size:=(γ iM).1;have IG:=Z iM;clear hb1 iM;go_wp2_with fail;clear c0 c1 c2 c3 c4 lb;refine (Oj g q w1 (sX.out.later aX.out)).mono ?_;rintro e w2 ⟨rfl,aJ⟩;have dr:=Z (aX.out.trans (aJ.mono aX.out.size));have vB:=(aJ.block w.heap.size (γ IG.out).1).trans IG.out;obtain ⟨c0,c1,c2,c3,c4⟩:=aw vB;have lb:w.heap.size<w2.heap.size:=(γ vB).1;have Z7:=Z vB;clear aJ vB;go_wp2_with fail;clear c0 c1 c2 c3 c4 lb;refine (Om g q w2 (sX.out.later dr.out)).mono ?_;rintro e w3 ⟨rfl,bW⟩;have jN:=Z (dr.out.trans (bW.mono dr.out.size));have Sr:=(bW.block w.heap.size (γ Z7.out).1).trans Z7.out;obtain ⟨c0,c1,c2,c3,c4⟩:=aw Sr;have lb:w.heap.size<w3.heap.size:=(γ Sr).1;have HX3:=Z Sr;clear bW Sr;go_wp2_with fail;clear c0 c1 c2 c3 c4 lb;refine (Sq g q w3 (sX.out.later jN.out)).mono ?_;rintro e w4 ⟨rfl,dM⟩;have sO:=Z (jN.out.trans (dM.mono jN.out.size));clear dM;go_wp2_with fail;go_ret;exact ⟨rfl,sO.out⟩
def spA:ByteArray:=⟨#[92,91,93,40,41,123,125,124,45]⟩
theorem aez(w:World):(Instr.index 9 (.string ⟨#[92,91,93,40,41,123,125,124,45]⟩) (.int .i64 0)).run Tryz.prog w=.ok (.int .u8 92) w:=κ
theorem aeA(w:World):(Instr.index 9 (.string ⟨#[92,91,93,40,41,123,125,124,45]⟩) (.int .i64 1)).run Tryz.prog w=.ok (.int .u8 91) w:=κ
theorem aeB(w:World):(Instr.index 9 (.string ⟨#[92,91,93,40,41,123,125,124,45]⟩) (.int .i64 2)).run Tryz.prog w=.ok (.int .u8 93) w:=κ
theorem aeC(w:World):(Instr.index 9 (.string ⟨#[92,91,93,40,41,123,125,124,45]⟩) (.int .i64 3)).run Tryz.prog w=.ok (.int .u8 40) w:=κ
theorem aeD(w:World):(Instr.index 9 (.string ⟨#[92,91,93,40,41,123,125,124,45]⟩) (.int .i64 4)).run Tryz.prog w=.ok (.int .u8 41) w:=κ
theorem aeE(w:World):(Instr.index 9 (.string ⟨#[92,91,93,40,41,123,125,124,45]⟩) (.int .i64 5)).run Tryz.prog w=.ok (.int .u8 123) w:=κ
theorem aeF(w:World):(Instr.index 9 (.string ⟨#[92,91,93,40,41,123,125,124,45]⟩) (.int .i64 6)).run Tryz.prog w=.ok (.int .u8 125) w:=κ
theorem aeG(w:World):(Instr.index 9 (.string ⟨#[92,91,93,40,41,123,125,124,45]⟩) (.int .i64 7)).run Tryz.prog w=.ok (.int .u8 124) w:=κ
theorem aeH(w:World):(Instr.index 9 (.string ⟨#[92,91,93,40,41,123,125,124,45]⟩) (.int .i64 8)).run Tryz.prog w=.ok (.int .u8 45) w:=κ
theorem JR(w:World):Calls Tryz.prog 143 #[.int .u8 97] w λe w'=>e=.returned (.string ⟨#[97]⟩)/\Below w.heap.size w w':=by
 have s0:=aez;have s1:=aeA;have s2:=aeB;have s3:=aeC;have s4:=aeD;have s5:=aeE;have s6:=aeF;have s7:=aeG;have s8:=aeH;have Zu:=λw=>fh (P:=Tryz.prog) (T:=28) (e:=5) (d:=9) Tryz.underlying28 Tryz.underlying5 Tryz.underlying9 [97] [.int .u8 97] rfl 1 1 rfl w
 go_enter Tryz.func143,Tryz.ntmps143
 go_wp2_with fail;refine wp_loop_rounds 10 ?_;rw[rounds_succ];go_wp2_with fail;rw[rounds_succ];go_wp2_with fail;rw[rounds_succ];go_wp2_with fail;rw[rounds_succ];go_wp2_with fail;rw[rounds_succ];go_wp2_with fail;rw[rounds_succ];go_wp2_with fail;rw[rounds_succ];go_wp2_with fail;rw[rounds_succ];go_wp2_with fail;rw[rounds_succ];go_wp2_with fail;rw[rounds_succ];go_wp2_with fail;go_ret;exact ⟨rfl,υ.alloc I _⟩
theorem X6(w:World):Calls Tryz.prog 144 #[.int .i64 1] w λe w'=>e=.returned (.string ⟨#[49]⟩)/\Below w.heap.size w w':=by
 have Zu:=λw=>fh (P:=Tryz.prog) (T:=28) (e:=5) (d:=9) Tryz.underlying28 Tryz.underlying5 Tryz.underlying9 [49] [.int .u8 49] rfl 1 1 rfl w
 go_enter Tryz.func144,Tryz.ntmps144
 go_wp2_with fail;go_ret;exact ⟨rfl,υ.alloc I _⟩
theorem X7(w:World):Calls Tryz.prog 144 #[.int .i64 2] w λe w'=>e=.returned (.string ⟨#[50]⟩)/\Below w.heap.size w w':=by
 have Zu:=λw=>fh (P:=Tryz.prog) (T:=28) (e:=5) (d:=9) Tryz.underlying28 Tryz.underlying5 Tryz.underlying9 [50] [.int .u8 50] rfl 1 1 rfl w
 go_enter Tryz.func144,Tryz.ntmps144
 go_wp2_with fail;go_ret;exact ⟨rfl,υ.alloc I _⟩
theorem Oo(q:Nat)(w:World)(h:Uq q w):Calls Tryz.prog 117 #[(.agg #[.int .i64 1,.slice (some ⟨q,0,none⟩) 1 1,.slice none 0 0,.int .i64 0,.int .i64 0])] w λe w'=>e=.returned (.string ⟨#[97]⟩)/\Below w.heap.size w w':=by
 have HR:=Z h;clear h
 go_enter Tryz.func117,Tryz.ntmps117
 go_wp2_with fail;refine dD λW0 aP=>?_;have hb0:Below w.heap.size w W0:=by rw[aP];exact υ.alloc I _
 have hX:bxL q w.heap.size W0:=by rw[aP];exact heap_alloc_new w _
 have rN:Uq q W0:=(hb0.block q (γ HR.out).1).trans HR.out;have d0:∀d:aN W0.heap.size W0,d.val.cell? ⟨q,0,none⟩=some (.int .u8 97):=λd=>by rw[cell_of_row _ _ _ _ _ _ ((d.ah.block q (γ rN).1).trans rN)];rfl
 have d1:∀d:aN W0.heap.size W0,d.val.cell? ⟨q,1,none⟩=some (.int .u8 97):=λd=>by rw[cell_of_row _ _ _ _ _ _ ((d.ah.block q (γ rN).1).trans rN)];rfl
 have d2:∀d:aN W0.heap.size W0,q<d.val.heap.size:=λd=>Nat.lt_of_lt_of_le (γ rN).1 d.ah.size;have d3:∀d:aN W0.heap.size W0,d.val.cell? ⟨w.heap.size,1,none⟩=some (.slice (some ⟨q,0,none⟩) 1 1):=λd=>(aw ((d.ah.block _ (γ hX).1).trans hX)).2.1;have d4:∀d:aN W0.heap.size W0,w.heap.size<d.val.heap.size:=λd=>Nat.lt_of_lt_of_le (γ hX).1 d.ah.size;have cH:=Z (H hb0 (H hX rN));obtain ⟨b0,b1,b2,b3,b4⟩:=aw hX;have lb:w.heap.size<W0.heap.size:=(γ hX).1;clear aP hb0 hX rN;go_wp2_with fail;refine aq (Below.refl W0 W0) κ κ ?_
 repeat (go_big_quiet_step (fail))
 refine wpQuiet_nil ?_;intro w1 hw';have hw1:Below W0.heap.size W0 w1:=by obtain ⟨d9,rfl⟩:=hw';exact d9.ah
 have iM:=(hw1.block _ lb).trans cH.out.2.1;have hq1:Uq q w1:=(hw1.block q (γ cH.out.2.2).1).trans cH.out.2.2;have aX:=Z (cH.out.1.trans (hw1.mono cH.out.1.size));clear hw' hw1 d0 d1 d2 d3 d4 b0 b1 b2 b3 b4 lb;obtain ⟨b0,b1,b2,b3,b4⟩:=aw iM;have lb:w.heap.size<w1.heap.size:=(γ iM).1;have q0:w1.cell? ⟨q,0,none⟩=some (.int .u8 97):=by rw[cell_of_row _ _ _ _ _ _ hq1];rfl
 have lq:q<w1.heap.size:=(γ hq1).1;clear iM hq1;go_wp2_with fail;refine (JR w1).mono ?_;rintro e w2 ⟨rfl,aJ⟩;have dr:=Z (aX.out.trans (aJ.mono aX.out.size));clear aJ b0 b1 b2 b3 b4 lb q0 lq;go_wp2_with fail;go_ret;exact ⟨rfl,dr.out⟩
theorem Oq(g q:Nat)(w:World)(h:om g q w):Calls Tryz.prog 117 #[(.agg #[.int .i64 4,.slice none 0 0,.slice (some ⟨g,0,none⟩) 1 1,.int .i64 1,.int .i64 2])] w λe w'=>e=.returned (.string tA)/\Below w.heap.size w w':=by
 have sX:=Z h;obtain ⟨k0,k1,k2,k3,k4⟩:=aw h.1;have lg:g<w.heap.size:=(γ h.1).1;have lg2:g<w.heap.size+1:=Y;have ng:g≠w.heap.size:=Y;clear h
 go_enter Tryz.func117,Tryz.ntmps117
 go_wp2_with fail;refine aH λW0 aP=>?_;clear k0 k1 k2 k3 k4 lg lg2 ng;have qJ:Below w.heap.size w W0:=by rw[aP];exact υ.alloc I _
 have gJ:Ue g w.heap.size W0:=by rw[aP];exact heap_alloc_new w _
 have I7:om g q W0:=sX.out.later qJ;clear aP;obtain ⟨b0,b1,b2,b3,b4⟩:=aw gJ;have lb:w.heap.size<W0.heap.size:=(γ gJ).1;obtain ⟨k0,k1,k2,k3,k4⟩:=aw I7.1;have lg:g<W0.heap.size:=(γ I7.1).1;have zD:=Z (H gJ (H I7 qJ));clear gJ I7 qJ;refine (Oo q W0 zD.out.2.1.2).mono ?_;rintro e w1 ⟨rfl,hb1⟩;have iM:=(hb1.block _ (γ zD.out.1).1).trans zD.out.1;have M4:=zD.out.2.1.later hb1;have Q6:=zD.out.2.2.trans (hb1.mono zD.out.2.2.size);clear hb1;clear b0 b1 b2 b3 b4 lb k0 k1 k2 k3 k4 lg;obtain ⟨b0,b1,b2,b3,b4⟩:=aw iM;have lb:w.heap.size<w1.heap.size:=(γ iM).1;obtain ⟨k0,k1,k2,k3,k4⟩:=aw M4.1;have lg:g<w1.heap.size:=(γ M4.1).1;have G9:=Z (H iM (H M4 Q6));clear iM M4 Q6;go_wp2_with fail;refine (X6 w1).mono ?_;rintro e w2 ⟨rfl,aJ⟩;have vB:=(aJ.block _ (γ G9.out.1).1).trans G9.out.1;have Ss:=G9.out.2.1.later aJ;have Ku:=G9.out.2.2.trans (aJ.mono G9.out.2.2.size);clear aJ;clear b0 b1 b2 b3 b4 lb k0 k1 k2 k3 k4 lg;obtain ⟨b0,b1,b2,b3,b4⟩:=aw vB;have lb:w.heap.size<w2.heap.size:=(γ vB).1;obtain ⟨k0,k1,k2,k3,k4⟩:=aw Ss.1;have lg:g<w2.heap.size:=(γ Ss.1).1;have D7:=Z (H vB (H Ss Ku));clear vB Ss Ku;go_wp2_with fail;refine (X7 w2).mono ?_;rintro e w3 ⟨rfl,bW⟩;have Sr:=(bW.block _ (γ D7.out.1).1).trans D7.out.1;have hL3:=D7.out.2.1.later bW;have hB3:=D7.out.2.2.trans (bW.mono D7.out.2.2.size);clear bW;clear b0 b1 b2 b3 b4 lb k0 k1 k2 k3 k4 lg;obtain ⟨b0,b1,b2,b3,b4⟩:=aw Sr;have lb:w.heap.size<w3.heap.size:=(γ Sr).1;obtain ⟨k0,k1,k2,k3,k4⟩:=aw hL3.1;have lg:g<w3.heap.size:=(γ hL3.1).1;have HS3:=Z (H Sr (H hL3 hB3));clear Sr hL3 hB3;go_wp2_with fail;go_ret;exact ⟨rfl,HS3.out.2.2⟩
theorem St(g q:Nat)(w:World)(h:om g q w):Calls Tryz.prog 89 #[(.agg #[.int .i64 4,.slice none 0 0,.slice (some ⟨g,0,none⟩) 1 1,.int .i64 1,.int .i64 2])] w λe w'=>e=.returned (.tuple #[.string tA,.int .i64 0])/\Below w.heap.size w w':=by
 have sX:=Z h;clear h
 go_enter Tryz.func89,Tryz.ntmps89
 go_wp2_with fail;refine aH λW0 aP=>?_;have qJ:Below w.heap.size w W0:=by rw[aP];exact υ.alloc I _
 have gJ:Ue g w.heap.size W0:=by rw[aP];exact heap_alloc_new w _
 have I7:om g q W0:=sX.out.later qJ;have zD:=Z (H gJ (H I7 qJ));clear aP qJ gJ I7;refine (JQ g q W0 zD.out.2.1).mono ?_;rintro e w1 ⟨rfl,hb1⟩;have iM:=(hb1.block _ (γ zD.out.1).1).trans zD.out.1;have M4:=zD.out.2.1.later hb1;have Q6:=zD.out.2.2.trans (hb1.mono zD.out.2.2.size);clear hb1;obtain ⟨b0,b1,b2,b3,b4⟩:=aw iM;have lb:w.heap.size<w1.heap.size:=(γ iM).1;obtain ⟨k0,k1,k2,k3,k4⟩:=aw M4.1;have lg:g<w1.heap.size:=(γ M4.1).1;have G9:=Z (H iM (H M4 Q6));clear iM M4 Q6;go_wp2_with fail;refine (Oq g q w1 G9.out.2.1).mono ?_;rintro e w2 ⟨rfl,aJ⟩;have vB:=(aJ.block _ (γ G9.out.1).1).trans G9.out.1;have Ss:=G9.out.2.1.later aJ;have Ku:=G9.out.2.2.trans (aJ.mono G9.out.2.2.size);clear aJ;clear b0 b1 b2 b3 b4 lb k0 k1 k2 k3 k4 lg;obtain ⟨b0,b1,b2,b3,b4⟩:=aw vB;have lb:w.heap.size<w2.heap.size:=(γ vB).1;obtain ⟨k0,k1,k2,k3,k4⟩:=aw Ss.1;have lg:g<w2.heap.size:=(γ Ss.1).1;have D7:=Z (H vB (H Ss Ku));clear vB Ss Ku;go_wp2_with fail
 go_ret2
 exact ⟨rfl,D7.out.2.2⟩
theorem X8(w:World):Calls Tryz.prog 66 #[.string tA] w λe w'=>∃g q,e=.returned (.tuple #[(.agg #[.int .i64 4,.slice none 0 0,.slice (some ⟨g,0,none⟩) 1 1,.int .i64 1,.int .i64 2]),.bool true])/\(w.heap.size<=g/\w.heap.size<=q)/\om g q w'/\Below w.heap.size w w':=by
 go_enter Tryz.func66,Tryz.ntmps66
 go_wp2_with fail;refine aH λW1 hW1=>?_;have hb1:Below w.heap.size w W1:=by rw[hW1];exact (υ.alloc I _).alloc ξ _
 have hX:W1.heap[w.heap.size]?=some (.cells #[.int .i64 0,.slice none 0 0,.slice none 0 0,.int .i64 0,.int .i64 0] 41 (0,0)):=by rw[hW1,aB _ _ _ ξ];exact heap_alloc_new w _
 have hP:jd (w.heap.size+1) tA 0 false W1:=by
  rw[hW1];have h9:=heap_alloc_new (w.alloc (.cells #[.int .i64 0,.slice none 0 0,.slice none 0 0,.int .i64 0,.int .i64 0] 41)) (.cells #[.string tA,.int .i64 0,.bool false] 143);simpa [jd] using h9
 have H1:=Z (H hb1 (H hX hP));clear hW1 hb1 hX hP;refine (Od (w.heap.size+1) W1 H1.out.2.2).mono ?_;rintro e w2 ⟨g,q,rfl,⟨hg,hq⟩,rO,sj,bX⟩;have hz1:=H1.out.1.size;have iM:=(γ H1.out.2.1).1;have hz2:=bX.size;have vB:=oH bX Y H1.out.2.1;have aJ:Below w.heap.size w w2:=H1.out.1.trans (bX.below (λk hk=>by rw[List.mem_singleton]at hk;omega) hz1)
 have H2:=Z (H aJ (H vB (H rO sj)));obtain ⟨⟨c0,c1,c2⟩,⟨f1,f2⟩,lp⟩:=sj.cells;have lp2:w.heap.size+1<w2.heap.size+1:=Y;have np:w.heap.size+1≠w2.heap.size:=Y;have hsz:((6:Int) != (tA.size:Int))=false:=O;clear rO sj bX vB aJ;go_wp2_with fail;refine aH λW3 mK=>?_;have bW:Below w2.heap.size w2 W3:=by rw[mK];exact υ.alloc I _
 have Si:W3.heap[w2.heap.size]?=some (.cells #[.int .i64 4,.slice none 0 0,.slice (some ⟨g,0,none⟩) 1 1,.int .i64 1,.int .i64 2] 41 (0,0)):=by rw[mK];exact heap_alloc_new w2 _
 have H3:=Z (H (H2.out.1.trans (bW.mono H2.out.1.size)) (H ((bW.block _ (γ H2.out.2.1).1).trans H2.out.2.1) (H (H2.out.2.2.1.later bW) Si)));clear mK bW Si c0 c1 c2 f1 f2 lp lp2 np hsz;refine (St g q W3 H3.out.2.2.1).mono ?_;rintro e w4 ⟨rfl,dM⟩;have KE:=(dM.block _ (γ H3.out.2.1).1).trans H3.out.2.1;have hY4:=(dM.block _ (γ H3.out.2.2.2).1).trans H3.out.2.2.2;obtain ⟨y0,y1,y2,y3,y4⟩:=aw hY4;obtain ⟨x0,x1,x2,x3,x4⟩:=aw KE;obtain ⟨z0,z1,z2,z3,z4⟩:=CN KE;have lx:w.heap.size<w4.heap.size:=(γ KE).1;have ly:w2.heap.size<w4.heap.size:=(γ hY4).1;have H4:=Z (H (H3.out.1.trans (dM.mono H3.out.1.size)) (H3.out.2.2.1.later dM));clear dM KE hY4;go_wp2_with fail;refine az λWf bY=>?_;refine bodyPost_ret (v:=.tuple #[(.agg #[.int .i64 4,.slice none 0 0,.slice (some ⟨g,0,none⟩) 1 1,.int .i64 1,.int .i64 2]),.bool true]) (by rw[bY];simp[results,Tryz.results66,go_sem,x0,x1,x2,x3,x4,lx];try rfl) rfl ?_
 obtain ⟨s1,s2,s3,-⟩:=st5 bY;exact ⟨g,q,rfl,⟨Y,Y⟩,⟨(s1 g Y).trans H4.out.2.1,(s1 q Y).trans H4.out.2.2⟩,⟨s3.1.trans H4.out.1.os,s3.2.1.trans H4.out.1.tape,s3.2.2.trans H4.out.1.output,by rw[s2];exact H4.out.1.size,λk hk=>(s1 k Y).trans (H4.out.1.block k hk)⟩⟩
theorem K8(w:World):Calls Tryz.prog 34 #[.string tA] w λe w'=>∃g q,e=.returned (.tuple #[(.agg #[.int .i64 4,.slice none 0 0,.slice (some ⟨g,0,none⟩) 1 1,.int .i64 1,.int .i64 2]),.int .i64 0])/\(w.heap.size<=g/\w.heap.size<=q)/\om g q w'/\Below w.heap.size w w':=by
 have hsz:decide ((4000:Int)<(tA.size:Int))=false:=O;have ak7:decide (4000<tA.size)=false:=O
 go_enter Tryz.func34,Tryz.ntmps34
 go_wp2_with fail;refine aH λW1 hW1=>?_;have hb1:Below w.heap.size w W1:=by rw[hW1];exact υ.alloc I _
 have hX:W1.heap[w.heap.size]?=some (.cells #[.int .i64 0,.slice none 0 0,.slice none 0 0,.int .i64 0,.int .i64 0] 41 (0,0)):=by rw[hW1];exact heap_alloc_new w _
 have H1:=Z (H hb1 hX);clear hW1 hb1 hX hsz ak7;refine (X8 W1).mono ?_;rintro e w4 ⟨g,q,rfl,⟨hg,hq⟩,rO,dM⟩;have hz1:=H1.out.1.size;have iM:=(γ H1.out.2).1;have KE:=(dM.block _ (γ H1.out.2).1).trans H1.out.2;obtain ⟨x0,x1,x2,x3,x4⟩:=aw KE;obtain ⟨z0,z1,z2,z3,z4⟩:=CN KE;have lx:w.heap.size<w4.heap.size:=(γ KE).1;have H4:=Z (H (H1.out.1.trans (dM.mono H1.out.1.size)) rO);clear dM KE rO;go_wp2_with fail;refine az λWf bY=>?_;refine bodyPost_ret (v:=.tuple #[(.agg #[.int .i64 4,.slice none 0 0,.slice (some ⟨g,0,none⟩) 1 1,.int .i64 1,.int .i64 2]),.int .i64 0]) (by rw[bY];simp[results,Tryz.results34,go_sem,x0,x1,x2,x3,x4,lx];try rfl) rfl ?_
 obtain ⟨W9,qT⟩:∃W,W=((((w4.setCell ⟨w.heap.size,0,none⟩ (.int .i64 4)).setCell ⟨w.heap.size,1,none⟩ (.slice none 0 0)).setCell ⟨w.heap.size,2,none⟩ (.slice (some ⟨g,0,none⟩) 1 1)).setCell ⟨w.heap.size,3,none⟩ (.int .i64 1)).setCell ⟨w.heap.size,4,none⟩ (.int .i64 2):=⟨_,rfl⟩;rw[<-qT]at bY;obtain ⟨s1,s2,s3,-⟩:=st5 qT;have ja:Below W9.heap.size W9 Wf:=by rw[bY];exact υ.alloc I _
 have Kj:Below w.heap.size w W9:=⟨s3.1.trans H4.out.1.os,s3.2.1.trans H4.out.1.tape,s3.2.2.trans H4.out.1.output,by rw[s2];exact H4.out.1.size,λk hk=>(s1 k Y).trans (H4.out.1.block k hk)⟩
 have hL9:om g q W9:=⟨(s1 g Y).trans H4.out.2.1,(s1 q Y).trans H4.out.2.2⟩;exact ⟨g,q,rfl,⟨Y,Y⟩,hL9.later ja,Kj.trans (ja.mono Kj.size)⟩
end Go.Proofs.YtdmoogjddmdmbaaGreatDoor
