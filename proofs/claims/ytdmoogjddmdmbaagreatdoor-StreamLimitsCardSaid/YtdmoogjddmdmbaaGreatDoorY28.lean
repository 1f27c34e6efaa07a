/- library.Compile of any kind. · library.All: the machines of a library, or its first error. · Plain: kinds that are good; a library of good kinds has no error. · Walk: library.Valid of any library. -/
import Derived.Test.YtdmoogjddmdmbaaGreatDoorY26
import Derived.Test.YtdmoogjddmdmbaaGreatDoorY27
import Derived.Deep.CutRange
namespace Go.Proofs.YtdmoogjddmdmbaaGreatDoor
set_option linter.unusedVariables false
set_option linter.unusedSimpArgs false
set_option maxRecDepth 100000
open Go.RowKit
theorem callLw (args:Array Value) (w:World):(callFunc 110 args).run Tryz.prog w = .ok (.enter 110 args) w:=by rfl
theorem wd_any (l:List ByteArray):(l.any λs=>!wdOK s)=!l.all wdOK:=by
 induction l with
 | nil=>rfl
 | cons a r ih=>simp[ih]
theorem set2_kf (b:Nat) (x y:Value) (W:World):KeepF [b] [] W ((W.setCell ⟨b,0,none⟩ x).setCell ⟨b,1,none⟩ y):=by
 have hne:∀k,k∉[b]->k≠b:=λk hn e=>hn (List.mem_singleton.2 e);exact ⟨rfl,rfl,rfl,by simp[World.setCell],λk _ hn=>(Below.heap_setCell (W.setCell ⟨b,0,none⟩ x) ⟨b,1,none⟩ _ k (hne k hn)).trans (Below.heap_setCell W ⟨b,0,none⟩ _ k (hne k hn)),λk hk=>by cases hk⟩
theorem set2_bel {w W:World} (b:Nat) (x y:Value) (hb:Below w.heap.size w W) (h:w.heap.size<=b):Below w.heap.size w ((W.setCell ⟨b,0,none⟩ x).setCell ⟨b,1,none⟩ y):=
 hb.trans ((set2_kf b x y W).below (λk hk=>by rw[List.mem_singleton]at hk;omega) hb.size)
theorem lcOK_x (k:Kn) (n3:Nat) (hn:n3=k.ws.length):LcOK k=(!decide ((shortF k.pat:Int)<1) && (!decide (256<(longF k.pat:Int)) && ((decide (0<=k.ck) && decide (k.ck<=4)) && (!decide (k.en<0) && (!decide (1073741824<k.en) && (!decide (16<(n3:Int)) && (!(k.ws.any λs=>!wdOK s) && (!decide (k.nr<0) && (!decide (64<k.nr) && !(((n3:Int) == 0) && (k.nr != 0))))))))))):=by
 subst hn;unfold LcOK;have e1:decide (1<=shortF k.pat)=!decide ((shortF k.pat:Int)<1):=by rw[Bool.eq_iff_iff];simp;omega
 have e2:decide (longF k.pat<=256)=!decide (256<(longF k.pat:Int)):=by rw[Bool.eq_iff_iff];simp;omega
 have e4:decide (0<=k.en)=!decide (k.en<0):=by rw[Bool.eq_iff_iff];simp
 have e5:decide (k.en<=1073741824)=!decide (1073741824<k.en):=by rw[Bool.eq_iff_iff];simp
 have e6:decide (k.ws.length<=16)=!decide (16<(k.ws.length:Int)):=by rw[Bool.eq_iff_iff];simp;omega
 have e8:decide (0<=k.nr)=!decide (k.nr<0):=by rw[Bool.eq_iff_iff];simp
 have e9:decide (k.nr<=64)=!decide (64<k.nr):=by rw[Bool.eq_iff_iff];simp
 have e10:k.ws.isEmpty=((k.ws.length:Int) == 0):=by cases k.ws with
  | nil=>rfl
  | cons a r=>simp;omega
 have e11:decide (k.nr≠0)=(k.nr != 0):=by rw[Bool.eq_iff_iff];simp
 rw[e1,e2,e4,e5,e6,e8,e9,e10,e11,wd_any,Bool.not_not]
set_option maxHeartbeats 16000000 in
theorem lcompile_any (u:KC) (k:Kn) (w:World) (h:KnIn w u k) (hvr:VrOK w) (hnm:k.nm.size<=140737488355328):Calls Tryz.prog 81 #[.agg #[.string u.nm, .int .i64 u.op, .slice u.a1 u.n1 u.c1, .slice u.a2 u.n2 u.c2, .int .i64 u.mn, .int .i64 u.mx, .bool u.wh, .int .i64 u.ck, .int .i64 u.en, .slice u.a3 u.n3 u.c3, .int .i64 u.nr]] w (LcPost k w):=by
 have HN:=Lib.hid λW=>named7_any u.nm W (by rw[h.nm];exact hnm)
 have HC:=Lib.hid λW (hb:Below w.heap.size w W)=>compile_any k.pat u.pat W (h.later hb).pat (hvr.later hb);have HS:=Lib.hid λW (hb:Below w.heap.size w W) (hv:validF k.pat=0)=>pshort_any k.pat u.pat W (h.later hb).pat hv;have HL:=Lib.hid λW (hb:Below w.heap.size w W) (hv:validF k.pat=0)=>plong_any k.pat u.pat W (h.later hb).pat hv;have HCF:=Lib.hid λW (hb:Below w.heap.size w W)=>containsS 110 #[] k.ws (λs=>!wdOK s) (.slice u.a3 u.n3 u.c3) W (h.later hb).ws ⟨callLw,λs _ w' _=>(lword_any s w').mono λe w'' h=>⟨h.1,h.2▸Below.refl _ _⟩⟩;have HWL:=Lib.hid (And.intro h.wlen (And.intro h.ck (And.intro h.en h.nr)));have hnn:bl u.nm=bl k.nm:=by rw[h.nm]
 rw[hnn]at HN;clear h hvr hnm hnn;obtain ⟨bn,hbn⟩:∃b,nmOK (bl k.nm)=b:=⟨_,rfl⟩;rw[hbn]at HN;have HBN:=Lib.hid hbn;clear hbn
 go_enter Tryz.func81,Tryz.ntmps81
 go_wp2_with fail;refine calls_nm λW0 hW0=>?_;have hb0:Below w.heap.size w W0:=by rw[hW0];exact ((Below.refl _ _).alloc (Nat.le_refl _) _).alloc (by simp) _
 have hK0:bxU u w.heap.size W0:=by rw[hW0];exact (old_alloc _ _ _ (by simp)).trans (heap_alloc_new w _)
 have hR0:W0.heap[w.heap.size+1]?=some (.cells #[.slice none 0 0, .slice none 0 0] 93 (0,0)):=by rw[hW0];simpa using heap_alloc_new (w.alloc (.cells #[.string u.nm, .int .i64 u.op, .slice u.a1 u.n1 u.c1, .slice u.a2 u.n2 u.c2, .int .i64 u.mn, .int .i64 u.mx, .bool u.wh, .int .i64 u.ck, .int .i64 u.en, .slice u.a3 u.n3 u.c3, .int .i64 u.nr] 44)) (.cells #[.slice none 0 0, .slice none 0 0] 93)
 have H0:=Lib.hid (And.intro hb0 (And.intro hK0 hR0));clear hW0 hb0 hK0 hR0;refine (HN.out W0).mono ?_;rintro e w1 ⟨rfl,hb1⟩;have H1:=Lib.hid (And.intro (H0.out.1.trans (hb1.mono H0.out.1.size)) (And.intro (H0.out.2.1.later hb1) ((hb1.block _ (Array.getElem?_eq_some_iff.1 H0.out.2.2).1).trans H0.out.2.2)));clear hb1;obtain ⟨⟨c0,c1,c2,c3,c4,c5⟩,⟨c6,c7,c8,c9,c10⟩,lb⟩:=H1.out.2.1.cells;have hR1:=H1.out.2.2;obtain ⟨r0,r1⟩:w1.cell? ⟨w.heap.size+1,0,none⟩=some (.slice none 0 0)/\w1.cell? ⟨w.heap.size+1,1,none⟩=some (.slice none 0 0):=by constructor <;> (rw[cell_of_row _ _ _ _ _ _ hR1]; rfl)
 have lr:w.heap.size+1<w1.heap.size:=(Array.getElem?_eq_some_iff.1 hR1).1;have fr0:w1.frozen? ⟨w.heap.size+1,0,none⟩=false:=by simp[World.frozen?,hR1]
 have fr1:w1.frozen? ⟨w.heap.size+1,1,none⟩=false:=by simp[World.frozen?,hR1]
 clear hR1
 cases bn with
 | false=>
  go_wp2_with fail;refine post_named λWf hWf=>?_;refine bodyPost_ret (v:=.tuple #[.agg #[.slice none 0 0, .slice none 0 0], .int .i64 4]) (by rw[hWf];simp[results,Tryz.results81,go_sem,lr,r0,r1];try rfl) rfl ?_
  refine ⟨?_,4,⟨[],[]⟩, .inl ⟨HBN.out,rfl⟩, .inl ⟨by decide,rfl⟩⟩
  rw[hWf];exact set2_bel _ _ _ H1.out.1 (by omega)
 | true=>
  clear r0 r1 lr fr0 fr1;go_wp2_with fail;refine (HC.out w1 H1.out.1).mono ?_;rintro e w2 hpost;obtain ⟨hb2,er,m,hcm,hpost⟩:=cm_A hpost;have H2:=Lib.hid (And.intro (H1.out.1.trans (hb2.mono H1.out.1.size)) (And.intro (H1.out.2.1.later hb2) ((hb2.block _ (Array.getElem?_eq_some_iff.1 H1.out.2.2).1).trans H1.out.2.2)));have HCM:=Lib.hid hcm;clear hb2 hcm c0 c1 c2 c3 c4 c5 c6 c7 c8 c9 c10 lb;rcases hpost with ⟨her,rfl⟩ | ⟨rfl,rv,rfl,hup⟩
  .unfold mcNil;have HER:=Lib.hid her;have her0:(er == 0)=false:=by simpa using her
   have her1:(er != 0)=true:=by simpa using her
   have hR2:=H2.out.2.2;obtain ⟨r0,r1⟩:w2.cell? ⟨w.heap.size+1,0,none⟩=some (.slice none 0 0)/\w2.cell? ⟨w.heap.size+1,1,none⟩=some (.slice none 0 0):=by constructor <;> (rw[cell_of_row _ _ _ _ _ _ hR2]; rfl)
   have lr:w.heap.size+1<w2.heap.size:=(Array.getElem?_eq_some_iff.1 hR2).1;have lr2:w.heap.size+1<w2.heap.size+1:=by omega
   have nr:w.heap.size+1≠w2.heap.size:=by omega
   have fr0:w2.frozen? ⟨w.heap.size+1,0,none⟩=false:=by simp[World.frozen?,hR2]
   have fr1:w2.frozen? ⟨w.heap.size+1,1,none⟩=false:=by simp[World.frozen?,hR2]
   clear hR2 her;go_wp2_with fail;refine post_named λWf hWf=>?_;refine bodyPost_ret (v:=.tuple #[.agg #[.slice none 0 0, .slice none 0 0], .int .i64 er]) (by rw[hWf];simp[results,Tryz.results81,go_sem,lr,r0,r1,lr2,nr];try rfl) rfl ?_
   refine ⟨?_,er,m, .inr ⟨HBN.out,er,?_, .inl ⟨HER.out,rfl⟩⟩, .inl ⟨HER.out,rfl⟩⟩
   .rw[hWf];have hq:=set2_bel (w.heap.size+1) (.slice none 0 0) (.slice none 0 0) H2.out.1 (by omega)
    exact hq.trans (((Below.refl _ _).alloc (Nat.le_refl _) _).mono hq.size)
   .exact HCM.out
  .obtain ⟨ve,va,rfl,he,ha⟩:=id hup.mc;obtain ⟨Ae,ce,rfl,-⟩:=he.form;obtain ⟨Aa,ca,rfl,-⟩:=ha.form;obtain ⟨ne,hne⟩:∃x,m.ed.length=x:=⟨_,rfl⟩;obtain ⟨na,hna⟩:∃x,m.ac.length=x:=⟨_,rfl⟩;rw[hne,hna]at hup|-;have HU:=Lib.hid hup;clear hup he ha hne hna;obtain ⟨⟨c0,c1,c2,c3,c4,c5⟩,⟨c6,c7,c8,c9,c10⟩,lb⟩:=H2.out.2.1.cells;have lb2:w.heap.size<w2.heap.size+1:=by omega
   have nb:w.heap.size≠w2.heap.size:=by omega
   have hvz:=HCM.out.good.2
   go_upto_region 7 with fail
   refine wp_nm λW3 hW3=>?_;have hb3:Below w2.heap.size w2 W3:=by rw[hW3];exact (Below.refl _ _).alloc (Nat.le_refl _) _
   have hM3:W3.heap[w2.heap.size]?=some (.cells #[.slice Ae ne ce, .slice Aa na ca] 93 (0,0)):=by rw[hW3];exact heap_alloc_new w2 _
   have HM3:=Lib.hid hM3;have HD3:=Lib.hid hb3;have H3:=Lib.hid (And.intro (H2.out.1.trans (hb3.mono H2.out.1.size)) (And.intro (H2.out.2.1.later hb3) ((hb3.block _ (Array.getElem?_eq_some_iff.1 H2.out.2.2).1).trans H2.out.2.2)));clear hb3 hW3 hM3 c0 c1 c2 c3 c4 c5 c6 c7 c8 c9 c10 lb lb2 nb
   go_cut [80] from 7 to 83 (λv wx=>v = .bool (!LcOK k)/\Below W3.heap.size W3 wx)
   case first=>
    have hlc:=lcOK_x k u.n3 HWL.out.1.1;obtain ⟨x1,hx1⟩:∃x,decide ((shortF k.pat:Int)<1)=x:=⟨_,rfl⟩;obtain ⟨x2,hx2⟩:∃x,decide (256<(longF k.pat:Int))=x:=⟨_,rfl⟩;obtain ⟨x3,hx3⟩:∃x,(decide (0<=k.ck) && decide (k.ck<=4))=x:=⟨_,rfl⟩;obtain ⟨x4,hx4⟩:∃x,decide (k.en<0)=x:=⟨_,rfl⟩;obtain ⟨x5,hx5⟩:∃x,decide (1073741824<k.en)=x:=⟨_,rfl⟩;obtain ⟨x6,hx6⟩:∃x,decide (16<(u.n3:Int))=x:=⟨_,rfl⟩;obtain ⟨x7,hx7⟩:∃x,(k.ws.any λs=>!wdOK s)=x:=⟨_,rfl⟩;obtain ⟨x8,hx8⟩:∃x,decide (k.nr<0)=x:=⟨_,rfl⟩;obtain ⟨x9,hx9⟩:∃x,decide (64<k.nr)=x:=⟨_,rfl⟩;obtain ⟨x10,hx10⟩:∃x,((u.n3:Int) == 0)=x:=⟨_,rfl⟩;obtain ⟨x11,hx11⟩:∃x,(k.nr != 0)=x:=⟨_,rfl⟩;rw[hx1,hx2,hx3,hx4,hx5,hx6,hx7,hx8,hx9,hx10,hx11]at hlc;have HLC:=Lib.hid hlc;have hx3':(decide (0<=u.ck) && decide (u.ck<=4))=x3:=by rw[HWL.out.2.1];exact hx3
    have HCV:=Lib.hid λW=>by have h:=chkvalid_any u.ck W;rw[hx3']at h;exact h
    rw[hx7]at HCF;rw[<-HWL.out.2.2.1]at hx4 hx5;rw[<-HWL.out.2.2.2]at hx8 hx9 hx11;clear hlc hx3 hx3' hx7;have HKc:=Lib.hid λW (hb:Below W3.heap.size W3 W)=>(H3.out.2.1.later hb).cells;have HBW:=Lib.hid λW (hb:Below W3.heap.size W3 W)=>H3.out.1.trans (hb.mono H3.out.1.size);obtain ⟨⟨c0,c1,c2,c3,c4,c5⟩,⟨c6,c7,c8,c9,c10⟩,lb⟩:=H3.out.2.1.cells;go_wp2_with fail;refine (HS.out W3 H3.out.1 hvz).mono ?_;rintro e w4 ⟨rfl,hb4⟩;clear c0 c1 c2 c3 c4 c5 c6 c7 c8 c9 c10 lb
    cases x1 with
    | true=>
     go_wp2_with fail
     go_meet
     exact ⟨by rw[HLC.out];rfl,hb4⟩
    | false=>
    obtain ⟨⟨c0,c1,c2,c3,c4,c5⟩,⟨c6,c7,c8,c9,c10⟩,lb⟩:=HKc.out w4 hb4;go_wp2_with fail;refine (HL.out w4 (HBW.out w4 hb4) hvz).mono ?_;rintro e w5 ⟨rfl,hb5'⟩;have hb5:=hb4.trans (hb5'.mono hb4.size);clear c0 c1 c2 c3 c4 c5 c6 c7 c8 c9 c10 lb hb5' hb4
    cases x2 with
    | true=>
     go_wp2_with fail
     go_meet
     exact ⟨by rw[HLC.out];rfl,hb5⟩
    | false=>
    obtain ⟨⟨c0,c1,c2,c3,c4,c5⟩,⟨c6,c7,c8,c9,c10⟩,lb⟩:=HKc.out w5 hb5;go_wp2_with fail;refine (HCV.out w5).mono ?_;rintro e w6 ⟨rfl,rfl⟩
    cases x3 with
    | false=>
     go_wp2_with fail
     go_meet
     exact ⟨by rw[HLC.out];rfl,hb5⟩
    | true=>
    cases x4 with
    | true=>
     go_wp2_with fail
     go_meet
     exact ⟨by rw[HLC.out];rfl,hb5⟩
    | false=>
    cases x5 with
    | true=>
     go_wp2_with fail
     go_meet
     exact ⟨by rw[HLC.out];rfl,hb5⟩
    | false=>
    cases x6 with
    | true=>
     go_wp2_with fail
     go_meet
     exact ⟨by rw[HLC.out];rfl,hb5⟩
    | false=>
    go_wp2_with fail;refine (HCF.out w6 (HBW.out w6 hb5)).mono ?_;rintro e w7 ⟨rfl,hb7'⟩;have hb7:=hb5.trans (hb7'.mono hb5.size);clear c0 c1 c2 c3 c4 c5 c6 c7 c8 c9 c10 lb hb7' hb5;obtain ⟨⟨c0,c1,c2,c3,c4,c5⟩,⟨c6,c7,c8,c9,c10⟩,lb⟩:=HKc.out w7 hb7
    cases x7 with
    | true=>
     go_wp2_with fail
     go_meet
     exact ⟨by rw[HLC.out];rfl,hb7⟩
    | false=>
    cases x8 with
    | true=>
     go_wp2_with fail
     go_meet
     exact ⟨by rw[HLC.out];rfl,hb7⟩
    | false=>
    cases x9 with
    | true=>
     go_wp2_with fail
     go_meet
     exact ⟨by rw[HLC.out];rfl,hb7⟩
    | false=>
    cases x10 with
    | false=>
     go_wp2_with fail
     go_meet
     exact ⟨by rw[HLC.out];rfl,hb7⟩
    | true=>
    cases x11 with
    | false=>
     go_wp2_with fail
     go_meet
     exact ⟨by rw[HLC.out];rfl,hb7⟩
    | true=>
     go_wp2_with fail
     go_meet
     exact ⟨by rw[HLC.out];rfl,hb7⟩
   case rest=>
    obtain ⟨rfl,hbx⟩:=hcut;obtain ⟨w7,hw7⟩:∃V:World,V=wc:=⟨_,rfl⟩;rw[<-hw7]at hbx|-;clear hw7;have H5:=Lib.hid (And.intro (H3.out.1.trans (hbx.mono H3.out.1.size)) ((hbx.block _ (Array.getElem?_eq_some_iff.1 H3.out.2.2).1).trans H3.out.2.2));have HM5:=Lib.hid ((hbx.block _ (Array.getElem?_eq_some_iff.1 HM3.out).1).trans HM3.out);have HD5:=Lib.hid (HD3.out.trans (hbx.mono HD3.out.size));obtain ⟨m0,m1⟩:w7.cell? ⟨w2.heap.size,0,none⟩=some (.slice Ae ne ce)/\w7.cell? ⟨w2.heap.size,1,none⟩=some (.slice Aa na ca):=by constructor <;> (rw[cell_of_row _ _ _ _ _ _ HM5.out]; rfl)
    have lm:w2.heap.size<w7.heap.size:=(Array.getElem?_eq_some_iff.1 HM5.out).1;have hR7:=H5.out.2;obtain ⟨r0,r1⟩:w7.cell? ⟨w.heap.size+1,0,none⟩=some (.slice none 0 0)/\w7.cell? ⟨w.heap.size+1,1,none⟩=some (.slice none 0 0):=by constructor <;> (rw[cell_of_row _ _ _ _ _ _ hR7]; rfl)
    have lr:w.heap.size+1<w7.heap.size:=(Array.getElem?_eq_some_iff.1 hR7).1;have fr0:w7.frozen? ⟨w.heap.size+1,0,none⟩=false:=by simp[World.frozen?,hR7]
    have fr1:w7.frozen? ⟨w.heap.size+1,1,none⟩=false:=by simp[World.frozen?,hR7]
    obtain ⟨q,hq⟩:∃q,LcOK k=q:=⟨_,rfl⟩;rw[hq];have HQ:=Lib.hid hq;clear hR7 hq hbx
    apply_assumption
    cases q with
    | false=>
     go_wp2_with fail;refine post_named λWf hWf=>?_;refine bodyPost_ret (v:=.tuple #[.agg #[.slice none 0 0, .slice none 0 0], .int .i64 2]) (by rw[hWf];simp[results,Tryz.results81,go_sem,r0,r1,lr];try rfl) rfl ?_
     refine ⟨?_,2,m, .inr ⟨HBN.out,0,HCM.out, .inr ⟨rfl,by rw[HQ.out];rfl⟩⟩, .inl ⟨by decide,rfl⟩⟩
     rw[hWf];exact set2_bel _ _ _ H5.out.1 (by omega)
    | true=>
     go_wp2_with fail;refine post_named λWf hWf=>?_;refine bodyPost_ret (v:=.tuple #[.agg #[.slice Ae ne ce, .slice Aa na ca], .int .i64 0]) (by rw[hWf];simp[results,Tryz.results81,go_sem,r0,r1,lr];try rfl) rfl ?_
     have hkl:KeepF [w.heap.size+1] [] w7 Wf:=by rw[hWf];exact set2_kf _ _ _ _
     have hz1:=(Array.getElem?_eq_some_iff.1 H1.out.2.2).1;refine ⟨?_,0,m, .inr ⟨HBN.out,0,HCM.out, .inr ⟨rfl,by rw[HQ.out];rfl⟩⟩, .inr ⟨rfl,_,rfl,((HU.out.later HD5.out).keep hkl (λk hk=>by rw[List.mem_singleton]at hk;omega)).mono H1.out.1.size⟩⟩
     rw[hWf];exact set2_bel _ _ _ H5.out.1 (by omega)
structure M2 where
 a1:Option Addr
 n1:Nat
 c1:Nat
 a2:Option Addr
 n2:Nat
 c2:Nat
def M2.val (x:M2):Value:=.agg #[.slice x.a1 x.n1 x.c1, .slice x.a2 x.n2 x.c2]
def encM2 (x:M2):List Value:=[.slice x.a1 x.n1 x.c1, .slice x.a2 x.n2 x.c2]
theorem encM2_E:EncS encM2 2:=⟨by decide,λ_=>rfl,λx u hu=>by
 simp only[encM2,List.mem_cons,List.not_mem_nil,or_false]at hu;rcases hu with rfl | rfl <;> rfl⟩
def McBt (B H:Nat) (w:World) (v:Value) (m:Mc):Prop:=∀W:World,(W.os=w.os/\W.tape=w.tape/\W.output=w.output)->w.heap.size<=W.heap.size->(∀k,B<=k->k<H->W.heap[k]?=w.heap[k]?)->McIn W v m
theorem McUp.bt {B:Nat} {w:World} {v:Value} {m:Mc} (h:McUp B w v m):McBt B w.heap.size w v m:=λW ho hs hk=>h W ⟨ho.1,ho.2.1,ho.2.2,hs,λk h1 hn=>hk k (by simpa using hn) h1,λk hk=>by cases hk⟩
theorem McBt.to {B H:Nat} {w w':World} {v:Value} {m:Mc} (h:McBt B H w v m) (ho:w'.os=w.os/\w'.tape=w.tape/\w'.output=w.output) (hs:w.heap.size<=w'.heap.size) (hk:∀k,B<=k->k<H->w'.heap[k]?=w.heap[k]?):McBt B H w' v m:=λW ho2 hs2 hk2=>
 h W ⟨ho2.1.trans ho.1,ho2.2.1.trans ho.2.1,ho2.2.2.trans ho.2.2⟩ (Nat.le_trans hs hs2) λk h1 h2=>(hk2 k h1 h2).trans (hk k h1 h2)
theorem McBt.mc {B H:Nat} {w:World} {v:Value} {m:Mc} (h:McBt B H w v m):McIn w v m:=h w ⟨rfl,rfl,rfl⟩ (Nat.le_refl _) λ_ _ _=>rfl
def MsOK (w:World) (v:Value) (os:List M2) (ms:List Mc):Prop:=os.length=ms.length/\∀j (h1:j<os.length) (h2:j<ms.length),∃B H,McBt B H w os[j].val ms[j]/\H<=w.heap.size/\∀g,v.ownBlock=some g->g<B\/H<=g
theorem MsOK.nil_ (w:World) (v:Value):MsOK w v [] []:=⟨rfl,λj h1=>by cases h1⟩
theorem MsOK.later {w w':World} {v:Value} {os:List M2} {ms:List Mc} (h:MsOK w v os ms) (hb:Below w.heap.size w w'):MsOK w' v os ms:=by
 refine ⟨h.1,λj h1 h2=>?_⟩;obtain ⟨B,H,q1,q2,q3⟩:=h.2 j h1 h2;exact ⟨B,H,q1.to ⟨hb.os,hb.tape,hb.output⟩ hb.size λk _ hk=>hb.block k (by omega),Nat.le_trans q2 hb.size,q3⟩
theorem MsOK.app {w1 w2 w3 w4:World} {v v':Value} {os:List M2} {ms:List Mc} {x:M2} {m:Mc} {N:Nat} (h:MsOK w1 v os ms) (hup:McUp N w2 x.val m) (hN:w1.heap.size<=N) (hb12:Below w1.heap.size w1 w2) (hb23:Below w2.heap.size w2 w3) (hg:w3.grownBy w4 v.ownBlock) (hv:∀g,v.ownBlock=some g->g<w1.heap.size) (hf:v'.ownBlock=v.ownBlock\/∃g,v'.ownBlock=some g/\w3.heap.size<=g):MsOK w4 v' (os++[x]) (ms++[m]):=by
 have hb13:Below w1.heap.size w1 w3:=hb12.trans (hb23.mono hb12.size);have h13:=h.later hb13;refine ⟨by simp[h.1],λj h1 h2=>?_⟩
 have s4:=hg.size;by_cases hj:j<os.length
 .have hj2:j<ms.length:=by have:=h.1;omega
  rw[List.getElem_append_left hj,List.getElem_append_left hj2];obtain ⟨B,H,q1,q2,q3⟩:=h13.2 j hj hj2;refine ⟨B,H,q1.to ⟨hg.os,hg.tape,hg.output⟩ s4 λk hk1 hk2=>hg.block k (by omega) (λe=>by rcases q3 k e.symm with h | h <;> omega),by omega,λg e=>?_⟩
  rcases hf with hf | ⟨g',hf,hg'⟩
  .exact q3 g (hf▸e)
  .rw[hf]at e;injection e with e;omega
 .have hj':j=os.length:=by simp at h1;omega
  subst hj';rw[List.getElem_append_right (Nat.le_refl _),List.getElem_append_right (by have:=h.1;omega)]
  simp only[Nat.sub_self,h.1,List.getElem_cons_zero];have hbt:=hup.bt.to ⟨hb23.os,hb23.tape,hb23.output⟩ hb23.size λk _ hk=>hb23.block k hk;have s23:=hb23.size;refine ⟨N,w2.heap.size,hbt.to ⟨hg.os,hg.tape,hg.output⟩ s4 λk hk1 hk2=>hg.block k (by omega) (λe=>by have:=hv k e.symm;omega),by omega,λg e=>?_⟩
  rcases hf with hf | ⟨g',hf,hg'⟩
  .left;have:=hv g (hf▸e);omega
  .rw[hf]at e;injection e with e;omega
def dupF (l:List Kn):Bool:=(List.range l.length).any λi=>(l.take i).any λo=>decide (some o.nm=(l[i]?).map Kn.nm)
def LaA (ks:List Kn) (er:Int) (ms:List Mc):Prop:=
 ((ks.length<1\/32<ks.length)/\er=3)\/
 ((1<=ks.length/\ks.length<=32)/\((∃i,∃h:i<ks.length,(∀j (hj:j<i),∃m,LcA (ks[j]'(by omega)) 0 m)/\(∃m,LcA ks[i] er m)/\er≠0)\/
  (ms.length=ks.length/\(∀i (h1:i<ks.length) (h2:i<ms.length),LcA ks[i] 0 ms[i])/\er=if dupF ks then 7 else 0)))
def LaPost (ks:List Kn) (w:World) (e:Ending) (w':World):Prop:=Below w.heap.size w w'/\∃er ms,LaA ks er ms/\((er≠0/\e = .returned (.tuple #[.slice none 0 0, .int .i64 er]))\/
 (er=0/\∃v os,e = .returned (.tuple #[v, .int .i64 0])/\OR 93 2 encM2 w.heap.size v os w'/\os.length=ks.length/\∀i (h1:i<os.length) (h2:i<ms.length),McIn w' os[i].val ms[i]))
theorem info_mach:(Tryz.prog.info? 93).map (λi=>(i.zero,i.size,i.bytes))=some (some (.agg #[.slice none 0 0, .slice none 0 0]),2,48):=by kernel_rfl
theorem kc_cells {w:World} {g f i:Nat} {u:KC} (h:∀j,j<11->w.cell? ⟨g,f+i*11+j,none⟩=u.cs[j]?):(w.cell? ⟨g,f+i*11,none⟩=some (.string u.nm)/\w.cell? ⟨g,f+i*11+1,none⟩=some (.int .i64 u.op)/\w.cell? ⟨g,f+i*11+2,none⟩=some (.slice u.a1 u.n1 u.c1)/\w.cell? ⟨g,f+i*11+3,none⟩=some (.slice u.a2 u.n2 u.c2)/\w.cell? ⟨g,f+i*11+4,none⟩=some (.int .i64 u.mn)/\w.cell? ⟨g,f+i*11+5,none⟩=some (.int .i64 u.mx))/\(w.cell? ⟨g,f+i*11+6,none⟩=some (.bool u.wh)/\w.cell? ⟨g,f+i*11+7,none⟩=some (.int .i64 u.ck)/\w.cell? ⟨g,f+i*11+8,none⟩=some (.int .i64 u.en)/\w.cell? ⟨g,f+i*11+9,none⟩=some (.slice u.a3 u.n3 u.c3)/\w.cell? ⟨g,f+i*11+10,none⟩=some (.int .i64 u.nr)):=
 ⟨⟨h 0 (by decide),h 1 (by decide),h 2 (by decide),h 3 (by decide),h 4 (by decide),h 5 (by decide)⟩,h 6 (by decide),h 7 (by decide),h 8 (by decide),h 9 (by decide),h 10 (by decide)⟩
theorem lsame_any (o:KC) (b:Nat) (s:ByteArray) (w:World) (h:w.cell? ⟨b,0,none⟩=some (.string s)):Calls Tryz.prog 83 #[.agg #[.string o.nm, .int .i64 o.op, .slice o.a1 o.n1 o.c1, .slice o.a2 o.n2 o.c2, .int .i64 o.mn, .int .i64 o.mx, .bool o.wh, .int .i64 o.ck, .int .i64 o.en, .slice o.a3 o.n3 o.c3, .int .i64 o.nr], .pointer (some ⟨b,0,none⟩)] w λe w'=>e = .returned (.bool (decide (o.nm=s)))/\Below w.heap.size w w':=by
 have hb:=World.block_lt_of_cell? w _ h;have hb1:b<w.heap.size+1:=by have:b<w.heap.size:=hb;omega
 have hb2:b≠w.heap.size:=by have:b<w.heap.size:=hb;omega
 have hb3:b<w.heap.size:=hb
 go_enter Tryz.func83,Tryz.ntmps83
 go_wp2_with fail;go_ret;refine ⟨ret_bool ?_,(Below.refl _ _).alloc (Nat.le_refl _) _⟩;rw[Bool.eq_iff_iff,beq_iff_eq,decide_eq_true_eq,toList_bl,toList_bl];exact ⟨λh=>bl_inj h,λh=>by rw[h]⟩
theorem callLa (args:Array Value) (w:World):(callFunc 83 args).run Tryz.prog w = .ok (.enter 83 args) w:=by rfl
set_option maxHeartbeats 16000000 in
theorem lall_any (A:Option Addr) (n c:Nat) (us:List KC) (ks:List Kn) (w:World) (h:KnsIn w (.slice A n c) us ks) (hvr:VrOK w) (hnm:∀k∈ks,k.nm.size<=140737488355328):Calls Tryz.prog 55 #[.slice A n c] w (LaPost ks w):=by
 obtain ⟨hl,A',c',e0,hc,hor,hkn⟩:=id h;injection e0 with e1 e2 e3;subst e1 e2 e3;obtain ⟨n,hn⟩:∃n,us.length=n:=⟨_,rfl⟩;have hkl:ks.length=n:=by omega
 rw[hn]at hc|-;have HC:=Lib.hid λ(i:Nat) (h1:i<n) (h2:i<us.length) (h3:i<ks.length) (W:World) (hb:Below w.heap.size w W)=>lcompile_any us[i] ks[i] W ((hkn i h2 h3).later hb) (hvr.later hb) (hnm _ (List.getElem_mem h3));have HO:=Lib.hid hor;have HN:=Lib.hid (And.intro hn (And.intro hkl hc));have HNE:=Lib.hid λ(i:Nat) (h2:i<us.length) (h3:i<ks.length)=>(hkn i h2 h3).nm;clear h hvr hnm hl hc hor hkn hn hkl;by_cases h1:n<1
 .have d1:decide ((n:Int)<1)=true:=decide_eq_true (by omega)
  go_enter Tryz.func55,Tryz.ntmps55
  go_wp2_with fail
  go_ret2
  exact ⟨Below.refl _ _,3,[], .inl ⟨.inl (by have:=HN.out.2.1;omega),rfl⟩, .inl ⟨by decide,rfl⟩⟩
 have d1:decide ((n:Int)<1)=false:=decide_eq_false (by omega)
 by_cases h2:32<n
 .have d2:decide (32<(n:Int))=true:=decide_eq_true (by omega)
  go_enter Tryz.func55,Tryz.ntmps55
  go_wp2_with fail
  go_ret2
  exact ⟨Below.refl _ _,3,[], .inl ⟨.inr (by have:=HN.out.2.1;omega),rfl⟩, .inl ⟨by decide,rfl⟩⟩
 have d2:decide (32<(n:Int))=false:=decide_eq_false (by omega)
 go_enter Tryz.func55,Tryz.ntmps55
 go_wp2_with fail
 go_loopw [4,21] (λv i wr=>∃(k:Nat) (os:List M2) (ms:List Mc),k<=n/\i = .int .i64 (k:Int)/\OR 93 2 encM2 w.heap.size v os wr/\os.length=k/\Hid (MsOK wr v os ms/\∀j (h1:j<ks.length) (h2:j<ms.length),LcA ks[j] 0 ms[j])/\Below w.heap.size w wr) (λ_ i _=>n - (intOf i).toNat)
 case atStart=>exact ⟨0,[],[],by omega,rfl,OR.nil_ _ _ _,rfl,⟨MsOK.nil_ _ _,λj _ h2=>by cases h2⟩,Below.refl _ _⟩
 case round=>
  obtain ⟨k,os,ms,hk,rfl,hown,hol,HI,hbw⟩:=hrel;by_cases hlt:k<n
  .have hd:decide ((k:Int)<(n:Int))=true:=decide_eq_true (by omega)
   have hdn:decide (k<n)=true:=decide_eq_true hlt;have hku:k<us.length:=by have:=HN.out.1;omega
   have hkk:k<ks.length:=by have:=HN.out.2.1;omega
   obtain ⟨g,f,rfl,hg,hcl⟩:=HO.out.resolve_left (by rintro rfl;cases hku)
   obtain ⟨u,hu⟩:∃u,us[k]=u:=⟨_,rfl⟩;have hcl':=λj hj=>(hbw.cell (p:=⟨g,f+k*11+j,none⟩) hg).trans (hcl k hku j hj);have CC:=Lib.hid (HC.out k hlt hku hkk);rw[hu]at hcl' CC;obtain ⟨⟨q0,q1,q2,q3,q4,q5⟩,q6,q7,q8,q9,q10⟩:=kc_cells hcl';have hgr:g<wr.heap.size:=Nat.lt_of_lt_of_le hg hbw.size;have H1:=Lib.hid (And.intro hown (And.intro hol hbw));clear hown hol hbw hcl hcl' hu;go_wp2_with fail;refine calls_nm λW0 hW0=>?_;have hb0:Below wr.heap.size wr W0:=by rw[hW0];exact (Below.refl _ _).alloc (Nat.le_refl _) _
   have HB0:=Lib.hid hb0;clear hW0 hb0 q0 q1 q2 q3 q4 q5 q6 q7 q8 q9 q10 hgr;refine (CC.out W0 (H1.out.2.2.trans (HB0.out.mono H1.out.2.2.size))).mono ?_;rintro e w1 ⟨hb1,er,m,hlc,hpost⟩;have HL:=Lib.hid hlc;have HB1:=Lib.hid hb1;clear hlc hb1;rcases hpost with ⟨her,rfl⟩ | ⟨rfl,rv,rfl,hup⟩
   .unfold mcNil;have HER:=Lib.hid her;have her0:(er == 0)=false:=by simpa using her
    have her1:(er != 0)=true:=by simpa using her
    clear her;go_wp2_with fail
    go_ret2
    refine ⟨H1.out.2.2.trans (((HB0.out.trans (HB1.out.mono HB0.out.size)).trans (((Below.refl _ _).alloc (Nat.le_refl _) _).mono (Nat.le_trans HB0.out.size HB1.out.size))).mono H1.out.2.2.size),er,[], .inr ⟨⟨by have:=HN.out.2.1;omega,by have:=HN.out.2.1;omega⟩, .inl ⟨k,by have:=HN.out.2.1;omega,λj hj=>?_,⟨m,HL.out⟩,HER.out⟩⟩, .inl ⟨HER.out,rfl⟩⟩
    have hj2:j<ms.length:=by have:=HI.out.1.1;have:=H1.out.2.1;omega
    exact ⟨ms[j],HI.out.2 j (by have:=HN.out.2.1;omega) hj2⟩
   .obtain ⟨ve,va,rfl,he,ha⟩:=id hup.mc;obtain ⟨Ae,ce,rfl,-⟩:=he.form;obtain ⟨Aa,ca,rfl,-⟩:=ha.form;obtain ⟨ne,hne⟩:∃x,m.ed.length=x:=⟨_,rfl⟩;obtain ⟨na,hna⟩:∃x,m.ac.length=x:=⟨_,rfl⟩;rw[hne,hna]at hup|-;have HU:=Lib.hid hup;clear hup he ha hne hna;obtain ⟨im,him,hk0,hk1,hk2⟩:=info_parts info_mach
    go_upto_region 10 with fail
    refine wp_nm λW2 hW2=>?_;have hb2:Below w1.heap.size w1 W2:=by rw[hW2];exact (Below.refl _ _).alloc (Nat.le_refl _) _
    have hM2:W2.heap[w1.heap.size]?=some (.cells #[.slice Ae ne ce, .slice Aa na ca] 93 (0,0)):=by rw[hW2];exact heap_alloc_new w1 _
    have hb02:Below wr.heap.size wr W2:=(HB0.out.trans (HB1.out.mono HB0.out.size)).trans (hb2.mono (Nat.le_trans HB0.out.size HB1.out.size));have m0:W2.cell? ⟨w1.heap.size,0,none⟩=some (.slice Ae ne ce):=by rw[cell_of_row _ _ _ _ _ _ hM2];rfl
    have m1:W2.cell? ⟨w1.heap.size,1,none⟩=some (.slice Aa na ca):=by rw[cell_of_row _ _ _ _ _ _ hM2];rfl
    have lm:w1.heap.size<W2.heap.size:=(Array.getElem?_eq_some_iff.1 hM2).1;have hown2:=World.ownsRow.alloc (own_later (show wr.ownsRow _ _ _ _ _ _ from H1.out.1) hb02) (.cells #[.slice Ae ne ce, .slice Aa na ca] 93);have hcx:∀j x,[Value.slice Ae ne ce, .slice Aa na ca][j]?=some x->(W2.alloc (.cells #[.slice Ae ne ce, .slice Aa na ca] 93)).cell? ((⟨W2.heap.size,0,none⟩:Addr).add j)=some x:=by
     intro j x hj;rw[Addr.add_lit,Nat.zero_add,World.cell?_alloc_mark];simpa using hj
    have hol:=H1.out.2.1;have hbz:w.heap.size<=(W2.alloc (.cells #[.slice Ae ne ce, .slice Aa na ca] 93)).heap.size:=by have h1:=H1.out.2.2.size;have h2:=hb02.size;simp;omega
    have HB2:=Lib.hid (And.intro hb2 hb02);clear hW2 hb2 hM2 hb02;go_wp2_with (at_builtin; refine appI_at rfl _ _ 108 rfl w.heap.size 93 im _ 2 48 Tryz.underlying108 him hk0 hk1 hk2 rfl (by decide) _ os.length (rowF encM2 os) rfl hown2 ⟨W2.heap.size,0,none⟩ 1 1 [.slice Ae ne ce, .slice Aa na ca] rfl rfl hcx (by intro u hu; simp only[List.mem_cons,List.not_mem_nil,or_false]at hu; rcases hu with rfl | rfl <;> rfl) (by unfold maxLen; omega) (by omega) hbz ?_)
    intro v4 w4 hown4 hg4 hf4;have hms:=MsOK.app (x:=⟨Ae,ne,ce,Aa,na,ca⟩) (m:=m) (w3:=W2.alloc (.cells #[.slice Ae ne ce, .slice Aa na ca] 93)) (w4:=w4) (v':=v4) HI.out.1 HU.out HB0.out.size (HB0.out.trans (HB1.out.mono HB0.out.size)) (HB2.out.1.trans (((Below.refl _ _).alloc (Nat.le_refl _) _).mono HB2.out.1.size)) hg4 (λg hg=>((show wr.ownsRow _ _ _ _ _ _ from H1.out.1).lt g hg).2) (by simpa using hf4)
    have hOR:OR 93 2 encM2 w.heap.size v4 (os++[⟨Ae,ne,ce,Aa,na,ca⟩]) w4:=by
     show w4.ownsRow _ _ _ _ (os++[_]).length (rowF encM2 (os++[_]));rw[rowF_app,rowF_single,List.length_append,hol];exact hown4
    have hbw4:Below w.heap.size w w4:=H1.out.2.2.trans ((HB2.out.2.trans (((Below.refl _ _).alloc (Nat.le_refl _) _).mono HB2.out.2.size)).mono H1.out.2.2.size |>.trans ((Below.refl _ _).grown hg4 (by simpa using hbz) (λg hg=>((show wr.ownsRow _ _ _ _ _ _ from H1.out.1).lt g hg).1)))
    have hlc:∀j (h1:j<ks.length) (h2:j<(ms++[m]).length),LcA ks[j] 0 (ms++[m])[j]:=λj h1 h2=>by
     by_cases hj:j<ms.length
     .rw[List.getElem_append_left hj];exact HI.out.2 j h1 hj
     .have hmk:ms.length=k:=by have:=HI.out.1.1;omega
      have hjk:j=k:=by simp at h2;omega
      subst hjk;rw[List.getElem_append_right (by omega)]
      simp only[hmk,Nat.sub_self,List.getElem_cons_zero];exact HL.out
    have H4:=Lib.hid (And.intro hOR (And.intro (And.intro hms hlc) hbw4));have hol4:(os++[(⟨Ae,ne,ce,Aa,na,ca⟩:M2)]).length=k+1:=by simp[hol]
    clear hms hOR hbw4 hlc hown4 hg4 hf4 hown2 hcx hbz m0 m1 lm;go_wp2_with fail;go_roundw
    case rel=>exact ⟨k+1,_,_,by omega,by go_num,H4.out.1,hol4,H4.out.2.1,H4.out.2.2⟩
    case measure=>simp[intOf];omega
  .obtain rfl:k=n:=by omega
   have hd:decide ((k:Int)<(k:Int))=false:=decide_eq_false (by omega)
   have hdn:decide (k<k)=false:=decide_eq_false (by omega)
   obtain ⟨A2,c2,rfl,-,-⟩:=own_form (show wr.ownsRow _ _ _ _ _ _ from hown);rw[hol];have H1:=Lib.hid (And.intro hown (And.intro hol hbw));obtain ⟨W1,hW1⟩:∃V:World,V=wr:=⟨_,rfl⟩;rw[<-hW1]at H1 HI|-;clear hown hbw hol hW1;go_wp2_with fail
   go_loopw [40] (λi wr=>∃j:Nat,j<=k/\i = .int .i64 (j:Int)/\Hid (∀i,i<j->(ks.take i).any (λo=>decide (some o.nm=(ks[i]?).map Kn.nm))=false)/\Below W1.heap.size W1 wr) (λi _=>k - (intOf i).toNat)
   case atStart=>exact ⟨0,by omega,rfl,λi hi=>absurd hi (Nat.not_lt_zero i),Below.refl _ _⟩
   case round=>
    obtain ⟨j,hj,rfl,HJ,hbj⟩:=hrel;by_cases hlt2:j<k
    .have hd2:decide ((j:Int)<(k:Int))=true:=decide_eq_true (by omega)
     have hdn2:decide (j<k)=true:=decide_eq_true hlt2;have hku:j<us.length:=by have:=HN.out.1;omega
     have hkk:j<ks.length:=by have:=HN.out.2.1;omega
     obtain ⟨g,f,rfl,hg,hcl⟩:=HO.out.resolve_left (by rintro rfl;cases hku)
     obtain ⟨u,hu⟩:∃u,us[j]=u:=⟨_,rfl⟩;have hbw:=H1.out.2.2.trans (hbj.mono H1.out.2.2.size);have hcl':=λj' hj'=>(hbw.cell (p:=⟨g,f+j*11+j',none⟩) hg).trans (hcl j hku j' hj');rw[hu]at hcl';obtain ⟨⟨q0,q1,q2,q3,q4,q5⟩,q6,q7,q8,q9,q10⟩:=kc_cells hcl';have hgr:g<wr.heap.size:=Nat.lt_of_lt_of_le hg hbw.size;have hjc:(j:Int)<=(c:Int):=by have:=HN.out.2.2.1;omega
     have hjcn:j<=c:=by have:=HN.out.2.2.1;omega
     have hcc:(c:Int)<=9223372036854775807:=by have:=HN.out.2.2.2;omega
     have hps:((us.take j).map λo=>decide (o.nm=u.nm))=(us.take j).map (λo=>decide (o.nm=u.nm)):=rfl;have hany:(us.take j).any (λo=>decide (o.nm=u.nm))=(ks.take j).any (λo=>decide (some o.nm=(ks[j]?).map Kn.nm)):=by
      have e1:(ks[j]?).map Kn.nm=some u.nm:=by rw[List.getElem?_eq_getElem hkk,<-hu,HNE.out j hku hkk];rfl
      rw[e1,<-anyP_map,<-anyP_map]
      congr 1
      refine List.ext_getElem (by simp;have:=HN.out;omega) λi h1 h2=>?_
      simp only[List.getElem_map,List.getElem_take];rw[HNE.out i (by simp at h1;omega) (by simp at h2;omega)]
      simp
     have HAN:=Lib.hid hany;have HR:=Lib.hid λ(W:World) (hb:Below wr.heap.size wr W) (p:Nat) (hp:∀V,Below W.heap.size W V->V.cell? ⟨p,0,none⟩=some (.string u.nm))=>containsK 83 #[.pointer (some ⟨p,0,none⟩)] ((us.take j).map KC.cs) ((us.take j).map λo=>decide (o.nm=u.nm)) (.slice (some ⟨g,f,none⟩) j c) W
      ⟨_,c,by rw[List.length_map,List.length_take,Nat.min_eq_left (by omega)],⟨by simp;omega,by omega⟩, .inr ⟨g,f,rfl,Nat.lt_of_lt_of_le hgr hb.size,λi hi=>⟨by simp[KC.cs],λj' hj'=>by
       simp only[List.length_map,List.length_take]at hi;simp only[List.getElem_map,List.getElem_take];exact ((hbw.trans (hb.mono hbw.size)).cell (p:=⟨g,f+i*11+j',none⟩) hg).trans (hcl i (by omega) j' hj')⟩⟩⟩
      ⟨callLa,by simp,λi hi b hb2 w' hbw'=>by
       have hi2:i<(us.take j).length:=by simpa using hi
       have hb3:b=decide (((us.take j)[i]).nm=u.nm):=by
        rw[List.getElem?_map,List.getElem?_eq_getElem hi2]at hb2;injection hb2 with hb2;exact hb2.symm
       rw[hb3,List.getElem_map];exact lsame_any ((us.take j)[i]) p u.nm w' (hp w' hbw')⟩
     rw[anyP_map]at HR;obtain ⟨b,hb⟩:∃b,(us.take j).any (λo=>decide (o.nm=u.nm))=b:=⟨_,rfl⟩;rw[hb]at HR HAN;have HJB:=Lib.hid hbj;clear hany hps hb hcl hcl' hbw hbj hu
     go_upto_region 15 with fail
     refine wp_nm λW0 hW0=>?_;have hb0:Below wr.heap.size wr W0:=by rw[hW0];exact (Below.refl _ _).alloc (Nat.le_refl _) _
     have hK0:bxU u wr.heap.size W0:=by rw[hW0];exact heap_alloc_new wr _
     have HB0:=Lib.hid (And.intro hb0 hK0);clear hW0 hb0 hK0 q0 q1 q2 q3 q4 q5 q6 q7 q8 q9 q10;go_wp2_with fail;refine (HR.out W0 HB0.out.1 wr.heap.size (λV hV=>(HB0.out.2.later hV).cells.1.1)).mono ?_;rintro e w1 ⟨rfl,hb1⟩;have HB1:=Lib.hid (HB0.out.1.trans (hb1.mono HB0.out.1.size));clear hb1
     cases b with
     | true=>
      go_wp2_with fail
      go_ret2
      have hbf:Below w.heap.size w w1:=H1.out.2.2.trans ((HJB.out.trans (HB1.out.mono HJB.out.size)).mono H1.out.2.2.size);have hdp:dupF ks=true:=by
       unfold dupF;exact List.any_eq_true.2 ⟨j,List.mem_range.2 hkk,HAN.out.symm⟩
      refine ⟨hbf,7,ms, .inr ⟨⟨by have:=HN.out.2.1;omega,by have:=HN.out.2.1;omega⟩, .inr ⟨?_,λi q1 q2=>HI.out.2 i q1 q2,by rw[hdp];rfl⟩⟩, .inl ⟨by decide,rfl⟩⟩
      have:=HI.out.1.1;have:=H1.out.2.1;have:=HN.out.2.1;omega
     | false=>
      go_wp2_with fail;go_roundw
      case rel=>exact ⟨j+1,by omega,by go_num,λi hi=>by
       by_cases hij:i=j
       .subst hij;exact HAN.out.symm
       .exact HJ.out i (by omega),HJB.out.trans (HB1.out.mono HJB.out.size)⟩
      case measure=>simp[intOf];omega
    .obtain rfl:j=k:=by omega
     go_wp2_with fail
     go_ret2
     refine ⟨H1.out.2.2.trans (hbj.mono H1.out.2.2.size),0,ms, .inr ⟨⟨by have:=HN.out.2.1;omega,by have:=HN.out.2.1;omega⟩, .inr ⟨?_,λi q1 q2=>HI.out.2 i q1 q2,?_⟩⟩, .inr ⟨rfl,_,os,rfl,?_,?_,λi q1 q2=>?_⟩⟩
     .have:=HI.out.1.1;have:=H1.out.2.1;have:=HN.out.2.1;omega
     .rw[if_neg];rw[Bool.not_eq_true];unfold dupF;rw[List.any_eq_false];intro i hi;rw[List.mem_range]at hi;rw[HJ.out i (by have:=HN.out.2.1;omega)]
      decide
     .have hq:=H1.out.1.later hbj;rw[H1.out.2.1]at hq;exact hq
     .have:=H1.out.2.1;have:=HN.out.2.1;omega
     .obtain ⟨B,H,p1,p2,-⟩:=(HI.out.1.later hbj).2 i q1 q2;exact p1.mc
def GoodK (k:Kn):Prop:=nmOK (bl k.nm)=true/\validF k.pat=0/\posF k.pat<=10/\LcOK k=true
theorem LcA.ok {k:Kn} {er:Int} {m:Mc} (h:LcA k er m) (hg:GoodK k):er=0:=by
 rcases h with ⟨h,-⟩ | ⟨-,er0,hc,h⟩
 .rw[hg.1]at h;cases h
 .have h0:=hc.few hg.2.1 hg.2.2.1;rcases h with ⟨h1,-⟩ | ⟨-,h2⟩
  .exact absurd h0 h1
  .rw[h2,hg.2.2.2];rfl
theorem LaA.ok {ks:List Kn} {er:Int} {ms:List Mc} (h:LaA ks er ms) (h1:1<=ks.length) (h2:ks.length<=32) (hg:∀k∈ks,GoodK k) (hd:dupF ks=false):er=0:=by
 rcases h with ⟨h,-⟩ | ⟨-,⟨i,hi,-,⟨m,hm⟩,hne⟩ | ⟨-,-,h⟩⟩
 .omega
 .exact absurd (hm.ok (hg _ (List.getElem_mem hi))) hne
 .rw[h,hd];rfl
theorem lvalid_any (A:Option Addr) (n c:Nat) (us:List KC) (ks:List Kn) (w:World) (h:KnsIn w (.slice A n c) us ks) (hvr:VrOK w) (hnm:∀k∈ks,k.nm.size<=140737488355328):Calls Tryz.prog 39 #[.slice A n c] w λe w'=>Below w.heap.size w w'/\∃er ms,LaA ks er ms/\e = .returned (.int .i64 er):=by
 have HL:=Lib.hid (lall_any A n c us ks w h hvr hnm);clear h hvr hnm
 go_enter Tryz.func39,Tryz.ntmps39
 go_wp2_with fail;refine HL.out.mono ?_;rintro e w' ⟨hb,er,ms,hla,hp⟩;have HB:=Lib.hid (And.intro hb hla);clear hb hla;rcases hp with ⟨h1,rfl⟩ | ⟨rfl,v,os,rfl,-⟩
 .go_wp2_with fail;go_ret;exact ⟨HB.out.1,er,ms,HB.out.2,rfl⟩
 .go_wp2_with fail;go_ret;exact ⟨HB.out.1,0,ms,HB.out.2,rfl⟩
end Go.Proofs.YtdmoogjddmdmbaaGreatDoor
