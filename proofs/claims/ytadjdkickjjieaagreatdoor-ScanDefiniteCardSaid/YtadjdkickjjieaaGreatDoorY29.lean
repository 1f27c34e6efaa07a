/- library.Compile of any kind. · library.All: the machines of a library, or its first error. -/
import Derived.Test.YtadjdkickjjieaaGreatDoorY27
import Derived.Test.YtadjdkickjjieaaGreatDoorY28
import Derived.Deep.CutRange
namespace Go.Proofs.YtadjdkickjjieaaGreatDoor
set_option linter.unusedVariables false
set_option linter.unusedSimpArgs false
set_option maxRecDepth 100000
open Go.RowKit
theorem zMZ (args:Array Value) (w:World):(callFunc 93 args).run Tryz.prog w = .ok (.enter 93 args) w:=by rfl
theorem zMh (l:List ByteArray):(l.any λs=>!wdOK s)=!l.all wdOK:=by
 induction l with
 | nil=>rfl
 | cons a r ih=>simp[ih]
theorem zIZ (b:Nat) (x y:Value) (W:World):KeepF [b] [] W ((W.setCell ⟨b,0,none⟩ x).setCell ⟨b,1,none⟩ y):=by
 have hne:∀k,k∉[b]->k≠b:=λk hn e=>hn (List.mem_singleton.2 e);exact ⟨rfl,rfl,rfl,by simp[World.setCell],λk _ hn=>(Below.heap_setCell (W.setCell ⟨b,0,none⟩ x) ⟨b,1,none⟩ _ k (hne k hn)).trans (Below.heap_setCell W ⟨b,0,none⟩ _ k (hne k hn)),λk hk=>by cases hk⟩
theorem zDH {w W:World} (b:Nat) (x y:Value) (hb:Below w.heap.size w W) (h:w.heap.size<=b):Below w.heap.size w ((W.setCell ⟨b,0,none⟩ x).setCell ⟨b,1,none⟩ y):=
 hb.trans ((zIZ b x y W).below (λk hk=>by rw[List.mem_singleton]at hk;omega) hb.size)
theorem zMm (k:Kn) (n3:Nat) (hn:n3=k.ws.length):LcOK k=(!decide ((zAT k.pat:Int)<1) && (!decide (256<(zAY k.pat:Int)) && ((decide (0<=k.ck) && decide (k.ck<=4)) && (!decide (k.en<0) && (!decide (1073741824<k.en) && (!decide (16<(n3:Int)) && (!(k.ws.any λs=>!wdOK s) && (!decide (k.nr<0) && (!decide (64<k.nr) && !(((n3:Int) == 0) && (k.nr != 0))))))))))):=by
 subst hn;unfold LcOK;have e1:decide (1<=zAT k.pat)=!decide ((zAT k.pat:Int)<1):=by rw[Bool.eq_iff_iff];simp;omega
 have e2:decide (zAY k.pat<=256)=!decide (256<(zAY k.pat:Int)):=by rw[Bool.eq_iff_iff];simp;omega
 have e4:decide (0<=k.en)=!decide (k.en<0):=by rw[Bool.eq_iff_iff];simp
 have e5:decide (k.en<=1073741824)=!decide (1073741824<k.en):=by rw[Bool.eq_iff_iff];simp
 have e6:decide (k.ws.length<=16)=!decide (16<(k.ws.length:Int)):=by rw[Bool.eq_iff_iff];simp;omega
 have e8:decide (0<=k.nr)=!decide (k.nr<0):=by rw[Bool.eq_iff_iff];simp
 have e9:decide (k.nr<=64)=!decide (64<k.nr):=by rw[Bool.eq_iff_iff];simp
 have e10:k.ws.isEmpty=((k.ws.length:Int) == 0):=by cases k.ws with
  | nil=>rfl
  | cons a r=>simp;omega
 have e11:decide (k.nr≠0)=(k.nr != 0):=by rw[Bool.eq_iff_iff];simp
 rw[e1,e2,e4,e5,e6,e8,e9,e10,e11,zMh,Bool.not_not]
set_option maxHeartbeats 16000000 in
theorem zFB (u:KC) (k:Kn) (w:World) (h:KnIn w u k) (hvr:VrOK w) (hnm:k.nm.size<=140737488355328):Calls Tryz.prog 60 #[.agg #[.string u.nm, .int .i64 u.op, .slice u.a1 u.n1 u.c1, .slice u.a2 u.n2 u.c2, .int .i64 u.mn, .int .i64 u.mx, .bool u.wh, .int .i64 u.ck, .int .i64 u.en, .slice u.a3 u.n3 u.c3, .int .i64 u.nr]] w (LcPost k w):=by
 have HN:=Lib.hid λW=>zHE u.nm W (by rw[h.nm];exact hnm)
 have HC:=Lib.hid λW (hb:Below w.heap.size w W)=>zDq k.pat u.pat W (h.later hb).pat (hvr.later hb);have HS:=Lib.hid λW (hb:Below w.heap.size w W) (hv:zAV k.pat=0)=>zHA k.pat u.pat W (h.later hb).pat hv;have HL:=Lib.hid λW (hb:Below w.heap.size w W) (hv:zAV k.pat=0)=>zHw k.pat u.pat W (h.later hb).pat hv;have HCF:=Lib.hid λW (hb:Below w.heap.size w W)=>zID 93 #[] k.ws (λs=>!wdOK s) (.slice u.a3 u.n3 u.c3) W (h.later hb).ws ⟨zMZ,λs _ w' _=>(zI8 s w').mono λe w'' h=>⟨h.1,h.2▸Below.refl _ _⟩⟩;have HWL:=Lib.hid (And.intro h.wlen (And.intro h.ck (And.intro h.en h.nr)));have hnn:bl u.nm=bl k.nm:=by rw[h.nm]
 rw[hnn]at HN;clear h hvr hnm hnn;obtain ⟨bn,hbn⟩:∃b,nmOK (bl k.nm)=b:=⟨_,rfl⟩;rw[hbn]at HN;have HBN:=Lib.hid hbn;clear hbn
 go_enter Tryz.func60,Tryz.ntmps60
 go_wp2_with fail;refine zAM λW0 hW0=>?_;have hb0:Below w.heap.size w W0:=by rw[hW0];exact ((Below.refl _ _).alloc (Nat.le_refl _) _).alloc (by simp) _
 have hK0:bxU u w.heap.size W0:=by rw[hW0];exact (zAI _ _ _ (by simp)).trans (heap_alloc_new w _)
 have hR0:W0.heap[w.heap.size+1]?=some (.cells #[.slice none 0 0, .slice none 0 0] 73 (0,0)):=by rw[hW0];simpa using heap_alloc_new (w.alloc (.cells #[.string u.nm, .int .i64 u.op, .slice u.a1 u.n1 u.c1, .slice u.a2 u.n2 u.c2, .int .i64 u.mn, .int .i64 u.mx, .bool u.wh, .int .i64 u.ck, .int .i64 u.en, .slice u.a3 u.n3 u.c3, .int .i64 u.nr] 34)) (.cells #[.slice none 0 0, .slice none 0 0] 73)
 have H0:=Lib.hid (And.intro hb0 (And.intro hK0 hR0));clear hW0 hb0 hK0 hR0;refine (HN.out W0).mono ?_;rintro e w1 ⟨rfl,hb1⟩;have H1:=Lib.hid (And.intro (H0.out.1.trans (hb1.mono H0.out.1.size)) (And.intro (H0.out.2.1.later hb1) ((hb1.block _ (Array.getElem?_eq_some_iff.1 H0.out.2.2).1).trans H0.out.2.2)));clear hb1;obtain ⟨⟨c0,c1,c2,c3,c4,c5⟩,⟨c6,c7,c8,c9,c10⟩,lb⟩:=H1.out.2.1.cells;have hR1:=H1.out.2.2;obtain ⟨r0,r1⟩:w1.cell? ⟨w.heap.size+1,0,none⟩=some (.slice none 0 0)/\w1.cell? ⟨w.heap.size+1,1,none⟩=some (.slice none 0 0):=by constructor <;> (rw[cell_of_row _ _ _ _ _ _ hR1]; rfl)
 have lr:w.heap.size+1<w1.heap.size:=(Array.getElem?_eq_some_iff.1 hR1).1;have fr0:w1.frozen? ⟨w.heap.size+1,0,none⟩=false:=by simp[World.frozen?,hR1]
 have fr1:w1.frozen? ⟨w.heap.size+1,1,none⟩=false:=by simp[World.frozen?,hR1]
 clear hR1
 cases bn with
 | false=>
  go_wp2_with fail;refine zAD λWf hWf=>?_;refine bodyPost_ret (v:=.tuple #[.agg #[.slice none 0 0, .slice none 0 0], .int .i64 4]) (by rw[hWf];simp[results,Tryz.results60,go_sem,lr,r0,r1];try rfl) rfl ?_
  refine ⟨?_,4,⟨[],[]⟩, .inl ⟨HBN.out,rfl⟩, .inl ⟨by decide,rfl⟩⟩
  rw[hWf];exact zDH _ _ _ H1.out.1 (by omega)
 | true=>
  clear r0 r1 lr fr0 fr1;go_wp2_with fail;refine (HC.out w1 H1.out.1).mono ?_;rintro e w2 hpost;obtain ⟨hb2,er,m,hcm,hpost⟩:=cm_A hpost;have H2:=Lib.hid (And.intro (H1.out.1.trans (hb2.mono H1.out.1.size)) (And.intro (H1.out.2.1.later hb2) ((hb2.block _ (Array.getElem?_eq_some_iff.1 H1.out.2.2).1).trans H1.out.2.2)));have HCM:=Lib.hid hcm;clear hb2 hcm c0 c1 c2 c3 c4 c5 c6 c7 c8 c9 c10 lb;rcases hpost with ⟨her,rfl⟩ | ⟨rfl,rv,rfl,hup⟩
  .unfold zCg;have HER:=Lib.hid her;have her0:(er == 0)=false:=by simpa using her
   have her1:(er != 0)=true:=by simpa using her
   have hR2:=H2.out.2.2;obtain ⟨r0,r1⟩:w2.cell? ⟨w.heap.size+1,0,none⟩=some (.slice none 0 0)/\w2.cell? ⟨w.heap.size+1,1,none⟩=some (.slice none 0 0):=by constructor <;> (rw[cell_of_row _ _ _ _ _ _ hR2]; rfl)
   have lr:w.heap.size+1<w2.heap.size:=(Array.getElem?_eq_some_iff.1 hR2).1;have lr2:w.heap.size+1<w2.heap.size+1:=by omega
   have nr:w.heap.size+1≠w2.heap.size:=by omega
   have fr0:w2.frozen? ⟨w.heap.size+1,0,none⟩=false:=by simp[World.frozen?,hR2]
   have fr1:w2.frozen? ⟨w.heap.size+1,1,none⟩=false:=by simp[World.frozen?,hR2]
   clear hR2 her;go_wp2_with fail;refine zAD λWf hWf=>?_;refine bodyPost_ret (v:=.tuple #[.agg #[.slice none 0 0, .slice none 0 0], .int .i64 er]) (by rw[hWf];simp[results,Tryz.results60,go_sem,lr,r0,r1,lr2,nr];try rfl) rfl ?_
   refine ⟨?_,er,m, .inr ⟨HBN.out,er,?_, .inl ⟨HER.out,rfl⟩⟩, .inl ⟨HER.out,rfl⟩⟩
   .rw[hWf];have hq:=zDH (w.heap.size+1) (.slice none 0 0) (.slice none 0 0) H2.out.1 (by omega)
    exact hq.trans (((Below.refl _ _).alloc (Nat.le_refl _) _).mono hq.size)
   .exact HCM.out
  .obtain ⟨ve,va,rfl,he,ha⟩:=id hup.mc;obtain ⟨Ae,ce,rfl,-⟩:=he.form;obtain ⟨Aa,ca,rfl,-⟩:=ha.form;obtain ⟨ne,hne⟩:∃x,m.ed.length=x:=⟨_,rfl⟩;obtain ⟨na,hna⟩:∃x,m.ac.length=x:=⟨_,rfl⟩;rw[hne,hna]at hup|-;have HU:=Lib.hid hup;clear hup he ha hne hna;obtain ⟨⟨c0,c1,c2,c3,c4,c5⟩,⟨c6,c7,c8,c9,c10⟩,lb⟩:=H2.out.2.1.cells;have lb2:w.heap.size<w2.heap.size+1:=by omega
   have nb:w.heap.size≠w2.heap.size:=by omega
   have hvz:=HCM.out.good.2
   go_upto_region 7 with fail
   refine zBl λW3 hW3=>?_;have hb3:Below w2.heap.size w2 W3:=by rw[hW3];exact (Below.refl _ _).alloc (Nat.le_refl _) _
   have hM3:W3.heap[w2.heap.size]?=some (.cells #[.slice Ae ne ce, .slice Aa na ca] 73 (0,0)):=by rw[hW3];exact heap_alloc_new w2 _
   have HM3:=Lib.hid hM3;have HD3:=Lib.hid hb3;have H3:=Lib.hid (And.intro (H2.out.1.trans (hb3.mono H2.out.1.size)) (And.intro (H2.out.2.1.later hb3) ((hb3.block _ (Array.getElem?_eq_some_iff.1 H2.out.2.2).1).trans H2.out.2.2)));clear hb3 hW3 hM3 c0 c1 c2 c3 c4 c5 c6 c7 c8 c9 c10 lb lb2 nb
   go_cut [80] from 7 to 83 (λv wx=>v = .bool (!LcOK k)/\Below W3.heap.size W3 wx)
   case first=>
    have hlc:=zMm k u.n3 HWL.out.1.1;obtain ⟨x1,hx1⟩:∃x,decide ((zAT k.pat:Int)<1)=x:=⟨_,rfl⟩;obtain ⟨x2,hx2⟩:∃x,decide (256<(zAY k.pat:Int))=x:=⟨_,rfl⟩;obtain ⟨x3,hx3⟩:∃x,(decide (0<=k.ck) && decide (k.ck<=4))=x:=⟨_,rfl⟩;obtain ⟨x4,hx4⟩:∃x,decide (k.en<0)=x:=⟨_,rfl⟩;obtain ⟨x5,hx5⟩:∃x,decide (1073741824<k.en)=x:=⟨_,rfl⟩;obtain ⟨x6,hx6⟩:∃x,decide (16<(u.n3:Int))=x:=⟨_,rfl⟩;obtain ⟨x7,hx7⟩:∃x,(k.ws.any λs=>!wdOK s)=x:=⟨_,rfl⟩;obtain ⟨x8,hx8⟩:∃x,decide (k.nr<0)=x:=⟨_,rfl⟩;obtain ⟨x9,hx9⟩:∃x,decide (64<k.nr)=x:=⟨_,rfl⟩;obtain ⟨x10,hx10⟩:∃x,((u.n3:Int) == 0)=x:=⟨_,rfl⟩;obtain ⟨x11,hx11⟩:∃x,(k.nr != 0)=x:=⟨_,rfl⟩;rw[hx1,hx2,hx3,hx4,hx5,hx6,hx7,hx8,hx9,hx10,hx11]at hlc;have HLC:=Lib.hid hlc;have hx3':(decide (0<=u.ck) && decide (u.ck<=4))=x3:=by rw[HWL.out.2.1];exact hx3
    have HCV:=Lib.hid λW=>by have h:=zFV u.ck W;rw[hx3']at h;exact h
    rw[hx7]at HCF;rw[<-HWL.out.2.2.1]at hx4 hx5;rw[<-HWL.out.2.2.2]at hx8 hx9 hx11;clear hlc hx3 hx3' hx7;have HKc:=Lib.hid λW (hb:Below W3.heap.size W3 W)=>(H3.out.2.1.later hb).cells;have HBW:=Lib.hid λW (hb:Below W3.heap.size W3 W)=>H3.out.1.trans (hb.mono H3.out.1.size);obtain ⟨⟨c0,c1,c2,c3,c4,c5⟩,⟨c6,c7,c8,c9,c10⟩,lb⟩:=H3.out.2.1.cells;go_wp2_with fail;refine (HS.out W3 H3.out.1 hvz).mono ?_;rintro e w4 ⟨rfl,hb4⟩;clear c0 c1 c2 c3 c4 c5 c6 c7 c8 c9 c10 lb
    cases x1 with
    | true=>
     go_wp2_with fail
     go_meet
     exact ⟨by rw[HLC.out];rfl,hb4⟩
    | false=>
    obtain ⟨⟨c0,c1,c2,c3,c4,c5⟩,⟨c6,c7,c8,c9,c10⟩,lb⟩:=HKc.out w4 hb4;go_wp2_with fail;refine (HL.out w4 (HBW.out w4 hb4) hvz).mono ?_;rintro e w5 ⟨rfl,hb5'⟩;have hb5:=hb4.trans (hb5'.mono hb4.size);clear c0 c1 c2 c3 c4 c5 c6 c7 c8 c9 c10 lb hb5' hb4
    cases x2 with
    | true=>
     go_wp2_with fail
     go_meet
     exact ⟨by rw[HLC.out];rfl,hb5⟩
    | false=>
    obtain ⟨⟨c0,c1,c2,c3,c4,c5⟩,⟨c6,c7,c8,c9,c10⟩,lb⟩:=HKc.out w5 hb5;go_wp2_with fail;refine (HCV.out w5).mono ?_;rintro e w6 ⟨rfl,rfl⟩
    cases x3 with
    | false=>
     go_wp2_with fail
     go_meet
     exact ⟨by rw[HLC.out];rfl,hb5⟩
    | true=>
    cases x4 with
    | true=>
     go_wp2_with fail
     go_meet
     exact ⟨by rw[HLC.out];rfl,hb5⟩
    | false=>
    cases x5 with
    | true=>
     go_wp2_with fail
     go_meet
     exact ⟨by rw[HLC.out];rfl,hb5⟩
    | false=>
    cases x6 with
    | true=>
     go_wp2_with fail
     go_meet
     exact ⟨by rw[HLC.out];rfl,hb5⟩
    | false=>
    go_wp2_with fail;refine (HCF.out w6 (HBW.out w6 hb5)).mono ?_;rintro e w7 ⟨rfl,hb7'⟩;have hb7:=hb5.trans (hb7'.mono hb5.size);clear c0 c1 c2 c3 c4 c5 c6 c7 c8 c9 c10 lb hb7' hb5;obtain ⟨⟨c0,c1,c2,c3,c4,c5⟩,⟨c6,c7,c8,c9,c10⟩,lb⟩:=HKc.out w7 hb7
    cases x7 with
    | true=>
     go_wp2_with fail
     go_meet
     exact ⟨by rw[HLC.out];rfl,hb7⟩
    | false=>
    cases x8 with
    | true=>
     go_wp2_with fail
     go_meet
     exact ⟨by rw[HLC.out];rfl,hb7⟩
    | false=>
    cases x9 with
    | true=>
     go_wp2_with fail
     go_meet
     exact ⟨by rw[HLC.out];rfl,hb7⟩
    | false=>
    cases x10 with
    | false=>
     go_wp2_with fail
     go_meet
     exact ⟨by rw[HLC.out];rfl,hb7⟩
    | true=>
    cases x11 with
    | false=>
     go_wp2_with fail
     go_meet
     exact ⟨by rw[HLC.out];rfl,hb7⟩
    | true=>
     go_wp2_with fail
     go_meet
     exact ⟨by rw[HLC.out];rfl,hb7⟩
   case rest=>
    obtain ⟨rfl,hbx⟩:=hcut;obtain ⟨w7,hw7⟩:∃V:World,V=wc:=⟨_,rfl⟩;rw[<-hw7]at hbx|-;clear hw7;have H5:=Lib.hid (And.intro (H3.out.1.trans (hbx.mono H3.out.1.size)) ((hbx.block _ (Array.getElem?_eq_some_iff.1 H3.out.2.2).1).trans H3.out.2.2));have HM5:=Lib.hid ((hbx.block _ (Array.getElem?_eq_some_iff.1 HM3.out).1).trans HM3.out);have HD5:=Lib.hid (HD3.out.trans (hbx.mono HD3.out.size));obtain ⟨m0,m1⟩:w7.cell? ⟨w2.heap.size,0,none⟩=some (.slice Ae ne ce)/\w7.cell? ⟨w2.heap.size,1,none⟩=some (.slice Aa na ca):=by constructor <;> (rw[cell_of_row _ _ _ _ _ _ HM5.out]; rfl)
    have lm:w2.heap.size<w7.heap.size:=(Array.getElem?_eq_some_iff.1 HM5.out).1;have hR7:=H5.out.2;obtain ⟨r0,r1⟩:w7.cell? ⟨w.heap.size+1,0,none⟩=some (.slice none 0 0)/\w7.cell? ⟨w.heap.size+1,1,none⟩=some (.slice none 0 0):=by constructor <;> (rw[cell_of_row _ _ _ _ _ _ hR7]; rfl)
    have lr:w.heap.size+1<w7.heap.size:=(Array.getElem?_eq_some_iff.1 hR7).1;have fr0:w7.frozen? ⟨w.heap.size+1,0,none⟩=false:=by simp[World.frozen?,hR7]
    have fr1:w7.frozen? ⟨w.heap.size+1,1,none⟩=false:=by simp[World.frozen?,hR7]
    obtain ⟨q,hq⟩:∃q,LcOK k=q:=⟨_,rfl⟩;rw[hq];have HQ:=Lib.hid hq;clear hR7 hq hbx
    apply_assumption
    cases q with
    | false=>
     go_wp2_with fail;refine zAD λWf hWf=>?_;refine bodyPost_ret (v:=.tuple #[.agg #[.slice none 0 0, .slice none 0 0], .int .i64 2]) (by rw[hWf];simp[results,Tryz.results60,go_sem,r0,r1,lr];try rfl) rfl ?_
     refine ⟨?_,2,m, .inr ⟨HBN.out,0,HCM.out, .inr ⟨rfl,by rw[HQ.out];rfl⟩⟩, .inl ⟨by decide,rfl⟩⟩
     rw[hWf];exact zDH _ _ _ H5.out.1 (by omega)
    | true=>
     go_wp2_with fail;refine zAD λWf hWf=>?_;refine bodyPost_ret (v:=.tuple #[.agg #[.slice Ae ne ce, .slice Aa na ca], .int .i64 0]) (by rw[hWf];simp[results,Tryz.results60,go_sem,r0,r1,lr];try rfl) rfl ?_
     have hkl:KeepF [w.heap.size+1] [] w7 Wf:=by rw[hWf];exact zIZ _ _ _ _
     have hz1:=(Array.getElem?_eq_some_iff.1 H1.out.2.2).1;refine ⟨?_,0,m, .inr ⟨HBN.out,0,HCM.out, .inr ⟨rfl,by rw[HQ.out];rfl⟩⟩, .inr ⟨rfl,_,rfl,((HU.out.later HD5.out).keep hkl (λk hk=>by rw[List.mem_singleton]at hk;omega)).mono H1.out.1.size⟩⟩
     rw[hWf];exact zDH _ _ _ H5.out.1 (by omega)
structure M2 where
 a1:Option Addr
 n1:Nat
 c1:Nat
 a2:Option Addr
 n2:Nat
 c2:Nat
def M2.val (x:M2):Value:=.agg #[.slice x.a1 x.n1 x.c1, .slice x.a2 x.n2 x.c2]
def zNM (x:M2):List Value:=[.slice x.a1 x.n1 x.c1, .slice x.a2 x.n2 x.c2]
def McBt (B H:Nat) (w:World) (v:Value) (m:Mc):Prop:=∀W:World,(W.os=w.os/\W.tape=w.tape/\W.output=w.output)->w.heap.size<=W.heap.size->(∀k,B<=k->k<H->W.heap[k]?=w.heap[k]?)->McIn W v m
def MsOK (w:World) (v:Value) (os:List M2) (ms:List Mc):Prop:=os.length=ms.length/\∀j (h1:j<os.length) (h2:j<ms.length),∃B H,McBt B H w os[j].val ms[j]/\H<=w.heap.size/\∀g,v.ownBlock=some g->g<B\/H<=g
def dupF (l:List Kn):Bool:=(List.range l.length).any λi=>(l.take i).any λo=>decide (some o.nm=(l[i]?).map Kn.nm)
def LaA (ks:List Kn) (er:Int) (ms:List Mc):Prop:=
 ((ks.length<1\/32<ks.length)/\er=3)\/
 ((1<=ks.length/\ks.length<=32)/\((∃i,∃h:i<ks.length,(∀j (hj:j<i),∃m,LcA (ks[j]'(by omega)) 0 m)/\(∃m,LcA ks[i] er m)/\er≠0)\/
  (ms.length=ks.length/\(∀i (h1:i<ks.length) (h2:i<ms.length),LcA ks[i] 0 ms[i])/\er=if dupF ks then 7 else 0)))
def zNf (ks:List Kn) (w:World) (e:Ending) (w':World):Prop:=Below w.heap.size w w'/\∃er ms,LaA ks er ms/\((er≠0/\e = .returned (.tuple #[.slice none 0 0, .int .i64 er]))\/
 (er=0/\∃v os,e = .returned (.tuple #[v, .int .i64 0])/\OR 73 2 zNM w.heap.size v os w'/\os.length=ks.length/\∀i (h1:i<os.length) (h2:i<ms.length),McIn w' os[i].val ms[i]))
end Go.Proofs.YtadjdkickjjieaaGreatDoor
