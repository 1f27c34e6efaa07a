/- Walks. -/
import Derived.Test.YtdmoogjddmdmbaaGreatDoorV26
import Derived.Test.YtdmoogjddmdmbaaGreatDoorV27
import Derived.Deep.CutRange
set_option maxRecDepth 100000
set_option maxHeartbeats 16000000
set_option linter.unusedVariables false
set_option linter.unusedSimpArgs false
namespace Go.Proofs.YtdmoogjddmdmbaaGreatDoor
open Go.RowKit
section
set_option linter.unusedVariables false
set_option linter.unusedSimpArgs false
open Go.RowKit
theorem Xi (args:Array Value) (w:World):(callFunc 110 args).run Tryz.prog w = .ok (.enter 110 args) w:=by rfl
theorem Xj (l:List ByteArray):(l.any λs=>!sH s)=!l.all sH:=by
 induction l with
 | nil=>rfl
 | cons a r ih=>simp[ih]
theorem Hc (b:Nat) (x y:Value) (W:World):ah [b] [] W ((W.setCell ⟨b,0,none⟩ x).setCell ⟨b,1,none⟩ y):=by
 have hne:∀k,k∉[b]->k≠b:=λk hn e=>hn (List.mem_singleton.2 e);exact ⟨rfl,rfl,rfl,by simp[World.setCell],λk _ hn=>(Below.heap_setCell (W.setCell ⟨b,0,none⟩ x) ⟨b,1,none⟩ _ k (hne k hn)).trans (Below.heap_setCell W ⟨b,0,none⟩ _ k (hne k hn)),λk hk=>by cases hk⟩
theorem qq {w W:World} (b:Nat) (x y:Value) (hb:Below w.heap.size w W) (h:w.heap.size<=b):Below w.heap.size w ((W.setCell ⟨b,0,none⟩ x).setCell ⟨b,1,none⟩ y):=
 hb.trans ((Hc b x y W).below (λk hk=>by rw[List.mem_singleton]at hk;omega) hb.size)
theorem Xk (k:Kn) (n3:Nat) (hn:n3=k.ws.length):zG k=(!decide ((bw k.pat:Int)<1) && (!decide (256<(aN k.pat:Int)) && ((decide (0<=k.ck) && decide (k.ck<=4)) && (!decide (k.en<0) && (!decide (1073741824<k.en) && (!decide (16<(n3:Int)) && (!(k.ws.any λs=>!sH s) && (!decide (k.nr<0) && (!decide (64<k.nr) && !(((n3:Int) == 0) && (k.nr != 0))))))))))):=by
 subst hn;unfold zG;have e1:decide (1<=bw k.pat)=!decide ((bw k.pat:Int)<1):=by rw[Bool.eq_iff_iff];simp;omega
 have e2:decide (aN k.pat<=256)=!decide (256<(aN k.pat:Int)):=by rw[Bool.eq_iff_iff];simp;omega
 have e4:decide (0<=k.en)=!decide (k.en<0):=by rw[Bool.eq_iff_iff];simp
 have e5:decide (k.en<=1073741824)=!decide (1073741824<k.en):=by rw[Bool.eq_iff_iff];simp
 have e6:decide (k.ws.length<=16)=!decide (16<(k.ws.length:Int)):=by rw[Bool.eq_iff_iff];simp;omega
 have e8:decide (0<=k.nr)=!decide (k.nr<0):=by rw[Bool.eq_iff_iff];simp
 have e9:decide (k.nr<=64)=!decide (64<k.nr):=by rw[Bool.eq_iff_iff];simp
 have pA:k.ws.isEmpty=((k.ws.length:Int) == 0):=by cases k.ws with
  | nil=>rfl
  | cons a r=>simp;omega
 have tP:decide (k.nr≠0)=(k.nr != 0):=by rw[Bool.eq_iff_iff];simp
 rw[e1,e2,e4,e5,e6,e8,e9,pA,tP,Xj,Bool.not_not]
set_option maxHeartbeats 16000000 in
theorem zK (u:KC) (k:Kn) (w:World) (h:sG w u k) (om:cd w) (iO:k.nm.size<=140737488355328):Calls Tryz.prog 81 #[.agg #[.string u.nm, .int .i64 u.op, .slice u.a1 u.n1 u.c1, .slice u.a2 u.n2 u.c2, .int .i64 u.mn, .int .i64 u.mx, .bool u.wh, .int .i64 u.ck, .int .i64 u.en, .slice u.a3 u.n3 u.c3, .int .i64 u.nr]] w (Xh k w):=by
 have HN:=Lib.hid λW=>Fq u.nm W (by rw[h.nm];exact iO)
 have HC:=Lib.hid λW (hb:Below w.heap.size w W)=>Cj k.pat u.pat W (h.later hb).pat (om.later hb);have HS:=Lib.hid λW (hb:Below w.heap.size w W) (hv:bk k.pat=0)=>Fp k.pat u.pat W (h.later hb).pat hv;have HL:=Lib.hid λW (hb:Below w.heap.size w W) (hv:bk k.pat=0)=>yj k.pat u.pat W (h.later hb).pat hv;have Tk:=Lib.hid λW (hb:Below w.heap.size w W)=>containsS 110 #[] k.ws (λs=>!sH s) (.slice u.a3 u.n3 u.c3) W (h.later hb).ws ⟨Xi,λs _ w' _=>(JP s w').mono λe w'' h=>⟨h.1,h.2▸Below.refl _ _⟩⟩;have HWL:=Lib.hid (And.intro h.ajH (And.intro h.ck (And.intro h.en h.nr)));have DV:bl u.nm=bl k.nm:=by rw[h.nm]
 rw[DV]at HN;clear h om iO DV;obtain ⟨bn,Pr⟩:∃b,uN (bl k.nm)=b:=⟨_,rfl⟩;rw[Pr]at HN;have HBN:=Lib.hid Pr;clear Pr
 go_enter Tryz.func81,Tryz.ntmps81
 go_wp2_with fail;refine dx λW0 ik=>?_;have hb0:Below w.heap.size w W0:=by rw[ik];exact ((Below.refl _ _).alloc (Nat.le_refl _) _).alloc (by simp) _
 have tl:RI u w.heap.size W0:=by rw[ik];exact (au _ _ _ (by simp)).trans (heap_alloc_new w _)
 have KP:W0.heap[w.heap.size+1]?=some (.cells #[.slice none 0 0, .slice none 0 0] 93 (0,0)):=by rw[ik];simpa using heap_alloc_new (w.alloc (.cells #[.string u.nm, .int .i64 u.op, .slice u.a1 u.n1 u.c1, .slice u.a2 u.n2 u.c2, .int .i64 u.mn, .int .i64 u.mx, .bool u.wh, .int .i64 u.ck, .int .i64 u.en, .slice u.a3 u.n3 u.c3, .int .i64 u.nr] 44)) (.cells #[.slice none 0 0, .slice none 0 0] 93)
 have H0:=Lib.hid (And.intro hb0 (And.intro tl KP));clear ik hb0 tl KP;refine (HN.out W0).mono ?_;rintro e w1 ⟨rfl,hb1⟩;have H1:=Lib.hid (And.intro (H0.out.1.trans (hb1.mono H0.out.1.size)) (And.intro (H0.out.2.1.later hb1) ((hb1.block _ (Array.getElem?_eq_some_iff.1 H0.out.2.2).1).trans H0.out.2.2)));clear hb1;obtain ⟨⟨c0,c1,c2,c3,c4,c5⟩,⟨c6,c7,c8,c9,tX⟩,lb⟩:=H1.out.2.1.cells;have PL:=H1.out.2.2;obtain ⟨r0,r1⟩:w1.cell? ⟨w.heap.size+1,0,none⟩=some (.slice none 0 0)/\w1.cell? ⟨w.heap.size+1,1,none⟩=some (.slice none 0 0):=by constructor <;> (rw[cell_of_row _ _ _ _ _ _ PL]; rfl)
 have lr:w.heap.size+1<w1.heap.size:=(Array.getElem?_eq_some_iff.1 PL).1;have RJ:w1.frozen? ⟨w.heap.size+1,0,none⟩=false:=by simp[World.frozen?,PL]
 have sI:w1.frozen? ⟨w.heap.size+1,1,none⟩=false:=by simp[World.frozen?,PL]
 clear PL
 cases bn with
 | false=>
  go_wp2_with fail;refine ar λWf cH=>?_;refine bodyPost_ret (v:=.tuple #[.agg #[.slice none 0 0, .slice none 0 0], .int .i64 4]) (by rw[cH];simp[results,Tryz.results81,go_sem,lr,r0,r1];try rfl) rfl ?_
  refine ⟨?_,4,⟨[],[]⟩, .inl ⟨HBN.out,rfl⟩, .inl ⟨by decide,rfl⟩⟩
  rw[cH];exact qq _ _ _ H1.out.1 (by omega)
 | true=>
  clear r0 r1 lr RJ sI;go_wp2_with fail;refine (HC.out w1 H1.out.1).mono ?_;rintro e w2 eR;obtain ⟨aL,er,m,Bb,eR⟩:=ajJ eR;have H2:=Lib.hid (And.intro (H1.out.1.trans (aL.mono H1.out.1.size)) (And.intro (H1.out.2.1.later aL) ((aL.block _ (Array.getElem?_eq_some_iff.1 H1.out.2.2).1).trans H1.out.2.2)));have HCM:=Lib.hid Bb;clear aL Bb c0 c1 c2 c3 c4 c5 c6 c7 c8 c9 tX lb;rcases eR with ⟨zD,rfl⟩ | ⟨rfl,rv,rfl,vZ⟩
  .unfold iP;have Ro:=Lib.hid zD;have WD:(er == 0)=false:=by simpa using zD
   have WE:(er != 0)=true:=by simpa using zD
   have uh:=H2.out.2.2;obtain ⟨r0,r1⟩:w2.cell? ⟨w.heap.size+1,0,none⟩=some (.slice none 0 0)/\w2.cell? ⟨w.heap.size+1,1,none⟩=some (.slice none 0 0):=by constructor <;> (rw[cell_of_row _ _ _ _ _ _ uh]; rfl)
   have lr:w.heap.size+1<w2.heap.size:=(Array.getElem?_eq_some_iff.1 uh).1;have lr2:w.heap.size+1<w2.heap.size+1:=by omega
   have nr:w.heap.size+1≠w2.heap.size:=by omega
   have RJ:w2.frozen? ⟨w.heap.size+1,0,none⟩=false:=by simp[World.frozen?,uh]
   have sI:w2.frozen? ⟨w.heap.size+1,1,none⟩=false:=by simp[World.frozen?,uh]
   clear uh zD;go_wp2_with fail;refine ar λWf cH=>?_;refine bodyPost_ret (v:=.tuple #[.agg #[.slice none 0 0, .slice none 0 0], .int .i64 er]) (by rw[cH];simp[results,Tryz.results81,go_sem,lr,r0,r1,lr2,nr];try rfl) rfl ?_
   refine ⟨?_,er,m, .inr ⟨HBN.out,er,?_, .inl ⟨Ro.out,rfl⟩⟩, .inl ⟨Ro.out,rfl⟩⟩
   .rw[cH];have hq:=qq (w.heap.size+1) (.slice none 0 0) (.slice none 0 0) H2.out.1 (by omega)
    exact hq.trans (((Below.refl _ _).alloc (Nat.le_refl _) _).mono hq.size)
   .exact HCM.out
  .obtain ⟨ve,va,rfl,he,ha⟩:=id vZ.mc;obtain ⟨Ae,ce,rfl,-⟩:=he.form;obtain ⟨Aa,ca,rfl,-⟩:=ha.form;obtain ⟨ne,hne⟩:∃x,m.ed.length=x:=⟨_,rfl⟩;obtain ⟨na,T3⟩:∃x,m.ac.length=x:=⟨_,rfl⟩;rw[hne,T3]at vZ|-;have HU:=Lib.hid vZ;clear vZ he ha hne T3;obtain ⟨⟨c0,c1,c2,c3,c4,c5⟩,⟨c6,c7,c8,c9,tX⟩,lb⟩:=H2.out.2.1.cells;have lb2:w.heap.size<w2.heap.size+1:=by omega
   have nb:w.heap.size≠w2.heap.size:=by omega
   have hvz:=HCM.out.good.2
   go_upto_region 7 with fail
   refine dN λW3 Bi=>?_;have dc:Below w2.heap.size w2 W3:=by rw[Bi];exact (Below.refl _ _).alloc (Nat.le_refl _) _
   have hM3:W3.heap[w2.heap.size]?=some (.cells #[.slice Ae ne ce, .slice Aa na ca] 93 (0,0)):=by rw[Bi];exact heap_alloc_new w2 _
   have HM3:=Lib.hid hM3;have HD3:=Lib.hid dc;have H3:=Lib.hid (And.intro (H2.out.1.trans (dc.mono H2.out.1.size)) (And.intro (H2.out.2.1.later dc) ((dc.block _ (Array.getElem?_eq_some_iff.1 H2.out.2.2).1).trans H2.out.2.2)));clear dc Bi hM3 c0 c1 c2 c3 c4 c5 c6 c7 c8 c9 tX lb lb2 nb
   go_cut [80] from 7 to 83 (λv wx=>v = .bool (!zG k)/\Below W3.heap.size W3 wx)
   case first=>
    have NL:=Xk k u.n3 HWL.out.1.1;obtain ⟨x1,jB⟩:∃x,decide ((bw k.pat:Int)<1)=x:=⟨_,rfl⟩;obtain ⟨x2,iK⟩:∃x,decide (256<(aN k.pat:Int))=x:=⟨_,rfl⟩;obtain ⟨x3,Xl⟩:∃x,(decide (0<=k.ck) && decide (k.ck<=4))=x:=⟨_,rfl⟩;obtain ⟨x4,ZV⟩:∃x,decide (k.en<0)=x:=⟨_,rfl⟩;obtain ⟨x5,hx5⟩:∃x,decide (1073741824<k.en)=x:=⟨_,rfl⟩;obtain ⟨x6,hx6⟩:∃x,decide (16<(u.n3:Int))=x:=⟨_,rfl⟩;obtain ⟨x7,hx7⟩:∃x,(k.ws.any λs=>!sH s)=x:=⟨_,rfl⟩;obtain ⟨x8,hx8⟩:∃x,decide (k.nr<0)=x:=⟨_,rfl⟩;obtain ⟨x9,hx9⟩:∃x,decide (64<k.nr)=x:=⟨_,rfl⟩;obtain ⟨WS,ajL⟩:∃x,((u.n3:Int) == 0)=x:=⟨_,rfl⟩;obtain ⟨x11,ac1⟩:∃x,(k.nr != 0)=x:=⟨_,rfl⟩;rw[jB,iK,Xl,ZV,hx5,hx6,hx7,hx8,hx9,ajL,ac1]at NL;have Lm:=Lib.hid NL;have ac2:(decide (0<=u.ck) && decide (u.ck<=4))=x3:=by rw[HWL.out.2.1];exact Xl
    have HCV:=Lib.hid λW=>by have h:=zN u.ck W;rw[ac2]at h;exact h
    rw[hx7]at Tk;rw[<-HWL.out.2.2.1]at ZV hx5;rw[<-HWL.out.2.2.2]at hx8 hx9 ac1;clear NL Xl ac2 hx7;have HKc:=Lib.hid λW (hb:Below W3.heap.size W3 W)=>(H3.out.2.1.later hb).cells;have bI:=Lib.hid λW (hb:Below W3.heap.size W3 W)=>H3.out.1.trans (hb.mono H3.out.1.size);obtain ⟨⟨c0,c1,c2,c3,c4,c5⟩,⟨c6,c7,c8,c9,tX⟩,lb⟩:=H3.out.2.1.cells;go_wp2_with fail;refine (HS.out W3 H3.out.1 hvz).mono ?_;rintro e w4 ⟨rfl,ox⟩;clear c0 c1 c2 c3 c4 c5 c6 c7 c8 c9 tX lb
    cases x1 with
    | true=>
     go_wp2_with fail
     go_meet
     exact ⟨by rw[Lm.out];rfl,ox⟩
    | false=>
    obtain ⟨⟨c0,c1,c2,c3,c4,c5⟩,⟨c6,c7,c8,c9,tX⟩,lb⟩:=HKc.out w4 ox;go_wp2_with fail;refine (HL.out w4 (bI.out w4 ox) hvz).mono ?_;rintro e w5 ⟨rfl,ac3⟩;have gH:=ox.trans (ac3.mono ox.size);clear c0 c1 c2 c3 c4 c5 c6 c7 c8 c9 tX lb ac3 ox
    cases x2 with
    | true=>
     go_wp2_with fail
     go_meet
     exact ⟨by rw[Lm.out];rfl,gH⟩
    | false=>
    obtain ⟨⟨c0,c1,c2,c3,c4,c5⟩,⟨c6,c7,c8,c9,tX⟩,lb⟩:=HKc.out w5 gH;go_wp2_with fail;refine (HCV.out w5).mono ?_;rintro e w6 ⟨rfl,rfl⟩
    cases x3 with
    | false=>
     go_wp2_with fail
     go_meet
     exact ⟨by rw[Lm.out];rfl,gH⟩
    | true=>
    cases x4 with
    | true=>
     go_wp2_with fail
     go_meet
     exact ⟨by rw[Lm.out];rfl,gH⟩
    | false=>
    cases x5 with
    | true=>
     go_wp2_with fail
     go_meet
     exact ⟨by rw[Lm.out];rfl,gH⟩
    | false=>
    cases x6 with
    | true=>
     go_wp2_with fail
     go_meet
     exact ⟨by rw[Lm.out];rfl,gH⟩
    | false=>
    go_wp2_with fail;refine (Tk.out w6 (bI.out w6 gH)).mono ?_;rintro e w7 ⟨rfl,ac4⟩;have qs:=gH.trans (ac4.mono gH.size);clear c0 c1 c2 c3 c4 c5 c6 c7 c8 c9 tX lb ac4 gH;obtain ⟨⟨c0,c1,c2,c3,c4,c5⟩,⟨c6,c7,c8,c9,tX⟩,lb⟩:=HKc.out w7 qs
    cases x7 with
    | true=>
     go_wp2_with fail
     go_meet
     exact ⟨by rw[Lm.out];rfl,qs⟩
    | false=>
    cases x8 with
    | true=>
     go_wp2_with fail
     go_meet
     exact ⟨by rw[Lm.out];rfl,qs⟩
    | false=>
    cases x9 with
    | true=>
     go_wp2_with fail
     go_meet
     exact ⟨by rw[Lm.out];rfl,qs⟩
    | false=>
    cases WS with
    | false=>
     go_wp2_with fail
     go_meet
     exact ⟨by rw[Lm.out];rfl,qs⟩
    | true=>
    cases x11 with
    | false=>
     go_wp2_with fail
     go_meet
     exact ⟨by rw[Lm.out];rfl,qs⟩
    | true=>
     go_wp2_with fail
     go_meet
     exact ⟨by rw[Lm.out];rfl,qs⟩
   case rest=>
    obtain ⟨rfl,gU⟩:=hcut;obtain ⟨w7,hw7⟩:∃V:World,V=wc:=⟨_,rfl⟩;rw[<-hw7]at gU|-;clear hw7;have H5:=Lib.hid (And.intro (H3.out.1.trans (gU.mono H3.out.1.size)) ((gU.block _ (Array.getElem?_eq_some_iff.1 H3.out.2.2).1).trans H3.out.2.2));have HM5:=Lib.hid ((gU.block _ (Array.getElem?_eq_some_iff.1 HM3.out).1).trans HM3.out);have HD5:=Lib.hid (HD3.out.trans (gU.mono HD3.out.size));obtain ⟨m0,m1⟩:w7.cell? ⟨w2.heap.size,0,none⟩=some (.slice Ae ne ce)/\w7.cell? ⟨w2.heap.size,1,none⟩=some (.slice Aa na ca):=by constructor <;> (rw[cell_of_row _ _ _ _ _ _ HM5.out]; rfl)
    have lm:w2.heap.size<w7.heap.size:=(Array.getElem?_eq_some_iff.1 HM5.out).1;have hR7:=H5.out.2;obtain ⟨r0,r1⟩:w7.cell? ⟨w.heap.size+1,0,none⟩=some (.slice none 0 0)/\w7.cell? ⟨w.heap.size+1,1,none⟩=some (.slice none 0 0):=by constructor <;> (rw[cell_of_row _ _ _ _ _ _ hR7]; rfl)
    have lr:w.heap.size+1<w7.heap.size:=(Array.getElem?_eq_some_iff.1 hR7).1;have RJ:w7.frozen? ⟨w.heap.size+1,0,none⟩=false:=by simp[World.frozen?,hR7]
    have sI:w7.frozen? ⟨w.heap.size+1,1,none⟩=false:=by simp[World.frozen?,hR7]
    obtain ⟨q,hq⟩:∃q,zG k=q:=⟨_,rfl⟩;rw[hq];have HQ:=Lib.hid hq;clear hR7 hq gU
    apply_assumption
    cases q with
    | false=>
     go_wp2_with fail;refine ar λWf cH=>?_;refine bodyPost_ret (v:=.tuple #[.agg #[.slice none 0 0, .slice none 0 0], .int .i64 2]) (by rw[cH];simp[results,Tryz.results81,go_sem,r0,r1,lr];try rfl) rfl ?_
     refine ⟨?_,2,m, .inr ⟨HBN.out,0,HCM.out, .inr ⟨rfl,by rw[HQ.out];rfl⟩⟩, .inl ⟨by decide,rfl⟩⟩
     rw[cH];exact qq _ _ _ H5.out.1 (by omega)
    | true=>
     go_wp2_with fail;refine ar λWf cH=>?_;refine bodyPost_ret (v:=.tuple #[.agg #[.slice Ae ne ce, .slice Aa na ca], .int .i64 0]) (by rw[cH];simp[results,Tryz.results81,go_sem,r0,r1,lr];try rfl) rfl ?_
     have di:ah [w.heap.size+1] [] w7 Wf:=by rw[cH];exact Hc _ _ _ _
     have hz1:=(Array.getElem?_eq_some_iff.1 H1.out.2.2).1;refine ⟨?_,0,m, .inr ⟨HBN.out,0,HCM.out, .inr ⟨rfl,by rw[HQ.out];rfl⟩⟩, .inr ⟨rfl,_,rfl,((HU.out.later HD5.out).keep di (λk hk=>by rw[List.mem_singleton]at hk;omega)).mono H1.out.1.size⟩⟩
     rw[cH];exact qq _ _ _ H5.out.1 (by omega)
end
section
set_option linter.unusedVariables false
set_option linter.unusedSimpArgs false
open Go.RowKit
structure M2 where
 a1:Option Addr
 n1:Nat
 c1:Nat
 a2:Option Addr
 n2:Nat
 c2:Nat
def M2.val (x:M2):Value:=.agg #[.slice x.a1 x.n1 x.c1, .slice x.a2 x.n2 x.c2]
def uV (x:M2):List Value:=[.slice x.a1 x.n1 x.c1, .slice x.a2 x.n2 x.c2]
theorem Rq:jg uV 2:=⟨by decide,λ_=>rfl,λx u hu=>by
 simp only[uV,List.mem_cons,List.not_mem_nil,or_false]at hu;rcases hu with rfl | rfl <;> rfl⟩
def Fo (B H:Nat) (w:World) (v:Value) (m:Mc):Prop:=∀W:World,(W.os=w.os/\W.tape=w.tape/\W.output=w.output)->w.heap.size<=W.heap.size->(∀k,B<=k->k<H->W.heap[k]?=w.heap[k]?)->ia W v m
theorem j0.bt {B:Nat} {w:World} {v:Value} {m:Mc} (h:j0 B w v m):Fo B w.heap.size w v m:=λW ho hs hk=>h W ⟨ho.1,ho.2.1,ho.2.2,hs,λk h1 hn=>hk k (by simpa using hn) h1,λk hk=>by cases hk⟩
theorem Fo.to {B H:Nat} {w w':World} {v:Value} {m:Mc} (h:Fo B H w v m) (ho:w'.os=w.os/\w'.tape=w.tape/\w'.output=w.output) (hs:w.heap.size<=w'.heap.size) (hk:∀k,B<=k->k<H->w'.heap[k]?=w.heap[k]?):Fo B H w' v m:=λW wG xu bM=>
 h W ⟨wG.1.trans ho.1,wG.2.1.trans ho.2.1,wG.2.2.trans ho.2.2⟩ (Nat.le_trans hs xu) λk h1 h2=>(bM k h1 h2).trans (hk k h1 h2)
theorem Fo.mc {B H:Nat} {w:World} {v:Value} {m:Mc} (h:Fo B H w v m):ia w v m:=h w ⟨rfl,rfl,rfl⟩ (Nat.le_refl _) λ_ _ _=>rfl
def uW (w:World) (v:Value) (os:List M2) (ms:List Mc):Prop:=os.length=ms.length/\∀j (h1:j<os.length) (h2:j<ms.length),∃B H,Fo B H w os[j].val ms[j]/\H<=w.heap.size/\∀g,v.ownBlock=some g->g<B\/H<=g
theorem uW.ic (w:World) (v:Value):uW w v [] []:=⟨rfl,λj h1=>by cases h1⟩
theorem uW.later {w w':World} {v:Value} {os:List M2} {ms:List Mc} (h:uW w v os ms) (hb:Below w.heap.size w w'):uW w' v os ms:=by
 refine ⟨h.1,λj h1 h2=>?_⟩;obtain ⟨B,H,q1,q2,q3⟩:=h.2 j h1 h2;exact ⟨B,H,q1.to ⟨hb.os,hb.tape,hb.output⟩ hb.size λk _ hk=>hb.block k (by omega),Nat.le_trans q2 hb.size,q3⟩
theorem uW.app {w1 w2 w3 w4:World} {v v':Value} {os:List M2} {ms:List Mc} {x:M2} {m:Mc} {N:Nat} (h:uW w1 v os ms) (vZ:j0 N w2 x.val m) (hN:w1.heap.size<=N) (oQ:Below w1.heap.size w1 w2) (jk:Below w2.heap.size w2 w3) (hg:w3.grownBy w4 v.ownBlock) (hv:∀g,v.ownBlock=some g->g<w1.heap.size) (hf:v'.ownBlock=v.ownBlock\/∃g,v'.ownBlock=some g/\w3.heap.size<=g):uW w4 v' (os++[x]) (ms++[m]):=by
 have oR:Below w1.heap.size w1 w3:=oQ.trans (jk.mono oQ.size);have h13:=h.later oR;refine ⟨by simp[h.1],λj h1 h2=>?_⟩
 have s4:=hg.size;by_cases hj:j<os.length
 .have pS:j<ms.length:=by have:=h.1;omega
  rw[List.getElem_append_left hj,List.getElem_append_left pS];obtain ⟨B,H,q1,q2,q3⟩:=h13.2 j hj pS;refine ⟨B,H,q1.to ⟨hg.os,hg.tape,hg.output⟩ s4 λk gY bM=>hg.block k (by omega) (λe=>by rcases q3 k e.symm with h | h <;> omega),by omega,λg e=>?_⟩
  rcases hf with hf | ⟨g',hf,xA⟩
  .exact q3 g (hf▸e)
  .rw[hf]at e;injection e with e;omega
 .have hj':j=os.length:=by simp at h1;omega
  subst hj';rw[List.getElem_append_right (Nat.le_refl _),List.getElem_append_right (by have:=h.1;omega)]
  simp only[Nat.sub_self,h.1,List.getElem_cons_zero];have Ld:=vZ.bt.to ⟨jk.os,jk.tape,jk.output⟩ jk.size λk _ hk=>jk.block k hk;have s23:=jk.size;refine ⟨N,w2.heap.size,Ld.to ⟨hg.os,hg.tape,hg.output⟩ s4 λk gY bM=>hg.block k (by omega) (λe=>by have:=hv k e.symm;omega),by omega,λg e=>?_⟩
  rcases hf with hf | ⟨g',hf,xA⟩
  .left;have:=hv g (hf▸e);omega
  .rw[hf]at e;injection e with e;omega
def zH (l:List Kn):Bool:=(List.range l.length).any λi=>(l.take i).any λo=>decide (some o.nm=(l[i]?).map Kn.nm)
def lT (ks:List Kn) (er:Int) (ms:List Mc):Prop:=
 ((ks.length<1\/32<ks.length)/\er=3)\/
 ((1<=ks.length/\ks.length<=32)/\((∃i,∃h:i<ks.length,(∀j (hj:j<i),∃m,Nt (ks[j]'(by omega)) 0 m)/\(∃m,Nt ks[i] er m)/\er≠0)\/
  (ms.length=ks.length/\(∀i (h1:i<ks.length) (h2:i<ms.length),Nt ks[i] 0 ms[i])/\er=if zH ks then 7 else 0)))
def Xf (ks:List Kn) (w:World) (e:Ending) (w':World):Prop:=Below w.heap.size w w'/\∃er ms,lT ks er ms/\((er≠0/\e = .returned (.tuple #[.slice none 0 0, .int .i64 er]))\/
 (er=0/\∃v os,e = .returned (.tuple #[v, .int .i64 0])/\OR 93 2 uV w.heap.size v os w'/\os.length=ks.length/\∀i (h1:i<os.length) (h2:i<ms.length),ia w' os[i].val ms[i]))
theorem JN:(Tryz.prog.info? 93).map (λi=>(i.zero,i.size,i.bytes))=some (some (.agg #[.slice none 0 0, .slice none 0 0]),2,48):=by kernel_rfl
theorem gA {w:World} {g f i:Nat} {u:KC} (h:∀j,j<11->w.cell? ⟨g,f+i*11+j,none⟩=u.cs[j]?):(w.cell? ⟨g,f+i*11,none⟩=some (.string u.nm)/\w.cell? ⟨g,f+i*11+1,none⟩=some (.int .i64 u.op)/\w.cell? ⟨g,f+i*11+2,none⟩=some (.slice u.a1 u.n1 u.c1)/\w.cell? ⟨g,f+i*11+3,none⟩=some (.slice u.a2 u.n2 u.c2)/\w.cell? ⟨g,f+i*11+4,none⟩=some (.int .i64 u.mn)/\w.cell? ⟨g,f+i*11+5,none⟩=some (.int .i64 u.mx))/\(w.cell? ⟨g,f+i*11+6,none⟩=some (.bool u.wh)/\w.cell? ⟨g,f+i*11+7,none⟩=some (.int .i64 u.ck)/\w.cell? ⟨g,f+i*11+8,none⟩=some (.int .i64 u.en)/\w.cell? ⟨g,f+i*11+9,none⟩=some (.slice u.a3 u.n3 u.c3)/\w.cell? ⟨g,f+i*11+10,none⟩=some (.int .i64 u.nr)):=
 ⟨⟨h 0 (by decide),h 1 (by decide),h 2 (by decide),h 3 (by decide),h 4 (by decide),h 5 (by decide)⟩,h 6 (by decide),h 7 (by decide),h 8 (by decide),h 9 (by decide),h 10 (by decide)⟩
theorem JO (o:KC) (b:Nat) (s:ByteArray) (w:World) (h:w.cell? ⟨b,0,none⟩=some (.string s)):Calls Tryz.prog 83 #[.agg #[.string o.nm, .int .i64 o.op, .slice o.a1 o.n1 o.c1, .slice o.a2 o.n2 o.c2, .int .i64 o.mn, .int .i64 o.mx, .bool o.wh, .int .i64 o.ck, .int .i64 o.en, .slice o.a3 o.n3 o.c3, .int .i64 o.nr], .pointer (some ⟨b,0,none⟩)] w λe w'=>e = .returned (.bool (decide (o.nm=s)))/\Below w.heap.size w w':=by
 have hb:=World.block_lt_of_cell? w _ h;have hb1:b<w.heap.size+1:=by have:b<w.heap.size:=hb;omega
 have aL:b≠w.heap.size:=by have:b<w.heap.size:=hb;omega
 have dc:b<w.heap.size:=hb
 go_enter Tryz.func83,Tryz.ntmps83
 go_wp2_with fail;go_ret;refine ⟨aj ?_,(Below.refl _ _).alloc (Nat.le_refl _) _⟩;rw[Bool.eq_iff_iff,beq_iff_eq,decide_eq_true_eq,nw,nw];exact ⟨λh=>NK h,λh=>by rw[h]⟩
theorem Xg (args:Array Value) (w:World):(callFunc 83 args).run Tryz.prog w = .ok (.enter 83 args) w:=by rfl
set_option maxHeartbeats 16000000 in
theorem CG (A:Option Addr) (n c:Nat) (us:List KC) (ks:List Kn) (w:World) (h:fu w (.slice A n c) us ks) (om:cd w) (iO:∀k∈ks,k.nm.size<=140737488355328):Calls Tryz.prog 55 #[.slice A n c] w (Xf ks w):=by
 obtain ⟨hl,A',c',e0,hc,eA,hkn⟩:=id h;injection e0 with e1 e2 e3;subst e1 e2 e3;obtain ⟨n,hn⟩:∃n,us.length=n:=⟨_,rfl⟩;have di:ks.length=n:=by omega
 rw[hn]at hc|-;have HC:=Lib.hid λ(i:Nat) (h1:i<n) (h2:i<us.length) (h3:i<ks.length) (W:World) (hb:Below w.heap.size w W)=>zK us[i] ks[i] W ((hkn i h2 h3).later hb) (om.later hb) (iO _ (List.getElem_mem h3));have HO:=Lib.hid eA;have HN:=Lib.hid (And.intro hn (And.intro di hc));have pH:=Lib.hid λ(i:Nat) (h2:i<us.length) (h3:i<ks.length)=>(hkn i h2 h3).nm;clear h om iO hl hc eA hkn hn di;by_cases h1:n<1
 .have d1:decide ((n:Int)<1)=true:=decide_eq_true (by omega)
  go_enter Tryz.func55,Tryz.ntmps55
  go_wp2_with fail
  go_ret2
  exact ⟨Below.refl _ _,3,[], .inl ⟨.inl (by have:=HN.out.2.1;omega),rfl⟩, .inl ⟨by decide,rfl⟩⟩
 have d1:decide ((n:Int)<1)=false:=decide_eq_false (by omega)
 by_cases h2:32<n
 .have d2:decide (32<(n:Int))=true:=decide_eq_true (by omega)
  go_enter Tryz.func55,Tryz.ntmps55
  go_wp2_with fail
  go_ret2
  exact ⟨Below.refl _ _,3,[], .inl ⟨.inr (by have:=HN.out.2.1;omega),rfl⟩, .inl ⟨by decide,rfl⟩⟩
 have d2:decide (32<(n:Int))=false:=decide_eq_false (by omega)
 go_enter Tryz.func55,Tryz.ntmps55
 go_wp2_with fail
 go_loopw [4,21] (λv i wr=>∃(k:Nat) (os:List M2) (ms:List Mc),k<=n/\i = .int .i64 (k:Int)/\OR 93 2 uV w.heap.size v os wr/\os.length=k/\Hid (uW wr v os ms/\∀j (h1:j<ks.length) (h2:j<ms.length),Nt ks[j] 0 ms[j])/\Below w.heap.size w wr) (λ_ i _=>n - (intOf i).toNat)
 case atStart=>exact ⟨0,[],[],by omega,rfl,OR.ic _ _ _,rfl,⟨uW.ic _ _,λj _ h2=>by cases h2⟩,Below.refl _ _⟩
 case round=>
  obtain ⟨k,os,ms,hk,rfl,hown,px,HI,aP⟩:=hrel;by_cases hlt:k<n
  .have hd:decide ((k:Int)<(n:Int))=true:=decide_eq_true (by omega)
   have iI:decide (k<n)=true:=decide_eq_true hlt;have zE:k<us.length:=by have:=HN.out.1;omega
   have hkk:k<ks.length:=by have:=HN.out.2.1;omega
   obtain ⟨g,f,rfl,hg,bD⟩:=HO.out.resolve_left (by rintro rfl;cases zE)
   obtain ⟨u,hu⟩:∃u,us[k]=u:=⟨_,rfl⟩;have ji:=λj hj=>(aP.cell (p:=⟨g,f+k*11+j,none⟩) hg).trans (bD k zE j hj);have CC:=Lib.hid (HC.out k hlt zE hkk);rw[hu]at ji CC;obtain ⟨⟨q0,q1,q2,q3,q4,q5⟩,q6,q7,q8,q9,CE⟩:=gA ji;have oC:g<wr.heap.size:=Nat.lt_of_lt_of_le hg aP.size;have H1:=Lib.hid (And.intro hown (And.intro px aP));clear hown px aP bD ji hu;go_wp2_with fail;refine dx λW0 ik=>?_;have hb0:Below wr.heap.size wr W0:=by rw[ik];exact (Below.refl _ _).alloc (Nat.le_refl _) _
   have nO:=Lib.hid hb0;clear ik hb0 q0 q1 q2 q3 q4 q5 q6 q7 q8 q9 CE oC;refine (CC.out W0 (H1.out.2.2.trans (nO.out.mono H1.out.2.2.size))).mono ?_;rintro e w1 ⟨hb1,er,m,NL,eR⟩;have HL:=Lib.hid NL;have bH:=Lib.hid hb1;clear NL hb1;rcases eR with ⟨zD,rfl⟩ | ⟨rfl,rv,rfl,vZ⟩
   .unfold iP;have Ro:=Lib.hid zD;have WD:(er == 0)=false:=by simpa using zD
    have WE:(er != 0)=true:=by simpa using zD
    clear zD;go_wp2_with fail
    go_ret2
    refine ⟨H1.out.2.2.trans (((nO.out.trans (bH.out.mono nO.out.size)).trans (((Below.refl _ _).alloc (Nat.le_refl _) _).mono (Nat.le_trans nO.out.size bH.out.size))).mono H1.out.2.2.size),er,[], .inr ⟨⟨by have:=HN.out.2.1;omega,by have:=HN.out.2.1;omega⟩, .inl ⟨k,by have:=HN.out.2.1;omega,λj hj=>?_,⟨m,HL.out⟩,Ro.out⟩⟩, .inl ⟨Ro.out,rfl⟩⟩
    have pS:j<ms.length:=by have:=HI.out.1.1;have:=H1.out.2.1;omega
    exact ⟨ms[j],HI.out.2 j (by have:=HN.out.2.1;omega) pS⟩
   .obtain ⟨ve,va,rfl,he,ha⟩:=id vZ.mc;obtain ⟨Ae,ce,rfl,-⟩:=he.form;obtain ⟨Aa,ca,rfl,-⟩:=ha.form;obtain ⟨ne,hne⟩:∃x,m.ed.length=x:=⟨_,rfl⟩;obtain ⟨na,T3⟩:∃x,m.ac.length=x:=⟨_,rfl⟩;rw[hne,T3]at vZ|-;have HU:=Lib.hid vZ;clear vZ he ha hne T3;obtain ⟨im,him,oq,gY,bM⟩:=info_parts JN
    go_upto_region 10 with fail
    refine dN λW2 iU=>?_;have aL:Below w1.heap.size w1 W2:=by rw[iU];exact (Below.refl _ _).alloc (Nat.le_refl _) _
    have xQ:W2.heap[w1.heap.size]?=some (.cells #[.slice Ae ne ce, .slice Aa na ca] 93 (0,0)):=by rw[iU];exact heap_alloc_new w1 _
    have RH:Below wr.heap.size wr W2:=(nO.out.trans (bH.out.mono nO.out.size)).trans (aL.mono (Nat.le_trans nO.out.size bH.out.size));have m0:W2.cell? ⟨w1.heap.size,0,none⟩=some (.slice Ae ne ce):=by rw[cell_of_row _ _ _ _ _ _ xQ];rfl
    have m1:W2.cell? ⟨w1.heap.size,1,none⟩=some (.slice Aa na ca):=by rw[cell_of_row _ _ _ _ _ _ xQ];rfl
    have lm:w1.heap.size<W2.heap.size:=(Array.getElem?_eq_some_iff.1 xQ).1;have aQ:=World.ownsRow.alloc (bj (show wr.ownsRow _ _ _ _ _ _ from H1.out.1) RH) (.cells #[.slice Ae ne ce, .slice Aa na ca] 93);have mZ:∀j x,[Value.slice Ae ne ce, .slice Aa na ca][j]?=some x->(W2.alloc (.cells #[.slice Ae ne ce, .slice Aa na ca] 93)).cell? ((⟨W2.heap.size,0,none⟩:Addr).add j)=some x:=by
     intro j x hj;rw[Addr.add_lit,Nat.zero_add,World.cell?_alloc_mark];simpa using hj
    have px:=H1.out.2.1;have dh:w.heap.size<=(W2.alloc (.cells #[.slice Ae ne ce, .slice Aa na ca] 93)).heap.size:=by have h1:=H1.out.2.2.size;have h2:=RH.size;simp;omega
    have eO:=Lib.hid (And.intro aL RH);clear iU aL xQ RH;go_wp2_with (at_builtin; refine cN rfl _ _ 108 rfl w.heap.size 93 im _ 2 48 Tryz.underlying108 him oq gY bM rfl (by decide) _ os.length (aY uV os) rfl aQ ⟨W2.heap.size,0,none⟩ 1 1 [.slice Ae ne ce, .slice Aa na ca] rfl rfl mZ (by intro u hu; simp only[List.mem_cons,List.not_mem_nil,or_false]at hu; rcases hu with rfl | rfl <;> rfl) (by unfold maxLen; omega) (by omega) dh ?_)
    intro v4 w4 eS Fe zL;have IU:=uW.app (x:=⟨Ae,ne,ce,Aa,na,ca⟩) (m:=m) (w3:=W2.alloc (.cells #[.slice Ae ne ce, .slice Aa na ca] 93)) (w4:=w4) (v':=v4) HI.out.1 HU.out nO.out.size (nO.out.trans (bH.out.mono nO.out.size)) (eO.out.1.trans (((Below.refl _ _).alloc (Nat.le_refl _) _).mono eO.out.1.size)) Fe (λg hg=>((show wr.ownsRow _ _ _ _ _ _ from H1.out.1).lt g hg).2) (by simpa using zL)
    have hOR:OR 93 2 uV w.heap.size v4 (os++[⟨Ae,ne,ce,Aa,na,ca⟩]) w4:=by
     show w4.ownsRow _ _ _ _ (os++[_]).length (aY uV (os++[_]));rw[bA,bf,List.length_append,px];exact eS
    have Nq:Below w.heap.size w w4:=H1.out.2.2.trans ((eO.out.2.trans (((Below.refl _ _).alloc (Nat.le_refl _) _).mono eO.out.2.size)).mono H1.out.2.2.size |>.trans ((Below.refl _ _).grown Fe (by simpa using dh) (λg hg=>((show wr.ownsRow _ _ _ _ _ _ from H1.out.1).lt g hg).1)))
    have NL:∀j (h1:j<ks.length) (h2:j<(ms++[m]).length),Nt ks[j] 0 (ms++[m])[j]:=λj h1 h2=>by
     by_cases hj:j<ms.length
     .rw[List.getElem_append_left hj];exact HI.out.2 j h1 hj
     .have hmk:ms.length=k:=by have:=HI.out.1.1;omega
      have Zc:j=k:=by simp at h2;omega
      subst Zc;rw[List.getElem_append_right (by omega)]
      simp only[hmk,Nat.sub_self,List.getElem_cons_zero];exact HL.out
    have H4:=Lib.hid (And.intro hOR (And.intro (And.intro IU NL) Nq));have WH:(os++[(⟨Ae,ne,ce,Aa,na,ca⟩:M2)]).length=k+1:=by simp[px]
    clear IU hOR Nq NL eS Fe zL aQ mZ dh m0 m1 lm;go_wp2_with fail;go_roundw
    case rel=>exact ⟨k+1,_,_,by omega,by go_num,H4.out.1,WH,H4.out.2.1,H4.out.2.2⟩
    case measure=>simp[intOf];omega
  .obtain rfl:k=n:=by omega
   have hd:decide ((k:Int)<(k:Int))=false:=decide_eq_false (by omega)
   have iI:decide (k<k)=false:=decide_eq_false (by omega)
   obtain ⟨A2,c2,rfl,-,-⟩:=ag (show wr.ownsRow _ _ _ _ _ _ from hown);rw[px];have H1:=Lib.hid (And.intro hown (And.intro px aP));obtain ⟨W1,hW1⟩:∃V:World,V=wr:=⟨_,rfl⟩;rw[<-hW1]at H1 HI|-;clear hown aP px hW1;go_wp2_with fail
   go_loopw [40] (λi wr=>∃j:Nat,j<=k/\i = .int .i64 (j:Int)/\Hid (∀i,i<j->(ks.take i).any (λo=>decide (some o.nm=(ks[i]?).map Kn.nm))=false)/\Below W1.heap.size W1 wr) (λi _=>k - (intOf i).toNat)
   case atStart=>exact ⟨0,by omega,rfl,λi hi=>absurd hi (Nat.not_lt_zero i),Below.refl _ _⟩
   case round=>
    obtain ⟨j,hj,rfl,HJ,ZT⟩:=hrel;by_cases uu:j<k
    .have jO:decide ((j:Int)<(k:Int))=true:=decide_eq_true (by omega)
     have ajw:decide (j<k)=true:=decide_eq_true uu;have zE:j<us.length:=by have:=HN.out.1;omega
     have hkk:j<ks.length:=by have:=HN.out.2.1;omega
     obtain ⟨g,f,rfl,hg,bD⟩:=HO.out.resolve_left (by rintro rfl;cases zE)
     obtain ⟨u,hu⟩:∃u,us[j]=u:=⟨_,rfl⟩;have aP:=H1.out.2.2.trans (ZT.mono H1.out.2.2.size);have ji:=λj' hj'=>(aP.cell (p:=⟨g,f+j*11+j',none⟩) hg).trans (bD j zE j' hj');rw[hu]at ji;obtain ⟨⟨q0,q1,q2,q3,q4,q5⟩,q6,q7,q8,q9,CE⟩:=gA ji;have oC:g<wr.heap.size:=Nat.lt_of_lt_of_le hg aP.size;have hjc:(j:Int)<=(c:Int):=by have:=HN.out.2.2.1;omega
     have atf:j<=c:=by have:=HN.out.2.2.1;omega
     have lK:(c:Int)<=9223372036854775807:=by have:=HN.out.2.2.2;omega
     have ru:((us.take j).map λo=>decide (o.nm=u.nm))=(us.take j).map (λo=>decide (o.nm=u.nm)):=rfl;have pM:(us.take j).any (λo=>decide (o.nm=u.nm))=(ks.take j).any (λo=>decide (some o.nm=(ks[j]?).map Kn.nm)):=by
      have e1:(ks[j]?).map Kn.nm=some u.nm:=by rw[List.getElem?_eq_getElem hkk,<-hu,pH.out j zE hkk];rfl
      rw[e1,<-eD,<-eD]
      congr 1
      refine List.ext_getElem (by simp;have:=HN.out;omega) λi h1 h2=>?_
      simp only[List.getElem_map,List.getElem_take];rw[pH.out i (by simp at h1;omega) (by simp at h2;omega)]
      simp
     have PU:=Lib.hid pM;have HR:=Lib.hid λ(W:World) (hb:Below wr.heap.size wr W) (p:Nat) (hp:∀V,Below W.heap.size W V->V.cell? ⟨p,0,none⟩=some (.string u.nm))=>JK 83 #[.pointer (some ⟨p,0,none⟩)] ((us.take j).map KC.cs) ((us.take j).map λo=>decide (o.nm=u.nm)) (.slice (some ⟨g,f,none⟩) j c) W
      ⟨_,c,by rw[List.length_map,List.length_take,Nat.min_eq_left (by omega)],⟨by simp;omega,by omega⟩, .inr ⟨g,f,rfl,Nat.lt_of_lt_of_le oC hb.size,λi hi=>⟨by simp[KC.cs],λj' hj'=>by
       simp only[List.length_map,List.length_take]at hi;simp only[List.getElem_map,List.getElem_take];exact ((aP.trans (hb.mono aP.size)).cell (p:=⟨g,f+i*11+j',none⟩) hg).trans (bD i (by omega) j' hj')⟩⟩⟩
      ⟨Xg,by simp,λi hi b aL w' ajI=>by
       have ez:i<(us.take j).length:=by simpa using hi
       have dc:b=decide (((us.take j)[i]).nm=u.nm):=by
        rw[List.getElem?_map,List.getElem?_eq_getElem ez]at aL;injection aL with aL;exact aL.symm
       rw[dc,List.getElem_map];exact JO ((us.take j)[i]) p u.nm w' (hp w' ajI)⟩
     rw[eD]at HR;obtain ⟨b,hb⟩:∃b,(us.take j).any (λo=>decide (o.nm=u.nm))=b:=⟨_,rfl⟩;rw[hb]at HR PU;have QG:=Lib.hid ZT;clear pM ru hb bD ji aP ZT hu
     go_upto_region 15 with fail
     refine dN λW0 ik=>?_;have hb0:Below wr.heap.size wr W0:=by rw[ik];exact (Below.refl _ _).alloc (Nat.le_refl _) _
     have tl:RI u wr.heap.size W0:=by rw[ik];exact heap_alloc_new wr _
     have nO:=Lib.hid (And.intro hb0 tl);clear ik hb0 tl q0 q1 q2 q3 q4 q5 q6 q7 q8 q9 CE;go_wp2_with fail;refine (HR.out W0 nO.out.1 wr.heap.size (λV hV=>(nO.out.2.later hV).cells.1.1)).mono ?_;rintro e w1 ⟨rfl,hb1⟩;have bH:=Lib.hid (nO.out.1.trans (hb1.mono nO.out.1.size));clear hb1
     cases b with
     | true=>
      go_wp2_with fail
      go_ret2
      have oH:Below w.heap.size w w1:=H1.out.2.2.trans ((QG.out.trans (bH.out.mono QG.out.size)).mono H1.out.2.2.size);have QJ:zH ks=true:=by
       unfold zH;exact List.any_eq_true.2 ⟨j,List.mem_range.2 hkk,PU.out.symm⟩
      refine ⟨oH,7,ms, .inr ⟨⟨by have:=HN.out.2.1;omega,by have:=HN.out.2.1;omega⟩, .inr ⟨?_,λi q1 q2=>HI.out.2 i q1 q2,by rw[QJ];rfl⟩⟩, .inl ⟨by decide,rfl⟩⟩
      have:=HI.out.1.1;have:=H1.out.2.1;have:=HN.out.2.1;omega
     | false=>
      go_wp2_with fail;go_roundw
      case rel=>exact ⟨j+1,by omega,by go_num,λi hi=>by
       by_cases KT:i=j
       .subst KT;exact PU.out.symm
       .exact HJ.out i (by omega),QG.out.trans (bH.out.mono QG.out.size)⟩
      case measure=>simp[intOf];omega
    .obtain rfl:j=k:=by omega
     go_wp2_with fail
     go_ret2
     refine ⟨H1.out.2.2.trans (ZT.mono H1.out.2.2.size),0,ms, .inr ⟨⟨by have:=HN.out.2.1;omega,by have:=HN.out.2.1;omega⟩, .inr ⟨?_,λi q1 q2=>HI.out.2 i q1 q2,?_⟩⟩, .inr ⟨rfl,_,os,rfl,?_,?_,λi q1 q2=>?_⟩⟩
     .have:=HI.out.1.1;have:=H1.out.2.1;have:=HN.out.2.1;omega
     .rw[if_neg];rw[Bool.not_eq_true];unfold zH;rw[List.any_eq_false];intro i hi;rw[List.mem_range]at hi;rw[HJ.out i (by have:=HN.out.2.1;omega)]
      decide
     .have hq:=H1.out.1.later ZT;rw[H1.out.2.1]at hq;exact hq
     .have:=H1.out.2.1;have:=HN.out.2.1;omega
     .obtain ⟨B,H,p1,p2,-⟩:=(HI.out.1.later ZT).2 i q1 q2;exact p1.mc
end
section
set_option linter.unusedVariables false
set_option linter.unusedSimpArgs false
open Go.RowKit
def G3 (k:Kn):Prop:=uN (bl k.nm)=true/\bk k.pat=0/\aK k.pat<=10/\zG k=true
theorem Nt.ok {k:Kn} {er:Int} {m:Mc} (h:Nt k er m) (hg:G3 k):er=0:=by
 rcases h with ⟨h,-⟩ | ⟨-,ZH,hc,h⟩
 .rw[hg.1]at h;cases h
 .have h0:=hc.few hg.2.1 hg.2.2.1;rcases h with ⟨h1,-⟩ | ⟨-,h2⟩
  .exact absurd h0 h1
  .rw[h2,hg.2.2.2];rfl
theorem lT.ok {ks:List Kn} {er:Int} {ms:List Mc} (h:lT ks er ms) (h1:1<=ks.length) (h2:ks.length<=32) (hg:∀k∈ks,G3 k) (hd:zH ks=false):er=0:=by
 rcases h with ⟨h,-⟩ | ⟨-,⟨i,hi,-,⟨m,hm⟩,hne⟩ | ⟨-,-,h⟩⟩
 .omega
 .exact absurd (hm.ok (hg _ (List.getElem_mem hi))) hne
 .rw[h,hd];rfl
end
section
set_option linter.unusedVariables false
set_option linter.unusedSimpArgs false
open Go.RowKit
theorem FA (A:Option Addr) (n c:Nat) (us:List KC) (ks:List Kn) (w:World) (h:fu w (.slice A n c) us ks) (om:cd w) (iO:∀k∈ks,k.nm.size<=140737488355328):Calls Tryz.prog 39 #[.slice A n c] w λe w'=>Below w.heap.size w w'/\∃er ms,lT ks er ms/\e = .returned (.int .i64 er):=by
 have HL:=Lib.hid (CG A n c us ks w h om iO);clear h om iO
 go_enter Tryz.func39,Tryz.ntmps39
 go_wp2_with fail;refine HL.out.mono ?_;rintro e w' ⟨hb,er,ms,gu,hp⟩;have HB:=Lib.hid (And.intro hb gu);clear hb gu;rcases hp with ⟨h1,rfl⟩ | ⟨rfl,v,os,rfl,-⟩
 .go_wp2_with fail;go_ret;exact ⟨HB.out.1,er,ms,HB.out.2,rfl⟩
 .go_wp2_with fail;go_ret;exact ⟨HB.out.1,0,ms,HB.out.2,rfl⟩
end
end Go.Proofs.YtdmoogjddmdmbaaGreatDoor
