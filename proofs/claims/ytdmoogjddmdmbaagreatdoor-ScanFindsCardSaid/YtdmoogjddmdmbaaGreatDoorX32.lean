/- Walks. -/
import Derived.Test.YtdmoogjddmdmbaaGreatDoorX25
import Derived.Test.YtdmoogjddmdmbaaGreatDoorX24
import Derived.Deep.CutRange
set_option maxRecDepth 100000
set_option maxHeartbeats 16000000
set_option linter.unusedVariables false
set_option linter.unusedSimpArgs false
namespace Go.Proofs.YtdmoogjddmdmbaaGreatDoor
open Go.RowKit
theorem WY(args:Array Value)(w:World):(callFunc 110 args).run Tryz.prog w=.ok (.enter 110 args) w:=by rfl
theorem WZ(l:List ByteArray):(l.any λs=>!sV s)=!l.all sV:=by
 induction l with
 |nil=>rfl
 |cons a r ih=>simp[ih]
theorem GL(b:Nat)(x y:Value)(W:World):aj [b] [] W ((W.setCell ⟨b,0,none⟩ x).setCell ⟨b,1,none⟩ y):=by
 have hne:∀k,k∉[b]->k≠b:=λk hn e=>hn (List.mem_singleton.2 e);exact ⟨rfl,rfl,rfl,by simp[World.setCell],λk _ hn=>(Below.heap_setCell (W.setCell ⟨b,0,none⟩ x) ⟨b,1,none⟩ _ k (hne k hn)).trans (Below.heap_setCell W ⟨b,0,none⟩ _ k (hne k hn)),λk hk=>by cases hk⟩
theorem qj{w W:World}(b:Nat)(x y:Value)(hb:Below w.heap.size w W)(h:w.heap.size<=b):Below w.heap.size w ((W.setCell ⟨b,0,none⟩ x).setCell ⟨b,1,none⟩ y):=
 hb.trans ((GL b x y W).below (λk hk=>by rw[List.mem_singleton]at hk;omega) hb.size)
theorem W5(k:Kn)(n3:Nat)(hn:n3=k.ws.length):zh k=(!decide ((bI k.pat:Int)<1) && (!decide (256<(bj k.pat:Int)) && ((decide (0<=k.ck) && decide (k.ck<=4)) && (!decide (k.en<0) && (!decide (1073741824<k.en) && (!decide (16<(n3:Int)) && (!(k.ws.any λs=>!sV s) && (!decide (k.nr<0) && (!decide (64<k.nr) && !(((n3:Int) == 0) && (k.nr != 0))))))))))):=by
 subst hn;unfold zh;have e1:decide (1<=bI k.pat)=!decide ((bI k.pat:Int)<1):=by rw[Bool.eq_iff_iff];simp;omega
 have e2:decide (bj k.pat<=256)=!decide (256<(bj k.pat:Int)):=by rw[Bool.eq_iff_iff];simp;omega
 have e4:decide (0<=k.en)=!decide (k.en<0):=by rw[Bool.eq_iff_iff];simp
 have e5:decide (k.en<=1073741824)=!decide (1073741824<k.en):=by rw[Bool.eq_iff_iff];simp
 have e6:decide (k.ws.length<=16)=!decide (16<(k.ws.length:Int)):=by rw[Bool.eq_iff_iff];simp;omega
 have e8:decide (0<=k.nr)=!decide (k.nr<0):=by rw[Bool.eq_iff_iff];simp
 have e9:decide (k.nr<=64)=!decide (64<k.nr):=by rw[Bool.eq_iff_iff];simp
 have qE:k.ws.isEmpty=((k.ws.length:Int) == 0):=by cases k.ws with
  |nil=>rfl
  |cons a r=>simp;omega
 have wj:decide (k.nr≠0)=(k.nr != 0):=by rw[Bool.eq_iff_iff];simp
 rw[e1,e2,e4,e5,e6,e8,e9,qE,wj,WZ,Bool.not_not]
theorem zl(u:KC)(k:Kn)(w:World)(h:wQ w u k)(jL:dn w)(qF:k.nm.size<=140737488355328):Calls Tryz.prog 81 #[.agg #[.string u.nm,.int .i64 u.op,.slice u.a1 u.n1 u.c1,.slice u.a2 u.n2 u.c2,.int .i64 u.mn,.int .i64 u.mx,.bool u.wh,.int .i64 u.ck,.int .i64 u.en,.slice u.a3 u.n3 u.c3,.int .i64 u.nr]] w (WX k w):=by
 have HN:=Z λW=>ES u.nm W (by rw[h.nm];exact qF)
 have HC:=Z λW (hb:Below w.heap.size w W)=>rV k.pat u.pat W (h.later hb).pat (jL.later hb);have HS:=Z λW (hb:Below w.heap.size w W) (hv:aR k.pat=0)=>ER k.pat u.pat W (h.later hb).pat hv;have HL:=Z λW (hb:Below w.heap.size w W) (hv:aR k.pat=0)=>Jm k.pat u.pat W (h.later hb).pat hv;have Tg:=Z λW (hb:Below w.heap.size w W)=>containsS 110 #[] k.ws (λs=>!sV s) (.slice u.a3 u.n3 u.c3) W (h.later hb).ws ⟨WY,λs _ w' _=>(Jn s w').mono λe w'' h=>⟨h.1,h.2▸υ⟩⟩;have HWL:=Z (H h.ajZ (H h.ck (H h.en h.nr)));have Dd:bl u.nm=bl k.nm:=by rw[h.nm]
 rw[Dd]at HN;clear h jL qF Dd;obtain ⟨bn,PW⟩:∃b,uP (bl k.nm)=b:=⟨_,rfl⟩;rw[PW]at HN;have HBN:=Z PW;clear PW
 go_enter Tryz.func81,Tryz.ntmps81
 go_wp2_with fail;refine aH λW0 aP=>?_;have hb0:Below w.heap.size w W0:=by rw[aP];exact (υ.alloc I _).alloc ξ _
 have nW:Nf u w.heap.size W0:=by rw[aP];exact (aB _ _ _ ξ).trans (heap_alloc_new w _)
 have zN:W0.heap[w.heap.size+1]?=some (.cells #[.slice none 0 0,.slice none 0 0] 93 (0,0)):=by rw[aP];simpa using heap_alloc_new (w.alloc (.cells #[.string u.nm,.int .i64 u.op,.slice u.a1 u.n1 u.c1,.slice u.a2 u.n2 u.c2,.int .i64 u.mn,.int .i64 u.mx,.bool u.wh,.int .i64 u.ck,.int .i64 u.en,.slice u.a3 u.n3 u.c3,.int .i64 u.nr] 44)) (.cells #[.slice none 0 0,.slice none 0 0] 93)
 have H0:=Z (H hb0 (H nW zN));clear aP hb0 nW zN;refine (HN.out W0).mono ?_;rintro e w1 ⟨rfl,hb1⟩;have H1:=Z (H (H0.out.1.trans (hb1.mono H0.out.1.size)) (H (H0.out.2.1.later hb1) ((hb1.block _ (γ H0.out.2.2).1).trans H0.out.2.2)));clear hb1;obtain ⟨⟨c0,c1,c2,c3,c4,c5⟩,⟨c6,c7,c8,c9,mR⟩,lb⟩:=H1.out.2.1.cells;have lU:=H1.out.2.2;obtain ⟨r0,r1⟩:w1.cell? ⟨w.heap.size+1,0,none⟩=some (.slice none 0 0)/\w1.cell? ⟨w.heap.size+1,1,none⟩=some (.slice none 0 0):=by constructor <;> (rw[cell_of_row _ _ _ _ _ _ lU]; rfl)
 have lr:w.heap.size+1<w1.heap.size:=(γ lU).1;have fr0:w1.frozen? ⟨w.heap.size+1,0,none⟩=false:=by simp[World.frozen?,lU]
 have fr1:w1.frozen? ⟨w.heap.size+1,1,none⟩=false:=by simp[World.frozen?,lU]
 clear lU
 cases bn with
 |false=>
  go_wp2_with fail;refine az λWf bY=>?_;refine bodyPost_ret (v:=.tuple #[.agg #[.slice none 0 0,.slice none 0 0],.int .i64 4]) (by rw[bY];simp[results,Tryz.results81,go_sem,lr,r0,r1];try rfl) rfl ?_
  refine ⟨?_,4,⟨[],[]⟩,.inl ⟨HBN.out,rfl⟩,.inl ⟨O,rfl⟩⟩;rw[bY];exact qj _ _ _ H1.out.1 Y
 |true=>
  clear r0 r1 lr fr0 fr1;go_wp2_with fail;refine (HC.out w1 H1.out.1).mono ?_;rintro e w2 fK;obtain ⟨aJ,er,m,Dh,fK⟩:=aj1 fK;have H2:=Z (H (H1.out.1.trans (aJ.mono H1.out.1.size)) (H (H1.out.2.1.later aJ) ((aJ.block _ (γ H1.out.2.2).1).trans H1.out.2.2)));have HCM:=Z Dh;clear aJ Dh c0 c1 c2 c3 c4 c5 c6 c7 c8 c9 mR lb;rcases fK with ⟨zf,rfl⟩|⟨rfl,rv,rfl,lK⟩
  .unfold iG;have Q9:=Z zf;have Wp:(er == 0)=false:=by simpa using zf
   have Wq:(er != 0)=true:=by simpa using zf
   have zU:=H2.out.2.2;obtain ⟨r0,r1⟩:w2.cell? ⟨w.heap.size+1,0,none⟩=some (.slice none 0 0)/\w2.cell? ⟨w.heap.size+1,1,none⟩=some (.slice none 0 0):=by constructor <;> (rw[cell_of_row _ _ _ _ _ _ zU]; rfl)
   have lr:w.heap.size+1<w2.heap.size:=(γ zU).1;have lr2:w.heap.size+1<w2.heap.size+1:=Y;have nr:w.heap.size+1≠w2.heap.size:=Y;have fr0:w2.frozen? ⟨w.heap.size+1,0,none⟩=false:=by simp[World.frozen?,zU]
   have fr1:w2.frozen? ⟨w.heap.size+1,1,none⟩=false:=by simp[World.frozen?,zU]
   clear zU zf;go_wp2_with fail;refine az λWf bY=>?_;refine bodyPost_ret (v:=.tuple #[.agg #[.slice none 0 0,.slice none 0 0],.int .i64 er]) (by rw[bY];simp[results,Tryz.results81,go_sem,lr,r0,r1,lr2,nr];try rfl) rfl ?_
   refine ⟨?_,er,m,.inr ⟨HBN.out,er,?_,.inl ⟨Q9.out,rfl⟩⟩,.inl ⟨Q9.out,rfl⟩⟩
   .rw[bY];have hq:=qj (w.heap.size+1) (.slice none 0 0) (.slice none 0 0) H2.out.1 Y;exact hq.trans ((υ.alloc I _).mono hq.size)
   .exact HCM.out
  .obtain ⟨ve,va,rfl,he,ha⟩:=id lK.mc;obtain ⟨Ae,ce,rfl,-⟩:=he.form;obtain ⟨Aa,ca,rfl,-⟩:=ha.form;obtain ⟨ne,hne⟩:∃x,m.ed.length=x:=⟨_,rfl⟩;obtain ⟨na,T9⟩:∃x,m.ac.length=x:=⟨_,rfl⟩;rw[hne,T9]at lK|-;have HU:=Z lK;clear lK he ha hne T9;obtain ⟨⟨c0,c1,c2,c3,c4,c5⟩,⟨c6,c7,c8,c9,mR⟩,lb⟩:=H2.out.2.1.cells;have lb2:w.heap.size<w2.heap.size+1:=Y;have nb:w.heap.size≠w2.heap.size:=Y;have hvz:=HCM.out.good.2
   go_upto_region 7 with fail
   refine dD λW3 mK=>?_;have bW:Below w2.heap.size w2 W3:=by rw[mK];exact υ.alloc I _
   have TR:W3.heap[w2.heap.size]?=some (.cells #[.slice Ae ne ce,.slice Aa na ca] 93 (0,0)):=by rw[mK];exact heap_alloc_new w2 _
   have V5:=Z TR;have HD3:=Z bW;have H3:=Z (H (H2.out.1.trans (bW.mono H2.out.1.size)) (H (H2.out.2.1.later bW) ((bW.block _ (γ H2.out.2.2).1).trans H2.out.2.2)));clear bW mK TR c0 c1 c2 c3 c4 c5 c6 c7 c8 c9 mR lb lb2 nb
   go_cut [80] from 7 to 83 (λv wx=>v=.bool (!zh k)/\Below W3.heap.size W3 wx)
   case first=>
    have Nc:=W5 k u.n3 HWL.out.1.1;obtain ⟨x1,jt⟩:∃x,decide ((bI k.pat:Int)<1)=x:=⟨_,rfl⟩;obtain ⟨x2,fZ⟩:∃x,decide (256<(bj k.pat:Int))=x:=⟨_,rfl⟩;obtain ⟨x3,Xa⟩:∃x,(decide (0<=k.ck) && decide (k.ck<=4))=x:=⟨_,rfl⟩;obtain ⟨x4,ZS⟩:∃x,decide (k.en<0)=x:=⟨_,rfl⟩;obtain ⟨x5,hx5⟩:∃x,decide (1073741824<k.en)=x:=⟨_,rfl⟩;obtain ⟨x6,hx6⟩:∃x,decide (16<(u.n3:Int))=x:=⟨_,rfl⟩;obtain ⟨x7,hx7⟩:∃x,(k.ws.any λs=>!sV s)=x:=⟨_,rfl⟩;obtain ⟨x8,hx8⟩:∃x,decide (k.nr<0)=x:=⟨_,rfl⟩;obtain ⟨x9,ZT⟩:∃x,decide (64<k.nr)=x:=⟨_,rfl⟩;obtain ⟨WE,aj3⟩:∃x,((u.n3:Int) == 0)=x:=⟨_,rfl⟩;obtain ⟨x11,adb⟩:∃x,(k.nr != 0)=x:=⟨_,rfl⟩;rw[jt,fZ,Xa,ZS,hx5,hx6,hx7,hx8,ZT,aj3,adb]at Nc;have KD:=Z Nc;have ade:(decide (0<=u.ck) && decide (u.ck<=4))=x3:=by rw[HWL.out.2.1];exact Xa
    have Qq:=Z λW=>by have h:=zn u.ck W;rw[ade]at h;exact h
    rw[hx7]at Tg;rw[<-HWL.out.2.2.1]at ZS hx5;rw[<-HWL.out.2.2.2]at hx8 ZT adb;clear Nc Xa ade hx7;have HKc:=Z λW (hb:Below W3.heap.size W3 W)=>(H3.out.2.1.later hb).cells;have b8:=Z λW (hb:Below W3.heap.size W3 W)=>H3.out.1.trans (hb.mono H3.out.1.size);obtain ⟨⟨c0,c1,c2,c3,c4,c5⟩,⟨c6,c7,c8,c9,mR⟩,lb⟩:=H3.out.2.1.cells;go_wp2_with fail;refine (HS.out W3 H3.out.1 hvz).mono ?_;rintro e w4 ⟨rfl,dM⟩;clear c0 c1 c2 c3 c4 c5 c6 c7 c8 c9 mR lb
    cases x1 with
    |true=>
     go_wp2_with fail
     go_meet
     exact ⟨by rw[KD.out];rfl,dM⟩
    |false=>
    obtain ⟨⟨c0,c1,c2,c3,c4,c5⟩,⟨c6,c7,c8,c9,mR⟩,lb⟩:=HKc.out w4 dM;go_wp2_with fail;refine (HL.out w4 (b8.out w4 dM) hvz).mono ?_;rintro e w5 ⟨rfl,adf⟩;have jq:=dM.trans (adf.mono dM.size);clear c0 c1 c2 c3 c4 c5 c6 c7 c8 c9 mR lb adf dM
    cases x2 with
    |true=>
     go_wp2_with fail
     go_meet
     exact ⟨by rw[KD.out];rfl,jq⟩
    |false=>
    obtain ⟨⟨c0,c1,c2,c3,c4,c5⟩,⟨c6,c7,c8,c9,mR⟩,lb⟩:=HKc.out w5 jq;go_wp2_with fail;refine (Qq.out w5).mono ?_;rintro e w6 ⟨rfl,rfl⟩
    cases x3 with
    |false=>
     go_wp2_with fail
     go_meet
     exact ⟨by rw[KD.out];rfl,jq⟩
    |true=>
    cases x4 with
    |true=>
     go_wp2_with fail
     go_meet
     exact ⟨by rw[KD.out];rfl,jq⟩
    |false=>
    cases x5 with
    |true=>
     go_wp2_with fail
     go_meet
     exact ⟨by rw[KD.out];rfl,jq⟩
    |false=>
    cases x6 with
    |true=>
     go_wp2_with fail
     go_meet
     exact ⟨by rw[KD.out];rfl,jq⟩
    |false=>
    go_wp2_with fail;refine (Tg.out w6 (b8.out w6 jq)).mono ?_;rintro e w7 ⟨rfl,adg⟩;have dT:=jq.trans (adg.mono jq.size);clear c0 c1 c2 c3 c4 c5 c6 c7 c8 c9 mR lb adg jq;obtain ⟨⟨c0,c1,c2,c3,c4,c5⟩,⟨c6,c7,c8,c9,mR⟩,lb⟩:=HKc.out w7 dT
    cases x7 with
    |true=>
     go_wp2_with fail
     go_meet
     exact ⟨by rw[KD.out];rfl,dT⟩
    |false=>
    cases x8 with
    |true=>
     go_wp2_with fail
     go_meet
     exact ⟨by rw[KD.out];rfl,dT⟩
    |false=>
    cases x9 with
    |true=>
     go_wp2_with fail
     go_meet
     exact ⟨by rw[KD.out];rfl,dT⟩
    |false=>
    cases WE with
    |false=>
     go_wp2_with fail
     go_meet
     exact ⟨by rw[KD.out];rfl,dT⟩
    |true=>
    cases x11 with
    |false=>
     go_wp2_with fail
     go_meet
     exact ⟨by rw[KD.out];rfl,dT⟩
    |true=>
     go_wp2_with fail
     go_meet
     exact ⟨by rw[KD.out];rfl,dT⟩
   case rest=>
    obtain ⟨rfl,qK⟩:=hcut;obtain ⟨w7,hw7⟩:∃V:World,V=wc:=⟨_,rfl⟩;rw[<-hw7]at qK|-;clear hw7;have H5:=Z (H (H3.out.1.trans (qK.mono H3.out.1.size)) ((qK.block _ (γ H3.out.2.2).1).trans H3.out.2.2));have HM5:=Z ((qK.block _ (γ V5.out).1).trans V5.out);have HD5:=Z (HD3.out.trans (qK.mono HD3.out.size));obtain ⟨m0,m1⟩:w7.cell? ⟨w2.heap.size,0,none⟩=some (.slice Ae ne ce)/\w7.cell? ⟨w2.heap.size,1,none⟩=some (.slice Aa na ca):=by constructor <;> (rw[cell_of_row _ _ _ _ _ _ HM5.out]; rfl)
    have lm:w2.heap.size<w7.heap.size:=(γ HM5.out).1;have GM:=H5.out.2;obtain ⟨r0,r1⟩:w7.cell? ⟨w.heap.size+1,0,none⟩=some (.slice none 0 0)/\w7.cell? ⟨w.heap.size+1,1,none⟩=some (.slice none 0 0):=by constructor <;> (rw[cell_of_row _ _ _ _ _ _ GM]; rfl)
    have lr:w.heap.size+1<w7.heap.size:=(γ GM).1;have fr0:w7.frozen? ⟨w.heap.size+1,0,none⟩=false:=by simp[World.frozen?,GM]
    have fr1:w7.frozen? ⟨w.heap.size+1,1,none⟩=false:=by simp[World.frozen?,GM]
    obtain ⟨q,hq⟩:=ν (zh k);rw[hq];have HQ:=Z hq;clear GM hq qK
    apply_assumption
    cases q with
    |false=>
     go_wp2_with fail;refine az λWf bY=>?_;refine bodyPost_ret (v:=.tuple #[.agg #[.slice none 0 0,.slice none 0 0],.int .i64 2]) (by rw[bY];simp[results,Tryz.results81,go_sem,r0,r1,lr];try rfl) rfl ?_
     refine ⟨?_,2,m,.inr ⟨HBN.out,0,HCM.out,.inr ⟨rfl,by rw[HQ.out];rfl⟩⟩,.inl ⟨O,rfl⟩⟩
     rw[bY];exact qj _ _ _ H5.out.1 Y
    |true=>
     go_wp2_with fail;refine az λWf bY=>?_;refine bodyPost_ret (v:=.tuple #[.agg #[.slice Ae ne ce,.slice Aa na ca],.int .i64 0]) (by rw[bY];simp[results,Tryz.results81,go_sem,r0,r1,lr];try rfl) rfl ?_
     have aU:aj [w.heap.size+1] [] w7 Wf:=by rw[bY];exact GL _ _ _ _
     have hz1:=(γ H1.out.2.2).1;refine ⟨?_,0,m,.inr ⟨HBN.out,0,HCM.out,.inr ⟨rfl,by rw[HQ.out];rfl⟩⟩,.inr ⟨rfl,_,rfl,((HU.out.later HD5.out).keep aU (λk hk=>by rw[List.mem_singleton]at hk;omega)).mono H1.out.1.size⟩⟩
     rw[bY];exact qj _ _ _ H5.out.1 Y
structure M2 where
 a1:Option Addr
 n1:Nat
 c1:Nat
 a2:Option Addr
 n2:Nat
 c2:Nat
def M2.val(x:M2):Value:=.agg #[.slice x.a1 x.n1 x.c1,.slice x.a2 x.n2 x.c2]
def uX(x:M2):List Value:=[.slice x.a1 x.n1 x.c1,.slice x.a2 x.n2 x.c2]
theorem Rb:kz uX 2:=⟨O,λ_=>rfl,λx u hu=>by
 simp only[uX,List.mem_cons,List.not_mem_nil,or_false]at hu;rcases hu with rfl|rfl <;> rfl⟩
def EP(B axI:Nat)(w:World)(v:Value)(m:Mc):Prop:=∀W:World,(W.os=w.os/\W.tape=w.tape/\W.output=w.output)->w.heap.size<=W.heap.size->(∀k,B<=k->k<axI->W.heap[k]?=w.heap[k]?)->gH W v m
theorem iB.bt{B:Nat}{w:World}{v:Value}{m:Mc}(h:iB B w v m):EP B w.heap.size w v m:=λW ho hs hk=>h W ⟨ho.1,ho.2.1,ho.2.2,hs,λk h1 hn=>hk k (by simpa using hn) h1,λk hk=>by cases hk⟩
theorem EP.to{B axI:Nat}{w w':World}{v:Value}{m:Mc}(h:EP B axI w v m)(ho:w'.os=w.os/\w'.tape=w.tape/\w'.output=w.output)(hs:w.heap.size<=w'.heap.size)(hk:∀k,B<=k->k<axI->w'.heap[k]?=w.heap[k]?):EP B axI w' v m:=λW sM vN bX=>
 h W ⟨sM.1.trans ho.1,sM.2.1.trans ho.2.1,sM.2.2.trans ho.2.2⟩ (Nat.le_trans hs vN) λk h1 h2=>(bX k h1 h2).trans (hk k h1 h2)
theorem EP.mc{B axI:Nat}{w:World}{v:Value}{m:Mc}(h:EP B axI w v m):gH w v m:=h w ⟨rfl,rfl,rfl⟩ I λ_ _ _=>rfl
def uY(w:World)(v:Value)(os:List M2)(ms:List Mc):Prop:=os.length=ms.length/\∀j (h1:j<os.length) (h2:j<ms.length),∃B axI,EP B axI w os[j].val ms[j]/\axI<=w.heap.size/\∀g,v.ownBlock=some g->g<B\/axI<=g
theorem uY.km(w:World)(v:Value):uY w v [] []:=⟨rfl,λj h1=>by cases h1⟩
theorem uY.later{w w':World}{v:Value}{os:List M2}{ms:List Mc}(h:uY w v os ms)(hb:Below w.heap.size w w'):uY w' v os ms:=by
 refine ⟨h.1,λj h1 h2=>?_⟩;obtain ⟨B,axI,q1,q2,q3⟩:=h.2 j h1 h2;exact ⟨B,axI,q1.to ⟨hb.os,hb.tape,hb.output⟩ hb.size λk _ hk=>hb.block k Y,Nat.le_trans q2 hb.size,q3⟩
theorem uY.app{w1 w2 w3 w4:World}{v v':Value}{os:List M2}{ms:List Mc}{x:M2}{m:Mc}{N:Nat}(h:uY w1 v os ms)(lK:iB N w2 x.val m)(hN:w1.heap.size<=N)(sU:Below w1.heap.size w1 w2)(jc:Below w2.heap.size w2 w3)(hg:w3.grownBy w4 v.ownBlock)(hv:∀g,v.ownBlock=some g->g<w1.heap.size)(hf:v'.ownBlock=v.ownBlock\/∃g,v'.ownBlock=some g/\w3.heap.size<=g):uY w4 v' (os++[x]) (ms++[m]):=by
 have nY:Below w1.heap.size w1 w3:=sU.trans (jc.mono sU.size);have h13:=h.later nY;refine ⟨by simp[h.1],λj h1 h2=>?_⟩
 have s4:=hg.size;by_cases hj:j<os.length
 .have pJ:j<ms.length:=by have:=h.1;omega
  rw[List.getElem_append_left hj,List.getElem_append_left pJ];obtain ⟨B,axI,q1,q2,q3⟩:=h13.2 j hj pJ;refine ⟨B,axI,q1.to ⟨hg.os,hg.tape,hg.output⟩ s4 λk dS bX=>hg.block k Y (λe=>by rcases q3 k e.symm with h|h <;> omega),Y,λg e=>?_⟩
  rcases hf with hf|⟨g',hf,xk⟩
  .exact q3 g (hf▸e)
  .rw[hf]at e;injection e with e;omega
 .have hj':j=os.length:=by simp at h1;omega
  subst hj';rw[List.getElem_append_right I,List.getElem_append_right (by have:=h.1;omega)]
  simp only[Nat.sub_self,h.1,List.getElem_cons_zero];have Ep:=lK.bt.to ⟨jc.os,jc.tape,jc.output⟩ jc.size λk _ hk=>jc.block k hk;have s23:=jc.size;refine ⟨N,w2.heap.size,Ep.to ⟨hg.os,hg.tape,hg.output⟩ s4 λk dS bX=>hg.block k Y (λe=>by have:=hv k e.symm;omega),Y,λg e=>?_⟩
  rcases hf with hf|⟨g',hf,xk⟩
  .left;have:=hv g (hf▸e);omega
  .rw[hf]at e;injection e with e;omega
def zi(l:List Kn):Bool:=(List.range l.length).any λi=>(l.take i).any λo=>decide (some o.nm=(l[i]?).map Kn.nm)
def T2(ks:List Kn)(er:Int)(ms:List Mc):Prop:=
 ((ks.length<1\/32<ks.length)/\er=3)\/
 ((1<=ks.length/\ks.length<=32)/\((∃i,∃h:i<ks.length,(∀j (hj:j<i),∃m,MU (ks[j]'Y) 0 m)/\(∃m,MU ks[i] er m)/\er≠0)\/
  (ms.length=ks.length/\(∀i (h1:i<ks.length) (h2:i<ms.length),MU ks[i] 0 ms[i])/\er=if zi ks then 7 else 0)))
def WV(ks:List Kn)(w:World)(e:Ending)(w':World):Prop:=Below w.heap.size w w'/\∃er ms,T2 ks er ms/\((er≠0/\e=.returned (.tuple #[.slice none 0 0,.int .i64 er]))\/
 (er=0/\∃v os,e=.returned (.tuple #[v,.int .i64 0])/\OR 93 2 uX w.heap.size v os w'/\os.length=ks.length/\∀i (h1:i<os.length) (h2:i<ms.length),gH w' os[i].val ms[i]))
theorem Jk:(Tryz.prog.info? 93).map (λi=>(i.zero,i.size,i.bytes))=some (some (.agg #[.slice none 0 0,.slice none 0 0]),2,48):=κ
theorem jY{w:World}{g f i:Nat}{u:KC}(h:∀j,j<11->w.cell? ⟨g,f+i*11+j,none⟩=u.cs[j]?):(w.cell? ⟨g,f+i*11,none⟩=some (.string u.nm)/\w.cell? ⟨g,f+i*11+1,none⟩=some (.int .i64 u.op)/\w.cell? ⟨g,f+i*11+2,none⟩=some (.slice u.a1 u.n1 u.c1)/\w.cell? ⟨g,f+i*11+3,none⟩=some (.slice u.a2 u.n2 u.c2)/\w.cell? ⟨g,f+i*11+4,none⟩=some (.int .i64 u.mn)/\w.cell? ⟨g,f+i*11+5,none⟩=some (.int .i64 u.mx))/\(w.cell? ⟨g,f+i*11+6,none⟩=some (.bool u.wh)/\w.cell? ⟨g,f+i*11+7,none⟩=some (.int .i64 u.ck)/\w.cell? ⟨g,f+i*11+8,none⟩=some (.int .i64 u.en)/\w.cell? ⟨g,f+i*11+9,none⟩=some (.slice u.a3 u.n3 u.c3)/\w.cell? ⟨g,f+i*11+10,none⟩=some (.int .i64 u.nr)):=
 ⟨⟨h 0 O,h 1 O,h 2 O,h 3 O,h 4 O,h 5 O⟩,h 6 O,h 7 O,h 8 O,h 9 O,h 10 O⟩
theorem Jl(o:KC)(b:Nat)(s:ByteArray)(w:World)(h:w.cell? ⟨b,0,none⟩=some (.string s)):Calls Tryz.prog 83 #[.agg #[.string o.nm,.int .i64 o.op,.slice o.a1 o.n1 o.c1,.slice o.a2 o.n2 o.c2,.int .i64 o.mn,.int .i64 o.mx,.bool o.wh,.int .i64 o.ck,.int .i64 o.en,.slice o.a3 o.n3 o.c3,.int .i64 o.nr],.pointer (some ⟨b,0,none⟩)] w λe w'=>e=.returned (.bool (decide (o.nm=s)))/\Below w.heap.size w w':=by
 have hb:=World.block_lt_of_cell? w _ h;have hb1:b<w.heap.size+1:=by have:b<w.heap.size:=hb;omega
 have aJ:b≠w.heap.size:=by have:b<w.heap.size:=hb;omega
 have bW:b<w.heap.size:=hb
 go_enter Tryz.func83,Tryz.ntmps83
 go_wp2_with fail;go_ret;refine ⟨ae ?_,υ.alloc I _⟩;rw[Bool.eq_iff_iff,beq_iff_eq,decide_eq_true_eq,iw,iw];exact ⟨λh=>EJ h,λh=>by rw[h]⟩
theorem WW(args:Array Value)(w:World):(callFunc 83 args).run Tryz.prog w=.ok (.enter 83 args) w:=by rfl
theorem MO(A:Option Addr)(n c:Nat)(us:List KC)(ks:List Kn)(w:World)(h:BX w (.slice A n c) us ks)(jL:dn w)(qF:∀k∈ks,k.nm.size<=140737488355328):Calls Tryz.prog 55 #[.slice A n c] w (WV ks w):=by
 obtain ⟨hl,A',c',e0,hc,eH,hkn⟩:=id h;injection e0 with e1 e2 e3;subst e1 e2 e3;obtain ⟨n,hn⟩:=ν us.length;have aU:ks.length=n:=Y;rw[hn]at hc|-;have HC:=Z λ(i:Nat) (h1:i<n) (h2:i<us.length) (h3:i<ks.length) (W:World) (hb:Below w.heap.size w W)=>zl us[i] ks[i] W ((hkn i h2 h3).later hb) (jL.later hb) (qF _ (List.getElem_mem h3));have HO:=Z eH;have HN:=Z (H hn (H aU hc));have py:=Z λ(i:Nat) (h2:i<us.length) (h3:i<ks.length)=>(hkn i h2 h3).nm;clear h jL qF hl hc eH hkn hn aU;by_cases h1:n<1
 .have d1:decide ((n:Int)<1)=true:=τ
  go_enter Tryz.func55,Tryz.ntmps55
  go_wp2_with fail
  go_ret2
  exact ⟨υ,3,[],.inl ⟨.inl (by have:=HN.out.2.1;omega),rfl⟩,.inl ⟨O,rfl⟩⟩
 have d1:decide ((n:Int)<1)=false:=θ;by_cases h2:32<n
 .have d2:decide (32<(n:Int))=true:=τ
  go_enter Tryz.func55,Tryz.ntmps55
  go_wp2_with fail
  go_ret2
  exact ⟨υ,3,[],.inl ⟨.inr (by have:=HN.out.2.1;omega),rfl⟩,.inl ⟨O,rfl⟩⟩
 have d2:decide (32<(n:Int))=false:=θ
 go_enter Tryz.func55,Tryz.ntmps55
 go_wp2_with fail;go_loopw [4,21] (λv i wr=>∃(k:Nat) (os:List M2) (ms:List Mc),k<=n/\i=.int .i64 (k:Int)/\OR 93 2 uX w.heap.size v os wr/\os.length=k/\Hid (uY wr v os ms/\∀j (h1:j<ks.length) (h2:j<ms.length),MU ks[j] 0 ms[j])/\Below w.heap.size w wr) (λ_ i _=>n - (intOf i).toNat)
 case atStart=>exact ⟨0,[],[],Y,rfl,OR.km _ _ _,rfl,⟨uY.km _ _,λj _ h2=>by cases h2⟩,υ⟩
 case round=>
  obtain ⟨k,os,ms,hk,rfl,hown,pj,HI,aY⟩:=hrel;by_cases hlt:k<n
  .have hd:decide ((k:Int)<(n:Int))=true:=τ;have cX:decide (k<n)=true:=decide_eq_true hlt;have Dw:k<us.length:=by have:=HN.out.1;omega
   have hkk:k<ks.length:=by have:=HN.out.2.1;omega
   obtain ⟨g,f,rfl,hg,bB⟩:=HO.out.resolve_left (by rintro rfl;cases Dw)
   obtain ⟨u,hu⟩:=ν (us[k]);have ig:=λj hj=>(aY.cl g (f+k*11+j) hg).trans (bB k Dw j hj);have CC:=Z (HC.out k hlt Dw hkk);rw[hu]at ig CC;obtain ⟨⟨q0,q1,q2,q3,q4,q5⟩,q6,q7,q8,q9,EB⟩:=jY ig;have od:g<wr.heap.size:=Nat.lt_of_lt_of_le hg aY.size;have H1:=Z (H hown (H pj aY));clear hown pj aY bB ig hu;go_wp2_with fail;refine aH λW0 aP=>?_;have hb0:Below wr.heap.size wr W0:=by rw[aP];exact υ.alloc I _
   have cH:=Z hb0;clear aP hb0 q0 q1 q2 q3 q4 q5 q6 q7 q8 q9 EB od;refine (CC.out W0 (H1.out.2.2.trans (cH.out.mono H1.out.2.2.size))).mono ?_;rintro e w1 ⟨hb1,er,m,Nc,fK⟩;have HL:=Z Nc;have aX:=Z hb1;clear Nc hb1;rcases fK with ⟨zf,rfl⟩|⟨rfl,rv,rfl,lK⟩
   .unfold iG;have Q9:=Z zf;have Wp:(er == 0)=false:=by simpa using zf
    have Wq:(er != 0)=true:=by simpa using zf
    clear zf;go_wp2_with fail
    go_ret2
    refine ⟨H1.out.2.2.trans (((cH.out.trans (aX.out.mono cH.out.size)).trans ((υ.alloc I _).mono (Nat.le_trans cH.out.size aX.out.size))).mono H1.out.2.2.size),er,[],.inr ⟨⟨by have:=HN.out.2.1;omega,by have:=HN.out.2.1;omega⟩,.inl ⟨k,by have:=HN.out.2.1;omega,λj hj=>?_,⟨m,HL.out⟩,Q9.out⟩⟩,.inl ⟨Q9.out,rfl⟩⟩
    have pJ:j<ms.length:=by have:=HI.out.1.1;have:=H1.out.2.1;omega
    exact ⟨ms[j],HI.out.2 j (by have:=HN.out.2.1;omega) pJ⟩
   .obtain ⟨ve,va,rfl,he,ha⟩:=id lK.mc;obtain ⟨Ae,ce,rfl,-⟩:=he.form;obtain ⟨Aa,ca,rfl,-⟩:=ha.form;obtain ⟨ne,hne⟩:∃x,m.ed.length=x:=⟨_,rfl⟩;obtain ⟨na,T9⟩:∃x,m.ac.length=x:=⟨_,rfl⟩;rw[hne,T9]at lK|-;have HU:=Z lK;clear lK he ha hne T9;obtain ⟨im,him,hZ,dS,bX⟩:=info_parts Jk
    go_upto_region 10 with fail
    refine dD λW2 gK=>?_;have aJ:Below w1.heap.size w1 W2:=by rw[gK];exact υ.alloc I _
    have uC:W2.heap[w1.heap.size]?=some (.cells #[.slice Ae ne ce,.slice Aa na ca] 93 (0,0)):=by rw[gK];exact heap_alloc_new w1 _
    have Rt:Below wr.heap.size wr W2:=(cH.out.trans (aX.out.mono cH.out.size)).trans (aJ.mono (Nat.le_trans cH.out.size aX.out.size));have m0:W2.cell? ⟨w1.heap.size,0,none⟩=some (.slice Ae ne ce):=by rw[cell_of_row _ _ _ _ _ _ uC];rfl
    have m1:W2.cell? ⟨w1.heap.size,1,none⟩=some (.slice Aa na ca):=by rw[cell_of_row _ _ _ _ _ _ uC];rfl
    have lm:w1.heap.size<W2.heap.size:=(γ uC).1;have bh:=World.ownsRow.alloc (bw (show wr.ownsRow _ _ _ _ _ _ from H1.out.1) Rt) (.cells #[.slice Ae ne ce,.slice Aa na ca] 93);have iY:∀j x,[Value.slice Ae ne ce,.slice Aa na ca][j]?=some x->(W2.alloc (.cells #[.slice Ae ne ce,.slice Aa na ca] 93)).cell? ((⟨W2.heap.size,0,none⟩:Addr).add j)=some x:=by
     intro j x hj;rw[Addr.add_lit,Nat.zero_add,World.cell?_alloc_mark];simpa using hj
    have pj:=H1.out.2.1;have dA:w.heap.size<=(W2.alloc (.cells #[.slice Ae ne ce,.slice Aa na ca] 93)).heap.size:=by have h1:=H1.out.2.2.size;have h2:=Rt.size;simp;omega
    have dr:=Z (H aJ Rt);clear gK aJ uC Rt;go_wp2_with (at_builtin; refine cQ rfl _ _ 108 rfl w.heap.size 93 im _ 2 48 Tryz.underlying108 him hZ dS bX rfl O _ os.length (bF uX os) rfl bh ⟨W2.heap.size,0,none⟩ 1 1 [.slice Ae ne ce,.slice Aa na ca] rfl rfl iY (by intro u hu; simp only[List.mem_cons,List.not_mem_nil,or_false]at hu; rcases hu with rfl|rfl <;> rfl) (by unfold maxLen; omega) Y dA ?_)
    intro v4 w4 eQ MP Dy;have Qj:=uY.app (x:=⟨Ae,ne,ce,Aa,na,ca⟩) (m:=m) (w3:=W2.alloc (.cells #[.slice Ae ne ce,.slice Aa na ca] 93)) (w4:=w4) (v':=v4) HI.out.1 HU.out cH.out.size (cH.out.trans (aX.out.mono cH.out.size)) (dr.out.1.trans ((υ.alloc I _).mono dr.out.1.size)) MP (λg hg=>((show wr.ownsRow _ _ _ _ _ _ from H1.out.1).lt g hg).2) (by simpa using Dy)
    have hOR:OR 93 2 uX w.heap.size v4 (os++[⟨Ae,ne,ce,Aa,na,ca⟩]) w4:=by
     show w4.ownsRow _ _ _ _ (os++[_]).length (bF uX (os++[_]));rw[bU,bz,List.length_append,pj];exact eQ
    have MQ:Below w.heap.size w w4:=H1.out.2.2.trans ((dr.out.2.trans ((υ.alloc I _).mono dr.out.2.size)).mono H1.out.2.2.size |>.trans (υ.grown MP (by simpa using dA) (λg hg=>((show wr.ownsRow _ _ _ _ _ _ from H1.out.1).lt g hg).1)))
    have Nc:∀j (h1:j<ks.length) (h2:j<(ms++[m]).length),MU ks[j] 0 (ms++[m])[j]:=λj h1 h2=>by
     by_cases hj:j<ms.length
     .rw[List.getElem_append_left hj];exact HI.out.2 j h1 hj
     .have hmk:ms.length=k:=by have:=HI.out.1.1;omega
      have Y6:j=k:=by simp at h2;omega
      subst Y6;rw[List.getElem_append_right Y];simp only[hmk,Nat.sub_self,List.getElem_cons_zero];exact HL.out
    have H4:=Z (H hOR (H (H Qj Nc) MQ));have Wt:(os++[(⟨Ae,ne,ce,Aa,na,ca⟩:M2)]).length=k+1:=by simp[pj]
    clear Qj hOR MQ Nc eQ MP Dy bh iY dA m0 m1 lm;go_wp2_with fail;go_roundw
    case rel=>exact ⟨k+1,_,_,Y,by go_num,H4.out.1,Wt,H4.out.2.1,H4.out.2.2⟩
    case measure=>exact μ
  .obtain rfl:k=n:=Y;have hd:decide ((k:Int)<(k:Int))=false:=θ;have cX:decide (k<k)=false:=θ;obtain ⟨A2,c2,rfl,-,-⟩:=ar (show wr.ownsRow _ _ _ _ _ _ from hown);rw[pj];have H1:=Z (H hown (H pj aY));obtain ⟨W1,hW1⟩:∃V:World,V=wr:=⟨_,rfl⟩;rw[<-hW1]at H1 HI|-;clear hown aY pj hW1;go_wp2_with fail;go_loopw [40] (λi wr=>∃j:Nat,j<=k/\i=.int .i64 (j:Int)/\Hid (∀i,i<j->(ks.take i).any (λo=>decide (some o.nm=(ks[i]?).map Kn.nm))=false)/\Below W1.heap.size W1 wr) (λi _=>k - (intOf i).toNat)
   case atStart=>exact ⟨0,Y,rfl,λi hi=>absurd hi (Nat.not_lt_zero i),υ⟩
   case round=>
    obtain ⟨j,hj,rfl,HJ,ZQ⟩:=hrel;by_cases rf:j<k
    .have kc:decide ((j:Int)<(k:Int))=true:=τ;have ajO:decide (j<k)=true:=decide_eq_true rf;have Dw:j<us.length:=by have:=HN.out.1;omega
     have hkk:j<ks.length:=by have:=HN.out.2.1;omega
     obtain ⟨g,f,rfl,hg,bB⟩:=HO.out.resolve_left (by rintro rfl;cases Dw)
     obtain ⟨u,hu⟩:=ν (us[j]);have aY:=H1.out.2.2.trans (ZQ.mono H1.out.2.2.size);have ig:=λj' hj'=>(aY.cl g (f+j*11+j') hg).trans (bB j Dw j' hj');rw[hu]at ig;obtain ⟨⟨q0,q1,q2,q3,q4,q5⟩,q6,q7,q8,q9,EB⟩:=jY ig;have od:g<wr.heap.size:=Nat.lt_of_lt_of_le hg aY.size;have hjc:(j:Int)<=(c:Int):=by have:=HN.out.2.2.1;omega
     have atc:j<=c:=by have:=HN.out.2.2.1;omega
     have mI:(c:Int)<=9223372036854775807:=by have:=HN.out.2.2.2;omega
     have sT:((us.take j).map λo=>decide (o.nm=u.nm))=(us.take j).map (λo=>decide (o.nm=u.nm)):=rfl;have pD:(us.take j).any (λo=>decide (o.nm=u.nm))=(ks.take j).any (λo=>decide (some o.nm=(ks[j]?).map Kn.nm)):=by
      have e1:(ks[j]?).map Kn.nm=some u.nm:=by rw[List.getElem?_eq_getElem hkk,<-hu,py.out j Dw hkk];rfl
      rw[e1,<-fg,<-fg]
      congr 1
      refine List.ext_getElem (by simp;have:=HN.out;omega) λi h1 h2=>?_
      simp only[List.getElem_map,List.getElem_take];rw[py.out i (by simp at h1;omega) (by simp at h2;omega)]
      simp
     have Kz:=Z pD;have HR:=Z λ(W:World) (hb:Below wr.heap.size wr W) (p:Nat) (hp:∀V,Below W.heap.size W V->V.cell? ⟨p,0,none⟩=some (.string u.nm))=>Jh 83 #[.pointer (some ⟨p,0,none⟩)] ((us.take j).map KC.cs) ((us.take j).map λo=>decide (o.nm=u.nm)) (.slice (some ⟨g,f,none⟩) j c) W
      ⟨_,c,by rw[List.length_map,List.length_take,Nat.min_eq_left Y],⟨ψ,Y⟩,.inr ⟨g,f,rfl,Nat.lt_of_lt_of_le od hb.size,λi hi=>⟨by simp[KC.cs],λj' hj'=>by
       simp only[List.length_map,List.length_take]at hi;simp only[List.getElem_map,List.getElem_take];exact ((aY.trans (hb.mono aY.size)).cl g (f+i*11+j') hg).trans (bB i Y j' hj')⟩⟩⟩
      ⟨WW,ξ,λi hi b aJ w' aj0=>by
       have eS:i<(us.take j).length:=by simpa using hi
       have bW:b=decide (((us.take j)[i]).nm=u.nm):=by
        rw[List.getElem?_map,List.getElem?_eq_getElem eS]at aJ;injection aJ with aJ;exact aJ.symm
       rw[bW,List.getElem_map];exact Jl ((us.take j)[i]) p u.nm w' (hp w' aj0)⟩
     rw[fg]at HR;obtain ⟨b,hb⟩:∃b,(us.take j).any (λo=>decide (o.nm=u.nm))=b:=⟨_,rfl⟩;rw[hb]at HR Kz;have Qv:=Z ZQ;clear pD sT hb bB ig aY ZQ hu
     go_upto_region 15 with fail
     refine dD λW0 aP=>?_;have hb0:Below wr.heap.size wr W0:=by rw[aP];exact υ.alloc I _
     have nW:Nf u wr.heap.size W0:=by rw[aP];exact heap_alloc_new wr _
     have cH:=Z (H hb0 nW);clear aP hb0 nW q0 q1 q2 q3 q4 q5 q6 q7 q8 q9 EB;go_wp2_with fail;refine (HR.out W0 cH.out.1 wr.heap.size (λV hV=>(cH.out.2.later hV).cells.1.1)).mono ?_;rintro e w1 ⟨rfl,hb1⟩;have aX:=Z (cH.out.1.trans (hb1.mono cH.out.1.size));clear hb1
     cases b with
     |true=>
      go_wp2_with fail
      go_ret2
      have pN:Below w.heap.size w w1:=H1.out.2.2.trans ((Qv.out.trans (aX.out.mono Qv.out.size)).mono H1.out.2.2.size);have hdp:zi ks=true:=by
       unfold zi;exact List.any_eq_true.2 ⟨j,List.mem_range.2 hkk,Kz.out.symm⟩
      refine ⟨pN,7,ms,.inr ⟨⟨by have:=HN.out.2.1;omega,by have:=HN.out.2.1;omega⟩,.inr ⟨?_,λi q1 q2=>HI.out.2 i q1 q2,by rw[hdp];rfl⟩⟩,.inl ⟨O,rfl⟩⟩
      have:=HI.out.1.1;have:=H1.out.2.1;have:=HN.out.2.1;omega
     |false=>
      go_wp2_with fail;go_roundw
      case rel=>exact ⟨j+1,Y,by go_num,λi hi=>by
       by_cases DN:i=j
       .subst DN;exact Kz.out.symm
       .exact HJ.out i Y,Qv.out.trans (aX.out.mono Qv.out.size)⟩
      case measure=>exact μ
    .obtain rfl:j=k:=Y;go_wp2_with fail
     go_ret2
     refine ⟨H1.out.2.2.trans (ZQ.mono H1.out.2.2.size),0,ms,.inr ⟨⟨by have:=HN.out.2.1;omega,by have:=HN.out.2.1;omega⟩,.inr ⟨?_,λi q1 q2=>HI.out.2 i q1 q2,?_⟩⟩,.inr ⟨rfl,_,os,rfl,?_,?_,λi q1 q2=>?_⟩⟩
     .have:=HI.out.1.1;have:=H1.out.2.1;have:=HN.out.2.1;omega
     .rw[if_neg];rw[Bool.not_eq_true];unfold zi;rw[List.any_eq_false];intro i hi;rw[List.mem_range]at hi;rw[HJ.out i (by have:=HN.out.2.1;omega)]
      decide
     .have hq:=H1.out.1.later ZQ;rw[H1.out.2.1]at hq;exact hq
     .have:=H1.out.2.1;have:=HN.out.2.1;omega
     .obtain ⟨B,axI,p1,p2,-⟩:=(HI.out.1.later ZQ).2 i q1 q2;exact p1.mc
def MT(k:Kn):Prop:=uP (bl k.nm)=true/\aR k.pat=0/\aW k.pat<=10/\zh k=true
theorem MU.ok{k:Kn}{er:Int}{m:Mc}(h:MU k er m)(hg:MT k):er=0:=by
 rcases h with ⟨h,-⟩|⟨-,ZC,hc,h⟩
 .rw[hg.1]at h;cases h
 .have h0:=hc.few hg.2.1 hg.2.2.1;rcases h with ⟨h1,-⟩|⟨-,h2⟩
  .exact absurd h0 h1
  .rw[h2,hg.2.2.2];rfl
theorem T2.ok{ks:List Kn}{er:Int}{ms:List Mc}(h:T2 ks er ms)(h1:1<=ks.length)(h2:ks.length<=32)(hg:∀k∈ks,MT k)(hd:zi ks=false):er=0:=by
 rcases h with ⟨h,-⟩|⟨-,⟨i,hi,-,⟨m,hm⟩,hne⟩|⟨-,-,h⟩⟩
 .omega
 .exact absurd (hm.ok (hg _ (List.getElem_mem hi))) hne
 .rw[h,hd];rfl
end Go.Proofs.YtdmoogjddmdmbaaGreatDoor
