/- Walks. -/
import Derived.Test.YthamegenljmgmaaGreatDoorY29
import Derived.Test.YthamegenljmgmaaGreatDoorY31
import Derived.Test.YthamegenljmgmaaGreatDoorY19
import Derived.Test.YthamegenljmgmaaGreatDoorY25
import Derived.Test.YthamegenljmgmaaGreatDoorY28
import Derived.Test.YthamegenljmgmaaGreatDoorY13
import Derived.Test.YthamegenljmgmaaGreatDoorY26
set_option maxRecDepth 100000
set_option maxHeartbeats 16000000
set_option linter.unusedVariables false
set_option linter.unusedSimpArgs false
namespace Go.Proofs.YthamegenljmgmaaGreatDoor
open Go.RowKit
def LS(nd:Nd)(w:World)(e:Ending)(w':World):Prop:=
 Below w w w'/\
 ((bz nd≠0/\e=.returned (.tuple #[dK,.int .i64 (bz nd)]))\/
  (bz nd=0/\600<aL nd/\e=.returned (.tuple #[dK,.int .i64 3]))\/
  (bz nd=0/\aL nd<=600/\∃b x,Mk ⟨[],[]⟩ b x (sV nd)/\b.fol.length=aL nd/\(∀rs∈b.sets,∀r∈rs,r.2<256)/\
   ((∃g1:List (List Nat),2000<g1.length/\(g1.Nodup/\g1[0]?=some []/\(∀g∈g1,g.Pairwise (·<·))/\∀j,0<j->j<g1.length->(g1[j]?).getD []≠[]/\∃w,∀p,p∈(g1[j]?).getD []↔qc b x w p)/\e=.returned (.tuple #[dK,.int .i64 3]))\/
    ∃gs rows aN,uc b x gs rows aN gs.length/\gs.length<=2000/\∃rv m',e=.returned (.tuple #[rv,.int .i64 0])/\nI w w' rv m'/\BN ⟨rows,aN⟩ m')))
theorem wU.qM{w0:World}{s:Nat}{b:Pb}{vs vf:Value}{rows sv:List Value}{w:World}(h:wU w0 s b vs vf rows sv w):∀rs∈b.sets,∀r∈rs,r.1<256/\r.2<256:=by
 intro rs lU r hr;obtain ⟨i,hi,rfl⟩:=List.mem_iff_getElem.1 lU;obtain ⟨v,-,⟨A,c,-,-,h2⟩,-⟩:=h.tB i hi;rcases h2 with h2|⟨g,f,-,-,h3⟩
 .rw[h2]at hr;cases hr
 .obtain ⟨j,hj,rfl⟩:=List.mem_iff_getElem.1 hr;exact (h3 j hj).2
theorem Mk.Xj{b:Pb}{x:cI}{A:Au}(h:Mk ⟨[],[]⟩ b x A):(∀p∈x.first,p<b.sets.length)/\(∀p∈x.last,p<b.sets.length)/\∀l∈b.fol,∀p∈l,p<b.sets.length:=by
 have hl:=h.len;refine ⟨λp hp=>by have:=(h.bP.fst p hp).2;omega,λp hp=>by have:=(h.bP.iW p hp).2;omega,λl hm p hp=>?_⟩
 obtain ⟨i,hi,rfl⟩:=List.mem_iff_getElem.1 hm;have h1:=(h.bP.cls i (Nat.zero_le _) hi p (by unfold cN;rw[List.getElem?_eq_getElem hi];exact hp)).2
 omega
theorem zH(nd:Nd)(vs:List Value)(w:World)(hn:bY w nd vs):Calls Tryz.prog 8 #[.agg vs.toArray] w (LS nd w):=by
 have HV:=Y (λW (hW:Below w w W)=>sW nd vs W (hn.later hW));have HP:=Y (λW (hW:Below w w W) (h:aA nd<=200) (hR:aF nd=true)=>BO _ nd vs W V h hR (hn.later hW));have HW:=Y (λ(W:World) (hW:Below w w W) (hR:aF nd=true) (hp:aL nd<=600)=>NC W W _ nd vs V hR hp (hn.later hW));obtain ⟨A1,c1,A2,c2,rfl,hr,jD,hk⟩:=hn.form;have HB:=Y (show Below w w ((w.alloc (.cells #[.int .i64 nd.op,.slice A1 nd.rs.length c1,.slice A2 nd.kids.length c2,.int .i64 nd.mn,.int .i64 nd.mx] 26)).alloc (.cells #[(),()] 35)) from (D.alloc V _).alloc H _);have BB:=Y (show ((w.alloc (.cells #[.int .i64 nd.op,.slice A1 nd.rs.length c1,.slice A2 nd.kids.length c2,.int .i64 nd.mn,.int .i64 nd.mx] 26)).alloc (.cells #[(),()] 35)).heap[w.heap.size]?=some (.cells #[.int .i64 nd.op,.slice A1 nd.rs.length c1,.slice A2 nd.kids.length c2,.int .i64 nd.mn,.int .i64 nd.mx] 26) from (az _ _ _ H).t (heap_alloc_new w _));have DQ:=Y (show ((w.alloc (.cells #[.int .i64 nd.op,.slice A1 nd.rs.length c1,.slice A2 nd.kids.length c2,.int .i64 nd.mn,.int .i64 nd.mx] 26)).alloc (.cells #[(),()] 35)).heap[w.heap.size+1]?=some (.cells #[(),()] 35) from by simpa using heap_alloc_new (w.alloc _) (.cells #[(),()] 35))
 clear hr hk hn
 go_enter Tryz.func8,Tryz.ntmps8
 go_wp2_with fail;refine (HV _ HB.o).mono ?_;rintro e w1 ⟨rfl,aM⟩;have dh:=aM.size;simp only[World.size_alloc]at dh;have oo:=Y (show Below w w w1 from HB.t (aM.mono HB.size));have pq:=(aM.block w ψ).t BB.o;have fk:=(aM.block (w+1) H).t DQ.o;obtain ⟨n0,n1,n2,n3,n4⟩:=aD pq;obtain ⟨r0,r1⟩:w1.cell? (Z (w+1) 0)=some (.slice none 0 0)/\w1.cell? (Z (w+1) 1)=some (.slice none 0 0):=by constructor <;> (rw[Φ fk]; rfl)
 have f0:w1.frozen? (Z (w+1) 0)=false:=Ψ fk
 have f1:w1.frozen? (Z (w+1) 1)=false:=Ψ fk
 have lR:w.heap.size+1<w1:=(γ fk).1;have HY0:=Y pq;have Z5:=Y fk;obtain ⟨q,hq⟩:=ν (bz nd);rw[hq];clear pq fk aM;by_cases uy:q=0
 case neg=>
  have d1:(q != 0)=true:=by simpa using uy
  have HQ:=Y (I hq uy);clear hq uy;go_wp2_with fail;refine au λWf bG=>?_;refine bodyPost_ret (v:=.tuple #[dK,.int .i64 q]) (by rw[bG];simp[results,Tryz.results8,go_sem,r0,r1,lR,dK];try rfl) rfl ?_
  refine ⟨?_,.inl ⟨by rw[HQ.1];exact HQ.2,by rw[HQ.1]⟩⟩
  rw[bG];exact (oo.sc (w+1) 0 (by show w.heap.size<=w+1;omega) _).sc (w+1) 1 (by show w.heap.size<=w+1;omega) _
 case pos=>
 subst uy;have d1:((0:Int) != 0)=false:=rfl;obtain ⟨gQ,Z6,hR,Lw⟩:=im hq;have HQ:=Y (I hq (I hR gQ));clear hq Z6 hR Lw gQ;go_wp2_with fail;refine (HP _ oo.o HQ.2.2 HQ.2.1).mono ?_;rintro e w2 ⟨rfl,aS⟩;have cT:=aS.size;have nA:=Y (oo.t (aS.mono oo.size));have pq:=(aS.block w U).t HY0.o;have fk:=(aS.block (w+1) lR).t Z5.o;clear n0 n1 n2 n3 n4 r0 r1 f0 f1;obtain ⟨n0,n1,n2,n3,n4⟩:=aD pq;obtain ⟨r0,r1⟩:w2.cell? (Z (w+1) 0)=some (.slice none 0 0)/\w2.cell? (Z (w+1) 1)=some (.slice none 0 0):=by constructor <;> (rw[Φ fk]; rfl)
 have f0:w2.frozen? (Z (w+1) 0)=false:=Ψ fk
 have f1:w2.frozen? (Z (w+1) 1)=false:=Ψ fk
 have lR2:w.heap.size+1<w2:=U;have tH:=Y fk;obtain ⟨pn,sL⟩:∃p,aL nd=p:=⟨_,rfl⟩;rw[sL];clear pq fk aS;by_cases J3:600<pn
 .have d2:decide (600<(pn:Int))=true:=τ;have Ys:=Y (I sL J3);clear sL J3;go_wp2_with fail;refine au λWf bG=>?_;refine bodyPost_ret (v:=.tuple #[dK,.int .i64 3]) (by rw[bG];simp[results,Tryz.results8,go_sem,r0,r1,lR2,dK];try rfl) rfl ?_
  refine ⟨?_,.inr (.inl ⟨HQ.1,by rw[Ys.1];exact Ys.2,rfl⟩)⟩
  rw[bG];exact (nA.sc (w+1) 0 (by show w.heap.size<=w+1;omega) _).sc (w+1) 1 (by show w.heap.size<=w+1;omega) _
 .have d2:decide (600<(pn:Int))=false:=θ;have dG:aL nd<=600/\dp nd<=10000000000:=by
   refine ⟨U,?_⟩;have h1:=Lx _ nd V HQ.2.1 U;have h2:bZ nd<=20:=(im HQ.1).2.1;have h3:bZ nd*aL nd<=20*600:=Nat.mul_le_mul h2 U;omega
  have di:=Y dG;have Hz:=Y (HW w2 nA.o HQ.2.1 dG.1);have lN2:w.heap.size<w2:=U;have lN3:w.heap.size<w2+1:=U;have nN2:w.heap.size≠w2:=U;clear sL dG J3;go_wp2_with fail;refine aJ λW hW=>?_;have du:Below w2 w2 W:=by rw[hW];exact D.alloc V _
  have pM:W.heap[w2.heap.size]?=some (.cells #[(),()] 65):=by rw[hW];exact heap_alloc_new w2 _
  have fY:tO w2 w2 ⟨[],[]⟩ [w2.heap.size] W:=⟨.slice none 0 0,.slice none 0 0,[],[],rfl,⟨by simp[o9,gZ,aq,Value.ownBlock],V,pM,World.ownsRow_nil _ _ _ _,λi hi=>(by cases hi),RR.iG _ _ _ _ _ _,du⟩⟩
  have aG:=Hz W ⟨[],[]⟩ [w2.heap.size] 0 fY rfl (by have:=di.1;show 0+_<=_;omega) (λl hl=>by cases hl) (by have:=di.2;omega)
  have HC:=Y aG;have dc:=Y du;have jc:W.heap.size=w2+1:=by rw[hW];simp
  have lW1:w2.heap.size+1<=W:=U;clear aG fY pM du hW jc n0 n1 n2 n3 n4 r0 r1 f0 f1;refine HC.mono ?_;rintro e w3 ⟨b,x,fp,v1,v2,rfl,iK,ec,iI,j9,qK,nO,pU,hK,-⟩;obtain ⟨B1,zk,rfl,wP⟩:=iI.form;obtain ⟨B2,J4,rfl,nw⟩:=j9.form;obtain ⟨nf,pW⟩:∃n,x.first.length=n:=⟨_,rfl⟩;obtain ⟨nl,mr⟩:∃n,x.last.length=n:=⟨_,rfl⟩;obtain ⟨ee,DS⟩:∃e,x.emp=e:=⟨_,rfl⟩;rw[pW]at iI|-;rw[mr]at j9|-;rw[DS];have ND:Below w2 w2 w3:=iK.cW;have Lz:b.fol.length=aL nd:=by rw[nO];show 0+_=_;omega
  have hl9:b.sets.length=b.fol.length:=qK.len;have jl:∀rs∈b.sets,∀r∈rs,r.1<256/\r.2<256:=by
   obtain ⟨vs,vf,rows,sv,-,h1⟩:=iK;exact h1.qM
  have sQ:w2.heap.size<w3:=by have:=ec.size;omega
  have HM:=Y (I iK (I iI (I j9 (I qK (I Lz (I pU (I hK (I hl9 jl))))))));have HN:=Y (I pW (I mr DS));have oq:=Y (nA.t (ND.mono nA.size));have hR3:=(ND.block (w+1) lR2).t tH.o;have RH:=Y hR3;clear iK ec iI j9 qK nO Lz pU hK hl9 jl ND pW mr DS hR3 wP nw;go_wp2_with fail;refine aJ λW4 Rk=>?_;have pE:Below w3 w3 W4:=by rw[Rk];exact D.alloc V _
  have hz4:w3.heap.size+1<=W4:=by rw[Rk];simp
  have hm:=HM.o;have jn:b.sets.length<=600:=by have:=di.1;omega
  have kZ:=CF w2 w2 b fp W4 x (.slice B1 nf zk) (.slice B2 nl J4) (hm.1.later pE) (hm.2.1.later pE) (hm.2.2.1.later pE) hm.2.2.2.1.Xj.1 hm.2.2.2.1.Xj.2.1 hm.2.2.2.1.Xj.2.2 hm.2.2.2.2.2.2.2.1 jn hm.2.2.2.2.2.2.2.2 (by have:=hm.2.2.2.2.2.1.1;have:=di.1;omega) (by have:=hm.2.2.2.2.2.1.2;have:=di.1;omega) (λl hl=>by have:=hm.2.2.2.2.2.2.1 l hl;have:=di.2;omega)
  rw[HN.2.2]at kZ;have Ka:=Y kZ;have sk:=Y pE;clear kZ pE hm jn Rk;refine Ka.mono ?_;rintro e w5 ⟨mj,uD⟩;have Hp:Below w w w5:=oq.t ((sk.t (mj.mono sk.size)).mono oq.size);have JU:=(mj.block (w+1) U).t ((sk.block (w+1) U).t RH.o);obtain ⟨r0,r1⟩:w5.cell? (Z (w+1) 0)=some (.slice none 0 0)/\w5.cell? (Z (w+1) 1)=some (.slice none 0 0):=by constructor <;> (rw[Φ JU]; rfl)
  have f0:w5.frozen? (Z (w+1) 0)=false:=Ψ JU
  have f1:w5.frozen? (Z (w+1) 1)=false:=Ψ JU
  have hz5:=mj.size;have lR5:w.heap.size+1<w5:=U;have lR6:w.heap.size+1<w5+1:=U;have Xk:=Y Hp;have HR5:=Y JU;clear mj Hp JU;rcases uD with ⟨g1,bg,dZ,rfl⟩|⟨gs,rows,aN,mv,qw,jm,rfl,hmc⟩
  .have HG1:=Y (I bg dZ);clear bg dZ;unfold dK;go_wp2_with fail;refine au λWf bG=>?_;refine bodyPost_ret (v:=.tuple #[dK,.int .i64 3]) (by rw[bG];unfold dK;simp[results,Tryz.results8,go_sem,r0,r1,lR5,lR6];try rfl) rfl ?_
   refine ⟨?_,.inr (.inr ⟨HQ.1,di.1,b,x,HM.2.2.2.1,HM.2.2.2.2.1,λrs h r hr=>(HM.2.2.2.2.2.2.2.2 rs h r hr).2,.inl ⟨g1,HG1.1,HG1.2,rfl⟩⟩)⟩;rw[bG];exact ((Xk.sc (w+1) 0 (by show w.heap.size<=w+1;omega) _).sc (w+1) 1 (by show w.heap.size<=w+1;omega) _).alloc (by simp[World.setCell];omega) _
  .have hd:=qw.done (λrs h r hr=>(HM.2.2.2.2.2.2.2.2 rs h r hr).2);have iy:rows.length=gs.length:=qw.rl;have oz:0<gs.length:=(List.getElem?_eq_some_iff.1 qw.g0).1;have eg:iE ⟨rows,aN⟩:=⟨λr hr=>(hd.2.1 r hr).2,λr hr=>by have:=(hd.2.1 r hr).1;omega,by show rows.length<=_;omega⟩
   obtain ⟨ve,va,rfl,he,ha⟩:=id hmc;obtain ⟨Ae,ce,rfl,-⟩:=he.form;obtain ⟨Aa,ca,rfl,-⟩:=ha.form;obtain ⟨nE,BI⟩:∃n,rows.length=n:=⟨_,rfl⟩;obtain ⟨nV,Il⟩:∃n,aN.length=n:=⟨_,rfl⟩;have yW:=λW (hW:Below w5 w5 W)=>EY _ ⟨rows,aN⟩ W (hmc.later hW) hd.1 eg (by show 1<=rows.length;omega) (by show rows.length<=2000;omega)
   simp only[BI,Il]at yW|-;have tT:=Y yW;have xX:=Y (I qw jm);clear yW qw jm hd iy oz eg hmc he ha BI Il;go_wp2_with fail;refine aJ λW6 LF=>?_;have xc:Below w5 w5 W6:=by rw[LF];exact D.alloc V _
   have tK:=Y xc;have hz6:=xc.size;clear LF xc r0 r1 f0 f1;refine (tT _ tK.o).mono ?_;rintro e w9 ⟨rv,m',rfl,fB,jF,xd⟩;obtain ⟨ve9,va9,rfl,Vp,ha9⟩:=fB.mc;obtain ⟨A9,c9,rfl,-⟩:=Vp.form;obtain ⟨B9,d9,rfl,-⟩:=ha9.form;obtain ⟨n9,LQ⟩:∃n,m'.ed.length=n:=⟨_,rfl⟩;obtain ⟨m9,Kc⟩:∃n,m'.ac.length=n:=⟨_,rfl⟩;rw[LQ,Kc]at fB|-;have S4:=jF.size;have Qh:=(jF.block (w+1) U).t ((tK.block (w+1) U).t HR5.o);obtain ⟨Vb,Vc⟩:w9.cell? (Z (w+1) 0)=some (.slice none 0 0)/\w9.cell? (Z (w+1) 1)=some (.slice none 0 0):=by constructor <;> (rw[Φ Qh]; rfl)
   have gz0:w9.frozen? (Z (w+1) 0)=false:=Ψ Qh
   have gz1:w9.frozen? (Z (w+1) 1)=false:=Ψ Qh
   have lR9:w.heap.size+1<w9:=U;have Gg:=Y (I fB (I jF xd));clear fB jF xd Vp ha9 Qh LQ Kc;go_wp2_with fail;refine au λWf bG=>?_;refine bodyPost_ret (v:=.tuple #[.agg #[.slice A9 n9 c9,.slice B9 m9 d9],(0:Int)]) (by rw[bG];simp[results,Tryz.results8,go_sem,Vb,Vc,lR9];try rfl) rfl ?_
   have aV:ab [w.heap.size+1] [] w9 Wf:=by
    rw[bG];have bf:∀k,k∉[w.heap.size+1]->k≠w.heap.size+1:=λk hn e=>hn (List.mem_singleton.2 e);exact ⟨rfl,rfl,rfl,by simp[World.setCell],λk _ hn=>(Below.heap_setCell (w9.setCell (Z (w+1) 0) _) (Z (w+1) 1) _ k (bf k hn)).t (Below.heap_setCell w9 (Z (w+1) 0) _ k (bf k hn)),λk hk=>by cases hk⟩
   have Xl:Below w w W6:=Xk.t (tK.mono Xk.size);have ju:Below w w Wf:=(Xl.t (Gg.2.1.mono Xl.size)).t (aV.below (λk hk=>by rw[List.mem_singleton]at hk;omega) U)
   have LR:=(Gg.1.keep aV (λk hk=>by rw[List.mem_singleton]at hk;omega)).mono Xl.size
   exact ⟨ju,.inr (.inr ⟨HQ.1,di.1,b,x,HM.2.2.2.1,HM.2.2.2.2.1,λrs h r hr=>(HM.2.2.2.2.2.2.2.2 rs h r hr).2,.inr ⟨gs,rows,aN,xX.1,xX.2,_,m',rfl,LR,Gg.2.2⟩⟩)⟩
theorem Qi{k1 k2 m1 m2:Mc}(h1:BN k1 m1)(h2:BN k2 m2)(h:∀w,eM k1 w 0=eM k2 w 0):m1=m2:=by
 have hl:aW k1 0↔aW k2 0:=⟨λ⟨w,e⟩=>⟨w,by rw[<-h];exact e⟩,λ⟨w,e⟩=>⟨w,by rw[h];exact e⟩⟩
 rcases h1.1 with ⟨DV,hc,he⟩|⟨hn,rfl⟩
 .rcases h2.1 with ⟨-,jD,xi⟩|⟨hn,-⟩
  .exact ld.unique hc jD λw=>(he w).t ((h w).t (xi w).symm)
  .exact absurd (hl.1 DV) hn
 .rcases h2.1 with ⟨wI,-⟩|⟨-,rfl⟩
  .exact absurd (hl.2 wI) hn
  .rfl
theorem aaB{nd:Nd}{w w' v v':World}{e f:Ending}(h:Dq nd w e w')(g:LS nd v f v'):
  Below w w w'/\Below v v v'/\∃(er:Int) (rv ru:Value) (m:Mc),e=.returned (.tuple #[rv,.int .i64 er])/\f=.returned (.tuple #[ru,.int .i64 er])/\nI w w' rv m/\nI v v' ru m/\jB m/\iE m:=by
 obtain ⟨hb,h⟩:=h;obtain ⟨gb,g⟩:=g;have fP:∀(B:Nat) (W:World),nI B W dK ⟨[],[]⟩:=λB W W' _=>⟨_,_,rfl,⟨none,0,rfl,⟨V,O⟩,.inl rfl⟩,⟨none,0,rfl,⟨V,O⟩,.inl rfl⟩⟩;have hvn:jB ⟨[],[]⟩:=⟨rfl,λr hr=>(by cases hr),λr hr=>(by cases hr)⟩
 have ob:iE ⟨[],[]⟩:=⟨λr hr=>(by cases hr),λr hr=>(by cases hr),O⟩
 refine ⟨hb,gb,?_⟩;rcases h with ⟨h1,rfl⟩|⟨h1,h2,rfl⟩|⟨h1,h2,b,x,gs,rows,aN,i,q1,q2,q3,q4,h⟩
 .rcases g with ⟨-,rfl⟩|⟨g1,-⟩|⟨g1,-⟩
  .exact ⟨_,_,_,_,rfl,rfl,fP _ _,fP _ _,hvn,ob⟩
  .exact absurd g1 h1
  .exact absurd g1 h1
 .rcases g with ⟨g1,-⟩|⟨-,-,rfl⟩|⟨-,g2,-⟩
  .exact absurd h1 g1
  .exact ⟨_,_,_,_,rfl,rfl,fP _ _,fP _ _,hvn,ob⟩
  .omega
 .rcases g with ⟨g1,-⟩|⟨-,g2,-⟩|⟨-,-,b2,x2,p1,p2,p3,g⟩
  .exact absurd h1 g1
  .omega
  .have ha:(gN nd).a=sV nd:=rfl;obtain ⟨L1,l1⟩:=q1.uB;obtain ⟨L2,l2⟩:=p1.uB;rw[ha]at l1;have k1:=q1.bP;have k2:=p1.bP;rcases h with ⟨xj,rfl⟩|⟨rfl,hle,rv,m',rfl,fB,xd⟩
   .rcases g with ⟨g1,-,-,rfl⟩|⟨kj,Tf,aaC,qw,dZ,-⟩
    .exact ⟨_,_,_,_,rfl,rfl,fP _ _,fP _ _,hvn,ob⟩
    .have:=yb l1 k1 l2 k2 q4.nd q4.g0 q4.kE q4.Yv qw p3;omega
   .rcases g with ⟨g1,xj,⟨n1,n2,n3,n4⟩,rfl⟩|⟨kj,Tf,aaC,qw,dZ,rv2,m2,rfl,r9,ahn⟩
    .have:=yb l2 k2 l1 k1 n1 n2 n3 n4 q4 q3;omega
    .have d1:=q4.done q3;have d2:=qw.done p3;have he:∀u,eM ⟨rows,aN⟩ u 0=eM ⟨Tf,aaC⟩ u 0:=λu=>by
      rw[Bool.eq_iff_iff,d1.2.2,d2.2.2,l1.LP k1,l2.LP k2]
     obtain rfl:=Qi xd ahn he;exact ⟨_,_,_,_,rfl,rfl,fB,r9,(LU xd).1,xd.2.2⟩
def zr(nd:Nd):Nat:=if bz nd=0 then aL nd else 0
theorem zz8q(nd:Nd)(vs:List Value)(w:World)(hn:bY w nd vs):Calls Tryz.prog 10 #[.agg vs.toArray] w λe w'=>e=.returned (.int .i64 ((zr nd:Nat):Int))/\Below w w w':=by
 have HV:=Y λW (hb:Below w w W)=>rZ nd vs W (hn.later hb);have HS:=Y λW (hb:Below w w W) (h:aA nd<=200) (hR:aF nd=true)=>pL _ nd vs W V h hR (hn.later hb);obtain ⟨p,hp⟩:=ν (zr nd);rw[hp];have HP:=Y hp;obtain ⟨A1,c1,A2,c2,rfl,-⟩:=hn.form;have HB:=Y ((Below.refl w w).alloc V (.cells #[.int .i64 nd.op,.slice A1 nd.rs.length c1,.slice A2 nd.kids.length c2,.int .i64 nd.mn,.int .i64 nd.mx] 26));have HX:=Y (heap_alloc_new w (.cells #[.int .i64 nd.op,.slice A1 nd.rs.length c1,.slice A2 nd.kids.length c2,.int .i64 nd.mn,.int .i64 nd.mx] 26));clear hn hp
 go_enter Tryz.func10,Tryz.ntmps10
 go_wp2_with fail;refine (HV _ HB.o).mono ?_;rintro e w1 ⟨rfl,aM⟩;have hx:=(aM.block w H).t HX.o;obtain ⟨n0,n1,n2,n3,n4⟩:=aD hx;have lN:w.heap.size<w1:=(γ hx).1;have cM:=Y (HB.t (aM.mono HB.size));obtain ⟨q,hq⟩:=ν (bz nd);rw[hq];clear hx aM;by_cases uy:q=0
 .subst uy;have d1:((0:Int) != 0)=false:=rfl;obtain ⟨gQ,-,hR,-⟩:=im hq;have HC:=Y (HS w1 cM.o gQ hR);have HQ:=Y hq;clear hq gQ hR;go_wp2_with fail;refine HC.mono ?_;rintro e w2 ⟨rfl,aS⟩;have fS:=Y (cM.t (aS.mono cM.size));clear aS;go_wp2_with fail;go_ret;exact ⟨aP (by rw[<-HP.o,zr,if_pos HQ.o]),fS.o⟩
 .have d1:(q != 0)=true:=by simpa using uy
  have HQ:=Y (I hq uy);clear hq uy;go_wp2_with fail;go_ret;exact ⟨aP (by rw[<-HP.o,zr,if_neg (by rw[HQ.1];exact HQ.2)];rfl),cM.o⟩
theorem vd(nd:Nd)(vs:List Value)(w:World)(hn:bY w nd vs):Calls Tryz.prog 11 #[.agg vs.toArray] w λe w'=>e=.returned (.int .i64 ((zr nd:Nat):Int))/\Below w w w':=by
 have HV:=Y λW (hb:Below w w W)=>sW nd vs W (hn.later hb);have HS:=Y λW (hb:Below w w W) (h:aA nd<=200) (hR:aF nd=true)=>BO _ nd vs W V h hR (hn.later hb);obtain ⟨p,hp⟩:=ν (zr nd);rw[hp];have HP:=Y hp;obtain ⟨A1,c1,A2,c2,rfl,-⟩:=hn.form;have HB:=Y ((Below.refl w w).alloc V (.cells #[.int .i64 nd.op,.slice A1 nd.rs.length c1,.slice A2 nd.kids.length c2,.int .i64 nd.mn,.int .i64 nd.mx] 26));have HX:=Y (heap_alloc_new w (.cells #[.int .i64 nd.op,.slice A1 nd.rs.length c1,.slice A2 nd.kids.length c2,.int .i64 nd.mn,.int .i64 nd.mx] 26));clear hn hp
 go_enter Tryz.func11,Tryz.ntmps11
 go_wp2_with fail;refine (HV _ HB.o).mono ?_;rintro e w1 ⟨rfl,aM⟩;have hx:=(aM.block w H).t HX.o;obtain ⟨n0,n1,n2,n3,n4⟩:=aD hx;have lN:w.heap.size<w1:=(γ hx).1;have cM:=Y (HB.t (aM.mono HB.size));obtain ⟨q,hq⟩:=ν (bz nd);rw[hq];clear hx aM;by_cases uy:q=0
 .subst uy;have d1:((0:Int) != 0)=false:=rfl;obtain ⟨gQ,-,hR,-⟩:=im hq;have HC:=Y (HS w1 cM.o gQ hR);have HQ:=Y hq;clear hq gQ hR;go_wp2_with fail;refine HC.mono ?_;rintro e w2 ⟨rfl,aS⟩;have fS:=Y (cM.t (aS.mono cM.size));clear aS;go_wp2_with fail;go_ret;exact ⟨aP (by rw[<-HP.o,zr,if_pos HQ.o]),fS.o⟩
 .have d1:(q != 0)=true:=by simpa using uy
  have HQ:=Y (I hq uy);clear hq uy;go_wp2_with fail;go_ret;exact ⟨aP (by rw[<-HP.o,zr,if_neg (by rw[HQ.1];exact HQ.2)];rfl),cM.o⟩
end Go.Proofs.YthamegenljmgmaaGreatDoor
