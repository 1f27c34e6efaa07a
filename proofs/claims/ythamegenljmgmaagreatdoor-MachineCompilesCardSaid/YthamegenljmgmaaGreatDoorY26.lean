/- Walks. -/
import Derived.Test.YthamegenljmgmaaGreatDoorY25
import Derived.Test.YthamegenljmgmaaGreatDoorY14
import Derived.Test.YthamegenljmgmaaGreatDoorY21
import Derived.Test.YthamegenljmgmaaGreatDoorY19
import Derived.Test.YthamegenljmgmaaGreatDoorY15
import Derived.StillTailTactics
import Derived.Test.YthamegenljmgmaaGreatDoorY24
import Derived.Test.YthamegenljmgmaaGreatDoorY04
set_option maxRecDepth 100000
set_option maxHeartbeats 16000000
set_option linter.unusedVariables false
set_option linter.unusedSimpArgs false
namespace Go.Proofs.YthamegenljmgmaaGreatDoor
open Go.RowKit
section
open Go.Maps (Keyed)
theorem uV(n:Nat)(hn:n<=1000000)(w:World):(Instr.makeSlice 33 (.int .i64 (n:Int)) (.int .i64 (n:Int))).run Tryz.prog w=.ok (.slice (Z w 0) n n) (w.alloc (.cells (Array.replicate n (.bool false)) 4)):=by
 obtain ⟨i0,hi,dY,dh,cT⟩:=info_parts ik;have h:=run_makeSlice (P:=Tryz.prog) (w:=w) 33 4 i0 (.bool false) Tryz.underlying33 hi dY .i64 .i64 (n:Int) (n:Int) U (Int.le_refl _) (by rw[dh];omega) (by rw[cT];omega) U
 rw[dh,Int.toNat_natCast]at h;rw[show madeCells (Value.bool false).cells (n*1)=Array.replicate n (.bool false) from Array.toList_inj.1 (by
  simp only[madeCells,Value.cells,Nat.mul_one,Array.toList_map,Array.toList_range,Array.toList_replicate];rw[List.eq_replicate_iff];refine ⟨H,λx hx=>?_⟩;obtain ⟨i,-,rfl⟩:=List.mem_map.1 hx;simp[Nat.mod_one])]at h
 exact h
def Z4(s:Nat)(W:World)(c:Nat)(w':World):Prop:=Below s W w'/\(c=0->Below W W w')
def UP(w0:World)(s:Nat)(x2 x3 x4:Value)(Lg:LA)(pk KK:Nat)(W:World)(kv:Value):Nat->Nat->Value->World->Prop
 |c,0,x,w=>x=.pointer (Z s 0)
 |c,1,x,w=>x=.pointer (Z s 0)
 |c,2,x,w=>x=.pointer (Z s 0)
 |c,3,x,w=>x=kv
 |c,4,x,w=>c=1->P5 w0 s x2 x3 x4 ⟨[],[]⟩ [s] Lg pk KK W (.returned x) w
 |c,5,x,w=>∃g,x=.pointer (Z g 0)/\W.heap.size<=g/\g<w.heap.size/\w.heap[g]?=some (.cells #[(),(),.bool false] 56)
 |_,_,_,_=>True
def F6(N:Nat)(W:World)(c:Nat)(w':World):Prop:=W.heap.size<=w'/\w'.heap[N]?=W.heap[N]?/\(c<=1->Below W W w')
def F7(w0:World)(s mb:Nat)(v0 v1 v2:Value)(b:Pb)(gs:List (List Nat))(fp L:List Nat)(N i cE nL cL:Nat)(AE AL:Option Addr)(gv:List Value)(W:World):Nat->Nat->Value->World->Prop
 |c,0,x,w=>x=.pointer (Z N 0)
 |c,1,x,w=>x=.slice AE i cE
 |c,2,x,w=>x=.pointer (Z s 0)
 |c,3,x,w=>x=.slice AL nL cL
 |c,4,x,w=>c=1->∃A r c',x=.slice A r.length c'/\my L r/\w.ownsRow W 3 1 x r.length (b9 r)/\IL w x r
 |c,5,x,w=>c=2->UQ w0 s mb v0 v1 v2 b gs fp L W x w
 |c,6,x,w=>c=3->∃g rv,x=.slice (Z g 0) 1 1/\W.heap.size<=g/\g<w.heap.size/\w.cell? (Z g 0)=some rv/\rv.oneCell'=true/\UQ w0 s mb v0 v1 v2 b gs fp L W rv w
 |c,7,x,w=>c=4->∃rv w6 A c',x=.slice A (i+1) c'/\UQ w0 s mb v0 v1 v2 b gs fp L W rv w6/\w6.grownBy w (Value.slice AE i cE).ownBlock/\w.ownsRow w0 59 1 x (i+1) (gv++[rv])/\aT x (.slice AE i cE) w6
 |c,8,x,w=>x=.pointer (Z N 0)
 |_,_,_,_=>True
theorem sP(nd:Nd)(vs:List Value)(w:World)(hn:bY w nd vs)(pD:eU w):Calls Tryz.prog 7 #[.agg vs.toArray] w (Dq nd w):=by
 have HV:=Y (λW (hW:Below w w W)=>rZ nd vs W (hn.later hW));have HP:=Y (λW (hW:Below w w W) (h:aA nd<=200) (hR:aF nd=true)=>pL _ nd vs W V h hR (hn.later hW));have HW:=Y (λ(W:World) (s:Nat) (x2 x3 x4:Value) (hW:Below w w W) (hR:aF nd=true) (hp:aL nd<=600)=>Hy W s x2 x3 x4 _ nd vs V hR hp (hn.later hW));have qD:=Y pD;have Dw:=@run_makeMap Tryz.prog;obtain ⟨ie,nY,S1,DP,xi⟩:=info_parts zj;obtain ⟨ib,pe,hb0,aM,aS⟩:=info_parts ik;obtain ⟨ii,P6,r5,iI,j9⟩:=info_parts dF;obtain ⟨A1,c1,A2,c2,rfl,hr,jD,hk⟩:=hn.form;have HB:=Y (show Below w w ((w.alloc (.cells #[.int .i64 nd.op,.slice A1 nd.rs.length c1,.slice A2 nd.kids.length c2,.int .i64 nd.mn,.int .i64 nd.mx] 26)).alloc (.cells #[(),()] 35)) from (D.alloc V _).alloc H _);have BB:=Y (show ((w.alloc (.cells #[.int .i64 nd.op,.slice A1 nd.rs.length c1,.slice A2 nd.kids.length c2,.int .i64 nd.mn,.int .i64 nd.mx] 26)).alloc (.cells #[(),()] 35)).heap[w.heap.size]?=some (.cells #[.int .i64 nd.op,.slice A1 nd.rs.length c1,.slice A2 nd.kids.length c2,.int .i64 nd.mn,.int .i64 nd.mx] 26) from (az _ _ _ H).t (heap_alloc_new w _));have DQ:=Y (show ((w.alloc (.cells #[.int .i64 nd.op,.slice A1 nd.rs.length c1,.slice A2 nd.kids.length c2,.int .i64 nd.mn,.int .i64 nd.mx] 26)).alloc (.cells #[(),()] 35)).heap[w.heap.size+1]?=some (.cells #[(),()] 35) from by simpa using heap_alloc_new (w.alloc _) (.cells #[(),()] 35))
 clear hr hk hn pD
 go_enter Tryz.func7,Tryz.ntmps7
 go_wp2_with fail;refine (HV _ HB.o).mono ?_;rintro e w1 ⟨rfl,aM⟩;have dh:=aM.size;simp only[World.size_alloc]at dh;have oo:=Y (show Below w w w1 from HB.t (aM.mono HB.size));have pq:=(aM.block w ψ).t BB.o;have fk:=(aM.block (w+1) H).t DQ.o;obtain ⟨n0,n1,n2,n3,n4⟩:=aD pq;obtain ⟨r0,r1⟩:w1.cell? (Z (w+1) 0)=some (.slice none 0 0)/\w1.cell? (Z (w+1) 1)=some (.slice none 0 0):=by constructor <;> (rw[Φ fk]; rfl)
 have f0:w1.frozen? (Z (w+1) 0)=false:=Ψ fk
 have f1:w1.frozen? (Z (w+1) 1)=false:=Ψ fk
 have lR:w.heap.size+1<w1:=(γ fk).1;have HY0:=Y pq;have Z5:=Y fk;obtain ⟨q,hq⟩:=ν (bz nd);rw[hq];clear pq fk aM;by_cases uy:q=0
 case neg=>
  have d1:(q != 0)=true:=by simpa using uy
  have HQ:=Y (I hq uy);clear hq uy;go_wp2_with fail;refine au λWf bG=>?_;refine bodyPost_ret (v:=.tuple #[dK,.int .i64 q]) (by rw[bG];simp[results,Tryz.results7,go_sem,r0,r1,lR,dK];try rfl) rfl ?_
  refine ⟨?_,.inl ⟨by rw[HQ.1];exact HQ.2,by rw[HQ.1]⟩⟩
  rw[bG];exact (oo.sc (w+1) 0 (by show w.heap.size<=w+1;omega) _).sc (w+1) 1 (by show w.heap.size<=w+1;omega) _
 case pos=>
 subst uy;have d1:((0:Int) != 0)=false:=rfl;obtain ⟨gQ,Z6,hR,Lw⟩:=im hq;have HQ:=Y (I hq (I hR gQ));clear hq Z6 hR Lw gQ;go_wp2_with fail;refine (HP _ oo.o HQ.2.2 HQ.2.1).mono ?_;rintro e w2 ⟨rfl,aS⟩;have cT:=aS.size;have nA:=Y (oo.t (aS.mono oo.size));have pq:=(aS.block w U).t HY0.o;have fk:=(aS.block (w+1) lR).t Z5.o;clear n0 n1 n2 n3 n4 r0 r1 f0 f1;obtain ⟨n0,n1,n2,n3,n4⟩:=aD pq;obtain ⟨r0,r1⟩:w2.cell? (Z (w+1) 0)=some (.slice none 0 0)/\w2.cell? (Z (w+1) 1)=some (.slice none 0 0):=by constructor <;> (rw[Φ fk]; rfl)
 have f0:w2.frozen? (Z (w+1) 0)=false:=Ψ fk
 have f1:w2.frozen? (Z (w+1) 1)=false:=Ψ fk
 have lR2:w.heap.size+1<w2:=U;have HZ0:=Y pq;have tH:=Y fk;obtain ⟨pn,sL⟩:∃p,aL nd=p:=⟨_,rfl⟩;rw[sL];clear pq fk aS;by_cases J3:600<pn
 .have d2:decide (600<(pn:Int))=true:=τ;have Ys:=Y (I sL J3);clear sL J3;go_wp2_with fail;refine au λWf bG=>?_;refine bodyPost_ret (v:=.tuple #[dK,.int .i64 3]) (by rw[bG];simp[results,Tryz.results7,go_sem,r0,r1,lR2,dK];try rfl) rfl ?_
  refine ⟨?_,.inr (.inl ⟨HQ.1,by rw[Ys.1];exact Ys.2,rfl⟩)⟩
  rw[bG];exact (nA.sc (w+1) 0 (by show w.heap.size<=w+1;omega) _).sc (w+1) 1 (by show w.heap.size<=w+1;omega) _
 .have d2:decide (600<(pn:Int))=false:=θ;have dG:aL nd<=600/\dp nd<=10000000000:=by
   refine ⟨U,?_⟩;have h1:=Lx _ nd V HQ.2.1 U;have h2:bZ nd<=20:=(im HQ.1).2.1;have h3:bZ nd*aL nd<=20*600:=Nat.mul_le_mul h2 U;omega
  have di:=Y dG;have Hz:=Y (HW w2 (w2+1) () (.map (some w2.heap.size)) () nA.o HQ.2.1 dG.1);have Ys:=Y sL;have Yt:=Y (MV.made Tryz.prog 9 w2);clear sL dG;go_wp2_with fail;refine br λW hW=>?_;have jc:W.heap.size=w2+2:=by rw[hW];simp
  have du:Below w2 w2 W:=by rw[hW];exact (D.alloc V _).alloc H _
  have pM:W.heap[w2.heap.size+1]?=some (.cells #[(),(),(),.map (some w2.heap.size),()] 54):=by rw[hW];simpa using heap_alloc_new (w2.alloc (.map #[] 0)) (.cells #[(),(),(),.map (some w2.heap.size),()] 54)
  have hmW:MV Tryz.prog 9 w2 0 (λ_=>none) W:=by rw[hW];exact Yt.iJ (az _ _ _ H)
  have fY:qs w2 (w2+1) () (.map (some w2.heap.size)) () ⟨[],[]⟩ [w2.heap.size+1] W:=
   ⟨.slice none 0 0,.slice none 0 0,[],[],rfl,⟨by simp[aq,Value.ownBlock],U,pM,World.ownsRow_nil _ _ _ _,λi hi=>(by cases hi),World.ownsRow_nil _ _ _ _,λi hi=>(by cases hi),du⟩⟩
  have Bk:=Y fY;have Ga:=Y hmW;have dc:=Y du;have Z7:w.heap.size<w2+1:=U;have m0:=(du.cl w 0 (by show w.heap.size<w2;omega)).t n0
  have m1:=(du.cl w 1 (by show w.heap.size<w2;omega)).t n1
  have m2:=(du.cl w 2 (by show w.heap.size<w2;omega)).t n2
  have m3:=(du.cl w 3 (by show w.heap.size<w2;omega)).t n3
  have m4:=(du.cl w 4 (by show w.heap.size<w2;omega)).t n4
  have dN:Z4 (w2+1) W 0 W.drew:=⟨D.drew,λ_=>D.drew⟩;clear hW du pM hmW fY n0 n1 n2 n3 n4 r0 r1 f0 f1;refine ay 6 [4] (UP w2 (w2+1) () (.map (some w2.heap.size)) () (gN nd) (aL nd) (dp nd) W (.agg #[.int .i64 nd.op,.slice A1 nd.rs.length c1,.slice A2 nd.kids.length c2,.int .i64 nd.mn,.int .i64 nd.mx])) (λc w'=>Z4 (w2+1) W c w') R R R R R R O dN ?_ ?_
  .simp only[ck,ct];refine aa.pure O ?_ (aa.pure O ?_ (aa.pure O ?_ (aa.pure O ?_ (aa.jg 0 rfl ?_ (aa.gp O ?_ (aa.nil))))))
   all_goals first | (intro v wz c bX hS hE K hK;simp only[ah,Act.put,dk,dm,dn,Nat.zero_add,Nat.reduceAdd,ck,ct]at hK|-) | (intro v wz hS hE K hK;simp only[ah,Act.put,dk,dm,dn,Nat.zero_add,Nat.reduceAdd,ck,ct]at hK|-)
   .exact ζ
   .have e0:v 0=_:=hE.1 rfl;rw[e0]at hK|-;exact ζ
   .have e1:v 1=_:=hE.1 rfl;rw[e1]at hK|-;exact ζ
   .have b0z:=(hS.1.cl w 0 Z7).t m0;have b1z:=(hS.1.cl w 1 Z7).t m1;have b2z:=(hS.1.cl w 2 Z7).t m2;have b3z:=(hS.1.cl w 3 Z7).t m3;have b4z:=(hS.1.cl w 4 Z7).t m4;have l1:w.heap.size<wz:=by have:=hS.1.size;omega
    exact ζ
   .have e2:v 2=_:=hE.1 rfl;have e3:v 3=_:=hE.2.1 rfl;rw[e2,e3]at hK|-;have hz:=hS.2 rfl;have aG:=Hz wz ⟨[],[]⟩ [w2.heap.size+1] 0 (Bk.later hz) rfl (by have:=di.1;show 0+_<=_;omega) (λl hl=>by cases hl) (by have:=di.2;omega)
    have HC:=Y aG;have HX:=Y hS;clear hS hE aG hz;go_wp2_with fail;refine HC.mono ?_;rintro e wy ⟨b',y,fp',v1,v2,rfl,iK,ec,fs,ek,cR,dU,eV,df,gz⟩;have HP:=Y (I iK (I ec (I fs (I ek (I cR (I dU (I eV (I df gz))))))));clear iK ec fs ek cR dU eV df gz;go_wp2_with fail;refine hK.out _ _ (λj z hj h=>?_) ⟨HX.1.t (HP.2.1.below (λk hk=>by rw[List.mem_singleton]at hk;omega) (by have:=HX.1.size;omega)),λh=>by cases h⟩ (λ_=>⟨b',y,fp',v1,v2,rfl,HP.1,(ab.aj (HX.2 rfl)).t HP.2.1,HP.2.2.1,HP.2.2.2.1,HP.2.2.2.2.1,HP.2.2.2.2.2.1,HP.2.2.2.2.2.2.1,HP.2.2.2.2.2.2.2.1,λl hl=>by have:=HP.2.2.2.2.2.2.2.2 l hl;omega⟩)
    match j with
    |0|1|2|3=>exact h
    |4=>exact absurd rfl hj
    |5=>
     obtain ⟨g,e,h1,h2,h3⟩:=h;exact ⟨g,e,h1,Nat.lt_of_lt_of_le h2 HP.2.1.size,(HP.2.1.aq g h2 (by rw[List.mem_singleton];omega)).t h3⟩
    |_+6=>exact trivial
   .have bw:Below wz wz (wz.alloc (.cells #[(),(),.bool false] 56)):=D.alloc V _;have jc:=hS.1.size;have jK:Below (w2+1) W (wz.alloc (.cells #[(),(),.bool false] 56)):=hS.1.alloc U _;have hb0:c=0->Below W W (wz.alloc (.cells #[(),(),.bool false] 56)):=λhc=>(hS.2 hc).alloc jc _;have HX:=Y (I jK hb0);have iZ:=Y bw;clear hS hE bX bw jK hb0;go_wp2_with fail;refine hK.out _ _ (λj z hj h=>?_) HX.o ⟨wz.heap.size,rfl,jc,H,by simpa using heap_alloc_new wz (.cells #[(),(),.bool false] 56)⟩
    match j with
    |0|1|2|3=>exact h
    |4=>exact λhc=>(h hc).later iZ.o
    |5=>exact absurd rfl hj
    |_+6=>exact trivial
  .intro v wz hS hF;have e0:v 0=_:=hF 0 O;have e1:v 1=_:=hF 1 O;have e2:v 2=_:=hF 2 O;have e3:v 3=_:=hF 3 O;have E4:=hF 4 O;have E5:=hF 5 O;simp only[ah,Act.put,dk,dm,dn,Nat.zero_add,Nat.reduceAdd,ck,ct,List.drop_succ_cons,List.drop_zero,e0,e1,e2,e3];clear hF e0 e1 e2 e3;obtain ⟨wZ,rfl⟩:∃W:World,W=wz:=⟨_,rfl⟩;obtain ⟨gP,e5,apZ,ap0,DR⟩:=E5;obtain ⟨b,x,fp,v1,v2,ev,Z8,jr,⟨fs,xh⟩,⟨ek,uS⟩,p5,nO,Z9,pU,hK⟩:=E4 rfl;injection ev with ev;rw[ev,e5];have Ia:gP∉fp:=Z8.qN DR;obtain ⟨B1,zk,rfl,wP⟩:=fs.form;obtain ⟨B2,J4,rfl,nw⟩:=ek.form;obtain ⟨vs,vf,rows,sv,pV,jK⟩:=Z8;obtain ⟨eN,Ly⟩:∃n,b.fol.length=n:=⟨_,rfl⟩;have eP:b.sets.length=eN:=by rw[p5.len,Ly]
   have Lz:eN=aL nd:=by rw[<-Ly,nO];show 0+_=_;omega
   have hpp:=Gb _ nd V HQ.2.1;have p8:eN<=600:=by have:=di.1;omega
   have ow:=jK.sets;have ox:=jK.fol;rw[eP]at ow;rw[Ly]at ox;obtain ⟨gS,cS,rfl,S2,hoS,UR,LB⟩:=qO ow U;obtain ⟨gF,cF,rfl,hcF,hoF,hgF,LC⟩:=qO ox U;obtain ⟨z0,z1,z2⟩:=aK DR;have y0:wZ.frozen? (Z gP 0)=false:=Ψ DR
   have y1:wZ.frozen? (Z gP 1)=false:=Ψ DR
   have y2:wZ.frozen? (Z gP 2)=false:=Ψ DR
   obtain ⟨s0,s1,s2,s3,s4⟩:=aD jK.cs;have t2:wZ.frozen? (Z (w2+1) 2)=false:=Ψ jK.cs
   have S3:w2.heap.size+1<wZ:=(γ jK.cs).1;have ne1:¬gP=w2.heap.size+1:=U;have ne2:¬w2.heap.size+1=gP:=U;have ap1:w2.heap.size+1<wZ+1:=U;have ap2:gP<wZ+1:=U;have qK:=uV eN U;obtain ⟨nl,mr⟩:∃n,x.last.length=n:=⟨_,rfl⟩;rw[mr];obtain ⟨nf,pW⟩:∃n,x.first.length=n:=⟨_,rfl⟩;rw[pW];obtain ⟨ee,DS⟩:∃e,x.emp=e:=⟨_,rfl⟩;rw[DS];have ap3:nl<=600/\nf<=600:=by have:=di.1;have:=pU.1;have:=pU.2;omega
   have wK:=Y (I jK (I p5 (I Z9 pU)));have BC:=Y (I fs xh);have oa:=Y (I ek uS);have KS:=Y (I jr Ia);have HN:=Y (I Ly (I eP (I Lz (I mr (I pW (I DS pV))))));have Df:=Y hK;have OI:=Y hS;have OT:=Y DR;clear jK p5 Z9 pU fs xh ek uS jr Ia Ly eP Lz mr pW DS pV hK hS DR ev e5 E4 nO ow ox;go_wp2_with fail;refine br λW9 xY=>?_;have Lo:W9.heap[wZ.heap.size]?=some (.cells (Array.replicate eN (.bool false)) 4 (0,0)):=by
    rw[xY];have h1:=heap_alloc_new ((((wZ.setCell (Z gP 0) (.slice B1 nf zk)).setCell (Z gP 1) (.slice B2 nl J4)).setCell (Z gP 2) (.bool ee)).setCell (Z (w2+1) 2) (.slice (Z wZ 0) eN eN)) (.cells (Array.replicate eN (.bool false)) 4);simpa [World.setCell] using h1
   obtain ⟨W3,pg⟩:∃W3,W3=((wZ.setCell (Z gP 0) (.slice B1 nf zk)).setCell (Z gP 1) (.slice B2 nl J4)).setCell (Z gP 2) (.bool ee):=⟨_,rfl⟩;rw[<-pg]at xY;have sQ:W3.heap.size=wZ:=by rw[pg];simp[World.setCell]
   have hP3:W3.heap[gP]?=some (.cells #[.slice B1 nf zk,.slice B2 nl J4,.bool ee] 56):=by
    rw[pg];have h1:=aE (aE (aE OT.o 0 (.slice B1 nf zk)) 1 (.slice B2 nl J4)) 2 (.bool ee);simpa using h1
   have oy:ab [gP] [] wZ W3:=by
    rw[pg];have bf:∀k,k∉[gP]->k≠gP:=λk hn e=>hn (List.mem_singleton.2 e);exact ⟨rfl,rfl,rfl,by simp[World.setCell],λk _ hn=>(Below.heap_setCell _ (Z gP 2) _ k (bf k hn)).t ((Below.heap_setCell _ (Z gP 1) _ k (bf k hn)).t (Below.heap_setCell wZ (Z gP 0) _ k (bf k hn))),λk hk=>by cases hk⟩
   have SA:W3.heap[w2.heap.size+1]?=some (.cells #[.slice (Z gS 0) eN cS,.slice (Z gF 0) eN cF,(),.map (some w2.heap.size),()] 54):=(oy.aq _ S3 (λh=>ne2 (List.mem_singleton.1 h))).t wK.1.cs;have BD:W9.heap[w2.heap.size+1]?=some (.cells #[.slice (Z gS 0) eN cS,.slice (Z gF 0) eN cF,.slice (Z wZ 0) eN eN,.map (some w2.heap.size),()] 54):=by
    rw[xY,az _ _ _ (by simp[World.setCell];omega)]
    have h1:=aE SA 2 (.slice (Z wZ 0) eN eN);simpa using h1
   have pr:ab [w2.heap.size+1] [w2.heap.size+1,wZ.heap.size] W3 W9:=by
    rw[xY];refine ⟨rfl,rfl,rfl,by simp[World.setCell],λk hk hn=>(az _ _ _ (by simp[World.setCell];exact hk)).t (Below.heap_setCell _ _ _ _ (λe=>hn (List.mem_singleton.2 e))),λk hk=>?_⟩
    simp only[List.mem_cons,List.not_mem_nil,or_false]at hk|-;exact hk.imp id λh=>U
   have hP9:=(pr.aq gP U (λh=>ne1 (List.mem_singleton.1 h))).t hP3;have nP:OR 4 1 bC wZ (.slice (Z wZ 0) eN eN) (jS x.last eN 0) W9:=by
    have h1:=r6 (W3.setCell (Z (w2+1) 2) (.slice (Z wZ 0) eN eN)) eN U;rw[show (W3.setCell (Z (w2+1) 2) (.slice (Z wZ 0) eN eN)).heap.size=wZ.heap.size by simp[World.setCell];exact sQ]at h1
    rw[uW,xY];exact h1
   obtain ⟨gl,fl,cl,ev2,-,jm,-,dj⟩:=oa.1.resolve_left (λh=>wK.2.2.1.2 h.1);obtain rfl:B2=some ⟨gl,fl,none⟩:=by injection ev2
   have agP:gl≠gP:=λe=>oa.1.qN wK.2.2.1.2 OT.o (by rw[<-e];rfl)
   have agQ:gl≠w2.heap.size+1:=λe=>oa.2 gl rfl (by rw[HN.2.2.2.2.2.2,e];simp[kY])
   have aab:∀i (h:i<x.last.length),W9.cell? (Z gl (fl+i))=some (.int .i64 (x.last[i]:Int)):=λi h=>(χ gl (fl+i) ((pr.aq gl U (λh=>agQ (List.mem_singleton.1 h))).t (oy.aq gl jm (λh=>agP (List.mem_singleton.1 h))))).t (dj i h);have S4:W9.heap.size=wZ+1:=by rw[xY];simp[World.setCell];exact sQ
   have aac:W9.heap[w2.heap.size]?=W.heap[w2.heap.size]?:=((pr.aq _ U H).t (oy.aq _ U ψ)).t (OI.1.block _ U);have US:=Y (show wW W9 wZ wZ eN eN (jS x.last eN 0) W9 from ⟨nP,ab.refl _ _⟩);have HC9:=Y aab;have HS9:=Y (I BD (I hP9 aac));have Dg:=Y (I oy pr);have HW9:=Y (I pg xY);have aae:w2.heap.size+1<W9:=U;clear xY pg Lo hP3 oy SA BD pr hP9 nP dj aab aac ev2 z0 z1 z2 y0 y1 y2 s0 s1 s2 s3 s4 t2 qK;go_wp2_with fail;go_loopw [46] (λiv wr=>∃k:Nat,k<=nl/\iv=.int .i64 (k:Int)/\Hid (wW W9 wZ wZ eN eN (jS x.last eN k) wr)) (λiv _=>nl - (intOf iv).toNat)
   case atStart=>exact ⟨0,Nat.zero_le _,rfl,US⟩
   case round=>
    obtain ⟨k,hk,rfl,HA⟩:=hrel;have p5:=HA.kf.size;have nT:=(HA.kf.aq (w2+1) aae ψ).t HS9.1;by_cases aB:k<nl
    .have hd:decide ((k:Int)<(nl:Int))=true:=τ;have dV:decide (k<nl)=true:=decide_eq_true aB;have aV:k<x.last.length:=by rw[HN.2.2.2.1];exact aB
     obtain ⟨p,hp⟩:=ν (x.last[k]);have sL:p<eN:=by
      have:=(wK.2.1.bP.iW x.last[k] (List.getElem_mem aV)).2;rw[hp,HN.1]at this;exact this
     have c0:=(χ gl (fl+k) (HA.kf.aq gl U ψ)).t (HC9 k aV);rw[hp]at c0;have J5:gl<wr:=U;have c2:wr.cell? (Z (w2+1) 2)=some (.slice (Z wZ 0) eN eN):=by rw[Φ nT];rfl
     have lsr:w2.heap.size+1<wr:=U;obtain ⟨e1,e2,e3⟩:=HA.cell (iq x.last k sL);have hpd:decide (p<eN)=true:=decide_eq_true sL;have aH:=HA.set (lK _ _ _) p;rw[<-hp,uX aV,hp]at aH;have HS:=Y aH;clear hp aV nT aH;go_wp2_with fail;go_roundw
     case rel=>exact ⟨k+1,U,by go_num,HS⟩
     case measure=>exact μ
    .have jC:k=nl:=U;have hd:decide ((k:Int)<(nl:Int))=false:=θ;have ky:=HA.o;rw[show jS x.last eN k=jS x.last eN x.last.length from by rw[HN.2.2.2.1,jC]]at ky
     have hkw:ab [w2.heap.size+1] [] W3 wr:=by
      have h1:=Dg.2.t (f3:=[]) ⟨ky.kf.os,ky.kf.tape,ky.kf.output,ky.kf.size,λq hq hn=>ky.kf.aq q hq (λh=>hn (by simp at h|-;exact .inr h)),λq hq=>by cases hq⟩
      exact h1
     have aaf:Below w2 w2 W3:=wK.1.cW.t (Dg.1.below (λq hq=>by rw[List.mem_singleton]at hq;omega) U)
     have aag:=wK.1.same (w':=W3) (λq hq=>Dg.1.aq q (wK.1.lt q hq).2 (λh=>KS.2 (by rw[HN.2.2.2.2.2.2,<-List.mem_singleton.1 h];exact hq))) aaf
     have Bp:MV Tryz.prog 9 w2 0 (λ_=>none) wr:=Ga.iJ ((ky.kf.aq _ U ψ).t HS9.2.2);have UT:W3.heap.size=wZ:=sQ;obtain ⟨q1,q2,q3,q4⟩:=LD aag hkw nT Bp V U (by rw[HN.1];have:=HN.2.2.1;omega) (by rw[HN.2.1];have:=HN.2.2.1;omega)
     have Yu:=(ky.kf.aq gP U ψ).t HS9.2.1;have hEn:EnC (jT (w2+1) w2 ()) wr (.slice (Z wZ 0) eN eN) eN x.last:=by
      refine ⟨wZ.heap.size,rfl,U,by simp[jT,aq,Value.ownBlock];omega,λp hp=>?_⟩
      have:=(ky.cell (iq x.last x.last.length hp)).1;rw[List.take_length]at this;exact this
     have UU:IL wr (.slice B1 x.first.length zk) x.first/\aO (jT (w2+1) w2 ()) (.slice B1 x.first.length zk):=by
      obtain ⟨j1,j2⟩:=BC.1.keep (fp:=[gP]) (fp':=[]) (λg hg hm=>by
       have Gc:g=gP:=List.mem_singleton.1 hm;exact BC.1.qN wK.2.2.1.1 OT.o (by rw[hg,Gc])) Dg.1
      have xL:∀g,(Value.slice B1 x.first.length zk).ownBlock=some g->g≠w2.heap.size+1:=λg hg e=>BC.2 g hg (by rw[HN.2.2.2.2.2.2,e];simp[kY])
      obtain ⟨j3,-⟩:=j1.keep (fp:=[w2.heap.size+1]) (fp':=[]) (λg hg hm=>xL g hg (List.mem_singleton.1 hm)) hkw;refine ⟨j3,λg hg hm=>?_⟩;simp[jT,aq,Value.ownBlock]at hm;rcases hm with hm|hm
      .exact xL g hg hm
      .obtain ⟨gx,fx,cx,ex,-,-,-,iY⟩:=j3.resolve_left (λh=>wK.2.2.1.1 h.1);rw[ex]at hg;simp[Value.ownBlock]at hg;have pq:=iY 0 (List.length_pos_iff.2 wK.2.2.1.1);obtain ⟨awP,⟨es,c,hmq,-⟩,-⟩:=Bp;simp[World.cell?,hg,hm,hmq]at pq
     rw[HN.2.2.2.2.1]at UU;have aai:P7 w2 (jT (w2+1) w2 ()) (.slice (Z gS 0) eN cS) (.slice (Z gF 0) eN cF) (.slice (Z wZ 0) eN eN) b x gP (.slice B1 nf zk) (.slice (Z gl fl) nl J4) wr:=
      ⟨q2,q3,by rw[HN.2.1];exact hEn,⟨by rw[HN.2.2.2.2.2.1];exact Yu,by simp[jT,aq,Value.ownBlock];omega⟩,UU⟩
     have aaj:Below w w wr:=nA.t (q4.mono (by have:=nA.size;omega))
     have kO:=uY w2 (w2+1) w2 (.slice (Z gS 0) eN cS) (.slice (Z gF 0) eN cF) (.slice (Z wZ 0) eN eN) [] (jT (w2+1) w2 ()) wr [] () q1 (.inl ⟨rfl,rfl⟩) (λg hg=>by simp[Value.ownBlock]at hg) (TI.nil _) H (λp hp=>by cases hp) H (qD.below aaj qD.low)
     have ub:=Y kO;have agT:=Y aai;have HQ4:=Y q4;clear ky hkw aaf aag Bp q1 q2 q3 q4 Yu hEn UU aai aaj kO nT jC;go_wp2_with fail;refine ub.mono ?_;rintro e w5 ⟨UW,rfl,UX,UY⟩;rw[show iL ([]:List (List Nat)) []=[[]] by simp[iL]]at UX
     have UZ:=agT.keep UY;have hP5:=UZ.prt.1;rw[HN.2.2.2.2.2.1]at hP5;obtain ⟨u0,u1,u2⟩:=aK hP5;have lP5:gP<w5:=(γ hP5).1;have mj:Below w2 w2 w5:=HQ4.t (UY.below (λq hq=>by simp[jT,aq,Value.ownBlock]at hq;omega) HQ4.size)
     have aak:=Y UX;have aal:=Y UZ;have js:=Y mj;clear UX UY UZ hP5 mj;go_wp2_with fail;refine br λW6 LF=>?_;have hz6:W6.heap.size=w5+2:=by rw[LF];simp
     have xc:Below w5 w5 W6:=by rw[LF];exact (D.alloc V _).alloc H _
     have U0:W6.heap[w5.heap.size+1]?=some (.cells #[(),.slice (Z w5 0) 1 1] 35):=by rw[LF];simpa using heap_alloc_new (w5.alloc (.cells #[.bool ee] 4)) (.cells #[(),.slice (Z w5 0) 1 1] 35)
     have h25:=js.size;have aam:OR 4 1 bC w5 (.slice (Z w5 0) 1 1) [ee] (w5.alloc (.cells #[.bool ee] 4)):=⟨rfl,.inr ⟨w5.heap.size,1,#[.bool ee],rfl,V,heap_alloc_new w5 _,H,by unfold maxLen;omega,H,by simp[a8,bC]⟩⟩
     have aan:OR 4 1 bC w2 (.slice (Z w5 0) 1 1) [ee] W6:=by rw[LF];exact (aam.later (D.alloc H _)).mono h25
     have LG:∀k,k∈ki (w5+1) () (.slice (Z w5 0) 1 1)->w5.heap.size<=k:=λk hk=>by
      rcases bj.1 hk with h|h|h
      .omega
      .simp[Value.ownBlock]at h
      .simp[Value.ownBlock]at h;omega
     have Ib:jt w2 (w5+1) UW () (.slice (Z w5 0) 1 1) [] [] [ee] W6:=
      ⟨U0,U,World.ownsRow_nil _ _ _ _,λi hi=>(by cases hi),aan,λk hk hx=>by have:=LG k hk;have:=(aak.lt k hx).2;omega⟩
     have aao:uc b x [[]] [] [ee] 0:=by rw[<-HN.2.2.2.2.2.1];exact uc.start b x
     have LH:CpL w2 (w2+1) w2 (.slice (Z gS 0) eN cS) (.slice (Z gF 0) eN cF) (.slice (Z wZ 0) eN eN) b x gP (.slice B1 nf zk) (.slice (Z gl fl) nl J4) (w5+1) 0 [[]] UW [] [ee] () (.slice (Z w5 0) 1 1) [] W6:=
      ⟨aak.later xc,Ib,aal.keep ⟨xc.os,xc.tape,xc.output,xc.size,λk hk _=>xc.block k hk,λk hk=>(List.mem_append.1 hk).imp id (LG k)⟩,aao,js.t (xc.mono h25)⟩
     have U1:=Y LH;have LI:=Y (show ∀rs∈b.sets,ep rs=true from λrs h=>by
      obtain ⟨i,hi,rfl⟩:=List.getElem_of_mem h;obtain ⟨v,-,-,h3⟩:=wK.1.tB i hi;exact h3)
     have P8:=Y (show ∀rs∈b.sets,∀r∈rs,r.2<256 from λrs h r hr=>(aal.set.lt rs h r hr).2);have aap:=Y (show nG<=w2 from Nat.le_trans qD.low nA.size);have DT:=nA.size;clear LF xc U0 aam aan LG Ib aao LH u0 u1 u2;go_wp2_with fail;go_loopw [10] (λiv wr=>∃(i:Nat) (gs:List (List Nat)) (fp:List Nat) (rs:List (List Ed)) (aN:List Bool) (vE vA:Value) (gv:List Value),iv=.int .i64 (i:Int)/\i<=gs.length/\gs.length<=2000/\Hid (CpL w2 (w2+1) w2 (.slice (Z gS 0) eN cS) (.slice (Z gF 0) eN cF) (.slice (Z wZ 0) eN eN) b x gP (.slice B1 nf zk) (.slice (Z gl fl) nl J4) (w5+1) i gs fp rs aN vE vA gv wr)) (λiv _=>2001 - (intOf iv).toNat)
     case atStart=>exact ⟨0,[[]],UW,[],[ee],_,_,[],rfl,Nat.zero_le _,H,U1⟩
     case round=>
      obtain ⟨i,gs,fp,rs,aN,vE,vA,gv,rfl,dE,dZ,HL⟩:=hrel;obtain ⟨ng,OU⟩:∃n,gs.length=n:=⟨_,rfl⟩;rw[OU]at dE dZ;have p5:=HL.bl.size;obtain ⟨Ag,cg,x4,hcg,aaq⟩:=HL.sb.DU;rw[OU]at x4;obtain ⟨lsr,-,-,-⟩:=HL.sb.cells;have Ic:=Y OU;have agW:=Y aaq;clear OU aaq;by_cases aB:i<ng
      .have hd:decide ((i:Int)<(ng:Int))=true:=τ;have Yu:=HL.cp.prt.1;obtain ⟨z0,z1,z2⟩:=aK Yu;have lPr:gP<wr:=(γ Yu).1;clear Yu;by_cases J6:i=0
       .have d3:decide ((0:Int)<(i:Int))=false:=θ;have d3':decide (0<i)=false:=θ;have iy:=HL.ci.rl;have gq:=HL.ma.own;rw[iy]at gq;obtain ⟨AE,cE,rfl,-,-⟩:=ae gq;have J7:=Y HL.ma;have P9:=Y HL.sb;have PH:=Y HL.cp;have xX:=Y HL.ci;have pY:=Y HL.bl;have wG:=Y iy;have J8:=Y gq;have U2:=Y J6;have HGF:=Y (show ∀p,p∈x.first↔ir b x gs i p from λp=>by unfold ir;rw[if_pos J6])
        have OV:=Y (show ∀p∈x.first,p<b.sets.length from λp hp=>by have:=(wK.2.1.bP.fst p hp).2;rw[wK.2.1.len];exact this)
        have Qa:=Y (show x.first.length<=10000000000000 by rw[HN.2.2.2.2.1];omega)
        have HFV:=Y (show IL wr (.slice B1 nf zk) x.first/\aO fp (.slice B1 nf zk) from ⟨HL.cp.fst.1,λg hg hm=>HL.cp.fst.2 g hg (List.mem_append_left _ hm)⟩);clear iy gq J6;obtain ⟨W,zg⟩:∃W:World,W=wr:=⟨_,rfl⟩;subst zg;have DI:=J7.hN;have OO:=Y DI;have J9:W.cell? (Z (w5+1) 0)=some (.slice AE i cE):=by rw[Φ DI];rfl
        have lN:w5.heap.size+1<W:=(γ DI).1;have S7:=Y (show w5.heap.size+1∉fp from J7.o.out _ (bj.2 (.inl rfl)));have U3:=Y (qD.below (nA.t (pY.mono DT)) qD.low);have U4:=Y xX.g0;have HGL:=Y (show gs.length<=2000 by rw[Ic.o];exact dZ)
        have ek:i<=2000:=U;have dN:F6 (w5+1) W 0 W.drew:=⟨V,rfl,λ_=>D.drew⟩;have lsW:w2.heap.size+1<W:=(P9.cells).1;clear DI HL;go_wp2_with fail;clear x4 lsr z0 z1 z2 lPr;refine ay 9 [4,5,6,7] (F7 w2 (w2+1) w2 (.slice (Z gS 0) eN cS) (.slice (Z gF 0) eN cF) (.slice (Z wZ 0) eN eN) b gs fp x.first (w5+1) i cE nf zk AE B1 gv W) (λc w'=>F6 (w5+1) W c w') R R R R R R O dN ?_ ?_
        .simp only[ck,ct];refine aa.pure O ?_ (aa.pure O ?_ (aa.pure O ?_ (aa.pure O ?_ (aa.jg 0 rfl ?_ (aa.jg 1 rfl ?_ (aa.jg 2 rfl ?_ (aa.jg 3 rfl ?_ (aa.pure O ?_ (aa.nil)))))))))
         all_goals first | (intro v wz c bX hS hE K hK;simp only[ah,Act.put,dk,dm,dn,Nat.zero_add,Nat.reduceAdd,ck,ct]at hK|-) | (intro v wz hS hE K hK;simp only[ah,Act.put,dk,dm,dn,Nat.zero_add,Nat.reduceAdd,ck,ct]at hK|-)
         .exact ζ
         .have e0:v 0=_:=hE.1 rfl;rw[e0]at hK|-;have c1:=(χ (w5+1) 0 hS.2.1).t J9;have l1:w5.heap.size+1<wz:=by have:=hS.1;omega
          exact ζ
         .exact ζ
         .exact ζ
         .have e3:v 3=_:=hE.1 rfl;rw[e3]at hK|-;have hb:=hS.2.2 U;have aG:=jR (.slice B1 nf zk) x.first wz (HFV.1.later hb) Qa.o;have HC:=Y aG;have HX:=Y hS;clear hS hE aG hb;go_wp2_with fail;refine HC.mono ?_;rintro e wy ⟨v',r,rfl,uN,how,dE,bT⟩;obtain ⟨A',c',rfl,-,-⟩:=ae how;have HP:=Y (I uN (I (BE how HX.1) (I dE bT)));clear uN how dE bT;go_wp2_with fail;refine hK.out _ _ (λj z hj h=>?_) ⟨Nat.le_trans HX.1 HP.2.2.2.size,(HP.2.2.2.block (w5+1) (by have:=HX.1;omega)).t HX.2.1,λ_=>(HX.2.2 U).t (HP.2.2.2.mono HX.1)⟩ (λ_=>⟨A',r,c',rfl,HP.1,HP.2.1,HP.2.2.1⟩)
          match j with
          |0|1|2|3|8=>exact h
          |4=>exact absurd rfl hj
          |5=>exact λhc=>U
          |6=>exact λhc=>U
          |7=>exact λhc=>U
          |_+9=>exact trivial
         .have e2:v 2=_:=hE.1 rfl;rw[e2]at hK|-;have E4:=hE.2.1 rfl;obtain ⟨Ar,r,cr,e4,uN,how,dE⟩:=E4 rfl;rw[e4]at hK how dE|-;have hb:=hS.2.2 U;have U5:∀p∈r,p<b.sets.length:=λp hp=>OV.o p ((uN.2 p).1 hp);have aG:=xZ w2 (w2+1) w2 (.slice (Z gS 0) eN cS) (.slice (Z gF 0) eN cF) (.slice (Z wZ 0) eN eN) b gs fp wz r _ (P9.later hb) ((PH.later hb).set.gV λk hk=>List.mem_append_left _ hk) (pY.t (hb.mono pY.size)) LI.o dE (λg hg hm=>by have:=(how.lt g hg).1;have:=(P9.lt g hm).2;omega) U5 (mD (a:=0) uN.1 λp hp=>⟨Nat.zero_le _,by have:=U5 p hp;have:=HN.2.1;omega⟩) (by rw[HN.2.1];omega) (by have:=HGL.o;omega) U4.o (U3.later hb) aap.o
          have HC:=Y aG;have HX:=Y (I hS (I uN hb));clear hS hE aG hb U5 uN how dE E4 e4;go_wp2_with fail;refine HC.mono ?_;rintro e wy ⟨row,eW,fp',rv,rfl,⟨fD,iX,ud⟩,OW,jr,qA,Gc,DV,wI⟩;obtain ⟨A',c',wH,-,-⟩:=fD.form;have HP:=Y (I fD (I iX (I ud (I OW (I jr (I qA (I Gc DV)))))));clear fD iX ud OW jr qA Gc DV wI wH;go_wp2_with fail;have dh:=HX.1.1;have cT:=HP.2.2.2.2.1.size;refine hK.out _ _ (λj z hj h=>?_) ⟨U,(HP.2.2.2.2.1.aq (w5+1) U S7.o).t HX.1.2.1,λh=>U⟩ (λ_=>⟨r,row,eW,fp',HX.2.1,⟨HP.1,HP.2.1,λg hg=>⟨by have:=(HP.2.2.1 g hg).1;omega,(HP.2.2.1 g hg).2⟩⟩,HP.2.2.2.1,(ab.aj HX.2.2).t HP.2.2.2.2.1,HP.2.2.2.2.2.1,HP.2.2.2.2.2.2.1,HP.2.2.2.2.2.2.2⟩)
          match j with
          |0|1|2|3|8=>exact h
          |5=>exact absurd rfl hj
          |4=>exact λhc=>U
          |6=>exact λhc=>U
          |7=>exact λhc=>U
          |_+9=>exact trivial
         .have E5:=hE.1 rfl;have p9:=E5 rfl;obtain ⟨r,row,eW,fp',q1,⟨q2,q3,q4⟩,q5⟩:=id p9;obtain ⟨A5,c5,e5,-,-⟩:=q2.form;obtain ⟨n5,hn5⟩:∃n,row.length=n:=⟨_,rfl⟩;rw[hn5]at e5;rw[e5]at hK p9|-;have U6:=Y p9;have HX:=Y hS;clear hS hE p9 q1 q2 q3 q4 q5 E5 e5;have jc:=HX.1;go_wp2_with fail;have bw:Below wz wz (wz.alloc (.cells #[.slice A5 n5 c5] 59)):=D.alloc V _;refine hK.out _ _ (λj z hj h=>?_) ⟨ψ,(bw.block (w5+1) U).t HX.2.1,λh=>U⟩ (λ_=>⟨wz.heap.size,.slice A5 n5 c5,rfl,jc,H,by go_simp,rfl,U6.later bw⟩)
          match j with
          |0|1|2|3|8=>exact h
          |6=>exact absurd rfl hj
          |4=>exact λhc=>U
          |5=>exact λhc=>U
          |7=>exact λhc=>U
          |_+9=>exact trivial
         .have e1:v 1=_:=hE.1 rfl;rw[e1]at hK|-;have E6:=hE.2.1 rfl;obtain ⟨g,rv,e6,zo,jm,oz,h1c,p9⟩:=E6 rfl;rw[e6]at hK|-;obtain ⟨r,row,eW,fp',q1,q2,q3,q4,q5⟩:=id p9;have ao:wz.ownsRow w2 59 1 (.slice AE i cE) i gv:=ar J8.o λg hg=>q4.aq g (J8.lt g hg).2 λhm=>J7.o.out g (bj.2 (.inr (.inl hg))) hm;have iM:=hS.1;have ak:∀j u,([rv]:List Value)[j]?=some u->wz.cell? (((Z g 0):Addr).add j)=some u:=λj u hj=>by
           match j,hj with
           |0,hj=>simp at hj;rw[<-hj,Addr.add_lit];exact oz
          have U6:=Y p9;have HX:=Y hS;clear hS hE p9 q1 q2 q3 q4 q5 E6;go_wp2_with (at_builtin;refine bn rfl _ _ 32 rfl w2 59 ie () 1 24 Tryz.underlying32 nY S1 DP xi rfl O _ i gv rfl ao (Z g 0) 1 1 [rv] rfl rfl ak (by intro u hu;simp at hu;subst hu;exact h1c) (by unfold maxLen;omega) U (by have:=pY.size;omega) ?_)
          intro v' wx ai bg dv;obtain ⟨A',c',rfl,-,-⟩:=ae ai;refine hK.out _ _ (λj z hj h=>?_) ⟨Nat.le_trans HX.1 bg.size,(bg.block (w5+1) U (λe=>J7.U7 e.symm)).t HX.2.1,λh=>U⟩ (λ_=>⟨rv,wz,A',c',rfl,U6.o,bg,ai,dv⟩)
          match j with
          |0|1|2|3|8=>exact h
          |7=>exact absurd rfl hj
          |4=>exact λhc=>U
          |5=>exact λhc=>U
          |6=>exact λhc=>U
          |_+9=>exact trivial
         .exact ζ
        .intro v wz hS hF;have e0:v 0=_:=hF 0 O;have e1:v 1=_:=hF 1 O;have e2:v 2=_:=hF 2 O;have e3:v 3=_:=hF 3 O;have e8:v 8=_:=hF 8 O;have E4:=hF 4 O;have E5:=hF 5 O;have E6:=hF 6 O;have E7:=hF 7 O;simp only[ah,Act.put,dk,dm,dn,Nat.zero_add,Nat.reduceAdd,ck,ct,List.drop_succ_cons,List.drop_zero,e0,e1,e2,e3,e8];clear hF e0 e1 e2 e3 e8;obtain ⟨rv,w6,A7,c7,e7,p9,Qb,OX,OY⟩:=E7 rfl;rw[e7]at OX OY|-;have Qc:=hS.2.1.t OO.o;have xz0:wz.cell? (Z (w5+1) 0)=some (.slice AE i cE):=by rw[Φ Qc];rfl
         have fz0:wz.frozen? (Z (w5+1) 0)=false:=Ψ Qc
         have lNz:w5.heap.size+1<wz:=(γ Qc).1;obtain ⟨row,eW,fp',dj,U8⟩:=Gd (w0:=w2) J7.o PH.o xX.o (by rw[if_pos U2.o]) (show i<gs.length by rw[Ic.o];exact aB) pY.o HGF.o OV.o p9 Qb (by rw[wG.o];exact OX) OY (λk hk=>(P9.lt k hk).1)
         have DW:¬w5.heap.size+1=w2+1:=λe=>by have:=dj.ma.out _ (bj.2 (.inl rfl));have h8:=dj.sb;obtain ⟨vg8,gv8,F8,U9,-⟩:=h8;rw[U9,e]at this;exact this (by simp[jT])
         have pt:¬w2.heap.size+1=w5+1:=λe=>DW e.symm;have aH:∀k,k≠w5.heap.size+1->(wz.setCell (Z (w5+1) 0) (.slice A7 (i+1) c7)).heap[k]?=wz.heap[k]?:=λk hk=>Below.heap_setCell _ _ _ _ hk;obtain ⟨Ag',cg',Va,ag4,-⟩:=dj.sb.DU;obtain ⟨LJ,zp⟩:∃n,eW.length=n:=⟨_,rfl⟩;rw[zp]at Va;have x4z:wz.cell? (Z (w2+1) 4)=some (.slice Ag' LJ cg'):=(χ (w2+1) 4 (aH _ pt)).symm.t Va;have ag5:w2.heap.size+1<wz:=by have:=hS.1;omega
         have wM:LJ<=100000:=by rw[<-zp];have:=Ic.o;omega
         have nJ:=Y dj;have LK:=Y zp;clear hS p9 Qb OX OY Qc e7 E4 E5 E6 E7 dj U8 Va zp;by_cases h2k:2000<LJ
         .have d4:decide (2000<(LJ:Int))=true:=τ;have Qd:=(aH (w+1) U).symm.t ((nJ.bl.block (w+1) U).t tH.o);obtain ⟨Vb,Vc⟩:wz.cell? (Z (w+1) 0)=some (.slice none 0 0)/\wz.cell? (Z (w+1) 1)=some (.slice none 0 0):=by constructor <;> (rw[Φ Qd]; rfl)
          have gz0:wz.frozen? (Z (w+1) 0)=false:=Ψ Qd
          have gz1:wz.frozen? (Z (w+1) 1)=false:=Ψ Qd
          have lRz:w.heap.size+1<wz:=U;have nRN:¬w.heap.size+1=w5+1:=U;have aha:¬w5.heap.size+1=w+1:=U;clear Qd aH;go_wp2_with fail;refine au λWf bG=>?_;refine bodyPost_ret (v:=.tuple #[dK,.int .i64 3]) (by rw[bG];simp[results,Tryz.results7,go_sem,Vb,Vc,lRz,dK];try rfl) rfl ?_
          have ju:Below w w Wf:=by
           rw[bG];have h1:=nA.t (nJ.bl.mono DT);exact (h1.sc (w+1) 0 (by show w.heap.size<=w+1;omega) _).sc (w+1) 1 (by show w.heap.size<=w+1;omega) _
          exact ⟨ju,.inr (.inr ⟨HQ.1,di.1,b,x,eW,_,_,i+1,wK.2.1,by rw[HN.1,HN.2.2.1],P8.o,nJ.ci,.inl ⟨by rw[LK.o];exact h2k,rfl⟩⟩)⟩
         .have d4:decide (2000<(LJ:Int))=false:=θ;have Vd:=nJ.ci.il;clear aH;go_wp2_with fail;go_roundw
          case rel=>exact ⟨i+1,eW,fp',_,_,_,_,_,by go_num,Vd,by rw[LK.o];omega,nJ⟩
          case measure=>exact μ
       .have d3:decide ((0:Int)<(i:Int))=true:=τ;have d3':decide (0<i)=true:=τ;obtain ⟨gg,gvv,rfl,Gc,x5,Ve,hog⟩:=agW i (by rw[Ic.o];exact aB)
        obtain ⟨qP,Qe⟩:∃g,gs[i]'(by rw[Ic.o];exact aB)=g:=⟨_,rfl⟩
        rw[Qe]at Ve;have Vg:(gs[i]?).getD []=qP:=by rw[List.getElem?_eq_getElem (by rw[Ic.o];exact aB),Qe];rfl
        have kN:qP∈gs:=by rw[<-Qe];exact List.getElem_mem _
        have Vh:qP≠[]:=by
         have:=(HL.ci.Yv i U (by rw[Ic.o];exact aB)).1
         rwa [Vg]at this
        have hgp:∀p∈qP,p<eN:=λp hp=>by have:=HL.ci.gl qP kN p hp;rw[HN.2.1]at this;exact this
        obtain ⟨gb,fb,cb,rfl,-,wM,X6,ak⟩:=Ve.resolve_left (λh=>Vh h.1);obtain ⟨np,X9⟩:∃n,qP.length=n:=⟨_,rfl⟩;rw[X9]at x5 X6 hog;have aqe:np<=600:=by rw[<-X9];exact mD (a:=0) (HL.ci.kE qP kN) λp hp=>⟨Nat.zero_le _,by have:=hgp p hp;omega⟩
        have Yw:decide (i<ng)=true:=decide_eq_true aB;have U2:=Y J6;have Ka:=Y (I Vg (I Vh (I hgp (I X9 kN))));have HGC:=Y ak;obtain ⟨WB,rfl⟩:∃W:World,W=wr:=⟨_,rfl⟩;clear J6 Qe Vg kN Vh hgp X9 ak Ve;go_wp2_with fail;go_loopw [84,11,12] (λkv fv av wr=>∃k:Nat,k<=np/\kv=.int .i64 (k:Int)/\av=.bool ((qP.take k).any λp=>decide (p∈x.last))/\Hid (CU WB fv (lL b (qP.take k)) wr)/\Hid (Below WB WB wr)) (λkv _ _ _=>np - (intOf kv).toNat)
        case atStart=>exact ⟨0,Nat.zero_le _,rfl,rfl,⟨World.ownsRow_nil _ _ _ _,.inl rfl⟩,D⟩
        case round=>
         obtain ⟨k,hk,rfl,rfl,S8,dc⟩:=hrel;have xN:=dc.size;obtain ⟨AL,nL,cL,rfl⟩:∃A n c,u11=.slice A n c:=by
          obtain ⟨A,c,e,-⟩:=ae S8.1;exact ⟨_,_,_,e⟩
         obtain ⟨acc,Vi⟩:∃a,((qP.take k).any λp=>decide (p∈x.last))=a:=⟨_,rfl⟩;rw[Vi];have Vj:=Y Vi;clear Vi;have Ge:(lL b (qP.take k)).length<=k*10000000000:=by
          have h1:=BF Df.o (qP.take k);have h2:(qP.take k).length<=k:=List.length_take_le _ _;have h3:(qP.take k).length*dp nd<=k*10000000000:=Nat.mul_le_mul h2 (by have:=di.2;omega)
          omega
         by_cases qa:k<np
         .have nw:decide ((k:Int)<(np:Int))=true:=τ;have bU:decide (k<np)=true:=decide_eq_true qa;have aV:k<qP.length:=by rw[Ka.2.2.2.1];exact qa
          obtain ⟨p,hp⟩:=ν (qP[k]);have sL:p<eN:=by rw[<-hp];exact Ka.2.2.1 _ (List.getElem_mem aV)
          have c0:=(dc.cl gb (fb+k) wM).t (HGC k aV);rw[hp]at c0;have lgb:gb<wr:=U;have Vk:=HL.cp.later dc.o;obtain ⟨gF',cF',eF,-,aqh,-,S9⟩:=Vk.fol;have hpf:p<b.fol.length:=by rw[HN.1];exact sL
          obtain ⟨rvv,x6,Qf,-,-,LL⟩:=S9 p hpf;obtain ⟨rfl,-⟩:gF=gF'/\True:=by
           injection eF with eF;injection eF with eF;injection eF with eF;exact ⟨eF,trivial⟩
          obtain ⟨A6,c6,rfl,-⟩:=Qf.form;obtain ⟨n6,hn6⟩:∃n,b.fol[p].length=n:=⟨_,rfl⟩;rw[hn6]at Qf x6 LL;have pM:=HL.sb.cells;have s1w:=(dc.cl (w2+1) 1 pM.1).t pM.2.2.1;have s2w:=(dc.cl (w2+1) 2 pM.1).t pM.2.2.2;have lsw:w2.heap.size+1<wr:=by have:=pM.1;omega
          obtain ⟨gE,eE,Ta,-,tC⟩:=Vk.ends;obtain ⟨rfl,-⟩:wZ.heap.size=gE/\True:=by
           injection eE with eE;injection eE with eE;injection eE with eE;exact ⟨eE,trivial⟩
          have x7:=tC p (by rw[HN.2.1];exact sL)
          have hpd:decide (p<eN)=true:=decide_eq_true sL;have Kb:(lL b (qP.take k)).length+(b.fol[p]).length<=10000000000000:=by
           have h1:=Df _ (List.getElem_mem hpf);have:=di.2;have:k*10000000000<=599*10000000000:=Nat.mul_le_mul_right _ U;omega
          have fw:lL b (qP.take k)++b.fol[p]=lL b (qP.take (k+1)):=by
           rw[List.take_succ_eq_append_getElem aV,hp,Ie];unfold cN;rw[List.getElem?_eq_getElem hpf];rfl
          have BG:((qP.take (k+1)).any λp=>decide (p∈x.last))=(acc || decide (p∈x.last)):=by
           rw[List.take_succ_eq_append_getElem aV,hp,List.any_append,Vj.o];simp
          have DN:=Y Qf;have j8:=Y (I fw (I BG Kb));have Tb:=Y (λ(h:A6=none)=>LL n6 c6 (by rw[h]))
          obtain ⟨dd,hdd⟩:∃d,decide (p∈x.last)=d:=⟨_,rfl⟩;rw[hdd]at x7;have HDD:=Y hdd;clear hp aV Vk S9 Qf LL pM tC fw BG Kb hdd Ge hn6 eF eE;go_wp2_with (at_builtin;refine Vl Tryz.underlying22 P6 r5 iI j9 rfl _ _ _ A6 n6 c6 (lL b (qP.take k)) _ WB rfl rfl rfl rfl S8.o DN.o Tb.o j8.2.2 xN ?_);intro v' w3 Ig pZ;obtain ⟨A3,n3,c3,rfl⟩:∃A n c,v'=.slice A n c:=by
           obtain ⟨A,c,e,-⟩:=ae Ig.1;exact ⟨_,_,_,e⟩
          have Ih:=dc.t (pZ.mono V);have aqj:=pZ.size;have aqk:WB.heap.size<=w3:=Ih.size;have aql:=(pZ.cl (w2+1) 2 (by show w2.heap.size+1<WB;exact (HL.sb.cells).1)).t s2w
          have x73:=(pZ.cl wZ p (by obtain ⟨g,e,h1,-⟩:=HL.cp.ends;injection e with e;injection e with e;injection e with e;show wZ.heap.size<WB;omega)).t x7
          have aqm:w2.heap.size+1<w3:=U;have aqn:wZ.heap.size<w3:=U;have aas:CU WB (.slice A3 n3 c3) (lL b (qP.take (k+1))) w3:=by rw[<-j8.1];exact Ig
          have aat:=Y aas;have LM:=Y Ih;clear Ig pZ aas Ih c0 x6 s1w s2w x7
          cases acc with
          |true=>
           go_wp2_with fail;go_roundw
           case rel=>exact ⟨k+1,U,by go_num,by rw[j8.2.1];rfl,aat,LM⟩
           case measure=>exact μ
          |false=>
           go_wp2_with fail;go_roundw
           case rel=>exact ⟨k+1,U,by go_num,by rw[j8.2.1,HDD.o];rfl,aat,LM⟩
           case measure=>exact μ
         .have jC:k=np:=U;have nw:decide ((k:Int)<(np:Int))=false:=θ;have tG:qP.take k=qP:=List.take_of_length_le (by rw[Ka.2.2.2.1];omega)
          rw[tG]at S8 Vj Ge;have iy:=HL.ci.rl;have ky:aN.length=i:=by have:=Nat.pos_of_ne_zero U2.o;rw[HL.ci.al];omega
          have gq:=HL.ma.own;rw[iy]at gq;have gw:WB.ownsRow w2 4 1 vA aN.length (a8 bC aN):=HL.ma.acc;rw[ky]at gw;obtain ⟨AE,cE,rfl,-,-⟩:=ae gq;obtain ⟨AV,cA,rfl,-,-⟩:=ae gw;have Qg:=(dc.block (w5+1) ((HL.ma.lt _ (bj.2 (.inl rfl))).2)).t HL.ma.hN;obtain ⟨J9,Tc⟩:wr.cell? (Z (w5+1) 0)=some (.slice AE i cE)/\wr.cell? (Z (w5+1) 1)=some (.slice AV i cA):=by constructor <;> (rw[Φ Qg]; rfl)
          have fn1:wr.frozen? (Z (w5+1) 1)=false:=Ψ Qg
          have lNw:w5.heap.size+1<wr:=(γ Qg).1;have bL:=(aR gw dc.o).alloc (.cells #[.bool acc] 4);have iY:∀j u,([.bool acc]:List Value)[j]?=some u->(wr.alloc (.cells #[.bool acc] 4)).cell? (((Z wr 0):Addr).add j)=some u:=λj u hj=>by
           match j,hj with
           |0,hj=>simp at hj;rw[<-hj,Addr.add_lit,Φ (heap_alloc_new wr _)];rfl
          have bw:w2.heap.size<=(wr.alloc (.cells #[.bool acc] 4)).heap.size:=ψ;have nz:Below wr wr (wr.alloc (.cells #[.bool acc] 4)):=D.alloc V _;have ue:=Y (dc.t (nz.mono xN));have wG:=Y (I iy ky);have HOA:=Y bL;have HHE:=Y gq;have HHA:=Y gw;have ahe:=Y (show acc=true↔∃p∈(gs[i]?).getD [],p∈x.last from by
           rw[Ka.1,<-Vj.o,List.any_eq_true];simp only[decide_eq_true_eq])
          have HLK:=Y Ge;clear iy ky gq gw Qg bL nz tG Ge jC;go_wp2_with (at_builtin;refine bn rfl _ _ 33 rfl w2 4 ib _ 1 1 Tryz.underlying33 pe hb0 aM aS rfl O _ i (a8 bC aN) rfl HOA.o (Z wr 0) 1 1 [.bool acc] rfl rfl iY (by intro u hu;simp at hu;subst hu;rfl) (by unfold maxLen;omega) U bw ?_)
          intro qb w8 LN r7 Gf;obtain ⟨A8,c8,rfl,-,-⟩:=ae LN;have Yt:=Y (HL.ma.later ue.o);have nNA:(Value.slice AV i cA).ownBlock≠some (w5.heap.size+1):=HL.ma.Yx;have Vm:=(r7.block (w5+1) ψ (λe=>nNA e.symm)).t Yt.hN;have x81:w8.cell? (Z (w5+1) 1)=some (.slice AV i cA):=by rw[Φ Vm];rfl
          have f81:w8.frozen? (Z (w5+1) 1)=false:=Ψ Vm
          have lN8:w5.heap.size+1<w8:=(γ Vm).1;have aau:aT (.slice A8 (i+1) c8) (.slice AV i cA) (wr.alloc (.cells #[.bool acc] 4)).heap.size:=by rw[show (wr.alloc (.cells #[.bool acc] 4)).heap.size=wr.heap.size+1 by simp];exact Gf
          have DX:OR 4 1 bC w2 (.slice A8 (i+1) c8) (aN++[acc]) w8:=by
           show World.ownsRow _ _ _ _ _ _ _;rw[List.length_append,bV,bF,wG.2];exact LN
          obtain ⟨q1,q2⟩:=Yt.ahg (λk hk=>by have:=(HL.sb.lt k hk).2;have:=ue.size;omega) DX r7 aau
          have aav:=S8.il.later (show Below wr wr (wr.alloc (.cells #[.bool acc] 4)) from D.alloc V _);have Td:aO (ki (w5+1) (.slice AE i cE) (.slice AV i cA)) (.slice AL nL cL):=λg hg hm=>by have:=(S8.1.lt g hg).1;have:=(HL.ma.lt g hm).2;omega
          have Ii:=(HL.sb.later ue.o).apart q2 (λk hk=>Yt.o.out k hk) Yt.types;have Vn:=(HL.cp.later ue.o).keep (q2.aaw fp);have Ij:=(HL.bl.t (ue.mono HL.bl.size)).t (q2.below (λk hk=>(HL.ma.lt k hk).1) bw);have Vo:=(aav.keep Td q2).1;have Te:aO fp (.slice AL nL cL):=λg hg hm=>by have:=(S8.1.lt g hg).1;have:=(HL.sb.lt g hm).2;omega
          obtain ⟨W9,xY⟩:∃W9,W9=w8.setCell (Z (w5+1) 1) (.slice A8 (i+1) c8):=⟨_,rfl⟩;rw[<-xY]at q1 q2 Ii Vn Ij Vo;have J7:=Y q1;have P9:=Y Ii;have PH:=Y Vn;have xX:=Y HL.ci;have pY:=Y Ij;have ahh:=Y wG.o;have HGF:=Y (show ∀p,p∈lL b qP↔ir b x gs i p from λp=>by rw[BH];unfold ir;rw[if_neg U2.o,Ka.1])
          have OV:=Y (show ∀p∈lL b qP,p<b.sets.length from λp hp=>by
           obtain ⟨q,hq,hpq⟩:=BH.1 hp;have:=(wK.2.1.bP.cls q (Nat.zero_le _) (by rw[HN.1];exact Ka.2.2.1 q hq) p hpq).2
           rw[wK.2.1.len];exact this)
          have Qa:=Y (show (lL b qP).length<=10000000000000 by have:=HLK.o;have:k*10000000000<=600*10000000000:=Nat.mul_le_mul_right _ U;omega)
          have HFV:=Y (I Vo Te);have HWE:=Y xY;clear LN r7 Gf aau Vm DX q1 q2 aav Vo Td Te Ii Vn Ij iY bw J9 Tc fn1 lNw;go_wp2_with fail;refine br λW hW=>?_;obtain rfl:W=W9:=hW.t HWE.symm;have wG:=Y ahh.1;have J8:=Y (show W.ownsRow w2 59 1 (.slice AE i cE) i gv from by have:=J7.own;rwa [wG.o]at this)
          have DI:=J7.hN;have OO:=Y DI;have J9:W.cell? (Z (w5+1) 0)=some (.slice AE i cE):=by rw[Φ DI];rfl
          have lN:w5.heap.size+1<W:=(γ DI).1;have S7:=Y (show w5.heap.size+1∉fp from J7.o.out _ (bj.2 (.inl rfl)));have U3:=Y (qD.below (nA.t (pY.mono DT)) qD.low);have U4:=Y xX.g0;have HGL:=Y (show gs.length<=2000 by rw[Ic.o];exact dZ)
          have ek:i<=2000:=U;have dN:F6 (w5+1) W 0 W.drew:=⟨V,rfl,λ_=>D.drew⟩;have lsW:w2.heap.size+1<W:=(P9.cells).1;clear DI hW x4 lsr z0 z1 z2 lPr x5 x81 f81 lN8;go_wp2_with fail;refine ay 9 [4,5,6,7] (F7 w2 (w2+1) w2 (.slice (Z gS 0) eN cS) (.slice (Z gF 0) eN cF) (.slice (Z wZ 0) eN eN) b gs fp (lL b qP) (w5+1) i cE nL cL AE AL gv W) (λc w'=>F6 (w5+1) W c w') R R R R R R O dN ?_ ?_
          .simp only[ck,ct];refine aa.pure O ?_ (aa.pure O ?_ (aa.pure O ?_ (aa.pure O ?_ (aa.jg 0 rfl ?_ (aa.jg 1 rfl ?_ (aa.jg 2 rfl ?_ (aa.jg 3 rfl ?_ (aa.pure O ?_ (aa.nil)))))))))
           all_goals first | (intro v wz c bX hS hE K hK;simp only[ah,Act.put,dk,dm,dn,Nat.zero_add,Nat.reduceAdd,ck,ct]at hK|-) | (intro v wz hS hE K hK;simp only[ah,Act.put,dk,dm,dn,Nat.zero_add,Nat.reduceAdd,ck,ct]at hK|-)
           .exact ζ
           .have e0:v 0=_:=hE.1 rfl;rw[e0]at hK|-;have c1:=(χ (w5+1) 0 hS.2.1).t J9;have l1:w5.heap.size+1<wz:=by have:=hS.1;omega
            exact ζ
           .exact ζ
           .exact ζ
           .have e3:v 3=_:=hE.1 rfl;rw[e3]at hK|-;have hb:=hS.2.2 U;have aG:=jR (.slice AL nL cL) (lL b qP) wz (HFV.1.later hb) Qa.o;have HC:=Y aG;have HX:=Y hS;clear hS hE aG hb;go_wp2_with fail;refine HC.mono ?_;rintro e wy ⟨v',r,rfl,uN,how,dE,bT⟩;obtain ⟨A',c',rfl,-,-⟩:=ae how;have HP:=Y (I uN (I (BE how HX.1) (I dE bT)));clear uN how dE bT;go_wp2_with fail;refine hK.out _ _ (λj z hj h=>?_) ⟨Nat.le_trans HX.1 HP.2.2.2.size,(HP.2.2.2.block (w5+1) (by have:=HX.1;omega)).t HX.2.1,λ_=>(HX.2.2 U).t (HP.2.2.2.mono HX.1)⟩ (λ_=>⟨A',r,c',rfl,HP.1,HP.2.1,HP.2.2.1⟩)
            match j with
            |0|1|2|3|8=>exact h
            |4=>exact absurd rfl hj
            |5=>exact λhc=>U
            |6=>exact λhc=>U
            |7=>exact λhc=>U
            |_+9=>exact trivial
           .have e2:v 2=_:=hE.1 rfl;rw[e2]at hK|-;have E4:=hE.2.1 rfl;obtain ⟨Ar,r,cr,e4,uN,how,dE⟩:=E4 rfl;rw[e4]at hK how dE|-;have hb:=hS.2.2 U;have U5:∀p∈r,p<b.sets.length:=λp hp=>OV.o p ((uN.2 p).1 hp);have aG:=xZ w2 (w2+1) w2 (.slice (Z gS 0) eN cS) (.slice (Z gF 0) eN cF) (.slice (Z wZ 0) eN eN) b gs fp wz r _ (P9.later hb) ((PH.later hb).set.gV λk hk=>List.mem_append_left _ hk) (pY.t (hb.mono pY.size)) LI.o dE (λg hg hm=>by have:=(how.lt g hg).1;have:=(P9.lt g hm).2;omega) U5 (mD (a:=0) uN.1 λp hp=>⟨Nat.zero_le _,by have:=U5 p hp;have:=HN.2.1;omega⟩) (by rw[HN.2.1];omega) (by have:=HGL.o;omega) U4.o (U3.later hb) aap.o
            have HC:=Y aG;have HX:=Y (I hS (I uN hb));clear hS hE aG hb U5 uN how dE E4 e4;go_wp2_with fail;refine HC.mono ?_;rintro e wy ⟨row,eW,fp',rv,rfl,⟨fD,iX,ud⟩,OW,jr,qA,Gc,DV,wI⟩;obtain ⟨A',c',wH,-,-⟩:=fD.form;have HP:=Y (I fD (I iX (I ud (I OW (I jr (I qA (I Gc DV)))))));clear fD iX ud OW jr qA Gc DV wI wH;go_wp2_with fail;have dh:=HX.1.1;have cT:=HP.2.2.2.2.1.size;refine hK.out _ _ (λj z hj h=>?_) ⟨U,(HP.2.2.2.2.1.aq (w5+1) U S7.o).t HX.1.2.1,λh=>U⟩ (λ_=>⟨r,row,eW,fp',HX.2.1,⟨HP.1,HP.2.1,λg hg=>⟨by have:=(HP.2.2.1 g hg).1;omega,(HP.2.2.1 g hg).2⟩⟩,HP.2.2.2.1,(ab.aj HX.2.2).t HP.2.2.2.2.1,HP.2.2.2.2.2.1,HP.2.2.2.2.2.2.1,HP.2.2.2.2.2.2.2⟩)
            match j with
            |0|1|2|3|8=>exact h
            |5=>exact absurd rfl hj
            |4=>exact λhc=>U
            |6=>exact λhc=>U
            |7=>exact λhc=>U
            |_+9=>exact trivial
           .have E5:=hE.1 rfl;have p9:=E5 rfl;obtain ⟨r,row,eW,fp',q1,⟨q2,q3,q4⟩,q5⟩:=id p9;obtain ⟨A5,c5,e5,-,-⟩:=q2.form;obtain ⟨n5,hn5⟩:∃n,row.length=n:=⟨_,rfl⟩;rw[hn5]at e5;rw[e5]at hK p9|-;have U6:=Y p9;have HX:=Y hS;clear hS hE p9 q1 q2 q3 q4 q5 E5 e5;have jc:=HX.1;go_wp2_with fail;have bw:Below wz wz (wz.alloc (.cells #[.slice A5 n5 c5] 59)):=D.alloc V _;refine hK.out _ _ (λj z hj h=>?_) ⟨ψ,(bw.block (w5+1) U).t HX.2.1,λh=>U⟩ (λ_=>⟨wz.heap.size,.slice A5 n5 c5,rfl,jc,H,by go_simp,rfl,U6.later bw⟩)
            match j with
            |0|1|2|3|8=>exact h
            |6=>exact absurd rfl hj
            |4=>exact λhc=>U
            |5=>exact λhc=>U
            |7=>exact λhc=>U
            |_+9=>exact trivial
           .have e1:v 1=_:=hE.1 rfl;rw[e1]at hK|-;have E6:=hE.2.1 rfl;obtain ⟨g,rv,e6,zo,jm,oz,h1c,p9⟩:=E6 rfl;rw[e6]at hK|-;obtain ⟨r,row,eW,fp',q1,q2,q3,q4,q5⟩:=id p9;have ao:wz.ownsRow w2 59 1 (.slice AE i cE) i gv:=ar J8.o λg hg=>q4.aq g (J8.lt g hg).2 λhm=>J7.o.out g (bj.2 (.inr (.inl hg))) hm;have iM:=hS.1;have ak:∀j u,([rv]:List Value)[j]?=some u->wz.cell? (((Z g 0):Addr).add j)=some u:=λj u hj=>by
             match j,hj with
             |0,hj=>simp at hj;rw[<-hj,Addr.add_lit];exact oz
            have U6:=Y p9;have HX:=Y hS;clear hS hE p9 q1 q2 q3 q4 q5 E6;go_wp2_with (at_builtin;refine bn rfl _ _ 32 rfl w2 59 ie () 1 24 Tryz.underlying32 nY S1 DP xi rfl O _ i gv rfl ao (Z g 0) 1 1 [rv] rfl rfl ak (by intro u hu;simp at hu;subst hu;exact h1c) (by unfold maxLen;omega) U (by have:=pY.size;omega) ?_)
            intro v' wx ai bg dv;obtain ⟨A',c',rfl,-,-⟩:=ae ai;refine hK.out _ _ (λj z hj h=>?_) ⟨Nat.le_trans HX.1 bg.size,(bg.block (w5+1) U (λe=>J7.U7 e.symm)).t HX.2.1,λh=>U⟩ (λ_=>⟨rv,wz,A',c',rfl,U6.o,bg,ai,dv⟩)
            match j with
            |0|1|2|3|8=>exact h
            |7=>exact absurd rfl hj
            |4=>exact λhc=>U
            |5=>exact λhc=>U
            |6=>exact λhc=>U
            |_+9=>exact trivial
           .exact ζ
          .intro v wz hS hF;have e0:v 0=_:=hF 0 O;have e1:v 1=_:=hF 1 O;have e2:v 2=_:=hF 2 O;have e3:v 3=_:=hF 3 O;have e8:v 8=_:=hF 8 O;have E4:=hF 4 O;have E5:=hF 5 O;have E6:=hF 6 O;have E7:=hF 7 O;simp only[ah,Act.put,dk,dm,dn,Nat.zero_add,Nat.reduceAdd,ck,ct,List.drop_succ_cons,List.drop_zero,e0,e1,e2,e3,e8];clear hF e0 e1 e2 e3 e8;obtain ⟨rv,w6,A7,c7,e7,p9,Qb,OX,OY⟩:=E7 rfl;rw[e7]at OX OY|-;have Qc:=hS.2.1.t OO.o;have xz0:wz.cell? (Z (w5+1) 0)=some (.slice AE i cE):=by rw[Φ Qc];rfl
           have fz0:wz.frozen? (Z (w5+1) 0)=false:=Ψ Qc
           have lNz:w5.heap.size+1<wz:=(γ Qc).1;obtain ⟨row,eW,fp',dj,U8⟩:=Gd (w0:=w2) J7.o PH.o xX.o (by rw[if_neg U2.o];exact ⟨_,rfl,ahe.o⟩) (show i<gs.length by rw[Ic.o];exact aB) pY.o HGF.o OV.o p9 Qb (by rw[wG.o];exact OX) OY (λk hk=>(P9.lt k hk).1)
           have DW:¬w5.heap.size+1=w2+1:=λe=>by have:=dj.ma.out _ (bj.2 (.inl rfl));have h8:=dj.sb;obtain ⟨vg8,gv8,F8,U9,-⟩:=h8;rw[U9,e]at this;exact this (by simp[jT])
           have pt:¬w2.heap.size+1=w5+1:=λe=>DW e.symm;have aH:∀k,k≠w5.heap.size+1->(wz.setCell (Z (w5+1) 0) (.slice A7 (i+1) c7)).heap[k]?=wz.heap[k]?:=λk hk=>Below.heap_setCell _ _ _ _ hk;obtain ⟨Ag',cg',Va,ag4,-⟩:=dj.sb.DU;obtain ⟨LJ,zp⟩:∃n,eW.length=n:=⟨_,rfl⟩;rw[zp]at Va;have x4z:wz.cell? (Z (w2+1) 4)=some (.slice Ag' LJ cg'):=(χ (w2+1) 4 (aH _ pt)).symm.t Va;have ag5:w2.heap.size+1<wz:=by have:=hS.1;omega
           have wM:LJ<=100000:=by rw[<-zp];have:=Ic.o;omega
           have nJ:=Y dj;have LK:=Y zp;clear hS p9 Qb OX OY Qc e7 E4 E5 E6 E7 dj U8 Va zp;by_cases h2k:2000<LJ
           .have d4:decide (2000<(LJ:Int))=true:=τ;have Qd:=(aH (w+1) U).symm.t ((nJ.bl.block (w+1) U).t tH.o);obtain ⟨Vb,Vc⟩:wz.cell? (Z (w+1) 0)=some (.slice none 0 0)/\wz.cell? (Z (w+1) 1)=some (.slice none 0 0):=by constructor <;> (rw[Φ Qd]; rfl)
            have gz0:wz.frozen? (Z (w+1) 0)=false:=Ψ Qd
            have gz1:wz.frozen? (Z (w+1) 1)=false:=Ψ Qd
            have lRz:w.heap.size+1<wz:=U;have nRN:¬w.heap.size+1=w5+1:=U;have aha:¬w5.heap.size+1=w+1:=U;clear Qd aH;go_wp2_with fail;refine au λWf bG=>?_;refine bodyPost_ret (v:=.tuple #[dK,.int .i64 3]) (by rw[bG];simp[results,Tryz.results7,go_sem,Vb,Vc,lRz,dK];try rfl) rfl ?_
            have ju:Below w w Wf:=by
             rw[bG];have h1:=nA.t (nJ.bl.mono DT);exact (h1.sc (w+1) 0 (by show w.heap.size<=w+1;omega) _).sc (w+1) 1 (by show w.heap.size<=w+1;omega) _
            exact ⟨ju,.inr (.inr ⟨HQ.1,di.1,b,x,eW,_,_,i+1,wK.2.1,by rw[HN.1,HN.2.2.1],P8.o,nJ.ci,.inl ⟨by rw[LK.o];exact h2k,rfl⟩⟩)⟩
           .have d4:decide (2000<(LJ:Int))=false:=θ;have Vd:=nJ.ci.il;clear aH;go_wp2_with fail;go_roundw
            case rel=>exact ⟨i+1,eW,fp',_,_,_,_,_,by go_num,Vd,by rw[LK.o];omega,nJ⟩
            case measure=>exact μ
      .have nY:i=ng:=U;have hd:decide ((i:Int)<(ng:Int))=false:=θ;have qw:=HL.ci;rw[nY,<-Ic.o]at qw;obtain ⟨aax,nB,-⟩:=qw.done P8.o;have iy:=HL.ci.rl;have h0:1<=i:=by have:=(List.getElem?_eq_some_iff.1 HL.ci.g0).1;have:=Ic.o;omega
       have eg:iE ⟨rs,aN⟩:=⟨λr hr=>(nB r hr).2,λr hr=>Nat.le_trans (nB r hr).1 O,by show rs.length<=_;omega⟩
       have LO:=qD.below (nA.t (HL.bl.mono DT)) qD.low;have gq:=HL.ma.own;have gw:wr.ownsRow w2 4 1 vA aN.length (a8 bC aN):=HL.ma.acc;obtain ⟨AE,cE,rfl,-,-⟩:=ae gq;obtain ⟨AV,cA,rfl,-,-⟩:=ae gw;have hle:=Ik _ ⟨rs,aN⟩ wr HL.ma.aay aax eg (by show 1<=rs.length;omega) LO
       obtain ⟨nE,BI⟩:∃n,rs.length=n:=⟨_,rfl⟩;obtain ⟨nV,Il⟩:∃n,aN.length=n:=⟨_,rfl⟩;have Qg:=HL.ma.hN;rw[BI,Il]at hle Qg;obtain ⟨J9,Tc⟩:wr.cell? (Z (w5+1) 0)=some (.slice AE nE cE)/\wr.cell? (Z (w5+1) 1)=some (.slice AV nV cA):=by constructor <;> (rw[Φ Qg]; rfl)
       have lNw:w5.heap.size+1<wr:=(γ Qg).1;have Im:=Y hle;have xX:=Y qw;clear qw aax nB iy eg LO gq gw hle BI Il Qg nY;go_wp2_with fail;refine Im.mono ?_;rintro e w9 ⟨rv,m',rfl,fB,jF,xd⟩;obtain ⟨ve9,va9,rfl,Vp,ha9⟩:=fB.mc;obtain ⟨A9,c9,rfl,-⟩:=Vp.form;obtain ⟨B9,d9,rfl,-⟩:=ha9.form;obtain ⟨n9,LQ⟩:∃n,m'.ed.length=n:=⟨_,rfl⟩;obtain ⟨m9,Kc⟩:∃n,m'.ac.length=n:=⟨_,rfl⟩;rw[LQ,Kc]at fB|-;have S4:=jF.size;have Qh:=(jF.block (w+1) U).t ((HL.bl.block (w+1) U).t tH.o);obtain ⟨Vb,Vc⟩:w9.cell? (Z (w+1) 0)=some (.slice none 0 0)/\w9.cell? (Z (w+1) 1)=some (.slice none 0 0):=by constructor <;> (rw[Φ Qh]; rfl)
       have gz0:w9.frozen? (Z (w+1) 0)=false:=Ψ Qh
       have gz1:w9.frozen? (Z (w+1) 1)=false:=Ψ Qh
       have lR9:w.heap.size+1<w9:=U;have Gg:=Y (I fB (I jF xd));clear fB jF xd Vp ha9 Qh LQ Kc;go_wp2_with fail;refine au λWf bG=>?_;refine bodyPost_ret (v:=.tuple #[.agg #[.slice A9 n9 c9,.slice B9 m9 d9],(0:Int)]) (by rw[bG];simp[results,Tryz.results7,go_sem,Vb,Vc,lR9];try rfl) rfl ?_
       have aV:ab [w.heap.size+1] [] w9 Wf:=by
        rw[bG];have bf:∀k,k∉[w.heap.size+1]->k≠w.heap.size+1:=λk hn e=>hn (List.mem_singleton.2 e);exact ⟨rfl,rfl,rfl,by simp[World.setCell],λk _ hn=>(Below.heap_setCell (w9.setCell (Z (w+1) 0) _) (Z (w+1) 1) _ k (bf k hn)).t (Below.heap_setCell w9 (Z (w+1) 0) _ k (bf k hn)),λk hk=>by cases hk⟩
       have bT:Below w w wr:=nA.t (HL.bl.mono DT);have ju:Below w w Wf:=(bT.t (Gg.2.1.mono bT.size)).t (aV.below (λk hk=>by rw[List.mem_singleton]at hk;omega) U)
       have LR:=(Gg.1.keep aV (λk hk=>by rw[List.mem_singleton]at hk;omega)).mono bT.size
       exact ⟨ju,.inr (.inr ⟨HQ.1,di.1,b,x,gs,rs,aN,gs.length,wK.2.1,by rw[HN.1,HN.2.2.1],P8.o,xX.o,.inr ⟨rfl,by rw[Ic.o];exact dZ,_,m',rfl,LR,Gg.2.2⟩⟩)⟩
end
def wR(b:Pb)(l:List Nat)(c:Nat):List Nat:=(List.range b.sets.length).filter λp=>decide (p∈l) && cH b p c
theorem wF{P:Program}{f:FuncId}{args:Array Value}{w:World}{n:Nat}{v:Value}(h:Calls P f args (w.drewN n) λe w'=>e=.returned v/\w.drewN n=w'):Calls P f args (w.drewN n) λe gX=>e=.returned v/\∃m,gX=w.drewN m:=
 h.mono λ_ _ ⟨he,hm⟩=>⟨he,n,hm.symm⟩
theorem mi{B:Nat}{a w:World}(h:Below B a w)(n:Nat):Below B a (w.drewN n):=⟨h.os,h.tape,h.output,h.size,h.block⟩
theorem gD.Ad{w w':World}{v:Value}{rs:List (Nat×Nat)}(h:gD w v rs)(hb:Below w w w'):gD w' v rs:=by
 obtain ⟨A,c,e,hc,h⟩:=h;refine ⟨A,c,e,hc,h.imp id ?_⟩;rintro ⟨g,f,h1,h2,h3⟩;exact ⟨g,f,h1,Nat.lt_of_lt_of_le h2 hb.size,λi hi=>⟨⟨(hb.cl g (f+i*2) h2).t (h3 i hi).1.1,(hb.cl g (f+i*2+1) h2).t (h3 i hi).1.2⟩,(h3 i hi).2⟩⟩
def Ky(b:Pb)(l:List Nat)(c n:Nat)(o:List Bool):Prop:=o.length=n/\∀p,p<n->o[p]?=some (decide (p∈l) && cH b p c)
theorem Ky.nil(b:Pb)(c n:Nat):Ky b [] c n (List.replicate n false):=⟨H,λp hp=>by simp[hp]⟩
theorem Ky.hit{b:Pb}{l:List Nat}{c n:Nat}{o:List Bool}(h:Ky b l c n o){q:Nat}(hq:cH b q c=true):Ky b (l++[q]) c n (o.set q true):=by
 refine ⟨by rw[List.length_set];exact h.1,λp hp=>?_⟩
 rw[List.getElem?_set];by_cases e:q=p
 .subst e;simp[h.1,hp,hq]
 .rw[if_neg e,h.2 p hp];have:¬p=q:=λh=>e h.symm;simp[this]
theorem Ky.akS{b:Pb}{l:List Nat}{c n:Nat}{o:List Bool}(h:Ky b l c n o){q:Nat}(hq:cH b q c=false):Ky b (l++[q]) c n o:=by
 refine ⟨h.1,λp hp=>?_⟩;rw[h.2 p hp];by_cases e:p=q
 .subst e;simp[hq]
 .simp[e]
def Oj(o:List Bool)(k:Nat):List Nat:=(List.range k).filter λp=>(o[p]?).getD false
theorem Ol(o:List Bool)(k:Nat):Oj o (k+1)=if (o[k]?).getD false=true then Oj o k++[k] else Oj o k:=by
 unfold Oj;rw[List.range_succ,List.filter_append];by_cases h:(o[k]?).getD false=true <;> simp[h]
theorem Sb(o:List Bool)(k:Nat):(Oj o k).length<=k:=by
 unfold Oj;have:=List.length_filter_le (λp=>(o[p]?).getD false) (List.range k);simpa using this
theorem Ky.done{b:Pb}{l:List Nat}{c:Nat}{o:List Bool}(h:Ky b l c b.sets.length o):Oj o b.sets.length=wR b l c:=by
 unfold Oj wR;apply List.filter_congr;intro p hp;rw[h.2 p (List.mem_range.1 hp)]
 rfl
def XO(b:Pb)(l:List Nat)(c:Nat)(w:World)(e:Ending)(w':World):Prop:=∃u,e=.returned u/\OR 3 1 dM w u (wR b l c) w'/\Below w w w'
theorem Fj(w0:World)(s:Nat)(b:Pb)(fp:List Nat)(w:World)(v:Value)(l:List Nat)(c:Nat)(fY:tO w0 s b fp w)(hv:JL w v l)(hl:∀p∈l,p<b.sets.length)(hn:b.sets.length<=600)(SV:l.length<=10000000000000):
  Calls Tryz.prog 53 #[.pointer (Z s 0),v,.int .u8 (c:Int)] w (XO b l c w):=by
 obtain ⟨Al,cl,rfl,dj,dt⟩:=id hv;obtain ⟨vs,vf,rows,sv,rfl,hb⟩:=fY;obtain ⟨As,cS,rfl,E0,Eb⟩:=ae hb.sets;have bH:=hb.cs;have eP:s<w:=(γ bH).1;have aH:=hb.sets;have OL:=hb.tB;have eI:=hb.cW;obtain ⟨n,hN⟩:=ν b.sets.length;obtain ⟨m,hM⟩:∃n,l.length=n:=⟨_,rfl⟩;have HN:=Y (I hN hM);rw[hN]at hn hl E0 bH aH;rw[hM]at dj SV;have HS:=Y (I aH (I OL eI));have HL:=Y dt;have HLP:=Y hl;have s0:w.cell? (Z s 0)=some (.slice As n cS):=by rw[Φ bH];rfl
 have Ze:=Y s0;rw[hM];have xb:=r6 w n U;have qK:=uV n U;have aM:Below w w (w.alloc (.cells (Array.replicate n (.bool false)) 4)):=D.alloc V _;obtain ⟨W1,hW⟩:=ν (w.alloc (.cells (Array.replicate n (.bool false)) 4));have dh:W1.heap.size=w+1:=by rw[<-hW];simp
 rw[hW]at xb aM;have US:=Y (show wW W1 w w n n (List.replicate n false) W1 from ⟨xb,ab.refl _ _⟩);have cM:=Y aM;have HWW:=Y hW;clear hv hb bH aH OL eI hN hM dt hl xb aM hW
 go_enter Tryz.func53,Tryz.ntmps53
 go_wp2_with fail;rw[HWW.o];go_loopw [8] (λiv wr=>∃(i:Nat) (o:List Bool),i<=m/\iv=.int .i64 (i:Int)/\Hid (wW W1 w w n n o wr)/\Hid (Ky b (l.take i) c n o)) (λiv _=>m - (intOf iv).toNat)
 case atStart=>exact ⟨0,_,Nat.zero_le _,rfl,US,by rw[List.take_zero];exact Ky.nil b c n⟩
 case round=>
  obtain ⟨i,o,hi,rfl,HA,HK⟩:=hrel;have bT:Below w w wr:=cM.t (HA.kf.below (λk hk=>by rw[List.mem_singleton]at hk;omega) U)
  by_cases aB:i<m
  .have hd:decide ((i:Int)<(m:Int))=true:=τ;have dV:decide (i<m)=true:=decide_eq_true aB;have dE:i<l.length:=by rw[HN.2];exact aB
   obtain ⟨q,hq⟩:=ν (l[i]);have rU:q<n:=by rw[<-hq];exact HLP _ (List.getElem_mem dE)
   obtain ⟨g,f,rfl,hg,ak⟩:=HL.resolve_left (λh=>by rw[h.1]at dE;simp at dE)
   have hgw:g<wr:=by have:=bT.size;omega
   have c0:=(bT.cl g (f+i) hg).t (ak i dE);rw[hq]at c0;have c1:=(bT.cl s 0 eP).t Ze.o;have atS:s<wr:=by have:=bT.size;omega
   have hqb:q<b.sets.length:=by rw[HN.1];exact rU
   obtain ⟨rv,O5,rJ,-⟩:=HS.2.1 q hqb;obtain ⟨gs,rfl,Bb,akT⟩:∃gs,As=some ⟨gs,0,none⟩/\w0.heap.size<=gs/\gs<w.heap.size:=by
    rcases HS.1.2 with ⟨-,h3⟩|⟨g,cap,cur,h2,h3,h4,-⟩
    .omega
    .injection h2 with h2 _ _;exact ⟨g,h2,h3,(γ h4).1⟩
   have c2:=HS.1.cellAt q (by rw[Nat.mul_one];exact rU)
   rw[O5]at c2;have c2:=(bT.cl gs q akT).t c2;have atT:gs<wr:=by have:=bT.size;omega
   obtain ⟨Ar,cr,rfl,Tm⟩:=id rJ;have Us:n<=9223372036854775807:=U;have KR:(q:Int)<(n:Int):=U;have Mw:(i:Int)<(m:Int):=U;have atU:m<=9223372036854775807:=U;obtain ⟨bq,hbq⟩:=ν (cH b q c);have DD:qq b.sets[q] c=bq:=by
    rw[<-hbq];unfold cH;rw[List.getElem?_eq_getElem hqb];rfl
   have nW:gD wr (.slice Ar b.sets[q].length cr) b.sets[q]:=(rJ.Ad HS.2.2).Ad bT;obtain ⟨rr,Fa⟩:=ν (b.sets[q]);have HWN:=Y (λnq=>show Calls Tryz.prog 75 #[.slice Ar b.sets[q].length cr,.int .u8 (c:Int)] (wr.drewN nq) λe w'=>e=.returned (.bool bq)/\wr.drewN nq=w' from (Sc _ b.sets[q] c (wr.drewN nq) (nW.Ad (mi D nq))).mono λ_ _ ⟨h1,h2⟩=>⟨by rw[h1,DD],h2.symm⟩)
   rw[Fa]at HWN c2;have tG:l.take (i+1)=l.take i++[q]:=by rw[List.take_succ_eq_append_getElem dE,hq]
   have HT:=Y (I tG hbq);obtain ⟨bo,Zh⟩:∃bo,o[q]?=some bo:=⟨_,List.getElem?_eq_getElem (by rw[HK.1];exact rU)⟩
   obtain ⟨d0,d1,d2⟩:=HA.cell Zh;have dc:=Y bT;clear hq ak O5 rJ Tm hbq DD nW Fa tG Zh bT
   cases bq with
   |false=>
    go_upto_region 5 with fail
    go_quiet ((go_at_call 75;exact wF (HWN _)))
    go_wp2_with fail;go_roundw
    case rel=>exact ⟨i+1,o,U,by go_num,HA.later (mi D _),by rw[HT.1];exact HK.akS HT.2⟩
    case measure=>exact μ
   |true=>
    go_upto_region 5 with fail
    go_quiet ((go_at_call 75;exact wF (HWN _)))
    go_wp2_with fail;go_roundw
    case rel=>exact ⟨i+1,o.set q true,U,by go_num,(HA.later (mi D _)).set HK.1 q,by rw[HT.1];exact HK.hit HT.2⟩
    case measure=>exact μ
  .obtain rfl:i=m:=U;have hd:decide ((i:Int)<(i:Int))=false:=θ;have dV:decide (i<i)=false:=θ;rw[List.take_of_length_le (by rw[HN.2];exact V)]at HK
   have tD:=HK.1;have HOL:=Y tD;have dc:=Y bT;clear tD bT s0;obtain ⟨Wm,EU⟩:∃Wm,Wm=wr:=⟨_,rfl⟩;rw[<-EU]at HA dc;have C6:w.heap.size<Wm:=by have:=HA.kf.size;omega
   have HWm:=Y EU.symm;have BB:Hid (OR 3 1 dM (w+1) () (Oj o 0) wr/\Below w w wr/\wr.heap[w.heap.size]?=Wm.heap[w.heap.size]?/\w.heap.size+1<=wr):=⟨OR.iG _ _ _,by rw[HWm.o];exact dc.o,by rw[HWm.o],by rw[HWm.o];omega⟩
   clear EU;go_wp2_with fail;go_loopw [9,10] (λov iv wr=>∃(k:Nat) (vo:Value),k<=n/\iv=.int .i64 (k:Int)/\ov=vo/\Hid (OR 3 1 dM (w+1) vo (Oj o k) wr/\Below w w wr/\wr.heap[w.heap.size]?=Wm.heap[w.heap.size]?/\w.heap.size+1<=wr)) (λ_ iv _=>n - (intOf iv).toNat)
   case atStart=>exact ⟨0,_,Nat.zero_le _,rfl,rfl,BB⟩
   case round=>
    obtain ⟨k,vo,hk,rfl,rfl,HX⟩:=hrel;by_cases Kb:k<n
    .have nw:decide ((k:Int)<(n:Int))=true:=τ;have QR:decide (k<n)=true:=decide_eq_true Kb;obtain ⟨bo,Zh⟩:∃bo,o[k]?=some bo:=⟨_,List.getElem?_eq_getElem (by rw[HOL.o];exact Kb)⟩
     have d0:=(χ w k HX.2.2.1).t (HA.cell Zh).1;have lgo:w.heap.size<wr:=by have:=HX.2.2.2;omega
     have fB:=Ol o k;rw[Zh,Option.getD_some]at fB;have Gg:=Y fB;have hlen:=Sb o k;have hB:=((Below.refl wr wr).alloc V (.cells #[(k:Int)] 3));have ao:=HX.1.later hB;have TY:JL (wr.alloc (.cells #[(k:Int)] 3)) (.slice (Z wr 0) 1 1) [k]:=by
      refine ⟨some ⟨wr.heap.size,0,none⟩,1,rfl,⟨V,O⟩,.inr ⟨wr.heap.size,0,rfl,H,λi hi=>?_⟩⟩
      match i,hi with
      |0,_=>rw[Φ (heap_alloc_new wr _)];rfl
     have TZ:w.heap.size+1<=(wr.alloc (.cells #[(k:Int)] 3)).heap.size:=ψ;have pj:=Y hB;clear fB Zh hB
     cases bo with
     |false=>
      go_wp2_with fail;go_roundw
      case rel=>exact ⟨k+1,_,U,by go_num,rfl,by rw[Gg.o];exact HX.o⟩
      case measure=>exact μ
     |true=>
      go_wp2_with (at_builtin;refine eD _ _ _ _ (Oj o k) [k] (w+1) rfl rfl rfl rfl ao TY ψ TZ ?_);intro v' w1 ai bg Fb;have BP:∀q,q<w.heap.size+1->w1.heap[q]?=wr.heap[q]?:=λq hq=>(bg.block q ψ (λe=>by have:=(World.ownsRow.lt HX.1 q e.symm).1;omega)).t (pj.block q U)
      have aM:Below w w w1:=⟨bg.os.t HX.2.1.os,bg.tape.t HX.2.1.tape,bg.output.t HX.2.1.output,by have:=bg.size;have:=HX.2.1.size;simp at *;omega,λq hq=>(BP q U).t (HX.2.1.block q hq)⟩
      have tU:=Y (I ai (I aM (I ((BP _ (Nat.lt_succ_self _)).t HX.2.2.1) (show w.heap.size+1<=w1 by have:=bg.size;simp at this;omega))))
      clear ao TY TZ ai bg Fb BP aM;go_wp2_with fail;go_roundw
      case rel=>exact ⟨k+1,_,U,by go_num,rfl,by rw[Gg.o];exact tU.o⟩
      case measure=>exact μ
    .obtain rfl:k=n:=U;have nw:decide ((k:Int)<(k:Int))=false:=θ;have QR:decide (k<k)=false:=θ;go_wp2_with fail;go_ret;have L8:=HK.o;have hx:=HX.o;obtain ⟨e1,-⟩:=HN.o;subst e1;rw[L8.done]at hx;exact ⟨_,rfl,hx.1.mono (Nat.le_succ _),hx.2.1⟩
def Ss(al:List Bool)(r:List Ed)(c:Nat):Int:=match bA r c with|none=>-1|some t=>if (al[t]?).getD false=true then (t:Int) else -1
theorem pS:∀{r:List Ed} {b c:Nat} (i:Nat) (hi:i<r.length),bK b r->bA (r.take (i+1)) c=if r[i].lo<=c/\c<=r[i].hi then some r[i].to else bA (r.take i) c
 |e::r,b,c,0,_,_=>by simp[bA]
 |e::r,b,c,i+1,hi,⟨h1,h2,h3⟩=>by
  rw[List.take_succ_cons,bA,List.take_succ_cons,bA,List.getElem_cons_succ];have fQ:i<r.length:=by simpa using hi
  rw[pS i fQ h3];by_cases he:e.lo<=c/\c<=e.hi
  .rw[if_pos he,if_pos he];have bX:=(jY h3 i fQ).1;have Lo:e.hi+1<=r[i].lo:=by
    cases i with
    |zero=>
     match r,h3,fQ with
     |f::r,h3,_=>exact h3.1
    |succ i=>
     have h5:=(oR h3 0 i U U (Nat.zero_le _));have h6:=(jY h3 (i+1) fQ).2 i rfl;omega
   rw[if_neg U]
  .rw[if_neg he,if_neg he]
theorem Ov{al:List Bool}{r:List Ed}{b c:Nat}(i:Nat)(hi:i<r.length)(hs:bK b r):Ss al (r.take (i+1)) c=if (r[i].lo<=c/\c<=r[i].hi)/\(al[r[i].to]?).getD false=true then (r[i].to:Int) else Ss al (r.take i) c:=by
 unfold Ss;rw[pS i hi hs];by_cases h:r[i].lo<=c/\c<=r[i].hi
 .rw[if_pos h];by_cases ha:(al[r[i].to]?).getD false=true
  .rw[if_pos ⟨h,ha⟩];simp only;rw[if_pos ha]
  .rw[if_neg (λq=>ha q.2)];simp only;rw[if_neg ha];have hn:bA (r.take i) c=none:=by
    cases hx:bA (r.take i) c with
    |none=>rfl
    |some t=>
     exfalso;obtain ⟨e,he,h1,h2,-⟩:=gI hx;obtain ⟨k,hk,rfl⟩:=List.getElem_of_mem he;have hki:k<i:=by simp at hk;omega
     rw[List.getElem_take]at h1 h2;have h5:=(oR hs k (i - 1) U U U).2;have h6:=(jY hs i hi).2 (i - 1) U;omega
   rw[hn]
 .rw[if_neg h,if_neg (λq=>h q.1)]
theorem uq{L:List Nat}{w w':World}(hf:Below w w w'):ab L [] w w':=⟨hf.os,hf.tape,hf.output,hf.size,λk hk _=>hf.block k hk,λk hk=>by cases hk⟩
structure AR (W:World) (g n:Nat) (F:Nat->Nat->Int) (wr:World):Prop where
 tb:z8 wr g n F
 kf:ab [g] [] W wr
theorem AR.set{W wr:World}{g n:Nat}{F:Nat->Nat->Int}(h:AR W g n F wr){s c:Nat}(hs:s<n)(hc:c<256)(x:Int):AR W g n (sK F s c x) (wr.setCell (Z g (s*256+c)) (.int .i64 x)):=
 ⟨h.tb.set hs hc x,h.kf.tr ⟨rfl,rfl,rfl,by simp[World.setCell],λk _ hn=>Below.heap_setCell _ _ _ _ (λe=>hn (by simp[show k=g from e])),λk hk=>by cases hk⟩⟩
theorem AR.later{W wr w':World}{g n:Nat}{F:Nat->Nat->Int}(h:AR W g n F wr)(hb:Below wr wr w'):AR W g n F w':=⟨h.tb.later hb,h.kf.tr (uq hb)⟩
def X2(m:Mc)(n:Nat)(w:World)(e:Ending)(w':World):Prop:=∃g al,e=.returned (.slice (Z g 0) n n)/\w.heap.size<=g/\z8 w' g n (iC m al)/\Below w w w'/\al.length=n/\∀s,s<n->(al[s]?=some true↔aW m s)
def St(gT gE n s cx to:Nat):Nat->Nat->Value->World->Prop
 |c,0,x,w=>x=.slice (Z gT 0) n n
 |c,1,x,w=>x=.int .i64 (s:Int)
 |c,2,x,w=>x=.int .i64 (cx:Int)
 |c,3,x,w=>x=.pointer (Z gE 2)
 |c,4,x,w=>x=.int .i64 (to:Int)
 |c,5,x,w=>x=.pointer (Z gT (s*256))
 |c,6,x,w=>x=.pointer (Z gT (s*256+cx))
 |_,_,_,_=>True
theorem FA(v:Value)(m:Mc)(w:World)(hm:jb w v m)(hv:jB m)(eg:iE m)(h1:1<=m.ed.length)(h2:m.ed.length<=2000):
  Calls Tryz.prog 55 #[v] w (X2 m m.ed.length w):=by
 obtain ⟨Ae,ce,Aa,ca,rfl,ON,EX⟩:=mcf hm;obtain ⟨he,ha⟩:=rE hm;obtain ⟨n,hn⟩:=ν m.ed.length;have ej:m.ac.length=n:=by rw[hv.len,hn]
 have HLV:=Y λW (h:Below w w W)=>Jw _ m W (hm.later h) hv eg h1;have HE:=Y he;have HV:=Y hv;have tT:=Y eg;have HN:=Y (I hn ej);rw[hn]at h1 h2 ON HLV;rw[ej]at EX HLV;rw[ej,hn];have qK:=λw=>Sr n U w;have dA:Hid (Below w w (w.alloc (.cells #[.slice Ae n ce,.slice Aa n ca] 35))):=D.alloc V _;have tX:=Y (heap_alloc_new w (.cells #[.slice Ae n ce,.slice Aa n ca] 35));clear he ha hv eg hm hn ej
 go_enter Tryz.func55,Tryz.ntmps55
 go_wp2_with fail;refine (HLV _ dA.o).mono ?_;rintro e w1 ⟨rv,al,rfl,ao,aM,jf,aej⟩;obtain ⟨A1,c1,rfl,kr,-⟩:=ae (show w1.ownsRow _ _ _ _ _ _ from ao);rw[jf]at kr;have nK:=(aM.block w H).t tX.o;obtain ⟨x0,x1⟩:w1.cell? (Z w 0)=some (.slice Ae n ce)/\w1.cell? (Z w 1)=some (.slice Aa n ca):=by constructor <;> (rw[Φ nK]; rfl)
 have lx:w.heap.size<w1:=by have:=aM.size;simp at this;omega
 have H1:=Y (I ao (I (dA.t (aM.mono H)) (I jf (I aej nK))));rw[jf];clear ao aM aej nK jf;go_wp2_with fail;refine br λW hW=>?_;have du:Below w1 w1 W:=by rw[hW];exact D.alloc V _
 have hT0:z8 W w1 n λ_ _=>0:=by rw[hW];exact z8.made
 obtain ⟨gT,T7⟩:∃k,w1.heap.size=k:=⟨_,rfl⟩;have aue:gT<W:=by rw[<-T7];exact (hT0.cell (s:=0) (c:=0) U O).2.2
 have KF:Hid (∀wr,ab [gT] [] W wr->Below w w wr/\wr.heap[w.heap.size]?=some (.cells #[.slice Ae n ce,.slice Aa n ca] 35)/\w.heap.size<wr/\OR 4 1 bC w (.slice A1 n c1) al wr/\gT<wr):=λwr hk=>by
  have hz:=hk.size;have jn:=du.size;have h1:=H1.2.1;have dt:=H1.1;rw[H1.2.2.1]at *;exact ⟨(h1.t (du.mono h1.size)).t (hk.below (λk hk=>by rw[List.mem_singleton]at hk;have:=h1.size;omega) (by have:=h1.size;omega)),(hk.aq _ U ψ).t ((du.block _ U).t H1.2.2.2.2),U,
   OR.keep ((dt.mono (show w.heap.size<=_ by simp)).later du) λg hg=>hk.aq g (World.ownsRow.lt (dt.later du) g hg).2 (by have:=(World.ownsRow.lt dt g hg).2;simp;omega),U⟩
 have HT0:Hid (AR W gT n (λ_ _=>0) W):=by rw[<-T7];exact ⟨hT0,uq D⟩
 rw[T7];have hgw:w<=gT:=by rw[<-T7];exact H1.2.1.size
 clear hW du hT0 x0 x1 lx T7;go_loopw [5] (λv wr=>∃(s:Nat) (F:Nat->Nat->Int),s<=n/\v=.int .i64 (s:Int)/\Hid (AR W gT n F wr/\∀s' c,s'<s->c<256->F s' c=iC m al s' c)) (λv _=>n - (intOf v).toNat)
 case atStart=>exact ⟨0,λ_ _=>0,U,rfl,HT0,λs' c zt=>absurd zt (Nat.not_lt_zero _)⟩
 case round=>
  obtain ⟨s,F,hs,rfl,HW⟩:=hrel;by_cases aB:s<n
  .have hd:decide ((s:Int)<(n:Int))=true:=τ;have dV:decide (s<n)=true:=decide_eq_true aB;go_wp2_with fail;go_loopw [6] (λv wr=>∃(c:Nat) (F:Nat->Nat->Int),c<=256/\v=.int .i64 (c:Int)/\Hid (AR W gT n F wr/\(∀s' c,s'<s->c<256->F s' c=iC m al s' c)/\∀c',c'<c->F s c'=-1)) (λv _=>256 - (intOf v).toNat)
   case atStart=>exact ⟨0,F,U,rfl,HW.1,HW.2,λc' wJ=>absurd wJ (Nat.not_lt_zero _)⟩
   case round=>
    obtain ⟨c,F2,hc,rfl,nA⟩:=hrel;by_cases dj:c<256
    .have SY:decide ((c:Int)<256)=true:=τ;have NA:decide (c<256)=true:=decide_eq_true dj;obtain ⟨k0,k1,k2⟩:=nA.1.tb.cell aB dj;have sR:Hid (AR W gT n (sK F2 s c (-1)) (wr.setCell (Z gT (s*256+c)) (.int .i64 (-1)))/\(∀s' c',s'<s->c'<256->sK F2 s c (-1) s' c'=iC m al s' c')/\∀c',c'<c+1->sK F2 s c (-1) s c'=-1):=⟨nA.1.set aB dj (-1),λs' c' h1 h2=>by unfold sK;rw[if_neg U];exact nA.2.1 s' c' h1 h2,λc' wJ=>by
      unfold sK;by_cases h:c'=c
      .rw[if_pos ⟨rfl,h⟩]
      .rw[if_neg (λq=>h q.2)];exact nA.2.2 c' U⟩
     go_wp2_with fail;go_roundw
     case rel=>exact ⟨c+1,_,U,by go_num,sR⟩
     case measure=>exact μ
    .obtain rfl:c=256:=U;have SY:decide ((256:Int)<256)=false:=O;have NA:decide (256<256)=false:=O;have eP:s<m.ed.length:=by rw[HN.1];exact aB
     obtain ⟨g,f,rv,rfl,-,hg,tC,ni⟩:=HE.jL eP;obtain ⟨row,aC⟩:∃r,m.ed[s]=r:=⟨_,rfl⟩;have fW:aU m s=row:=by unfold aU;rw[List.getElem?_eq_getElem eP,aC];rfl
     rw[aC]at ni;have jM:∀e∈row,e.to<n:=λe he=>by rw[<-HN.1];exact HV.to _ (by rw[<-aC];exact List.getElem_mem eP) e he
     have jl:∀e∈row,e.lo<256/\e.hi<256:=λe he=>tT.qM _ (by rw[<-aC];exact List.getElem_mem eP) e he
     have nT:bK 0 row:=by rw[<-aC];exact HV.kE _ (List.getElem_mem eP)
     have iy:row.length<=10000:=tT.rl _ (by rw[<-aC];exact List.getElem_mem eP)
     obtain ⟨Ar,cr,rfl,Dd,oK⟩:=ni;obtain ⟨L,hL⟩:=ν row.length;rw[hL]at Dd tC iy;have PW:=Y (I hg tC);have xO:=Y (I fW (I jM (I jl (I nT hL))));have VV:=Y oK;clear hg tC aC fW jM oK hL eP jl nT;go_wp2_with fail;go_loopw [7] (λv wr=>∃(i:Nat) (F:Nat->Nat->Int),i<=L/\v=.int .i64 (i:Int)/\Hid (AR W gT n F wr/\(∀s' c,s'<s->c<256->F s' c=iC m al s' c)/\∀c',c'<256->F s c'=Ss al (row.take i) c')) (λv _=>L - (intOf v).toNat)
     case atStart=>exact ⟨0,F2,U,rfl,nA.1,nA.2.1,λc' wJ=>nA.2.2 c' wJ⟩
     case round=>
      obtain ⟨i,F3,hi,rfl,Ko⟩:=hrel;obtain ⟨eI,iw,lx,dt,lT⟩:=KF wr Ko.1.kf;obtain ⟨x0,x1⟩:wr.cell? (Z w 0)=some (.slice (Z g f) n ce)/\wr.cell? (Z w 1)=some (.slice Aa n ca):=by constructor <;> (rw[Φ iw]; rfl)
      have y0:=(eI.cl g (f+s) PW.1).t PW.2;have ly:g<wr:=by have:=PW.1;omega
      have pY:=Y eI;clear eI iw dt;by_cases dE:i<L
      .have Yw:decide ((i:Int)<(L:Int))=true:=τ;have XC:decide (i<L)=true:=decide_eq_true dE;have xP:i<row.length:=by rw[xO.2.2.2.2];exact dE
       obtain ⟨g2,f2,rfl,dZ,bH⟩:=VV.resolve_left (by intro e;rw[e]at xP;simp at xP)
       obtain ⟨p0,p1,p2⟩:=bH i xP;have KY:=(jY xO.2.2.2.1 i xP).1;have Su:=λc'=>Ov (al:=al) (c:=c') i xP xO.2.2.2.1;have Ow:=xO.2.1 _ (List.getElem_mem xP);have JJ:=xO.2.2.1 _ (List.getElem_mem xP);obtain ⟨⟨lo,fQ,to⟩,he⟩:∃e,row[i]=e:=⟨_,rfl⟩;rw[he]at p0 p1 p2 KY Su Ow JJ;simp only at p0 p1 p2 KY Su Ow JJ;have q0:=(pY.cl g2 (f2+i*3) dZ).t p0;have q1:=(pY.cl g2 (f2+i*3+1) dZ).t p1;have q2:=(pY.cl g2 (f2+i*3+2) dZ).t p2;have lz:g2<wr:=by have:=pY.size;omega
       have tD:to<al.length:=by rw[H1.2.2.1];exact Ow
       obtain ⟨b,hb⟩:∃b,al[to]?=some b:=⟨_,List.getElem?_eq_getElem tD⟩;have HP:=Y (I KY (I Su (I Ow (I JJ hb))));have alf:lo<256:=JJ.1;have alg:fQ<256:=JJ.2;clear p0 p1 p2 KY Su Ow JJ bH he xP tD hb;go_wp2_with fail;refine br λW5 FN=>?_;have hbE:W5.heap[wr.heap.size]?=some (.cells #[.int .u8 (lo:Int),.int .u8 (fQ:Int),(to:Int)] 74):=by rw[FN];exact heap_alloc_new wr _
       have mj:Below wr wr W5:=by rw[FN];exact D.alloc V _
       obtain ⟨gE,Ta⟩:∃k,wr.heap.size=k:=⟨_,rfl⟩;have hTE:gT<gE:=by rw[<-Ta];exact lT
       rw[Ta]at hbE;have HW5:Hid ((AR W gT n F3 W5/\W5.heap[gE]?=some (.cells #[.int .u8 (lo:Int),.int .u8 (fQ:Int),(to:Int)] 74))/\(∀s' c,s'<s->c<256->F3 s' c=iC m al s' c)/\∀c',c'<256->F3 s c'=if (lo<=c'/\c'<lo)/\b=true then (to:Int) else Ss al (row.take i) c'):=⟨⟨Ko.1.later mj,hbE⟩,Ko.2.1,λc' wJ=>by rw[if_neg U];exact Ko.2.2 c' wJ⟩
       rw[Ta];have KY:lo<=fQ:=HP.1;clear FN mj hbE Ta x0 x1 lx lT y0 ly q0 q1 q2 lz;go_loopw [9] (λv wr=>∃(c:Nat) (F:Nat->Nat->Int),lo<=c/\c<=fQ+1/\v=.int .i64 (c:Int)/\Hid ((AR W gT n F wr/\wr.heap[gE]?=some (.cells #[.int .u8 (lo:Int),.int .u8 (fQ:Int),(to:Int)] 74))/\(∀s' c,s'<s->c<256->F s' c=iC m al s' c)/\∀c',c'<256->F s c'=if (lo<=c'/\c'<c)/\b=true then (to:Int) else Ss al (row.take i) c')) (λv _=>fQ+1 - (intOf v).toNat)
       case atStart=>exact ⟨lo,F3,V,U,rfl,HW5⟩
       case round=>
        obtain ⟨cx,F4,dj,hch,rfl,Kz⟩:=hrel;obtain ⟨eI,-,-,dt,lT⟩:=KF wr Kz.1.1.kf;have hE:=Kz.1.2;obtain ⟨e0,e1,e2⟩:wr.cell? (Z gE 0)=some (.int .u8 (lo:Int))/\wr.cell? (Z gE 1)=some (.int .u8 (fQ:Int))/\wr.cell? (Z gE 2)=some (.int .i64 (to:Int)):=by refine ⟨?_,?_,?_⟩ <;> (rw[Φ hE]; rfl)
        have lE:gE<wr:=(γ hE).1;have hdt:decide (to<n)=true:=decide_eq_true HP.2.2.1;obtain ⟨A',pB,e',-,aek⟩:=dt.cells Hg;obtain ⟨tD,DD⟩:=List.getElem?_eq_some_iff.1 HP.2.2.2.2;obtain ⟨ga,hA,-,DH,qi⟩:=aek.resolve_left (by intro h;rw[h]at tD;exact absurd tD (Nat.not_lt_zero _))
        injection e' with e'1 e'2 e'3;have ky:wr.cell? (Z ga to)=some (.bool b):=by
         have:=(qi to tD 0 O).1;rw[Nat.mul_one,Nat.add_zero,DD]at this;exact this
        have hAA:A1=some ⟨ga,0,none⟩:=e'1.t hA;have YH:=HP.2.2.1;clear aek qi tD DD hE dt hA e'1 e'2 e'3 eI;by_cases ali:cx<=fQ
        .have SY:decide ((cx:Int)<=(fQ:Int))=true:=τ;have NA:decide (cx<=fQ)=true:=decide_eq_true ali;by_cases zw:¬b=true
         .have ju:b=false:=by simpa using zw
          rw[ju]at ky;have HBF:=Y ju;clear zw ju;have HN6:Hid (AR W gT n F4 wr/\(∀s' cx,s'<s->cx<256->F4 s' cx=iC m al s' cx)/\∀pB,pB<256->F4 s pB=Ss al (row.take (i+1)) pB):=⟨Kz.1.1,Kz.2.1,λpB wJ=>by
           rw[Kz.2.2 pB wJ,HP.2.1 pB,HP.2.2.2.2];simp only[Option.getD_some,HBF.o];simp⟩
          subst hAA;go_wp2_with fail;go_roundw
          case rel=>exact ⟨i+1,F4,U,by go_num,HN6⟩
          case measure=>exact μ
         .have X3:b=true:=Decidable.not_not.1 zw;rw[X3]at ky;have HBT:=Y X3;clear zw X3;have Ox:cx<256:=U;have ao7:decide (cx<256)=true:=decide_eq_true Ox;have alj:decide ((cx:Int)<256)=true:=τ;have aui:decide ((0:Int)<=(cx:Int))=true:=τ;subst hAA;go_wp2_with fail;have dN:Below wr wr wr.drew:=D.drew;refine ay 7 [] (St gT gE n s cx to) (λc w'=>Below wr wr w') R R R R R R O dN ?_ ?_
          .simp only[ck,ct];refine aa.pure O ?_ (aa.pure O ?_ (aa.pure O ?_ (aa.pure O ?_ (aa.pure O ?_ (aa.pure O ?_ (aa.pure O ?_ (aa.nil)))))))
           all_goals first | (intro v wz c bX hS hE K hK;simp only[ah,Act.put,dk,dm,dn,Nat.zero_add,Nat.reduceAdd,ck,ct]at hK|-) | (intro v wz hS hE K hK;simp only[ah,Act.put,dk,dm,dn,Nat.zero_add,Nat.reduceAdd,ck,ct]at hK|-)
           .exact ζ
           .exact ζ
           .exact ζ
           .exact ζ
           .have e3:v 3=_:=hE.1 rfl;rw[e3]at hK|-;have q2:=(hS.cl gE 2 lE).t e2;have lq:gE<wz:=Nat.lt_of_lt_of_le lE hS.size;exact ζ
           .have e0:v 0=_:=hE.1 rfl;have e1:v 1=_:=hE.2.1 rfl;rw[e0,e1]at hK|-;exact ζ
           .have e5:v 5=_:=hE.1 rfl;have e2:v 2=_:=hE.2.1 rfl;rw[e5,e2]at hK|-;exact ζ
          .intro v wz hS hF;have e0:v 0=_:=hF 0 O;have e1:v 1=_:=hF 1 O;have e2:v 2=_:=hF 2 O;have e3:v 3=_:=hF 3 O;have e4:v 4=_:=hF 4 O;have e5:v 5=_:=hF 5 O;have e6:v 6=_:=hF 6 O;simp only[ah,Act.put,dk,dm,dn,Nat.zero_add,Nat.reduceAdd,ck,ct,List.drop_succ_cons,List.drop_zero,e0,e1,e2,e3,e4,e5,e6];clear hF e0 e1 e2 e3 e4 e5 e6;have HW7:Hid ((AR W gT n F4 wz/\wz.heap[gE]?=some (.cells #[.int .u8 (lo:Int),.int .u8 (fQ:Int),(to:Int)] 74))):=⟨Kz.1.1.later hS,(hS.block gE lE).t Kz.1.2⟩;obtain ⟨k0,k1,k2⟩:=HW7.1.tb.cell aB Ox;have HN6:Hid ((AR W gT n (sK F4 s cx to) (wz.setCell (Z gT (s*256+cx)) (.int .i64 (to:Int)))/\(wz.setCell (Z gT (s*256+cx)) (.int .i64 (to:Int))).heap[gE]?=some (.cells #[.int .u8 (lo:Int),.int .u8 (fQ:Int),(to:Int)] 74))/\(∀s' pB,s'<s->pB<256->sK F4 s cx to s' pB=iC m al s' pB)/\∀pB,pB<256->sK F4 s cx to s pB=if (lo<=pB/\pB<cx+1)/\b=true then (to:Int) else Ss al (row.take i) pB):=⟨⟨HW7.1.set aB Ox _,(Below.heap_setCell _ _ _ _ (by show gE≠gT;omega)).t HW7.2⟩,λs' pB h1 h2=>by unfold sK;rw[if_neg U];exact Kz.2.1 s' pB h1 h2,λpB wJ=>by
            unfold sK;by_cases h:pB=cx
            .rw[if_pos ⟨rfl,h⟩,if_pos ⟨U,HBT.o⟩]
            .rw[if_neg (λq=>h q.2),Kz.2.2 pB wJ];by_cases h2:lo<=pB/\pB<cx
             .rw[if_pos ⟨h2,HBT.o⟩,if_pos ⟨U,HBT.o⟩]
             .rw[if_neg (λq=>h2 q.1),if_neg (λq=>h2 U)]⟩
           clear hS e0 e1 e2 lE ky lT DH;go_wp2_with fail;go_roundw
           case rel=>exact ⟨cx+1,_,U,U,by go_num,HN6⟩
           case measure=>exact μ
        .obtain rfl:cx=fQ+1:=U;have SY:decide (((fQ+1:Nat):Int)<=(fQ:Int))=false:=θ;have NA:decide (fQ+1<=fQ)=false:=θ;have auj:decide ((fQ:Int)+1<=(fQ:Int))=false:=θ;have HN6:Hid (AR W gT n F4 wr/\(∀s' cx,s'<s->cx<256->F4 s' cx=iC m al s' cx)/\∀pB,pB<256->F4 s pB=Ss al (row.take (i+1)) pB):=⟨Kz.1.1,Kz.2.1,λpB wJ=>by
          rw[Kz.2.2 pB wJ,HP.2.1 pB,HP.2.2.2.2];by_cases h2:(lo<=pB/\pB<=fQ)/\b=true
          .rw[if_pos ⟨U,h2.2⟩,if_pos ⟨h2.1,h2.2⟩]
          .rw[if_neg (λq=>h2 ⟨U,q.2⟩),if_neg (λq=>h2 ⟨q.1,q.2⟩)]⟩
         go_wp2_with fail;go_roundw
         case rel=>exact ⟨i+1,F4,U,by go_num,HN6⟩
         case measure=>exact μ
      .obtain rfl:i=L:=U;have Yw:decide ((i:Int)<(i:Int))=false:=θ;have XC:decide (i<i)=false:=θ;have HN4:Hid (AR W gT n F3 wr/\∀s' c,s'<s+1->c<256->F3 s' c=iC m al s' c):=⟨Ko.1,λs' c h1 h2=>by
        by_cases hss:s'<s
        .exact Ko.2.1 s' c hss h2
        .obtain rfl:s'=s:=U;rw[Ko.2.2 c h2,List.take_of_length_le (by rw[xO.2.2.2.2];omega)]
         show _=(match bA (aU m s') c with|none=>(-1:Int)|some t=>if (al[t]?).getD false=true then (t:Int) else -1)
         rw[xO.1]
         rfl⟩
       go_wp2_with fail;go_roundw
       case rel=>exact ⟨s+1,F3,U,by go_num,HN4⟩
       case measure=>exact μ
  .obtain rfl:s=n:=U;have hd:decide ((s:Int)<(s:Int))=false:=θ;have dV:decide (s<s)=false:=θ;go_wp2_with fail;go_ret;refine ⟨gT,al,rfl,hgw,?_,(KF _ HW.1.kf).1,H1.2.2.1,H1.2.2.2.1⟩;obtain ⟨cs,h1,h2,h3⟩:=HW.1.tb;exact ⟨cs,h1,h2,λs' c' zt wJ=>by rw[h3 s' c' zt wJ,HW.2 s' c' zt wJ]⟩
def rA(F:Nat->Nat->Int)(c:Nat->Nat)(s b:Nat):Option Nat:=if 0<=F s b then some (c (F s b).toNat) else none
structure xE (m:Mc) (c:Nat->Nat):Prop where
 coarse:∀s t,s<m.ed.length->t<m.ed.length->oJ m s t->c s=c t
 acc:∀s t,s<m.ed.length->t<m.ed.length->c s=c t->(m.ac[s]?).getD false=(m.ac[t]?).getD false
def Nn(m:Mc)(F:Nat->Nat->Int)(c d:Nat->Nat):Prop:=∀s t,s<m.ed.length->t<m.ed.length->(d s=d t↔c s=c t/\∀b,b<256->rA F c s b=rA F c t b)
def nH(m:Mc)(al:List Bool):Prop:=al.length=m.ed.length/\∀s,s<m.ed.length->(al[s]?=some true↔aW m s)
theorem oL{m:Mc}{al:List Bool}(hv:jB m)(ha:nH m al){s b t:Nat}(ht:bA (aU m s) b=some t):iC m al s b=if al[t]?=some true then (t:Int) else -1:=by
 unfold iC;rw[ht];have hl:t<al.length:=by rw[ha.1];exact hv.a6 ht
 simp only;rw[List.getElem?_eq_getElem hl];simp
theorem vW{m:Mc}{al:List Bool}{s b:Nat}(ht:bA (aU m s) b=none):iC m al s b=-1:=by
 unfold iC;rw[ht]
theorem iT{m:Mc}{al:List Bool}{c:Nat->Nat}(hv:jB m)(ha:nH m al){s b t:Nat}(ht:bA (aU m s) b=some t)(hl:aW m t):rA (iC m al) c s b=some (c t):=by
 unfold rA;rw[oL hv ha ht,if_pos ((ha.2 t (hv.a6 ht)).2 hl),if_pos U];simp
theorem mh{m:Mc}{al:List Bool}{c:Nat->Nat}(hv:jB m)(ha:nH m al){s b t:Nat}(ht:bA (aU m s) b=some t)(hl:¬aW m t):rA (iC m al) c s b=none:=by
 unfold rA;rw[oL hv ha ht,if_neg (λh=>hl ((ha.2 t (hv.a6 ht)).1 h)),if_neg U]
theorem oM{m:Mc}{al:List Bool}{c:Nat->Nat}{s b:Nat}(ht:bA (aU m s) b=none):rA (iC m al) c s b=none:=by
 unfold rA;rw[vW ht,if_neg U]
theorem xE.start(m:Mc)(c:Nat->Nat)(h:∀s,s<m.ed.length->c s=if (m.ac[s]?).getD false=true then 1 else 0):xE m c:=by
 refine ⟨λs t hs ht hw=>?_,λs t hs ht he=>?_⟩
 .rw[h s hs,h t ht];have:(m.ac[s]?).getD false=(m.ac[t]?).getD false:=hw [];rw[this]
 .rw[h s hs,h t ht]at he
  cases h1:(m.ac[s]?).getD false <;> cases h2:(m.ac[t]?).getD false <;> simp[h1,h2]at he|-
theorem Np{m:Mc}{al:List Bool}{c:Nat->Nat}(hv:jB m)(ha:nH m al)(h:xE m c){s t:Nat}(fw:oJ m s t)(b:Nat):rA (iC m al) c s b=rA (iC m al) c t b:=by
 have:=yu (b:=b) fw
 cases e1:bA (aU m s) b with
 |none=>
  rw[e1]at this;rw[oM e1]
  cases e2:bA (aU m t) b with
  |none=>rw[oM e2]
  |some t'=>rw[mh hv ha e2 (this t' e2)]
 |some s'=>
  rw[e1]at this
  cases e2:bA (aU m t) b with
  |none=>
   rw[e2]at this;rw[oM e2,mh hv ha e1 this]
  |some t'=>
   rw[e2]at this;by_cases hl:aW m s'
   .have dU:aW m t':=by obtain ⟨w,hw⟩:=hl;exact ⟨w,by rw[<-this w];exact hw⟩
    rw[iT hv ha e1 hl,iT hv ha e2 dU,h.coarse s' t' (hv.a6 e1) (hv.a6 e2) this]
   .have dU:¬aW m t':=λ⟨w,hw⟩=>hl ⟨w,by rw[this w];exact hw⟩
    rw[mh hv ha e1 hl,mh hv ha e2 dU]
theorem xE.next{m:Mc}{al:List Bool}{c d:Nat->Nat}(hv:jB m)(ha:nH m al)(h:xE m c)(hn:Nn m (iC m al) c d):xE m d:=
 ⟨λs t hs ht fw=>(hn s t hs ht).2 ⟨h.coarse s t hs ht fw,λb _=>Np hv ha h fw b⟩,λs t hs ht he=>h.acc s t hs ht ((hn s t hs ht).1 he).1⟩
theorem xE.done{m:Mc}{al:List Bool}{c d:Nat->Nat}(hv:jB m)(eg:iE m)(ha:nH m al)(h:xE m c)(hn:Nn m (iC m al) c d)(fw:∀s t,s<m.ed.length->t<m.ed.length->c s=c t->d s=d t):
  ∀s t,s<m.ed.length->t<m.ed.length->(d s=d t↔oJ m s t):=by
 intro s t hs ht;refine ⟨?_,λhw=>(h.next hv ha hn).coarse s t hs ht hw⟩;intro he w
 induction w generalizing s t with
 |nil=>exact (h.next hv ha hn).acc s t hs ht he
 |cons b w ih=>
  rw[cJ,cJ];by_cases hb:b<256
  .have rB:=((hn s t hs ht).1 he).2 b hb;have dd:∀x,x<m.ed.length->¬aW m x->eM m w x=false:=λx _ hx=>by
    cases hw:eM m w x with
    |false=>rfl
    |true=>exact absurd ⟨w,hw⟩ hx
   cases e1:bA (aU m s) b with
   |none=>
    rw[oM e1]at rB
    cases e2:bA (aU m t) b with
    |none=>rfl
    |some t'=>
     by_cases hl:aW m t'
     .rw[iT hv ha e2 hl]at rB;cases rB
     .exact (dd t' (hv.a6 e2) hl).symm
   |some s'=>
    cases e2:bA (aU m t) b with
    |none=>
     rw[oM e2]at rB;by_cases hl:aW m s'
     .rw[iT hv ha e1 hl]at rB;cases rB
     .exact dd s' (hv.a6 e1) hl
    |some t'=>
     by_cases hl:aW m s'
     .by_cases dU:aW m t'
      .rw[iT hv ha e1 hl,iT hv ha e2 dU]at rB;injection rB with rB;exact ih s' t' (hv.a6 e1) (hv.a6 e2) (fw s' t' (hv.a6 e1) (hv.a6 e2) rB)
      .rw[iT hv ha e1 hl,mh hv ha e2 dU]at rB;cases rB
     .by_cases dU:aW m t'
      .rw[mh hv ha e1 hl,iT hv ha e2 dU]at rB;cases rB
      .show eM m w s'=eM m w t';rw[dd s' (hv.a6 e1) hl,dd t' (hv.a6 e2) dU]
  .have YI:∀s,bA (aU m s) b=none:=λs=>by
    cases hx:bA (aU m s) b with
    |none=>rfl
    |some t=>
     exfalso;obtain ⟨e,he,h1,h2,-⟩:=gI hx;unfold aU at he;by_cases hs:s<m.ed.length
     .rw[List.getElem?_eq_getElem hs]at he;have:=(eg.qM _ (List.getElem_mem hs) e he).2;omega
     .rw[List.getElem?_eq_none U]at he
      cases he
   rw[YI s,YI t]
structure OwI (n:Nat) (p:List Ed) (a:Nat):Prop where
 kE:bK 0 p
 top:∀e∈p,e.hi<a/\e.lo<256/\e.hi<256/\e.to<n
 a:a<=256
theorem LU{m m':Mc}(h:BN m m'):jB m'/\1<=m'.ed.length:=by
 rcases h.1 with ⟨hl,hc,he⟩|⟨-,rfl⟩
 .refine ⟨⟨hc.len,hc.kE,hc.to⟩,?_⟩;rcases Nat.eq_zero_or_pos m'.ed.length with h0|h0
  .exfalso;obtain ⟨w,hw⟩:=hl;rw[<-he]at hw;have e1:m'.ed=[]:=List.length_eq_zero_iff.1 h0;have e2:m'.ac=[]:=List.length_eq_zero_iff.1 (by rw[hc.len,h0])
   cases w with
   |nil=>simp[eM,e2]at hw
   |cons c w=>simp[eM,aU,e1,bA]at hw
  .exact h0
 .exact ⟨⟨rfl,λr hr=>by simp at hr;subst hr;trivial,λr hr e he=>by simp at hr;subst hr;cases he⟩,V⟩
def aiO(m:Mc)(w:World)(e:Ending)(w':World):Prop:=∃rv m',e=.returned (.tuple #[rv,.int .i64 0])/\nI w w' rv m'/\Below w w w'/\BN m m'
def Wj(b:Nat)(lo hi:Int)(w:World)(e:Ending)(w':World):Prop:=∃r:Int,e=.returned (.int .i64 r)/\lo<=r/\r<=hi/\cP b w'/\Fr b w w'
theorem tl(b:Nat)(lo hi:Int)(w:World)(h0:-1000<=lo)(h1:lo<=hi)(h2:hi<=60000)(ht:cP b w):
  Calls Tryz.prog 15 #[.pointer (Z b 0),.int .i64 lo,.int .i64 hi] w (Wj b lo hi w):=by
 obtain ⟨n,hn⟩:=ν (hi-lo+1);have AF:IntKind.i64.wrap (hi-lo)=hi-lo:=IntWalk.i64_in _ U;have eh:IntKind.i64.wrap (hi-lo+1)=n:=by rw[IntWalk.i64_in _ U];exact hn
 have HX:=Y (rj b n w U U ht);have HN:=Y hn;clear hn ht
 go_enter Tryz.func15,Tryz.ntmps15
 go_wp2_with fail;refine HX.mono ?_;rintro e w1 ⟨r,rfl,fD,iX,Co,k5⟩;have hn:=HN.o;have SW:IntKind.i64.wrap (lo+r)=lo+r:=IntWalk.i64_in _ U;have HR:=Y (I (show lo<=lo+r by omega) (I (show lo+r<=hi by omega) (I Co k5)))
 clear hn fD iX Co k5;go_wp2_with fail;go_ret;exact ⟨_,rfl,HR.1,HR.2.1,HR.2.2.1,HR.2.2.2⟩
def qW:List (List (Nat×Nat)):=[[(97,98)],[(48,57)],[(97,97)],[(98,98)],[(48,57),(97,102)],[(107,107)],[(45,45)],[(0,9),(250,255)]]
def aic(rs:List (Nat×Nat)):Nd:=.mk 1 rs [] 0 0
def zx(x y:Nd):Nd:=.mk 2 [] [x,y] 0 0
def Gn(x y:Nd):Nd:=.mk 2 [] [x,y,x,y] 0 0
def aid(x y:Nd):Nd:=.mk 4 [] [zx x y] 1 2
def aie(x y:Nd):Nd:=.mk 3 [] [zx x y,Gn x y] 0 0
def aif(x y:Nd):Nd:=.mk 3 [] [Gn x y,zx x y] 0 0
end Go.Proofs.YthamegenljmgmaaGreatDoor
