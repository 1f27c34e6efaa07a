/- Walks. -/
import Derived.Test.YthamegenljmgmaaGreatDoorY30
set_option maxRecDepth 100000
set_option maxHeartbeats 16000000
set_option linter.unusedVariables false
set_option linter.unusedSimpArgs false
namespace Go.Proofs.YthamegenljmgmaaGreatDoor
open Go.RowKit
structure RsW (m':Mc) (c:Nat->Option Nat) (B N gn n:Nat) (W:World) (wr:World) (i:Nat) (lv:Value) (rs:List (List Ed)) (aN:List Bool) (vE vA:Value) (gv:List Value) (p:List Ed) (t:Nat) (st:List Nat) (dP:Value):Prop where
 sm:j6 m' c B N gn n i lv rs aN vE vA gv p p t st dP wr
 bl:Below B W wr
def jA(N M s ga fa n ca nj cj i cE cA B0:Nat)(AE AV Aj:Option Addr)(gv av:List Value)(a:Bool)(W:World):Nat->Nat->Value->World->Prop
 |c,0,x,w=>x=.pointer (Z N 0)
 |c,1,x,w=>x=.slice AE i cE
 |c,2,x,w=>x=.slice Aj nj cj
 |c,3,x,w=>∃g,x=.slice (Z g 0) 1 1/\W.heap.size<=g/\g<w.heap.size/\w.cell? (Z g 0)=some (.slice Aj nj cj)
 |c,4,x,w=>1<=c->∃A c',x=.slice A (i+1) c'/\w.ownsRow B0 59 1 x (i+1) (gv++[.slice Aj nj cj])/\aT x (.slice AE i cE) W
 |c,5,x,w=>x=.pointer (Z N 1)
 |c,6,x,w=>x=.slice AV i cA
 |c,7,x,w=>x=.pointer (Z M 1)
 |c,8,x,w=>x=.slice (Z ga fa) n ca
 |c,9,x,w=>x=.int .i64 (s:Int)
 |c,10,x,w=>x=.pointer (Z ga (fa+s))
 |c,11,x,w=>x=.bool a
 |c,12,x,w=>∃g,x=.slice (Z g 0) 1 1/\W.heap.size<=g/\g<w.heap.size/\w.cell? (Z g 0)=some (.bool a)
 |c,13,x,w=>2<=c->∃A c',x=.slice A (i+1) c'/\w.ownsRow B0 4 1 x (i+1) (av++[.bool a])/\aT x (.slice AV i cA) W
 |c,14,x,w=>x=.pointer (Z N 0)
 |c,15,x,w=>3<=c->∃A c',w.ownsRow B0 59 1 (.slice A (i+1) c') (i+1) (gv++[.slice Aj nj cj])/\aT (.slice A (i+1) c') (.slice AE i cE) W.heap.size/\w.heap[N]?=some (.cells #[.slice A (i+1) c',.slice AV i cA] 35)
 |c,16,x,w=>x=.pointer (Z N 1)
 |_,_,_,_=>True
section
variable {N M s ga fa n ca nj cj i cE cA B0:Nat} {AE AV Aj:Option Addr} {gv av:List Value} {a:Bool} {W u u':World}
theorem wC(hb:Below u u u'){c j:Nat}{x:Value}(h:jA N M s ga fa n ca nj cj i cE cA B0 AE AV Aj gv av a W c j x u):jA N M s ga fa n ca nj cj i cE cA B0 AE AV Aj gv av a W c j x u':=by
 match j with
 |0|1|2|5|6|7|8|9|10|11|14|16=>exact h
 |3|12=>
  obtain ⟨g,e,h1,hg,h0⟩:=h;exact ⟨g,e,h1,Nat.lt_of_lt_of_le hg hb.size,(hb.cl g 0 hg).t h0⟩
 |4|13=>
  intro hc;obtain ⟨A,c',e,ho,hf⟩:=h hc;exact ⟨A,c',e,aR ho hb,hf⟩
 |15=>
  intro hc;obtain ⟨A,c',ho,hf,hr⟩:=h hc;exact ⟨A,c',aR ho hb,hf,(hb.block _ (γ hr).1).t hr⟩
 |_+17=>exact trivial
theorem Fx(hg:u.grownBy u' (Value.slice AE i cE).ownBlock)(hv:∀g,(Value.slice AE i cE).ownBlock=some g->g<W.heap.size)(j:Nat)(x:Value)(hj:j≠4)(h:jA N M s ga fa n ca nj cj i cE cA B0 AE AV Aj gv av a W 0 j x u):jA N M s ga fa n ca nj cj i cE cA B0 AE AV Aj gv av a W 1 j x u':=by
 match j with
 |0|1|2|5|6|7|8|9|10|11|14|16=>exact h
 |3|12=>exact xy hg hv h
 |4=>exact absurd rfl hj
 |13|15=>exact λhc=>U
 |_+17=>exact trivial
theorem Fy(hg:u.grownBy u' (Value.slice AV i cA).ownBlock)(hv:∀g,(Value.slice AV i cA).ownBlock=some g->g<W.heap.size)(hd:∀g,(Value.slice AV i cA).ownBlock=some g->(Value.slice AE i cE).ownBlock≠some g)(j:Nat)(x:Value)(hj:j≠13)(h:jA N M s ga fa n ca nj cj i cE cA B0 AE AV Aj gv av a W 1 j x u):jA N M s ga fa n ca nj cj i cE cA B0 AE AV Aj gv av a W 2 j x u':=by
 match j with
 |0|1|2|5|6|7|8|9|10|11|14|16=>exact h
 |3|12=>exact xy hg hv h
 |4=>
  intro _;obtain ⟨A,c',e,ho,hf⟩:=h O;refine ⟨A,c',e,ar ho λg bJ=>hg.block g (ho.lt g bJ).2 (λe2=>?_),hf⟩;rcases hf with hf|⟨g',hf,h2⟩
  .rw[hf]at bJ;exact hd g e2.symm bJ
  .rw[hf]at bJ;injection bJ with bJ;have:=hv g e2.symm;omega
 |13=>exact absurd rfl hj
 |15=>exact λhc=>U
 |_+17=>exact trivial
theorem Fz(hs:N<W)(Q5:(Value.slice AE i cE).ownBlock≠some N)(Q6:(Value.slice AV i cA).ownBlock≠some N)(v:Value)(j:Nat)(x:Value)(hj:j≠15)(h:jA N M s ga fa n ca nj cj i cE cA B0 AE AV Aj gv av a W 2 j x u):jA N M s ga fa n ca nj cj i cE cA B0 AE AV Aj gv av a W 3 j x (u.setCell (Z N 0) v):=by
 have aH:∀k,k≠N->(u.setCell (Z N 0) v).heap[k]?=u.heap[k]?:=λk hk=>Below.heap_setCell _ _ _ _ hk
 match j with
 |0|1|2|5|6|7|8|9|10|11|14|16=>exact h
 |3|12=>
  obtain ⟨g,e,h1,h2,h3⟩:=h;exact ⟨g,e,h1,by simpa [World.setCell] using h2,(χ g 0 (aH g U)).t h3⟩
 |4=>
  intro _;obtain ⟨A,c',e,ho,hf⟩:=h O;refine ⟨A,c',e,ar ho λg bJ=>aH g (λe2=>?_),hf⟩;subst e2;rcases hf with hf|⟨g',hf,h2⟩
  .rw[hf]at bJ;exact Q5 bJ
  .rw[hf]at bJ;injection bJ with bJ;omega
 |13=>
  intro _;obtain ⟨A,c',e,ho,hf⟩:=h O;refine ⟨A,c',e,ar ho λg bJ=>aH g (λe2=>?_),hf⟩;subst e2;rcases hf with hf|⟨g',hf,h2⟩
  .rw[hf]at bJ;exact Q6 bJ
  .rw[hf]at bJ;injection bJ with bJ;omega
 |15=>exact absurd rfl hj
 |_+17=>exact trivial
end
theorem EY(v:Value)(m:Mc)(w:World)(hm:jb w v m)(hv:jB m)(eg:iE m)(h1:1<=m.ed.length)(h2:m.ed.length<=2000):Calls Tryz.prog 28 #[v] w (Er m w):=by
 have HTB:=Y λW (h:Below w w W)=>FA v m W (hm.later h) hv eg h1 h2;have nJ:=Y λW gT al (h:Below w w W) (ha:nH m al) (ht:z8 W gT m.ed.length (iC m al))=>zZ v m W gT al (hm.later h) hv eg h1 h2 ha ht;obtain ⟨Ae,ce,Aa,ca,rfl,ON,EX⟩:=mcf hm;obtain ⟨he,sF⟩:=rE hm;obtain ⟨n,hn⟩:=ν m.ed.length;have ej:m.ac.length=n:=by rw[hv.len,hn]
 have HA:=Y sF;have HV:=Y hv;have tT:=Y eg;have HN:=Y (I hn ej);rw[hn]at h1 h2 ON HTB nJ;rw[ej]at EX HTB nJ;rw[ej,hn];obtain ⟨is,his,Nz,qB,tV⟩:=info_parts zj;obtain ⟨ib,pe,hb0,aM,aS⟩:=info_parts ik;obtain ⟨ii,P6,r5,iI,j9⟩:=info_parts dF;obtain ⟨ie,nY,mJ,bQ,bE⟩:=info_parts uh;have qK:=uO n U;have HH1:=Y h1;clear he sF hv eg hm hn ej
 go_enter Tryz.func28,Tryz.ntmps28
 go_wp2_with fail;refine (HTB _ ?hb0).mono ?_
 case hb0=>exact ((Below.refl w w).alloc V _).alloc H _
 rintro e w1 ⟨gT,al,rfl,T7,adU,JD,ky,jf⟩;have oI:((w.alloc (.cells #[.slice Ae n ce,.slice Aa n ca] 35)).alloc (.cells #[(),()] 35)).heap.size=w.heap.size+2:=H;rw[oI]at T7 JD;have zK:w1.heap[w.heap.size]?=some (.cells #[.slice Ae n ce,.slice Aa n ca] 35):=(JD.block _ U).t ((az _ _ _ H).t (heap_alloc_new w _));have nK:w1.heap[w.heap.size+1]?=some (.cells #[(),()] 35):=(JD.block _ U).t (by simpa using heap_alloc_new (w.alloc (.cells #[.slice Ae n ce,.slice Aa n ca] 35)) (.cells #[(),()] 35))
 have dh:=JD.size;rw[oI]at dh;have po:Below w w w1:=(((Below.refl w w).alloc V _).alloc H _).t (JD.mono U);have Zb:nH m al:=⟨by rw[ky,HN.1],λs hs=>jf s (by rw[<-HN.1];exact hs)⟩
 have Qa:=Y Zb;have XI:=Y adU;have cM:=Y po;have BB:=Y zK;have DQ:=Y nK;obtain ⟨y0,y1⟩:w1.cell? (Z w 0)=some (.slice Ae n ce)/\w1.cell? (Z w 1)=some (.slice Aa n ca):=by constructor <;> (rw[Φ zK]; rfl)
 have ly:w.heap.size<w1:=U;clear adU JD ky jf oI zK nK po Zb;go_wp2_with fail;refine (nJ w1 gT al cM.o Qa.o XI.o).mono ?_;rintro e w2 ⟨gC,ds,rfl,XJ,JE,FZ,PZ,adV⟩;obtain ⟨m',c,hX⟩:=XG HV.o tT.o (by rw[HN.1];exact h1) Qa.o (ds:=ds) (λs t hs ht=>PZ s t (by rw[<-HN.1];exact hs) (by rw[<-HN.1];exact ht)) (λs=>by rw[HN.1];exact adV s)
 have GW:=Y hX;have cT:=JE.size;have HC:=Y (XJ.mono (Nat.zero_le _));have hgC:=XJ.JZ;have fS:=Y (cM.t (JE.mono U));have adW:=Y (XI.later JE);have XK:=Y ((JE.block _ U).t BB.o);have XL:=Y ((JE.block _ U).t DQ.o);have akK:gT<w2:=(adW.cell (s:=0) (c:=0) U O).2.2;have DL:=Y FZ;have R7:cF ds 0<n:=adV 0;obtain ⟨sU,-⟩:=HC.gY 0 (by rw[List.length_map,DL.o];omega)
 rw[rD (by rw[DL.o];omega)]at sU
 have tJ:c 0=some (cF ds 0):=hX.c0;have DT:=fS.size;clear XJ JE FZ PZ hX XI BB DQ y0 y1 ly Qa HTB nJ T7 dh cT;obtain ⟨k0,adX⟩:∃k,cF ds 0=k:=⟨_,rfl⟩;rw[adX]at R7 sU tJ;have O6:=Y tJ;have atD:decide (k0<n)=true:=decide_eq_true R7;have h0n:decide (0<n)=true:=τ;clear adX tJ;have De:w2.cell? (Z gC 0)=some (.int .i64 (k0:Int)):=sU;go_wp2_with fail;refine br λW3 pg=>?_;have pZ:Below w2 w2 W3:=by rw[pg];exact D.alloc V _
 have sQ:W3.heap.size=w2+1:=by rw[pg];simp
 have adY:OR 3 1 qv w2 (.slice (Z w2 0) n n) (wv 0 n) W3:=by rw[pg,JB];exact ig w2 n U
 have oq:=Y pZ;have akL:=Y adY;have HZ3:=Y sQ;clear pg pZ adY sQ sU;go_loopw [6] (λiv wr=>∃k:Nat,k<=n/\iv=.int .i64 (k:Int)/\Hid (OR 3 1 qv w2 (.slice (Z w2 0) n n) (wv k n) wr)/\Hid (Below w2 w2 wr/\wr.heap.size=w2+1)) (λiv _=>n - (intOf iv).toNat)
 case atStart=>exact ⟨0,Nat.zero_le _,rfl,akL,oq.o,HZ3.o⟩
 case round=>
  obtain ⟨k,hk,rfl,ub,NJ⟩:=hrel;have hgy:=ub.JZ;by_cases aB:k<n
  .have hd:decide ((k:Int)<(n:Int))=true:=τ;have dV:decide (k<n)=true:=decide_eq_true aB;obtain ⟨y0,y1⟩:=ub.gY k (by rw[rH hk];exact aB)
   have aH:=ub.xg (rH hk) k none;rw[Oc aB]at aH;have AJ:=Y aH;have js:Hid (Below w2 w2 (wr.setCell (Z w2 k) (.int .i64 (-1)))/\(wr.setCell (Z w2 k) (.int .i64 (-1))).heap.size=w2.heap.size+1):=⟨NJ.1.sc w2 k V _,by simp[World.setCell,NJ.2]⟩
   clear aH;go_wp2_with fail;go_roundw
   case rel=>exact ⟨k+1,U,by go_num,AJ,js⟩
   case measure=>exact μ
  .obtain rfl:k=n:=U;have hd:decide ((k:Int)<(k:Int))=false:=θ;have dV:decide (k<k)=false:=θ;obtain ⟨y0,y1⟩:=ub.gY k0 (by rw[rH hk];exact R7)
   have cc2:wr.cell? (Z gC 0)=some (.int .i64 (k0:Int)):=(NJ.1.cl gC 0 hgC).t De;have lC:gC<wr:=by have:=NJ.2;omega
   have aH:=ub.xg (rH hk) k0 (some 0);rw[Od c,JC R7 O6.o]at aH;have AJ:=Y aH;have js:Hid (Below w2 w2 (wr.setCell (Z w2 k0) (.int .i64 0))/\(wr.setCell (Z w2 k0) (.int .i64 0)).heap.size=w2.heap.size+1):=⟨NJ.1.sc w2 k0 V _,by simp[World.setCell,NJ.2]⟩
   clear aH;go_wp2_with fail;refine br λW hW=>?_;have Oh:(wr.setCell (Z w2 k0) (.int .i64 0)).heap.size=wr.heap.size:=by simp[World.setCell]
   have Lq:W.heap[wr.heap.size+1]?=some (.cells #[(),()] 35):=by
    rw[hW];have:=heap_alloc_new ((wr.setCell (Z w2 k0) (.int .i64 0)).alloc (.cells #[(0:Int)] 3)) (.cells #[(),()] 35);simpa [World.setCell] using this
   have l7:OR 3 1 qv wr (.slice (Z wr 0) 1 1) [some 0] W:=by
    rw[hW];have h9:=ig (wr.setCell (Z w2 k0) (.int .i64 0)) 1 U;rw[Oh]at h9;exact OR.later h9 (D.alloc (by simp[World.setCell]) _)
   have mj:Below wr (wr.setCell (Z w2 k0) (.int .i64 0)) W:=by rw[hW];exact (D.alloc (by rw[Oh];exact V) _).alloc (by simp[World.setCell]) _
   obtain ⟨zl,Yj⟩:∃z,wr.heap.size=z:=⟨_,rfl⟩;have zc:zl=w2.heap.size+1:=by rw[<-Yj];exact NJ.2
   rw[Yj]at Lq l7 mj Oh|-;have Tn:j6 m' c w2 (zl+1) w2 k 0 () [] [] () () [] [] [] 0 [0] (.slice (Z zl 0) 1 1) W:=by
    refine ⟨⟨Lq,U,World.ownsRow_nil _ _ _ _,λi hi=>(by cases hi),OR.iG _ _ _,λk hk hx=>?_⟩,AJ.later (show Below (wr.setCell (Z w2 k0) (.int .i64 0)).heap.size (wr.setCell (Z w2 k0) (.int .i64 0)) W by rw[Oh];exact mj),OR.mono l7 (show w2<=zl by omega),λe=>by have e2:zl=w2.heap.size:=Option.some.inj e;omega,OR.iG _ _ _,su.start (by rw[O6.o];simp) (by rw[GW.len,HN.1];omega),rfl⟩
    have h1:k=zl+1:=by rcases bj.1 hk with h|h|h;exact h;cases h;cases h
    rcases List.mem_cons.1 hx with h|h
    .omega
    .simp[aq,Value.ownBlock]at h;omega
   have SD:=Y Tn;have dc:=Y (js.1.t (mj.mono U));obtain ⟨n,jC⟩:=ν k;subst jC;have HZL:=Y zc;clear zc;clear hW Lq l7 mj Oh Tn Yj De cc2 lC y0 y1 js AJ ub hgy NJ hd dV aB;go_loopw [9,7] (λiv dP wr=>∃(i:Nat) (st:List Nat) (rs:List (List Ed)) (aN:List Bool) (vE vA:Value) (gv:List Value) (t:Nat),iv=.int .i64 (i:Int)/\i<=k/\Hid (j6 m' c w2 (zl+1) w2 k i () rs aN vE vA gv [] [] t st dP wr)/\Hid (Below w2 w2 wr)) (λiv _ _=>k - (intOf iv).toNat)
   case atStart=>exact ⟨0,[0],[],[],_,_,[],0,rfl,Nat.zero_le _,SD,dc⟩
   case round=>
    obtain ⟨i,st,rs,aN,vE,vA,gv,t,rfl,bI,HL,HB⟩:=hrel;obtain ⟨ti,Cj⟩:∃x,st.length=x:=⟨_,rfl⟩;have hnk:ti<=k:=by have:=HL.le.nodup;rw[GW.len,HN.1]at this;omega
    have dE:=HL.le.il;have ao:=HL.own;rw[Cj]at ao dE;obtain ⟨Ast,Et,rfl,-,-⟩:=ae ao;have xz:=Y Cj;clear Cj;by_cases aB:i<ti
    .have hd:decide ((i:Int)<(ti:Int))=true:=τ;have dV:decide (i<ti)=true:=decide_eq_true aB;obtain ⟨gs,rfl,Bb,VY,Kh⟩:=qR ao U;obtain ⟨s,hs⟩:∃s,st[i]?=some s:=⟨_,List.getElem?_eq_getElem (by rw[xz.o];exact aB)⟩
     have xst:wr.cell? (Z gs i)=some (.int .i64 (s:Int)):=by rw[Kh i aB];unfold b9;rw[List.getElem?_map,hs];rfl
     obtain ⟨xA,adZ⟩:=HL.le.lv s (List.mem_of_getElem? hs);have ob:s<k:=by rw[GW.len,HN.1]at xA;exact xA
     have HS:=Y (I hs adZ);have HIT:=Y (show i<=t by have h9:t+1=st.length:=HL.le.top;have:=xz.o;omega)
     have ad0:mX (λx=>(bA (aU m' s) x).bind c) 0 []:=mX.start _;have HL1:=Y HL.iG;have hsd:decide (s<k)=true:=decide_eq_true ob;clear hs adZ xA Kh ao;go_wp2_with fail;go_loopw [12,7,11] (λbv dP lv wr=>∃(b:Nat) (st':List Nat) (p:List Ed) (Al:Option Addr) (cl:Nat),b<=256/\bv=.int .i64 (b:Int)/\lv=.slice Al p.length cl/\Hid (j6 m' c w2 (zl+1) w2 k i lv rs aN vE vA gv p p t st' dP wr)/\Hid (mX (λx=>(bA (aU m' s) x).bind c) b p/\(∃more,st'=st++more)/\Below w2 w2 wr)) (λbv _ _ _=>256 - (intOf bv).toNat)
     case atStart=>exact ⟨0,st,[],none,0,U,rfl,rfl,HL1,ad0,⟨[],H⟩,HB.o⟩
     case round=>
      obtain ⟨b,st',p,Al,cl,hb,rfl,rfl,HK,HR⟩:=hrel;obtain ⟨eH,pt⟩:∃x,st'.length=x:=⟨_,rfl⟩;have atF:eH<=k:=by have:=HK.le.nodup;rw[GW.len,HN.1]at this;omega
      have ao:=HK.own;rw[pt]at ao;obtain ⟨TB,zL,rfl,-,-⟩:=ae ao;obtain ⟨nl,mr⟩:∃x,p.length=x:=⟨_,rfl⟩;rw[mr]at HK|-;have atG:nl<=b:=by rw[<-mr];exact HR.1.len
      have GB:=Y pt;have mo:=Y mr;clear pt mr;by_cases j7:b<256
      .have hdb:decide ((b:Int)<256)=true:=τ;have akM:decide (b<256)=true:=decide_eq_true j7;have fY:IntKind.u8.wrap (b:Int)=(b:Int):=IntWalk.u8_in _ U;have Ia:=HK.tQ;have bT:=HR.2.2.size;have tc0:wr.cell? (Z gT (s*256+b))=some (.int .i64 (iC m al s b)):=(χ gT (s*256+b) (HR.2.2.block gT akK)).t (adW.cell ob j7).1;have lT:gT<wr:=U;have iR:=GW.stp s (by rw[HN.1];exact ob) HS.2 b j7
       cases hT:(bA (aU m' s) b).bind c with
       |none=>
        rw[hT]at iR;have iR:iC m al s b=-1:=iR;rw[iR]at tc0;have pC:Hid (mX (λx=>(bA (aU m' s) x).bind c) (b+1) p/\(∃more,st'=st++more)/\Below w2 w2 wr):=⟨HR.1.none_ hT,HR.2⟩;clear iR hT ao;go_wp2_with fail;go_roundw
        case rel=>exact ⟨b+1,st',p,Al,cl,U,by go_num,by rw[mo.o],HK,pC⟩
        case measure=>exact μ
       |some kc=>
        rw[hT]at iR;obtain ⟨tt,Co,ht2,AD,ht4⟩:=iR;rw[Co]at tc0;rw[HN.1]at ht2;have htd:decide (tt<k)=true:=decide_eq_true ht2;obtain ⟨sU,-⟩:=HC.gY tt (by rw[List.length_map,DL.o];exact ht2)
        rw[rD (by rw[DL.o];exact ht2),ht4]at sU
        have De:wr.cell? (Z gC tt)=some (.int .i64 (kc:Int)):=(HR.2.2.cl gC tt hgC).t sU;have lC:gC<wr:=U;have k6:kc<k:=by rw[<-HN.1];exact GW.kl tt kc AD
        have bU:decide (kc<k)=true:=decide_eq_true k6;obtain ⟨z0,z1⟩:=HK.nu.gY kc (by rw[rG];exact k6)
        rw[N7 k6]at z0;have lg:w2.heap.size<wr:=Ia.2;have HT:=Y hT;have HTT:=Y (I ht2 AD);have aip:decide ((tt:Int)<0)=false:=θ;clear sU Co AD ht4 hT ao Ia;by_cases jC:some kc∈st'.map c
        .rw[if_pos jC]at z0;have z2:wr.cell? (Z w2 kc)=some (.int .i64 ((aZ c st' kc:Nat):Int)):=z0;obtain ⟨nu,XH⟩:∃x,aZ c st' kc=x:=⟨_,rfl⟩;rw[XH]at z2;have ad2:decide ((nu:Int)<0)=false:=θ;have Dp:=Y (I jC XH);clear z0 jC XH;rcases List.eq_nil_or_concat p with hp|⟨q,f,hp⟩
         .subst hp;have HZ:=Y (show nl=0 by rw[<-mo.o];rfl)
          have R8:=Y (HK.to (HK.le.Li ⟨b,b,kc⟩ Dp.1));have ue:=Y HR.2.2;have T8:=Y Dp.1;have ub:=Y Dp.2;have t0:decide (0<(nl:Int))=false:=decide_eq_false (by have:=HZ.o;omega)
          have t0n:decide (0<nl)=false:=decide_eq_false (by have:=HZ.o;omega)
          go_wp2_with fail;refine aI (Below.refl wr wr) R R ?_
          repeat (go_big_quiet_step (fail))
          refine wpQuiet_nil ?_;intro w6 cR;have tw:Below wr wr w6:=by obtain ⟨d9,rfl⟩:=cR;exact d9.ag
          have qy:=Y (R8.later tw);have tK:=Y (ue.t (tw.mono ue.size));have z6:w6.cell? (Z w2 kc)=some (.int .i64 (nu:Int)):=qy.num k6 T8.o ub.o;have l6:w2.heap.size<w6:=qy.tQ.2;have dw:=qy.Of (b:=b) (nu:=nu) mo.o (.cells #[.int .u8 (b:Int),.int .u8 (b:Int),(nu:Int)] 74);obtain ⟨ro,xG⟩:∃r,a8 gm (bO (aZ c st') ([]))=r:=⟨_,rfl⟩;rw[xG]at dw;have R9:=Y xG;have iY:∀j u,[Value.int .u8 (b:Int),.int .u8 (b:Int),.int .i64 (nu:Int)][j]?=some u->(w6.alloc (.cells #[.int .u8 (b:Int),.int .u8 (b:Int),(nu:Int)] 74)).cell? (((Z w6 0):Addr).add j)=some u:=by
           intro j u hj;rw[Addr.add_lit,Nat.zero_add,World.cell?_alloc_mark];simpa using hj
          have bw:w2.heap.size<=(w6.alloc (.cells #[.int .u8 (b:Int),.int .u8 (b:Int),(nu:Int)] 74)).heap.size:=ψ;clear cR tw xG;go_wp2_with (at_builtin; refine bn rfl _ _ 59 rfl w2 74 ie _ 3 16 Tryz.underlying59 nY mJ bQ bE rfl O _ nl ro rfl dw (Z w6 0) 1 1 [.int .u8 (b:Int),.int .u8 (b:Int),.int .i64 (nu:Int)] rfl rfl iY (by intro u hu; simp only[List.mem_cons,List.not_mem_nil,or_false]at hu; rcases hu with rfl|rfl|rfl <;> rfl) (by unfold maxLen; omega) U bw ?_)
          intro v9 w9 da qx kT;have BD:(w6.alloc (.cells #[.int .u8 (b:Int),.int .u8 (b:Int),(nu:Int)] 74)).heap.size=w6.heap.size+1:=H;have rI:aT v9 (.slice Al nl cl) (w6.alloc (.cells #[.int .u8 (b:Int),.int .u8 (b:Int),(nu:Int)] 74)).heap.size:=by first|exact kT | (rw[BD];exact kT)
          obtain ⟨pr,jF⟩:=qy.Oe (b:=b) mo.o ub.o R9.o da qx rI;obtain ⟨A9,c9,rfl,-,-⟩:=ae da;have Dg:=Y pr;have zE:=Y (I (HR.1.app HT.o (Og)) (I (show ∃more,st'=st++more from HR.2.1) (tK.t jF)));clear da qx kT rI BD pr jF dw iY bw z6 l6;go_wp2_with fail;go_roundw
          case rel=>exact ⟨b+1,st',[]++[⟨b,b,kc⟩],A9,c9,U,by go_num,by rw[List.length_append,mo.o];rfl,Dg,zE⟩
          case measure=>exact μ
         .rw[List.concat_eq_append]at hp;subst hp;obtain ⟨nq,Sa⟩:∃x,q.length=x:=⟨_,rfl⟩;have AQ:=Y (I Sa (show nq+1=nl by rw[<-mo.o,<-Sa];simp))
          obtain ⟨gl,rfl,⟨x1,x2⟩,x3,J5,ad3⟩:=HK.Oa Sa;obtain ⟨nf,pW⟩:∃x,aZ c st' f.to=x:=⟨_,rfl⟩;obtain ⟨fh,XM⟩:∃x,f.hi=x:=⟨_,rfl⟩;rw[pW]at x2;rw[XM]at x1;have HF:=Y (I XM (show fh<256 by have:=HR.1.hi f H;omega))
          have S7:=Y pW;have LG:some f.to∈st'.map c:=HK.le.ptg f H;clear Sa pW XM;have R8:=Y (HK.to (HK.le.Li ⟨b,b,kc⟩ Dp.1));have ue:=Y HR.2.2;have T8:=Y Dp.1;have ub:=Y Dp.2;have t0:decide (0<(nl:Int))=true:=decide_eq_true (by have:=AQ.2;omega)
          have t0n:decide (0<nl)=true:=decide_eq_true (by have:=AQ.2;omega)
          have t1:IntKind.i64.wrap ((nl:Int) - 1)=(nq:Int):=by rw[IntWalk.i64_in _ (by have:=AQ.2;omega)];have:=AQ.2;omega
          have FI:(nl:Int) - 1=(nq:Int):=by have:=AQ.2;omega
          have t2:decide (nq<nl)=true:=decide_eq_true (by have:=AQ.2;omega)
          have d0:∀d:bc wr wr,d.b8.cell? (Z w2 kc)=some (.int .i64 (nu:Int)):=λd=>(d.ag.cl w2 kc lg).t z2;have d1:∀d:bc wr wr,w2.heap.size<d.b8.heap.size:=λd=>Nat.lt_of_lt_of_le lg d.ag.size;have d2:∀d:bc wr wr,d.b8.cell? (Z gl (nq*3+1))=some (.int .u8 (fh:Int)):=λd=>(d.ag.cl gl (nq*3+1) J5).t x1;have d3:∀d:bc wr wr,d.b8.cell? (Z gl (nq*3+2))=some (.int .i64 (nf:Int)):=λd=>(d.ag.cl gl (nq*3+2) J5).t x2;have d4:∀d:bc wr wr,gl<d.b8.heap.size:=λd=>Nat.lt_of_lt_of_le J5 d.ag.size;have t5:IntKind.i64.wrap (fh:Int)=(fh:Int):=IntWalk.i64_in _ (by have:=HF.2;omega)
          have t6:IntKind.i64.wrap ((b:Int) - 1)=(b:Int) - 1:=IntWalk.i64_in _ U;by_cases tS:nf=nu
          .have t3:((nf:Int) == (nu:Int))=true:=by subst tS;simp
           have hfk:f.to=kc:=N6 LG Dp.1 (by rw[S7.o,tS,Dp.2])
           by_cases YB:fh+1=b
           .have t4:((fh:Int) == (b:Int) - 1)=true:=ψ;have HFE:=Y (I hfk YB);have YW:=Y ad3;clear hfk tS LG ad3;go_wp2_with fail;refine aI (Below.refl wr wr) R R ?_
            repeat (go_big_quiet_step (fail))
            refine wpQuiet_nil ?_;intro w6 cR;have tw:Below wr wr w6:=by obtain ⟨d9,rfl⟩:=cR;exact d9.ag
            have qy:=Y (HK.later tw);have tK:=Y (HR.2.2.t (tw.mono HR.2.2.size));have y3:w6.frozen? (Z gl (nq*3+1))=false:=(tw.frozen (p:=(Z gl (nq*3+1))) J5).t x3;have y1:w6.cell? (Z gl (nq*3+1))=some (.int .u8 (fh:Int)):=(tw.cl gl (nq*3+1) J5).t x1;have l6:gl<w6:=Nat.lt_of_lt_of_le J5 tw.size;obtain ⟨pr,jF⟩:=qy.akJ (b:=b) AQ.1 AQ.2 YW.o;have Dg:=Y pr;have zE:=Y (I (HR.1.ext (by rw[HF.1];exact HFE.2) (by rw[HT.o,HFE.1])) (I HR.2.1 (tK.t jF)))
            clear cR tw pr jF x1 x2 x3 z2 d0 d1 d2 d3 d4;go_wp2_with fail;go_roundw
            case rel=>exact ⟨b+1,st',q++[⟨f.lo,b,f.to⟩],some ⟨gl,0,none⟩,cl,U,by go_num,by rw[List.length_append,AQ.1,<-AQ.2];rfl,Dg,zE⟩
            case measure=>exact μ
           .have t4:((fh:Int) == (b:Int) - 1)=false:=ψ;have DE:=Y YB;clear tS LG hfk YB;go_wp2_with fail;refine aI (Below.refl wr wr) R R ?_
            repeat (go_big_quiet_step (fail))
            refine wpQuiet_nil ?_;intro w6 cR;have tw:Below wr wr w6:=by obtain ⟨d9,rfl⟩:=cR;exact d9.ag
            have qy:=Y (R8.later tw);have tK:=Y (ue.t (tw.mono ue.size));have z6:w6.cell? (Z w2 kc)=some (.int .i64 (nu:Int)):=qy.num k6 T8.o ub.o;have l6:w2.heap.size<w6:=qy.tQ.2;have dw:=qy.Of (b:=b) (nu:=nu) mo.o (.cells #[.int .u8 (b:Int),.int .u8 (b:Int),(nu:Int)] 74);obtain ⟨ro,xG⟩:∃r,a8 gm (bO (aZ c st') ((q++[f])))=r:=⟨_,rfl⟩;rw[xG]at dw;have R9:=Y xG;have iY:∀j u,[Value.int .u8 (b:Int),.int .u8 (b:Int),.int .i64 (nu:Int)][j]?=some u->(w6.alloc (.cells #[.int .u8 (b:Int),.int .u8 (b:Int),(nu:Int)] 74)).cell? (((Z w6 0):Addr).add j)=some u:=by
             intro j u hj;rw[Addr.add_lit,Nat.zero_add,World.cell?_alloc_mark];simpa using hj
            have bw:w2.heap.size<=(w6.alloc (.cells #[.int .u8 (b:Int),.int .u8 (b:Int),(nu:Int)] 74)).heap.size:=ψ;clear cR tw xG d0 d1 d2 d3 d4 x1 x2 x3 z2;go_wp2_with (at_builtin; refine bn rfl _ _ 59 rfl w2 74 ie _ 3 16 Tryz.underlying59 nY mJ bQ bE rfl O _ nl ro rfl dw (Z w6 0) 1 1 [.int .u8 (b:Int),.int .u8 (b:Int),.int .i64 (nu:Int)] rfl rfl iY (by intro u hu; simp only[List.mem_cons,List.not_mem_nil,or_false]at hu; rcases hu with rfl|rfl|rfl <;> rfl) (by unfold maxLen; omega) U bw ?_)
            intro v9 w9 da qx kT;have BD:(w6.alloc (.cells #[.int .u8 (b:Int),.int .u8 (b:Int),(nu:Int)] 74)).heap.size=w6.heap.size+1:=H;have rI:aT v9 (.slice (Z gl 0) nl cl) (w6.alloc (.cells #[.int .u8 (b:Int),.int .u8 (b:Int),(nu:Int)] 74)).heap.size:=by first|exact kT | (rw[BD];exact kT)
            obtain ⟨pr,jF⟩:=qy.Oe (b:=b) mo.o ub.o R9.o da qx rI;obtain ⟨A9,c9,rfl,-,-⟩:=ae da;have Dg:=Y pr;have zE:=Y (I (HR.1.app HT.o (Aw (λh=>DE.o (by rw[<-HF.1];exact h.1)))) (I (show ∃more,st'=st++more from HR.2.1) (tK.t jF)))
            clear da qx kT rI BD pr jF dw iY bw z6 l6;go_wp2_with fail;go_roundw
            case rel=>exact ⟨b+1,st',(q++[f])++[⟨b,b,kc⟩],A9,c9,U,by go_num,by rw[List.length_append,mo.o];rfl,Dg,zE⟩
            case measure=>exact μ
          .have t3:((nf:Int) == (nu:Int))=false:=ψ;have DE:=Y tS;clear tS LG;go_wp2_with fail;refine aI (Below.refl wr wr) R R ?_
           repeat (go_big_quiet_step (fail))
           refine wpQuiet_nil ?_;intro w6 cR;have tw:Below wr wr w6:=by obtain ⟨d9,rfl⟩:=cR;exact d9.ag
           have qy:=Y (R8.later tw);have tK:=Y (ue.t (tw.mono ue.size));have z6:w6.cell? (Z w2 kc)=some (.int .i64 (nu:Int)):=qy.num k6 T8.o ub.o;have l6:w2.heap.size<w6:=qy.tQ.2;have dw:=qy.Of (b:=b) (nu:=nu) mo.o (.cells #[.int .u8 (b:Int),.int .u8 (b:Int),(nu:Int)] 74);obtain ⟨ro,xG⟩:∃r,a8 gm (bO (aZ c st') ((q++[f])))=r:=⟨_,rfl⟩;rw[xG]at dw;have R9:=Y xG;have iY:∀j u,[Value.int .u8 (b:Int),.int .u8 (b:Int),.int .i64 (nu:Int)][j]?=some u->(w6.alloc (.cells #[.int .u8 (b:Int),.int .u8 (b:Int),(nu:Int)] 74)).cell? (((Z w6 0):Addr).add j)=some u:=by
            intro j u hj;rw[Addr.add_lit,Nat.zero_add,World.cell?_alloc_mark];simpa using hj
           have bw:w2.heap.size<=(w6.alloc (.cells #[.int .u8 (b:Int),.int .u8 (b:Int),(nu:Int)] 74)).heap.size:=ψ;clear cR tw xG d0 d1 d2 d3 d4 x1 x2 x3 z2;go_wp2_with (at_builtin; refine bn rfl _ _ 59 rfl w2 74 ie _ 3 16 Tryz.underlying59 nY mJ bQ bE rfl O _ nl ro rfl dw (Z w6 0) 1 1 [.int .u8 (b:Int),.int .u8 (b:Int),.int .i64 (nu:Int)] rfl rfl iY (by intro u hu; simp only[List.mem_cons,List.not_mem_nil,or_false]at hu; rcases hu with rfl|rfl|rfl <;> rfl) (by unfold maxLen; omega) U bw ?_)
           intro v9 w9 da qx kT;have BD:(w6.alloc (.cells #[.int .u8 (b:Int),.int .u8 (b:Int),(nu:Int)] 74)).heap.size=w6.heap.size+1:=H;have rI:aT v9 (.slice (Z gl 0) nl cl) (w6.alloc (.cells #[.int .u8 (b:Int),.int .u8 (b:Int),(nu:Int)] 74)).heap.size:=by first|exact kT | (rw[BD];exact kT)
           obtain ⟨pr,jF⟩:=qy.Oe (b:=b) mo.o ub.o R9.o da qx rI;obtain ⟨A9,c9,rfl,-,-⟩:=ae da;have Dg:=Y pr;have zE:=Y (I (HR.1.app HT.o (Aw (λh=>DE.o (by rw[<-S7.o,<-Dp.2,h.2])))) (I (show ∃more,st'=st++more from HR.2.1) (tK.t jF)))
           clear da qx kT rI BD pr jF dw iY bw z6 l6;go_wp2_with fail;go_roundw
           case rel=>exact ⟨b+1,st',(q++[f])++[⟨b,b,kc⟩],A9,c9,U,by go_num,by rw[List.length_append,mo.o];rfl,Dg,zE⟩
           case measure=>exact μ
        .rw[if_neg jC]at z0;have zm:wr.cell? (Z w2 kc)=some (.int .i64 (-1)):=z0;have Dp:=Y jC;have xH:=Y (I (show tt<m'.ed.length by rw[GW.len,HN.1];exact HTT.1) HTT.2)
         clear jC;rcases List.eq_nil_or_concat p with hp|⟨q,f,hp⟩
         .subst hp;have HZ:=Y (show nl=0 by rw[<-mo.o];rfl)
          have t0:decide (0<(nl:Int))=false:=decide_eq_false (by have:=HZ.o;omega)
          have t0n:decide (0<nl)=false:=decide_eq_false (by have:=HZ.o;omega)
          have qV:eH<k:=by
           have h9:=(HK.le.new ⟨b,b,kc⟩ tt Dp.o xH.1 xH.2).1.nodup;rw[GW.len,HN.1,List.length_append,GB.o]at h9;exact h9
          have aS:Below (wr.setCell (Z w2 kc) (.int .i64 (eH:Int))).heap.size (wr.setCell (Z w2 kc) (.int .i64 (eH:Int))) ((wr.setCell (Z w2 kc) (.int .i64 (eH:Int))).alloc (.cells #[(tt:Int)] 3)):=D.alloc V _;have jn:(wr.setCell (Z w2 kc) (.int .i64 (eH:Int))).heap.size=wr.heap.size:=by simp[World.setCell]
          have bL:((wr.setCell (Z w2 kc) (.int .i64 (eH:Int))).alloc (.cells #[(tt:Int)] 3)).ownsRow w2 3 1 (.slice TB eH zL) eH (b9 st'):=by
           have h:=HK.own;rw[GB.o]at h;exact World.ownsRow.alloc (ar h λg hg=>Below.heap_setCell _ _ _ _ (λe=>HK.ap (by rw[hg,show g=w2.heap.size from e]))) _
          have hcz:∀j u,([.int .i64 (tt:Int)]:List Value)[j]?=some u->((wr.setCell (Z w2 kc) (.int .i64 (eH:Int))).alloc (.cells #[(tt:Int)] 3)).cell? (((Z wr 0):Addr).add j)=some u:=λj u hj=>by
           match j,hj with
           |0,hj=>
            simp at hj;have h9:=heap_alloc_new (wr.setCell (Z w2 kc) (.int .i64 (eH:Int))) (.cells #[(tt:Int)] 3);rw[jn]at h9;rw[<-hj,Addr.add_lit,Φ h9];rfl
          have iw:w2.heap.size<=((wr.setCell (Z w2 kc) (.int .i64 (eH:Int))).alloc (.cells #[(tt:Int)] 3)).heap.size:=by simp[World.setCell];omega
          have HBN:=Y (I aS jn);have akP:gT≠w2.heap.size:=U;have ad6:¬w2.heap.size=gT:=U;have ad2:decide ((-1:Int)<0)=true:=O;clear aS jn;go_wp2_with (at_builtin;refine bn rfl _ _ 22 rfl w2 3 ii _ 1 8 Tryz.underlying22 P6 r5 iI j9 rfl O _ eH (b9 st') rfl bL (Z wr 0) 1 1 [.int .i64 (tt:Int)] rfl rfl hcz (by intro u hu;simp at hu;subst hu;rfl) (by unfold maxLen;omega) U iw ?_)
          intro XN w4 jj Em O7;have hs4:((wr.setCell (Z w2 kc) (.int .i64 (eH:Int))).alloc (.cells #[(tt:Int)] 3)).heap.size=wr.heap.size+1:=by simp[World.setCell]
          have Ck:aT XN (.slice TB eH zL) ((wr.setCell (Z w2 kc) (.int .i64 (eH:Int))).alloc (.cells #[(tt:Int)] 3)).heap.size:=by first|exact O7 | (rw[hs4];exact O7)
          obtain ⟨Kt,kO,pE⟩:=HK.T6 (b:=b) GB.o k6 xH.1 xH.2 Dp.o (by rw[<-HBN.2];exact HBN.1) Em jj Ck
          obtain ⟨A4,c4,rfl,-,-⟩:=ae jj;have xS:some kc∈(st'++[tt]).map c:=by rw[List.map_append];exact List.mem_append_right _ (by simp[xH.2])
          have z2:w4.cell? (Z w2 kc)=some (.int .i64 (eH:Int)):=Kt.num k6 xS kO;have lg4:w2.heap.size<w4:=Kt.tQ.2;have R8:=Y Kt;have ue:=Y (HR.2.2.t pE);have T8:=Y xS;have ub:=Y kO;clear jj Em O7 Ck hs4 Kt kO pE xS bL hcz iw z0 z1 zm lg;have lg:=lg4;clear lg4;go_wp2_with fail;refine aI (Below.refl w4 w4) R R ?_
          repeat (go_big_quiet_step (fail))
          refine wpQuiet_nil ?_;intro w6 cR;have tw:Below w4 w4 w6:=by obtain ⟨d9,rfl⟩:=cR;exact d9.ag
          have qy:=Y (R8.later tw);have tK:=Y (ue.t (tw.mono ue.size));have z6:w6.cell? (Z w2 kc)=some (.int .i64 (eH:Int)):=qy.num k6 T8.o ub.o;have l6:w2.heap.size<w6:=qy.tQ.2;have dw:=qy.Of (b:=b) (nu:=eH) mo.o (.cells #[.int .u8 (b:Int),.int .u8 (b:Int),(eH:Int)] 74);obtain ⟨ro,xG⟩:∃r,a8 gm (bO (aZ c (st'++[tt])) ([]))=r:=⟨_,rfl⟩;rw[xG]at dw;have R9:=Y xG;have iY:∀j u,[Value.int .u8 (b:Int),.int .u8 (b:Int),.int .i64 (eH:Int)][j]?=some u->(w6.alloc (.cells #[.int .u8 (b:Int),.int .u8 (b:Int),(eH:Int)] 74)).cell? (((Z w6 0):Addr).add j)=some u:=by
           intro j u hj;rw[Addr.add_lit,Nat.zero_add,World.cell?_alloc_mark];simpa using hj
          have bw:w2.heap.size<=(w6.alloc (.cells #[.int .u8 (b:Int),.int .u8 (b:Int),(eH:Int)] 74)).heap.size:=ψ;clear cR tw xG;go_wp2_with (at_builtin; refine bn rfl _ _ 59 rfl w2 74 ie _ 3 16 Tryz.underlying59 nY mJ bQ bE rfl O _ nl ro rfl dw (Z w6 0) 1 1 [.int .u8 (b:Int),.int .u8 (b:Int),.int .i64 (eH:Int)] rfl rfl iY (by intro u hu; simp only[List.mem_cons,List.not_mem_nil,or_false]at hu; rcases hu with rfl|rfl|rfl <;> rfl) (by unfold maxLen; omega) U bw ?_)
          intro v9 w9 da qx kT;have BD:(w6.alloc (.cells #[.int .u8 (b:Int),.int .u8 (b:Int),(eH:Int)] 74)).heap.size=w6.heap.size+1:=H;have rI:aT v9 (.slice Al nl cl) (w6.alloc (.cells #[.int .u8 (b:Int),.int .u8 (b:Int),(eH:Int)] 74)).heap.size:=by first|exact kT | (rw[BD];exact kT)
          obtain ⟨pr,jF⟩:=qy.Oe (b:=b) mo.o ub.o R9.o da qx rI;obtain ⟨A9,c9,rfl,-,-⟩:=ae da;have Dg:=Y pr;have zE:=Y (I (HR.1.app HT.o (Og)) (I (show ∃more,(st'++[tt])=st++more from by obtain ⟨x,hx⟩:=HR.2.1;exact ⟨x++[tt],by rw[hx,List.append_assoc]⟩) (tK.t jF)))
          clear da qx kT rI BD pr jF dw iY bw z6 l6;go_wp2_with fail;go_roundw
          case rel=>exact ⟨b+1,(st'++[tt]),[]++[⟨b,b,kc⟩],A9,c9,U,by go_num,by rw[List.length_append,mo.o];rfl,Dg,zE⟩
          case measure=>exact μ
         .rw[List.concat_eq_append]at hp;subst hp;obtain ⟨nq,Sa⟩:∃x,q.length=x:=⟨_,rfl⟩;have AQ:=Y (I Sa (show nq+1=nl by rw[<-mo.o,<-Sa];simp))
          obtain ⟨gl,rfl,-,-,-,-⟩:=HK.Oa Sa;have LG:some f.to∈st'.map c:=HK.le.ptg f H;have HFM:=Y LG;clear Sa LG;have qV:eH<k:=by
           have h9:=(HK.le.new ⟨b,b,kc⟩ tt Dp.o xH.1 xH.2).1.nodup;rw[GW.len,HN.1,List.length_append,GB.o]at h9;exact h9
          have aS:Below (wr.setCell (Z w2 kc) (.int .i64 (eH:Int))).heap.size (wr.setCell (Z w2 kc) (.int .i64 (eH:Int))) ((wr.setCell (Z w2 kc) (.int .i64 (eH:Int))).alloc (.cells #[(tt:Int)] 3)):=D.alloc V _;have jn:(wr.setCell (Z w2 kc) (.int .i64 (eH:Int))).heap.size=wr.heap.size:=by simp[World.setCell]
          have bL:((wr.setCell (Z w2 kc) (.int .i64 (eH:Int))).alloc (.cells #[(tt:Int)] 3)).ownsRow w2 3 1 (.slice TB eH zL) eH (b9 st'):=by
           have h:=HK.own;rw[GB.o]at h;exact World.ownsRow.alloc (ar h λg hg=>Below.heap_setCell _ _ _ _ (λe=>HK.ap (by rw[hg,show g=w2.heap.size from e]))) _
          have hcz:∀j u,([.int .i64 (tt:Int)]:List Value)[j]?=some u->((wr.setCell (Z w2 kc) (.int .i64 (eH:Int))).alloc (.cells #[(tt:Int)] 3)).cell? (((Z wr 0):Addr).add j)=some u:=λj u hj=>by
           match j,hj with
           |0,hj=>
            simp at hj;have h9:=heap_alloc_new (wr.setCell (Z w2 kc) (.int .i64 (eH:Int))) (.cells #[(tt:Int)] 3);rw[jn]at h9;rw[<-hj,Addr.add_lit,Φ h9];rfl
          have iw:w2.heap.size<=((wr.setCell (Z w2 kc) (.int .i64 (eH:Int))).alloc (.cells #[(tt:Int)] 3)).heap.size:=by simp[World.setCell];omega
          have HBN:=Y (I aS jn);have akP:gT≠w2.heap.size:=U;have ad6:¬w2.heap.size=gT:=U;have ad2:decide ((-1:Int)<0)=true:=O;clear aS jn;go_wp2_with (at_builtin;refine bn rfl _ _ 22 rfl w2 3 ii _ 1 8 Tryz.underlying22 P6 r5 iI j9 rfl O _ eH (b9 st') rfl bL (Z wr 0) 1 1 [.int .i64 (tt:Int)] rfl rfl hcz (by intro u hu;simp at hu;subst hu;rfl) (by unfold maxLen;omega) U iw ?_)
          intro XN w4 jj Em O7;have hs4:((wr.setCell (Z w2 kc) (.int .i64 (eH:Int))).alloc (.cells #[(tt:Int)] 3)).heap.size=wr.heap.size+1:=by simp[World.setCell]
          have Ck:aT XN (.slice TB eH zL) ((wr.setCell (Z w2 kc) (.int .i64 (eH:Int))).alloc (.cells #[(tt:Int)] 3)).heap.size:=by first|exact O7 | (rw[hs4];exact O7)
          obtain ⟨Kt,kO,pE⟩:=HK.T6 (b:=b) GB.o k6 xH.1 xH.2 Dp.o (by rw[<-HBN.2];exact HBN.1) Em jj Ck
          obtain ⟨A4,c4,rfl,-,-⟩:=ae jj;have xS:some kc∈(st'++[tt]).map c:=by rw[List.map_append];exact List.mem_append_right _ (by simp[xH.2])
          have z2:w4.cell? (Z w2 kc)=some (.int .i64 (eH:Int)):=Kt.num k6 xS kO;have lg4:w2.heap.size<w4:=Kt.tQ.2;have R8:=Y Kt;have ue:=Y (HR.2.2.t pE);have T8:=Y xS;have ub:=Y kO;clear jj Em O7 Ck hs4 Kt kO pE xS bL hcz iw z0 z1 zm lg;have lg:=lg4;clear lg4;obtain ⟨gl',e',⟨x1,x2⟩,x3,J5,-⟩:=R8.Oa AQ.1;obtain rfl:gl=gl':=by injection e' with e';injection e'
          obtain ⟨nf,pW⟩:∃x,aZ c (st'++[tt]) f.to=x:=⟨_,rfl⟩;obtain ⟨fh,XM⟩:∃x,f.hi=x:=⟨_,rfl⟩;rw[pW]at x2;rw[XM]at x1;have tS:nf<eH:=by rw[<-pW,<-GB.o];exact R6 HFM.o Dp.o
          have HF:=Y (I XM (show fh<256 by have:=HR.1.hi f H;omega))
          have t3:((nf:Int) == (eH:Int))=false:=ψ;have DE:=Y (show f.to≠kc from λe=>Dp.o (by rw[<-e];exact HFM.o))
          clear pW XM e' tS;have t0:decide (0<(nl:Int))=true:=decide_eq_true (by have:=AQ.2;omega)
          have t0n:decide (0<nl)=true:=decide_eq_true (by have:=AQ.2;omega)
          have t1:IntKind.i64.wrap ((nl:Int) - 1)=(nq:Int):=by rw[IntWalk.i64_in _ (by have:=AQ.2;omega)];have:=AQ.2;omega
          have FI:(nl:Int) - 1=(nq:Int):=by have:=AQ.2;omega
          have t2:decide (nq<nl)=true:=decide_eq_true (by have:=AQ.2;omega)
          have d0:∀d:bc w4 w4,d.b8.cell? (Z w2 kc)=some (.int .i64 (eH:Int)):=λd=>(d.ag.cl w2 kc lg).t z2;have d1:∀d:bc w4 w4,w2.heap.size<d.b8.heap.size:=λd=>Nat.lt_of_lt_of_le lg d.ag.size;have d2:∀d:bc w4 w4,d.b8.cell? (Z gl (nq*3+1))=some (.int .u8 (fh:Int)):=λd=>(d.ag.cl gl (nq*3+1) J5).t x1;have d3:∀d:bc w4 w4,d.b8.cell? (Z gl (nq*3+2))=some (.int .i64 (nf:Int)):=λd=>(d.ag.cl gl (nq*3+2) J5).t x2;have d4:∀d:bc w4 w4,gl<d.b8.heap.size:=λd=>Nat.lt_of_lt_of_le J5 d.ag.size;have t5:IntKind.i64.wrap (fh:Int)=(fh:Int):=IntWalk.i64_in _ (by have:=HF.2;omega)
          have t6:IntKind.i64.wrap ((b:Int) - 1)=(b:Int) - 1:=IntWalk.i64_in _ U;go_wp2_with fail;refine aI (Below.refl w4 w4) R R ?_
          repeat (go_big_quiet_step (fail))
          refine wpQuiet_nil ?_;intro w6 cR;have tw:Below w4 w4 w6:=by obtain ⟨d9,rfl⟩:=cR;exact d9.ag
          have qy:=Y (R8.later tw);have tK:=Y (ue.t (tw.mono ue.size));have z6:w6.cell? (Z w2 kc)=some (.int .i64 (eH:Int)):=qy.num k6 T8.o ub.o;have l6:w2.heap.size<w6:=qy.tQ.2;have dw:=qy.Of (b:=b) (nu:=eH) mo.o (.cells #[.int .u8 (b:Int),.int .u8 (b:Int),(eH:Int)] 74);obtain ⟨ro,xG⟩:∃r,a8 gm (bO (aZ c (st'++[tt])) ((q++[f])))=r:=⟨_,rfl⟩;rw[xG]at dw;have R9:=Y xG;have iY:∀j u,[Value.int .u8 (b:Int),.int .u8 (b:Int),.int .i64 (eH:Int)][j]?=some u->(w6.alloc (.cells #[.int .u8 (b:Int),.int .u8 (b:Int),(eH:Int)] 74)).cell? (((Z w6 0):Addr).add j)=some u:=by
           intro j u hj;rw[Addr.add_lit,Nat.zero_add,World.cell?_alloc_mark];simpa using hj
          have bw:w2.heap.size<=(w6.alloc (.cells #[.int .u8 (b:Int),.int .u8 (b:Int),(eH:Int)] 74)).heap.size:=ψ;clear cR tw xG d0 d1 d2 d3 d4 x1 x2 x3 z2;go_wp2_with (at_builtin; refine bn rfl _ _ 59 rfl w2 74 ie _ 3 16 Tryz.underlying59 nY mJ bQ bE rfl O _ nl ro rfl dw (Z w6 0) 1 1 [.int .u8 (b:Int),.int .u8 (b:Int),.int .i64 (eH:Int)] rfl rfl iY (by intro u hu; simp only[List.mem_cons,List.not_mem_nil,or_false]at hu; rcases hu with rfl|rfl|rfl <;> rfl) (by unfold maxLen; omega) U bw ?_)
          intro v9 w9 da qx kT;have BD:(w6.alloc (.cells #[.int .u8 (b:Int),.int .u8 (b:Int),(eH:Int)] 74)).heap.size=w6.heap.size+1:=H;have rI:aT v9 (.slice (Z gl 0) nl cl) (w6.alloc (.cells #[.int .u8 (b:Int),.int .u8 (b:Int),(eH:Int)] 74)).heap.size:=by first|exact kT | (rw[BD];exact kT)
          obtain ⟨pr,jF⟩:=qy.Oe (b:=b) mo.o ub.o R9.o da qx rI;obtain ⟨A9,c9,rfl,-,-⟩:=ae da;have Dg:=Y pr;have zE:=Y (I (HR.1.app HT.o (Aw (λh=>DE.o h.2))) (I (show ∃more,(st'++[tt])=st++more from by obtain ⟨x,hx⟩:=HR.2.1;exact ⟨x++[tt],by rw[hx,List.append_assoc]⟩) (tK.t jF)))
          clear da qx kT rI BD pr jF dw iY bw z6 l6;go_wp2_with fail;go_roundw
          case rel=>exact ⟨b+1,(st'++[tt]),(q++[f])++[⟨b,b,kc⟩],A9,c9,U,by go_num,by rw[List.length_append,mo.o];rfl,Dg,zE⟩
          case measure=>exact μ
      .have DD:b=256:=U;subst DD;have hdb:decide (((256:Nat):Int)<256)=false:=O;have atJ:decide ((256:Int)<256)=false:=O;have akM:decide (256<256)=false:=O;have hpJ:p=cD c (aU m' s):=HR.1.done (GW.row s).1 (GW.row s).2.1;have hle:=HK.o;have V5:=hle.le.il;obtain ⟨more,qQ⟩:=HR.2.1;have tV:st'[i]?=some s:=by rw[qQ,List.getElem?_append_left (by have:=xz.o;omega)];exact HS.1
       have Ex:rs.length=i:=by rw[hle.le.rows,List.length_map,List.length_take];omega
       have Ey:aN.length=i:=by rw[hle.ac,List.length_map,List.length_take];omega
       have gq:=hle.ma.own;have gw:wr.ownsRow w2 4 1 vA aN.length (a8 bC aN):=hle.ma.acc;rw[Ex]at gq;rw[Ey]at gw;obtain ⟨AE,cE,rfl,-,-⟩:=ae gq;obtain ⟨AV,cA,rfl,-,-⟩:=ae gw;obtain ⟨av,V6⟩:=ν (a8 bC aN);rw[V6]at gw;have bT:Below w w wr:=fS.t (HR.2.2.mono fS.size);have hM:=(HR.2.2.block w (γ XK.o).1).t XK.o;obtain ⟨ga,fa,rfl,-,DH,tN⟩:=HA.jL (show s<m.ac.length by rw[HN.2];exact ob)
       have YO:wr.cell? (Z w 1)=some (.slice (Z ga fa) k ca):=by rw[Φ hM];rfl
       obtain ⟨a,V0⟩:∃b,m.ac[s]'(by rw[HN.2];exact ob)=b:=⟨_,rfl⟩
       rw[V0]at tN;have MF:a=(m'.ac[s]?).getD false:=by rw[GW.ac,List.getElem?_eq_getElem (by rw[HN.2];exact ob),V0];rfl
       have xac:=(χ ga (fa+s) (bT.block ga DH)).t tN;have Ez:=hle.ma.hN;obtain ⟨J9,Tc⟩:wr.cell? (Z (zl+1) 0)=some (.slice AE i cE)/\wr.cell? (Z (zl+1) 1)=some (.slice AV i cA):=by constructor <;> (rw[Φ Ez]; rfl)
       have zM:=hle.ma.lt;have IE:=HR.2.2.size;have Zq:=bT.size;have eP:zl+1<wr.heap.size:=(zM _ (bj.2 (.inl rfl))).2;have akQ:w.heap.size<w2:=(γ XK.o).1;have lM:w.heap.size<wr:=U;have lga:ga<wr:=U;have nM:w.heap.size∉(zl+1)::(aq (.slice AE i cE)++aq (.slice AV i cA)):=λhm=>by have:=(zM _ hm).1;omega
       have nga:ga∉(zl+1)::(aq (.slice AE i cE)++aq (.slice AV i cA)):=λhm=>by have:=(zM _ hm).1;omega
       have bf:(∀g,(Value.slice AE i cE).ownBlock=some g->g<wr.heap.size)/\(∀g,(Value.slice AV i cA).ownBlock=some g->g<wr.heap.size)/\(∀g,(Value.slice AV i cA).ownBlock=some g->(Value.slice AE i cE).ownBlock≠some g)/\(Value.slice AE i cE).ownBlock≠some (zl+1)/\(Value.slice AV i cA).ownBlock≠some (zl+1)/\(∀g,(Value.slice AV i cA).ownBlock=some g->(Value.slice AE i cE).ownBlock≠some g/\g<wr.heap.size):=by
        have hd:∀g,(Value.slice AV i cA).ownBlock=some g->(Value.slice AE i cE).ownBlock≠some g:=λg hg e=>hle.ma.Q1 g e hg;exact ⟨λg hg=>(gq.lt g hg).2,λg hg=>(gw.lt g hg).2,hd,hle.ma.U7,hle.ma.Yx,λg hg=>⟨hd g hg,(gw.lt g hg).2⟩⟩
       obtain ⟨Aj,cj,nj,hnj,hAj,IA⟩:∃A c n,n=nl/\A=Al/\c=cl:=⟨_,_,_,rfl,rfl,rfl⟩;subst hnj hAj IA;obtain ⟨W,zg⟩:∃W:World,W=wr:=⟨_,rfl⟩;subst zg;have dN:iS (zl+1) (.slice AE i cE) (.slice AV i cA) W 0 W.drew:=⟨(ab.aj D.drew).gV,λ_=>rfl,λ_ _ _=>rfl,λ_=>D.drew⟩;have dr:=Y bf;have OO:=Y Ez;have J8:=Y gq;have YS:=Y gw;have tH:=Y IE;have Im:=Y (I hle (I hpJ tV));have YT:=Y HR.2.2;have TE:=Y (I V6 (I Ex (I Ey MF)));clear hle hpJ V5 tV Ex Ey gq gw V6 hM bT MF tN Ez zM bf IE qQ V0 ao DH akQ;go_wp2_with fail;refine ay 17 [4,13,15] (jA (zl+1) w s ga fa k ca nj cj i cE cA w2 AE AV Aj gv av a W) (λc w'=>iS (zl+1) (.slice AE i cE) (.slice AV i cA) W c w') R R R R R R O dN ?_ ?_
       .simp only[ck,ct];refine aa.pure O ?_ (aa.pure O ?_ (aa.pure O ?_ (aa.gp O ?_ (aa.jg 0 rfl ?_ (aa.pure O ?_ (aa.pure O ?_ (aa.pure O ?_ (aa.pure O ?_ (aa.pure O ?_ (aa.pure O ?_ (aa.pure O ?_ (aa.gp O ?_ (aa.jg 1 rfl ?_ (aa.pure O ?_ (aa.jg 2 rfl ?_ (aa.pure O ?_ (aa.nil)))))))))))))))))
        all_goals first | (intro v wz c bX hS hE K hK;simp only[ah,Act.put,dk,dm,dn,Nat.zero_add,Nat.reduceAdd,ck,ct]at hK|-) | (intro v wz hS hE K hK;simp only[ah,Act.put,dk,dm,dn,Nat.zero_add,Nat.reduceAdd,ck,ct]at hK|-)
        .exact ζ
        .have e0:v 0=_:=hE.1 rfl;rw[e0]at hK|-;have hle:=bX 0 R;have c1:=(χ (zl+1) 0 (hS.2.1 U)).t J9;have l1:zl+1<wz.heap.size:=by have:=hS.1.size;omega
         exact ζ
        .exact ζ
        .have e2:v 2=_:=hE.1 rfl;rw[e2]at hK|-;have bw:Below wz wz (wz.alloc (.cells #[.slice Aj nj cj] 59)):=D.alloc V _;have jc:=hS.1.size;have HX:=Y hS;have iZ:=Y bw;clear hS hE bX bw;go_wp2_with fail;exact hK.out _ _ (λj y _ h=>wC iZ.o h) (HX.later eP dr.2.1 iZ.o) ⟨wz.heap.size,rfl,jc,H,by go_simp⟩
        .have e1:v 1=_:=hE.1 rfl;rw[e1]at hK|-;have E3:=hE.2.1 rfl;obtain ⟨g,e3,zo,jm,oz⟩:=E3;rw[e3]at hK|-;have hz:=hS.2.2.2 rfl;have ao:wz.ownsRow w2 59 1 (.slice AE i cE) i gv:=aR J8.o hz;have iM:=hz.size;clear hz;have ak:∀j u,([.slice Aj nj cj]:List Value)[j]?=some u->wz.cell? (((Z g 0):Addr).add j)=some u:=λj u hj=>by
          match j,hj with
          |0,hj=>simp at hj;rw[<-hj,Addr.add_lit];exact oz
         have HX:=Y hS;clear hS hE;go_wp2_with (at_builtin;refine bn rfl _ _ 32 rfl w2 59 is () 1 24 Tryz.underlying32 his Nz qB tV rfl O _ i gv rfl ao (Z g 0) 1 1 [.slice Aj nj cj] rfl rfl ak (by intro u hu;simp at hu;subst hu;rfl) (by unfold maxLen;omega) U (by have:=tH.o;omega) ?_)
         intro v' wx ai bg dv;obtain ⟨A',c',rfl,-,-⟩:=ae ai;have mP:aT (.slice A' (i+1) c') (.slice AE i cE) W.heap.size:=dv.imp id λ⟨g,h1,h2⟩=>⟨g,h1,Nat.le_trans iM h2⟩;refine hK.out _ _ (Fx bg dr.1) (HX.s1 eP bg dr.2.2.2.1 dr.2.2.2.2.2) (λ_=>⟨A',c',rfl,ai,mP⟩)
        .exact ζ
        .have e5:v 5=_:=hE.1 rfl;rw[e5]at hK|-;have hle:=bX 1 R;have c1:=(χ (zl+1) 1 (hS.2.1 U)).t Tc;have l1:zl+1<wz.heap.size:=by have:=hS.1.size;omega
         exact ζ
        .exact ζ
        .have e7:v 7=_:=hE.1 rfl;rw[e7]at hK|-;have c1:=(χ w 1 (hS.1.aq _ lM nM)).t YO;have l1:w.heap.size<wz:=by have:=hS.1.size;omega
         exact ζ
        .exact ζ
        .have e8:v 8=_:=hE.1 rfl;have e9:v 9=_:=hE.2.1 rfl;rw[e8,e9]at hK|-;exact ζ
        .have eR:v 10=_:=hE.1 rfl;rw[eR]at hK|-;have c1:=(χ ga (fa+s) (hS.1.aq _ lga nga)).t xac;have l1:ga<wz:=by have:=hS.1.size;omega
         exact ζ
        .have fZ:v 11=_:=hE.1 rfl;rw[fZ]at hK|-;have bw:Below wz wz (wz.alloc (.cells #[.bool a] 4)):=D.alloc V _;have jc:=hS.1.size;have HX:=Y hS;have iZ:=Y bw;clear hS hE bX bw;go_wp2_with fail;exact hK.out _ _ (λj y _ h=>wC iZ.o h) (HX.later eP dr.2.1 iZ.o) ⟨wz.heap.size,rfl,jc,H,by go_simp⟩
        .have e6:v 6=_:=hE.1 rfl;rw[e6]at hK|-;have DM:=hE.2.1 rfl;obtain ⟨g,fG,zo,jm,oz⟩:=DM;rw[fG]at hK|-;have ao:wz.ownsRow w2 4 1 (.slice AV i cA) i av:=ar YS.o λg hg=>hS.2.2.1 O g hg;have iM:=hS.1.size;have ak:∀j u,([.bool a]:List Value)[j]?=some u->wz.cell? (((Z g 0):Addr).add j)=some u:=λj u hj=>by
          match j,hj with
          |0,hj=>simp at hj;rw[<-hj,Addr.add_lit];exact oz
         have HX:=Y hS;clear hS hE;go_wp2_with (at_builtin;refine bn rfl _ _ 33 rfl w2 4 ib (.bool false) 1 1 Tryz.underlying33 pe hb0 aM aS rfl O _ i av rfl ao (Z g 0) 1 1 [.bool a] rfl rfl ak (by intro u hu;simp at hu;subst hu;rfl) (by unfold maxLen;omega) U (by have:=tH.o;omega) ?_)
         intro v' wx ai bg dv;obtain ⟨A',c',rfl,-,-⟩:=ae ai;have mP:aT (.slice A' (i+1) c') (.slice AV i cA) W.heap.size:=dv.imp id λ⟨g,h1,h2⟩=>⟨g,h1,Nat.le_trans iM h2⟩;refine hK.out _ _ (Fy bg dr.2.1 dr.2.2.1) (HX.s2 eP bg dr.2.2.2.2.1) (λ_=>⟨A',c',rfl,ai,mP⟩)
        .exact ζ
        .have jw:v 14=_:=hE.1 rfl;rw[jw]at hK|-;have E4:=hE.2.1 rfl;obtain ⟨A,c',ev,ho,dv⟩:=E4 O;rw[ev]at hK ho dv|-;have aC:=(hS.2.1 O).t OO.o;have cz:wz.cell? (Z (zl+1) 0)=some (.slice AE i cE):=by rw[Φ aC];rfl
         have fz:wz.frozen? (Z (zl+1) 0)=false:=Ψ aC
         have HX:=Y hS;have HO:=Y (I ho (I dv aC));clear hS hE ho dv aC ev;go_wp2_with fail;have qV:∀g,(Value.slice A (i+1) c').ownBlock=some g->g≠zl+1:=λg hg=>HO.2.1.elim (λe=>by rw[e]at hg;intro e2;subst e2;exact dr.2.2.2.1 hg) λ⟨g',e,h2⟩=>by rw[e]at hg;injection hg with hg;omega
         refine hK.out undef _ (Fz eP dr.2.2.2.1 dr.2.2.2.2.1 _) (HX.s3 _) (λ_=>⟨A,c',ar HO.1 λg hg=>Below.heap_setCell _ _ _ _ (qV g hg),HO.2.1,by have:=aE HO.2.2 0 (.slice A (i+1) c');simpa using this⟩)
        .exact ζ
       .intro v wz hS hF;have e0:v 0=_:=hF 0 O;have e1:v 1=_:=hF 1 O;have e2:v 2=_:=hF 2 O;have e5:v 5=_:=hF 5 O;have e6:v 6=_:=hF 6 O;have e7:v 7=_:=hF 7 O;have e8:v 8=_:=hF 8 O;have e9:v 9=_:=hF 9 O;have eR:v 10=_:=hF 10 O;have fZ:v 11=_:=hF 11 O;have jw:v 14=_:=hF 14 O;have oV:v 16=_:=hF 16 O;have E3:=hF 3 O;have E4:=hF 4 O;have DM:=hF 12 O;have ye:=hF 13 O;have GD:=hF 15 O;simp only[ah,Act.put,dk,dm,dn,Nat.zero_add,Nat.reduceAdd,ck,ct,List.drop_succ_cons,List.drop_zero,e0,e1,e2,e5,e6,e7,e8,e9,eR,fZ,jw,oV];clear hF e0 e1 e2 e5 e6 e7 e8 e9 eR fZ jw oV;obtain ⟨Km,Kn,pz,sw,jX⟩:=GD O;obtain ⟨Ra,Rb,MG,EA,zN⟩:=ye O;rw[MG]at EA zN|-;have pR:=hS.1;have z1:wz.cell? (Z (zl+1) 1)=some (.slice AV i cA):=by rw[Φ jX];rfl
        have Qs:wz.frozen? (Z (zl+1) 1)=false:=Ψ jX
        have lNz:zl+1<wz.heap.size:=(γ jX).1;have aH:∀k,k≠zl+1->(wz.setCell (Z (zl+1) 1) (.slice Ra (i+1) Rb)).heap[k]?=wz.heap[k]?:=λk hk=>Below.heap_setCell _ _ _ _ hk;have dv:∀{v v':Value},aT v' v W.heap.size->v.ownBlock≠some (zl+1)->∀g,v'.ownBlock=some g->g≠zl+1:=λhf hn g hg e=>by
         subst e;rcases hf with hf|⟨g',hf,h2⟩
         .rw[hf]at hg;exact hn hg
         .rw[hf]at hg;injection hg with hg;omega
        have Dl:ab (ki (zl+1) (.slice AE i cE) (.slice AV i cA)) [] W (wz.setCell (Z (zl+1) 1) (.slice Ra (i+1) Rb)):=
         ab.tr (show ab (ki (zl+1) (.slice AE i cE) (.slice AV i cA)) [] W wz from pR) ⟨rfl,rfl,rfl,by simp[World.setCell],λk _ hn=>aH k (λe=>hn (bj.2 (.inl e))),λk hk=>by cases hk⟩
        have dW:=Im.1.zI Dl (by have:=aE jX 1 (.slice Ra (i+1) Rb);simpa using this) (by rw[TE.2.1];exact ar pz λg hg=>aH g (dv sw dr.2.2.2.1 g hg)) (a:=a) (by
         show World.ownsRow _ _ _ _ _ _ _;rw[List.length_append,bV,bF,TE.1,TE.2.2.1];exact ar EA λg hg=>aH g (dv zN dr.2.2.2.2.1 g hg)) sw zN HIT.o Im.2.2 Im.2.1 TE.2.2.2
        have ju:Below w2 w2 (wz.setCell (Z (zl+1) 1) (.slice Ra (i+1) Rb)):=YT.t (Dl.below (λk hk=>(Im.1.ma.lt k hk).1) tH.o);have V7:=Y dW;have HBF:=Y ju;clear hS pR aH dv Dl dW ju pz sw jX EA zN MG E3 E4 DM ye GD;go_wp2_with fail;go_roundw
        case rel=>exact ⟨i+1,st',_,_,_,_,_,_,by go_num,U,V7,HBF⟩
        case measure=>exact μ
    .have nY:i=ti:=U;have hd:decide ((i:Int)<(ti:Int))=false:=θ;have MH:i=st.length:=by rw[xz.o];exact nY
     have hle:=HL.o;have gq:=hle.ma.own;have gw:wr.ownsRow w2 4 1 vA aN.length (a8 bC aN):=hle.ma.acc;obtain ⟨AE,cE,rfl,-,-⟩:=ae gq;obtain ⟨AV,cA,rfl,-,-⟩:=ae gw;obtain ⟨nE,BI⟩:∃x,rs.length=x:=⟨_,rfl⟩;obtain ⟨nV,Il⟩:∃x,aN.length=x:=⟨_,rfl⟩;rw[BI,Il]at HL;have Ez:=HL.ma.hN;obtain ⟨J9,Tc⟩:wr.cell? (Z (zl+1) 0)=some (.slice AE nE cE)/\wr.cell? (Z (zl+1) 1)=some (.slice AV nV cA):=by constructor <;> (rw[Φ Ez]; rfl)
     have uk:=(HB.block (w+1) (γ XL.o).1).t XL.o;obtain ⟨q0,q1⟩:wr.cell? (Z (w+1) 0)=some (.slice none 0 0)/\wr.cell? (Z (w+1) 1)=some (.slice none 0 0):=by constructor <;> (rw[Φ uk]; rfl)
     have g0:wr.frozen? (Z (w+1) 0)=false:=Ψ uk
     have g1:wr.frozen? (Z (w+1) 1)=false:=Ψ uk
     have lNr:zl+1<wr.heap.size:=(γ Ez).1;have lXr:w.heap.size+1<wr:=(γ uk).1;have lX2:w.heap.size+1<w2:=(γ XL.o).1;have HEI:=Y (I MH (I BI Il));clear hle MH gq gw Ez uk BI Il nY;go_wp2_with fail;refine au λWf bG=>?_;refine bodyPost_ret (v:=.agg #[.slice AE nE cE,.slice AV nV cA]) (by rw[bG];simp[results,Tryz.results28,go_sem,q0,q1,lXr];try rfl) rfl ?_
     have aV:ab [w.heap.size+1] [] wr Wf:=by
      rw[bG];have bf:∀k,k∉[w.heap.size+1]->k≠w.heap.size+1:=λk hn e=>hn (List.mem_singleton.2 e);exact ⟨rfl,rfl,rfl,by simp[World.setCell],λk _ hn=>(Below.heap_setCell (wr.setCell (Z (w+1) 0) (.slice AE nE cE)) (Z (w+1) 1) (.slice AV nV cA) k (bf k hn)).t (Below.heap_setCell wr (Z (w+1) 0) (.slice AE nE cE) k (bf k hn)),λk hk=>by cases hk⟩
     have qK:=HL.ma.low aV (λk hk=>by rw[List.mem_singleton]at hk;omega)
     have hle:=HL.le;have ej:=HL.ac;rw[HEI.1]at hle;rw[HEI.1,List.take_length]at ej;have dW:=Ob HV.o tT.o (by rw[HN.1];exact HH1.o) GW.o hle
     rw[<-ej]at dW;have ju:Below w w Wf:=(fS.t (HB.mono fS.size)).t (aV.below (λk hk=>by rw[List.mem_singleton]at hk;omega) (by have:=fS.size;have:=HB.size;omega))
     exact ⟨_,⟨rs,aN⟩,rfl,qK.up.mono fS.size,ju,dW⟩
end Go.Proofs.YthamegenljmgmaaGreatDoor
