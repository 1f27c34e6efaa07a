/- Walks. -/
import Derived.Test.YthamegenljmgmaaGreatDoorY32
import Derived.Test.YthamegenljmgmaaGreatDoorY06
import Derived.Test.YthamegenljmgmaaGreatDoorY35
import Derived.Test.YthamegenljmgmaaGreatDoorY37
import Derived.Test.YthamegenljmgmaaGreatDoorY25
import Derived.Test.YthamegenljmgmaaGreatDoorY04
set_option maxRecDepth 100000
set_option maxHeartbeats 16000000
set_option linter.unusedVariables false
set_option linter.unusedSimpArgs false
namespace Go.Proofs.YthamegenljmgmaaGreatDoor
open Go.RowKit
theorem vJ{A:Option Addr}{n:Nat}{w w':World}(h:oX A n w)(hb:Below w w w'):oX A n w':=
 ⟨h.1,λj hj=>by
  obtain ⟨ad,x,h1,h2,h3⟩:=h.2 j hj;exact ⟨ad,x,h1,Nat.lt_of_lt_of_le h2 hb.size,(hb.cell (p:=ad.add j) (by rw[fX];exact h2)).t h3⟩⟩
def QT(s:Nat)(B1 B2:Option Addr)(k1 d1 k2 d2:Nat)(o1 i1 x1:Int)(W:World):Nat->Nat->Value->World->Prop
 |c,0,x,w=>x=.agg #[.int .i64 o1,.slice B1 k1 d1,.slice B2 k2 d2,.int .i64 i1,.int .i64 x1]
 |c,1,x,w=>x=.pointer (Z (s+1) 0)
 |c,2,x,w=>1<=c->∃(nd:Nd) (u:N5),x=.agg #[.int .i64 u.op,.slice u.a1 u.n1 u.c1,.slice u.a2 u.n2 u.c2,.int .i64 u.mn,.int .i64 u.mx]/\kU W w u.cs nd
 |_,_,_,_=>True
theorem zF(A:Option Addr)(n c:Nat)(VS:Nd)(vs1:List Value)(w:World)(ht:oX A n w)(ml:bY w VS vs1)(hv:eU w):
  Calls Tryz.prog 3 #[.slice A n c,.agg vs1.toArray] w λe w'=>e=.returned (.bool true)/\Below w w w':=by
 obtain ⟨B1,d1,B2,d2,rfl,-⟩:=id ml.form;obtain ⟨k1,bQ⟩:∃k,VS.rs.length=k:=⟨_,rfl⟩;obtain ⟨k2,bE⟩:∃k,VS.kids.length=k:=⟨_,rfl⟩;obtain ⟨o1,xh⟩:∃k,VS.op=k:=⟨_,rfl⟩;obtain ⟨i1,fs⟩:∃k,VS.mn=k:=⟨_,rfl⟩;obtain ⟨x1,fk⟩:∃k,VS.mx=k:=⟨_,rfl⟩;rw[bQ,bE,xh,fs,fk]at ml|-;have hb0:=(Below.refl w w).alloc V (.cells #[.int .i64 o1,.slice B1 k1 d1,.slice B2 k2 d2,.int .i64 i1,.int .i64 x1] 26);have dY:(w.alloc (.cells #[.int .i64 o1,.slice B1 k1 d1,.slice B2 k2 d2,.int .i64 i1,.int .i64 x1] 26)).heap.size=w.heap.size+1:=H;have h0:=Mu (c:=c) (vJ ht hb0);rw[dY]at h0;have H0:=Y (I ml hv);have HT0:=Y h0;clear ml hv ht h0 hb0 dY bQ bE xh fs fk
 go_enter Tryz.func3,Tryz.ntmps3
 go_wp2_with fail;refine br λW hW=>?_;have hT:cP (w+1) W:=by rw[hW];exact HT0.o
 have hB:Below w w W:=by rw[hW];exact (D.alloc V _).alloc H _
 have hR:W.heap[w.heap.size]?=some (.cells #[.int .i64 o1,.slice B1 k1 d1,.slice B2 k2 d2,.int .i64 i1,.int .i64 x1] 26):=by rw[hW,az _ _ _ H];exact heap_alloc_new w _
 have hz:w.heap.size+1<W:=hT.lt;have HW:=Y (I hT (I hB (I hR hz)));have dN:Fr (w+1) W W.drew/\cP (w+1) W.drew:=⟨Fr.aj D.drew,hT.below D.drew⟩;clear hW hT hB hR hz HT0;refine ay 3 [2] (QT w B1 B2 k1 d1 k2 d2 o1 i1 x1 W) (λc w'=>Fr (w+1) W w'/\cP (w+1) w') R R R R R R O dN ?_ ?_
 .simp only[ck,ct];refine aa.pure O ?_ (aa.pure O ?_ (aa.jg 0 rfl ?_ (aa.nil)))
  all_goals first | (intro v wz c bX hS hE K hK;simp only[ah,Act.put,dk,dm,dn,Nat.zero_add,Nat.reduceAdd,ck,ct]at hK|-) | (intro v wz hS hE K hK;simp only[ah,Act.put,dk,dm,dn,Nat.zero_add,Nat.reduceAdd,ck,ct]at hK|-)
  .have nW:=(hS.1.block w (by have:=HW.2.2.2;omega) (λe=>by injection e with e;omega)).t HW.2.2.1
   obtain ⟨y0,y1,y2,y3,y4⟩:=aD nW;have ly:w.heap.size<wz:=(γ nW).1;clear nW;exact ζ
  .exact ζ
  .have e1:v 1=_:=hE.1 rfl;rw[e1]at hK|-;have HX:=Y hS;clear hS hE;go_wp2_with fail;refine (zG (w+1) 3 4 wz O O HX.2).mono ?_;rintro e wy ⟨nd,u,rfl,-,fB,hty,hfy⟩;have HP:=Y (I (fB.mono HX.1.size) (I hty hfy));clear fB hty hfy;obtain ⟨u0,u1,u2,u3,u4,u5,u6,u7,u8⟩:=u;simp only;go_wp2_with fail;refine hK.out _ _ (λj z hj h=>?_) ⟨HX.1.t HP.2.2,HP.2.1⟩ (λ_=>⟨nd,⟨u0,u1,u2,u3,u4,u5,u6,u7,u8⟩,rfl,HP.1⟩)
   match j with
   |0|1=>exact h
   |2=>exact absurd rfl hj
   |_+3=>exact trivial
 .intro v wz hS hF;have e0:v 0=_:=hF 0 O;have e1:v 1=_:=hF 1 O;have E2:=hF 2 O;simp only[ah,Act.put,dk,dm,dn,Nat.zero_add,Nat.reduceAdd,ck,ct,List.drop_succ_cons,List.drop_zero,e0,e1];clear hF e0 e1;obtain ⟨VT,u,e2,r9⟩:=E2 O;obtain ⟨u0,u1,u2,u3,u4,u5,u6,u7,u8⟩:=u;simp only at e2;rw[e2];have H2:=Y r9;have AJ:=Y hS;clear E2 e2 r9 hS;go_wp2_with fail;refine br λW3 pg=>?_;have pZ:Below wz wz W3:=by rw[pg];exact D.alloc V _
  have hA3:W3.heap[wz.heap.size]?=some (.cells #[.int .i64 o1,.slice B1 k1 d1,.slice B2 k2 d2,.int .i64 i1,.int .i64 x1,.int .i64 u0,.slice u1 u2 u3,.slice u4 u5 u6,.int .i64 u7,.int .i64 u8] 26):=by rw[pg];exact heap_alloc_new wz _
  obtain ⟨gA,hgA⟩:∃k,wz.heap.size=k:=⟨_,rfl⟩;have hFB:Below w w W3:=HW.2.1.t ((AJ.1.below (Nat.le_succ _) HW.2.1.size).t (pZ.mono (by have:=AJ.1.size;have:=HW.2.1.size;omega)))
  have Mv:Hid (∀i,i<2->∃(u:N5) (nd:Nd),(W3.cell? (Z wz (i*5))=some (.int .i64 u.op)/\W3.cell? (Z wz (i*5+1))=some (.slice u.a1 u.n1 u.c1)/\W3.cell? (Z wz (i*5+2))=some (.slice u.a2 u.n2 u.c2)/\W3.cell? (Z wz (i*5+3))=some (.int .i64 u.mn)/\W3.cell? (Z wz (i*5+4))=some (.int .i64 u.mx))/\bY W3 nd u.cs):=λi hi=>by
   rcases (show i=0\/i=1 by omega) with rfl|rfl
   .exact ⟨⟨o1,B1,k1,d1,B2,k2,d2,i1,x1⟩,VS,by refine ⟨?_,?_,?_,?_,?_⟩ <;> (rw[Φ hA3]; rfl),H0.1.later hFB⟩
   .exact ⟨⟨u0,u1,u2,u3,u4,u5,u6,u7,u8⟩,VT,by refine ⟨?_,?_,?_,?_,?_⟩ <;> (rw[Φ hA3]; rfl),(H2.in_).later pZ⟩
  have HG:Hid (wz.heap.size<W3/\Below w w W3):=⟨(γ hA3).1,hFB⟩;have HV:Hid (eU W3):=H0.2.later hFB;rw[hgA]at Mv HG|-;clear pg pZ hA3 hFB hgA AJ H2;go_loopw [7] (λv wr=>∃i:Nat,i<=2/\v=.int .i64 (i:Int)/\Hid (Below W3 W3 wr)) (λv _=>2 - (intOf v).toNat)
  case atStart=>exact ⟨0,U,rfl,D⟩
  case round=>
   obtain ⟨i,hi,rfl,HB⟩:=hrel;by_cases aB:i<2
   .have hd:decide ((i:Int)<2)=true:=τ;have dV:decide (i<2)=true:=decide_eq_true aB;obtain ⟨u,nd,bH,aY⟩:=Mv i aB;obtain ⟨y0,y1,y2,y3,y4,y5,y6,y7,y8⟩:=u;simp only at bH;have wN:=Y bH;have Ty:Hid (bY W3 nd [.int .i64 y0,.slice y1 y2 y3,.slice y4 y5 y6,.int .i64 y7,.int .i64 y8]):=aY;have abl:∀awN,Below W3 W3 awN->(awN.cell? (Z gA (i*5))=some (.int .i64 y0)/\awN.cell? (Z gA (i*5+1))=some (.slice y1 y2 y3)/\awN.cell? (Z gA (i*5+2))=some (.slice y4 y5 y6)/\awN.cell? (Z gA (i*5+3))=some (.int .i64 y7)/\awN.cell? (Z gA (i*5+4))=some (.int .i64 y8))/\gA<awN:=λawN hV=>
     ⟨⟨(hV.cl gA (i*5) HG.1).t wN.1,(hV.cl gA (i*5+1) HG.1).t wN.2.1,(hV.cl gA (i*5+2) HG.1).t wN.2.2.1,(hV.cl gA (i*5+3) HG.1).t wN.2.2.2.1,(hV.cl gA (i*5+4) HG.1).t wN.2.2.2.2⟩,Nat.lt_of_lt_of_le HG.1 hV.size⟩
    have xu:=Y abl;clear bH aY abl;have Mw:(i:Int)<2:=U;obtain ⟨⟨q0,q1,q2,q3,q4⟩,lq⟩:=xu wr HB.o;have OI:=Y (Mx _ nd _ wr V (Ty.later HB.o));go_wp2_with fail;refine OI.mono ?_;rintro e w4 ⟨⟨z,hz,rfl⟩,pE⟩;have sk:=Y (HB.t (pE.mono HB.size));clear pE q0 q1 q2 q3 q4 lq;obtain ⟨⟨q0,q1,q2,q3,q4⟩,lq⟩:=xu w4 sk.o;by_cases xj:120<z
    .have nw:decide (120<(z:Int))=true:=τ;have VU:decide (120<z)=true:=decide_eq_true xj;go_wp2_with fail;go_roundw
     case measure=>exact μ
     case rel=>exact ⟨i+1,U,by go_num,sk.o⟩
    .have nw:decide (120<(z:Int))=false:=θ;have VU:decide (120<z)=false:=decide_eq_false xj;have HN5:=Y (vL nd _ w4 (Ty.later sk.o));go_wp2_with fail;refine HN5.mono ?_;rintro e w5 ⟨rfl,mj⟩;have js:=Y (sk.t (mj.mono sk.size));obtain ⟨zn,hzn⟩:∃k,min (aA nd) 201=k:=⟨_,rfl⟩;rw[hzn];clear mj q0 q1 q2 q3 q4 lq hzn;by_cases OD:60<zn
     .have AN:decide (60<(zn:Int))=true:=τ;have ais:decide (60<zn)=true:=decide_eq_true OD;go_wp2_with fail;go_roundw
      case measure=>exact μ
      case rel=>exact ⟨i+1,U,by go_num,js.o⟩
     .have AN:decide (60<(zn:Int))=false:=θ;have ais:decide (60<zn)=false:=decide_eq_false OD;obtain ⟨⟨q0,q1,q2,q3,q4⟩,lq⟩:=xu w5 js.o;have HCM:=Y (sP nd _ w5 (Ty.later js.o) (HV.later js.o));go_wp2_with fail;refine HCM.mono ?_;intro e w6 tY;have xc:=tY.1;obtain ⟨er0,rv0,e6⟩:∃(er:Int) (rv:Value),e=.returned (.tuple #[rv,.int .i64 er]):=by
       rcases tY.2 with ⟨-,h⟩|⟨-,-,h⟩|⟨-,-,b',x',eW,rows',BK,i',-,-,-,-,h⟩
       .exact ⟨_,_,h⟩
       .exact ⟨_,_,h⟩
       .rcases h with ⟨-,h⟩|⟨-,-,rv,m',h,-,-⟩
        .exact ⟨_,_,h⟩
        .exact ⟨_,_,h⟩
      have O5:∃E1 n1 c1 E2 n2 c2,rv0=.agg #[.slice E1 n1 c1,.slice E2 n2 c2]:=by
       rcases tY.2 with ⟨-,h⟩|⟨-,-,h⟩|⟨-,-,b',x',eW,rows',BK,i',-,-,-,-,h⟩
       .rw[h]at e6;injection e6 with e6;injection e6 with e6;exact ⟨none,0,0,none,0,0,by have:=congrArg (λa:Array Value=>a[0]?) e6;simpa [dK] using this.symm⟩
       .rw[h]at e6;injection e6 with e6;injection e6 with e6;exact ⟨none,0,0,none,0,0,by have:=congrArg (λa:Array Value=>a[0]?) e6;simpa [dK] using this.symm⟩
       .rcases h with ⟨-,h⟩|⟨-,-,rv,m',h,fB,-⟩
        .rw[h]at e6;injection e6 with e6;injection e6 with e6;exact ⟨none,0,0,none,0,0,by have:=congrArg (λa:Array Value=>a[0]?) e6;simpa [dK] using this.symm⟩
        .rw[h]at e6;injection e6 with e6;injection e6 with e6;obtain ⟨ve,va,e7,he,ha⟩:=fB.mc;obtain ⟨E1,c1,e8,-⟩:=he.form;obtain ⟨E2,c2,e9,-⟩:=ha.form;exact ⟨E1,_,c1,E2,_,c2,by have:=congrArg (λa:Array Value=>a[0]?) e6;simp at this;rw[<-this,e7,e8,e9]⟩
      obtain ⟨E1,n1,c1,E2,n2,c2,rfl⟩:=O5;rw[e6]at tY;subst e6;have aiu:=Y tY;have tK:=Y (js.t (xc.mono js.size));clear tY xc q0 q1 q2 q3 q4 lq;obtain ⟨⟨q0,q1,q2,q3,q4⟩,lq⟩:=xu w6 tK.o;have lq1:gA<w6+1:=U;have lqn:gA≠w6.heap.size:=U;go_wp2_with fail;refine aJ λW7 El=>?_;have hr7:W7.heap[w6.heap.size]?=some (.cells #[.slice E1 n1 c1,.slice E2 n2 c2] 35):=by rw[El];exact heap_alloc_new w6 _
      have kV:Below w6 w6 W7:=by rw[El];exact D.alloc V _
      have HR7:=Y hr7;have aiv:=Y kV;have td:=Y (tK.t (kV.mono tK.size));have VV:=Y (zH nd _ W7 (Ty.later td.o));clear El hr7 kV q0 q1 q2 q3 q4 lq lq1 lqn;refine VV.mono ?_;intro e w8 Dd;obtain ⟨-,My,er,rv,ru,m,e9,rfl,abn,r9,Zx,eg⟩:=aaB aiu.o Dd;obtain ⟨rfl,rfl⟩:er0=er/\rv=.agg #[.slice E1 n1 c1,.slice E2 n2 c2]:=by
       injection e9 with e9;injection e9 with e9;have h1:=congrArg (λa:Array Value=>a[0]?) e9;have h2:=congrArg (λa:Array Value=>a[1]?) e9;simp at h1 h2;exact ⟨h2,h1.symm⟩
      obtain ⟨ve2,vh,rfl,gO,rS⟩:=id r9.mc;obtain ⟨F1,f1,rfl,-⟩:=gO.form;obtain ⟨F2,f2,rfl,-⟩:=rS.form;obtain ⟨m1,qd⟩:∃n,m.ed.length=n:=⟨_,rfl⟩;obtain ⟨m2,sY⟩:∃n,m.ac.length=n:=⟨_,rfl⟩;rw[qd,sY]at r9|-;have QU:=(My.block w6 (γ HR7.o).1).t HR7.o;have HB8:=Y (td.t (My.mono td.size));have xv:=Y (I ((abn.keep (L':=[]) (vM (L:=[]) aiv.o) (λk hk=>by cases hk)).keep (L':=[]) (vM (L:=[]) My) (λk hk=>by cases hk)) (I r9 (I Zx eg)))
      have HR8:=Y QU;have lr8:w6.heap.size<w8:=(γ QU).1;clear Dd My e9 abn r9 Zx eg gO rS qd sY QU
      go_upto_region 9 with (fail)
      refine br λW9 xY=>?_;have QV:W9.heap[w8.heap.size]?=some (.cells #[.slice F1 m1 f1,.slice F2 m2 f2] 35):=by rw[xY];exact heap_alloc_new w8 _
      have jF:Below w8 w8 W9:=by rw[xY];exact D.alloc V _
      have IB:=(jF.block w6 lr8).t HR8.o;have hB9:Below W3 W3 W9:=HB8.t (jF.mono HB8.size);have QW:∀d:bc W9 W9,Below W3 W3 d.b8:=λd=>hB9.t (d.ag.mono hB9.size);have S1:∀d:bc W9 W9,d.b8.cell? (Z w6 0)=some (.slice E1 n1 c1):=λd=>by rw[Φ ((d.ag.block _ (γ IB).1).t IB)];rfl
      have DP:∀d:bc W9 W9,d.b8.cell? (Z w6 1)=some (.slice E2 n2 c2):=λd=>by rw[Φ ((d.ag.block _ (γ IB).1).t IB)];rfl
      have QX:∀d:bc W9 W9,d.b8.cell? (Z w8 0)=some (.slice F1 m1 f1):=λd=>by rw[Φ ((d.ag.block _ (γ QV).1).t QV)];rfl
      have k5:∀d:bc W9 W9,d.b8.cell? (Z w8 1)=some (.slice F2 m2 f2):=λd=>by rw[Φ ((d.ag.block _ (γ QV).1).t QV)];rfl
      have hl6:∀d:bc W9 W9,w6.heap.size<d.b8.heap.size:=λd=>Nat.lt_of_lt_of_le (γ IB).1 d.ag.size;have hl8:∀d:bc W9 W9,w8.heap.size<d.b8.heap.size:=λd=>Nat.lt_of_lt_of_le (γ QV).1 d.ag.size;have oz:∀d:bc W9 W9,d.b8.cell? (Z gA (i*5))=some (.int .i64 y0):=λd=>(xu _ (QW d)).1.1;have bg:∀d:bc W9 W9,d.b8.cell? (Z gA (i*5+1))=some (.slice y1 y2 y3):=λd=>(xu _ (QW d)).1.2.1;have dZ:∀d:bc W9 W9,d.b8.cell? (Z gA (i*5+2))=some (.slice y4 y5 y6):=λd=>(xu _ (QW d)).1.2.2.1;have iF:∀d:bc W9 W9,d.b8.cell? (Z gA (i*5+3))=some (.int .i64 y7):=λd=>(xu _ (QW d)).1.2.2.2.1;have Em:∀d:bc W9 W9,d.b8.cell? (Z gA (i*5+4))=some (.int .i64 y8):=λd=>(xu _ (QW d)).1.2.2.2.2;have hl9:∀d:bc W9 W9,gA<d.b8.heap.size:=λd=>(xu _ (QW d)).2;have hE:∀d:bc W9 W9,Calls Tryz.prog 9 #[.agg #[.slice E1 n1 c1,.slice E2 n2 c2],.agg #[.slice F1 m1 f1,.slice F2 m2 f2]] d.b8 λe w'=>e=.returned (.bool true)/\Below d.b8.heap.size d.b8 w':=λd=>by
       have rO:Below w8 w8 d.b8:=jF.t (d.ag.mono jF.size);have h1:=En _ _ m m d.b8 (xv.1.mc.later rO) (xv.2.1.mc.later rO) xv.2.2.1 xv.2.2.1 xv.2.2.2 xv.2.2.2;rwa [decide_eq_true (rfl:m=m)]at h1
      obtain ⟨pv,hpv⟩:∃p,zr nd=p:=⟨_,rfl⟩;have hP1:∀d:bc W9 W9,Calls Tryz.prog 10 #[.agg #[.int .i64 y0,.slice y1 y2 y3,.slice y4 y5 y6,.int .i64 y7,.int .i64 y8]] d.b8 λe w'=>e=.returned (.int .i64 (pv:Int))/\Below d.b8.heap.size d.b8 w':=λd=>hpv▸zz8q nd _ d.b8 (Ty.later (QW d));have QY:∀d:bc W9 W9,Calls Tryz.prog 11 #[.agg #[.int .i64 y0,.slice y1 y2 y3,.slice y4 y5 y6,.int .i64 y7,.int .i64 y8]] d.b8 λe w'=>e=.returned (.int .i64 (pv:Int))/\Below d.b8.heap.size d.b8 w':=λd=>hpv▸vd nd _ d.b8 (Ty.later (QW d));have DO:=Y hE;have HP1:=Y hP1;have IC:=Y QY;have hdE:(er0 != er0)=false:=H;have Kg:=Y hB9;clear xY QV jF IB hB9 QW hE hP1 QY hpv lr8;refine aI (Below.refl W9 W9) R R ?_
      repeat (go_big_quiet_step (fail))
      go_big_quiet_step ((go_at_call 9;exact Calls.lA V (DO _)))
      repeat (go_big_quiet_step (fail))
      go_big_quiet_step ((go_at_call 10;exact Calls.lA V (HP1 _)))
      repeat (go_big_quiet_step (fail))
      go_big_quiet_step ((go_at_call 11;exact Calls.lA V (IC _)))
      repeat (go_big_quiet_step (fail))
      refine wpQuiet_nil ?_;intro YN cR;have abp:Below W9 W9 YN:=by obtain ⟨d9,rfl⟩:=cR;exact d9.ag
      have aix:=Y (Kg.t (abp.mono Kg.size));clear cR abp S1 DP QX k5 hl6 hl8 oz bg dZ iF Em hl9;go_wp2_with fail;go_roundw
      case measure=>exact μ
      case rel=>exact ⟨i+1,U,by go_num,aix.o⟩
   .obtain rfl:i=2:=U;have hd:decide ((2:Int)<2)=false:=O;have dV:decide (2<2)=false:=O;go_wp2_with fail;refine (PG wr (HV.later HB.o)).mono ?_;rintro e w99 ⟨rfl,abq⟩;have aiy:=Y (HG.2.t ((HB.t (abq.mono HB.size)).mono HG.2.size));clear abq;go_wp2_with fail;go_ret;exact ⟨rfl,aiy.o⟩
theorem xw(A:Option Addr)(n c:Nat)(v1:Value)(w:World)(ht:oX A n w)(aiz:PD Tryz.prog w 26 v1)(hv:eU w):
  Calls Tryz.prog 3 #[.slice A n c,v1] w λe w'=>e=.returned (.bool true)/\Below w w w':=by
 obtain ⟨nd,vs,rfl,hn⟩:=Hm aiz;exact zF A n c nd vs w ht hn hv
end Go.Proofs.YthamegenljmgmaaGreatDoor
