/- Walks. -/
import Derived.Test.YtdmoogjddmdmbaaGreatDoorX41
import Derived.Test.YtdmoogjddmdmbaaGreatDoorX12
import Derived.Test.YtdmoogjddmdmbaaGreatDoorX05
set_option maxRecDepth 100000
set_option maxHeartbeats 16000000
set_option linter.unusedVariables false
set_option linter.unusedSimpArgs false
namespace Go.Proofs.YtdmoogjddmdmbaaGreatDoor
open Go.RowKit
def Rl(b:Nat)(w:World)(v:Value):Prop:=∃g f n c,∃U:Nat->KC,v=.slice (some ⟨g,f,none⟩) n c/\1<=n/\n<=1000/\b<g/\g<w.heap.size/\
 (∀j,j<n->∀i,i<11->w.cell? ⟨g,f+j*11+i,none⟩=(U j).cs[i]?)/\∀j,j<n->jZ b w 4 18 (U j).pat
theorem Rl.later{b:Nat}{w w':World}{v:Value}(h:Rl b w v)(hs:ai b w w'):Rl b w' v:=by
 obtain ⟨g,f,n,c,U,rfl,h1,h2,h3,h4,h5,h6⟩:=h;exact ⟨g,f,n,c,U,rfl,h1,h2,h3,Nat.lt_of_lt_of_le h4 hs.1,λj hj i hi=>(hs.cell h3 h4).trans (h5 j hj i hi),λj hj=>(h6 j hj).later hs⟩
theorem Rl.gq{b B:Nat}{w:World}{v:Value}{o:List KC}(h:OR 44 11 KC.cs B v o w)(hB:b<B)(h1:o≠[])(h2:o.length<=1000)(hp:∀u∈o,jZ b w 4 18 u.pat):Rl b w v:=by
 obtain ⟨A,c,rfl,hle,h3|⟨g,rfl,hBg,hg,hc⟩⟩:=h.cells Cg
 .exact absurd h3 h1
 .cases o with
  |nil=>exact absurd rfl h1
  |cons u0 r=>
   refine ⟨g,0,_,c,λj=>(u0::r)[j]?.getD u0,rfl,ξ,h2,Y,hg,λj hj i hi=>?_,λj hj=>?_⟩
   .rw[Nat.zero_add,(hc j hj i hi).1];show _=(((u0::r)[j]?.getD u0).cs)[i]?;rw[List.getElem?_eq_getElem hj];rfl
   .show jZ b w 4 18 (((u0::r)[j]?.getD u0).pat);rw[List.getElem?_eq_getElem hj];exact hp _ (List.getElem_mem hj)
theorem Yw{P:Program}{T e:TypeId}{i0:TypeInfo}(ht:P.underlying T=some (.slice e))(hi:P.info? e=some i0)(hz0:i0.zero=some (.int .u8 0))(hz1:i0.size=1)(hz2:i0.bytes=1)
  {w:World} {ops:Array Oper} {rest:List Oper} {o:Oper} {a:Act} {Q:Exit->Act->World->Prop} (s x:Operand) (v:Value) (l r:List UInt8) (g n c B:Nat)
  (og:o.guard=none) (ho:o.op=.call { callee:=.builtin .append,args:=#[s,x],argTypes:=#[T,T] })
  (hs:a.eval s=v) (hx:a.eval x=.slice (some ⟨g,0,none⟩) n c) (hn:n=r.length) (hown:OB e B v l w) (hy:RB e g r w) (hl:l.length+r.length<1000000000) (hB:B<=w.heap.size)
  (h:∀v' w1,OB e B v' (l++r) w1->Below B w w1->wpList P ops Q rest (a.put o.dst v') w1) :
  wpList P ops Q (o::rest) a w:=by
 subst hn;exact FH ht hi hz0 hz1 hz2 s x v l r g c B og ho hs hx hown (λj hj=>hy.cell j hj) hl hB h
theorem OB.slice{e:TypeId}{B:Nat}{v:Value}{l:List UInt8}{w:World}(h:OB e B v l w):∃A n c,v=.slice A n c:=by
 rcases h.2 with ⟨rfl,-⟩|⟨g,cap,cur,rfl,-⟩
 .exact ⟨_,_,_,rfl⟩
 .exact ⟨_,_,_,rfl⟩
theorem J4(w:World)(e:TypeId)(j:Nat)(hj:j<7):∃t:ByteArray,t.size<=5/\(w.alloc (Obj.cells #[.string ⟨#[107,101,121]⟩,.string ⟨#[112,97,115,115]⟩,.string ⟨#[32,107,101,121,32]⟩,.string ⟨#[97]⟩,.string ⟨#[61]⟩,.string ⟨#[116,107]⟩,.string ⟨#[107,45]⟩] e)).cell? ⟨w.heap.size,j,none⟩=some (.string t):=by
 rw[World.cell?_alloc_mark]
 match j,hj with
 |0,_=>exact ⟨_,O,rfl⟩
 |1,_=>exact ⟨_,O,rfl⟩
 |2,_=>exact ⟨_,O,rfl⟩
 |3,_=>exact ⟨_,O,rfl⟩
 |4,_=>exact ⟨_,O,rfl⟩
 |5,_=>exact ⟨_,O,rfl⟩
 |6,_=>exact ⟨_,O,rfl⟩
theorem Nv(b n:Nat)(v:Value)(w:World)(hk:Rl b w v)(hn:n<=1000)(ht:aD b w):
  Calls Tryz.prog 7 #[.pointer (some ⟨b,0,none⟩),v,.int .i64 (n:Int)] w (fV b (n*30) w):=by
 obtain ⟨i0,hi,hz0,hz1,hz2⟩:=info_parts kt;obtain ⟨g,f,m,c,U,rfl,h1,h2,gL,dR,hU,hP⟩:=hk;have dL:=ht.lt;have HU:=Z (λ(w':World) (hs:ai b w w') (j:Nat) (hj:j<m)=>show (w'.cell? ⟨g,f+j*11,none⟩=some (.string (U j).nm)/\w'.cell? ⟨g,f+j*11+1,none⟩=some (.int .i64 (U j).op)/\w'.cell? ⟨g,f+j*11+2,none⟩=some (.slice (U j).a1 (U j).n1 (U j).c1)/\w'.cell? ⟨g,f+j*11+3,none⟩=some (.slice (U j).a2 (U j).n2 (U j).c2)/\w'.cell? ⟨g,f+j*11+4,none⟩=some (.int .i64 (U j).mn)/\w'.cell? ⟨g,f+j*11+5,none⟩=some (.int .i64 (U j).mx)/\w'.cell? ⟨g,f+j*11+6,none⟩=some (.bool (U j).wh)/\w'.cell? ⟨g,f+j*11+7,none⟩=some (.int .i64 (U j).ck)/\w'.cell? ⟨g,f+j*11+8,none⟩=some (.int .i64 (U j).en)/\w'.cell? ⟨g,f+j*11+9,none⟩=some (.slice (U j).a3 (U j).n3 (U j).c3)/\w'.cell? ⟨g,f+j*11+10,none⟩=some (.int .i64 (U j).nr)) from
  ⟨(hs.cell gL dR).trans (hU j hj 0 Y),(hs.cell gL dR).trans (hU j hj 1 Y),(hs.cell gL dR).trans (hU j hj 2 Y),(hs.cell gL dR).trans (hU j hj 3 Y),(hs.cell gL dR).trans (hU j hj 4 Y),(hs.cell gL dR).trans (hU j hj 5 Y),(hs.cell gL dR).trans (hU j hj 6 Y),(hs.cell gL dR).trans (hU j hj 7 Y),(hs.cell gL dR).trans (hU j hj 8 Y),(hs.cell gL dR).trans (hU j hj 9 Y),(hs.cell gL dR).trans (hU j hj 10 Y)⟩)
 have HM:=Z (λ(w':World) (hs:ai b w w') (htt:aD b w') (j:Nat) (hj:j<m)=>show Calls Tryz.prog 24 #[.pointer (some ⟨b,0,none⟩),.agg #[.int .i64 (U j).op,.slice (U j).a1 (U j).n1 (U j).c1,.slice (U j).a2 (U j).n2 (U j).c2,.int .i64 (U j).mn,.int .i64 (U j).mx]] w' (fV b 18 w') from
  iP b 4 18 (U j).pat w' ((hP j hj).later hs) Y htt)
 clear hU hP
 go_enter Tryz.func7,Tryz.ntmps7
 go_wp2_with fail;go_loopw [7,8] (λv i wr=>∃(k:Nat) (o:List UInt8),k<=n/\i=.int .i64 (k:Int)/\OB 5 w.heap.size v o wr/\o.length<=k*30/\aD b wr/\Fr b w wr) (λ_ i _=>n - (intOf i).toNat)
 case atStart=>exact ⟨0,[],Y,rfl,OB.km _ _ _,ξ,ht,Fr.refl _ _⟩
 case round=>
  obtain ⟨k,o,hk,rfl,hown,ho,sk,dY⟩:=hrel;by_cases hlt:k<n
  .have hd:decide ((k:Int)<(n:Int))=true:=τ;have cX:decide (k<n)=true:=decide_eq_true hlt;have H0:=Z (H hown (H ho sk));clear hown ho sk
   go_upto_region 5 with fail
   go_cut [19] from 18 to 68 (λv wx=>∃r:Int,v=.int .i64 r/\0<=r/\r<6/\aD b wx/\Fr b wr wx)
   case first=>
    go_wp2_with fail;refine (bQ b _ _ Y Y H0.out.2.2).mono ?_;rintro e w1 ⟨r,rfl,GG,nR,nA,gX⟩;go_wp2_with fail
    go_meet
    exact ⟨r,rfl,GG,nR,nA,gX⟩
   case rest=>
    obtain ⟨r,rfl,GG,nR,nA,gX⟩:=hcut;obtain ⟨hown,ho,-⟩:=H0.out;have hown1:=hown.fr gX dL;have OX:=dY.trans gX;have We:=OX.size;obtain ⟨W1,hW1⟩:∃W1:World,W1=wc:=⟨_,rfl⟩;rw[<-hW1]at nA gX hown1 OX We|-;clear hW1 hown gX dY
    apply_assumption
    go_cut [7] from 18 to 68 (λv wx=>∃(o:List UInt8),OB 5 w.heap.size v o wx/\o.length<=k*30+26/\aD b wx/\Fr b w wx)
    case first=>
     have hr:r=0\/r=1\/2<=r:=Y;rcases hr with rfl|rfl|mP
     .go_wp2_with fail;refine (bQ b _ _ Y Y nA).mono ?_;rintro e w2 ⟨q,rfl,rN,hq1,jP,eI⟩;obtain ⟨qn,rfl⟩:∃qn:Nat,q=(qn:Int):=⟨q.toNat,Y⟩;go_wp2_with fail;refine (J3 b qn _ Y jP).mono ?_;rintro e w3 ⟨v3,l3,rfl,Rk,Xz,Aq,qH⟩;have cI:=(hown1.fr eI dL).fr qH dL;have ae9:=(OX.trans eI).trans qH;have Dl:=ae9.size;go_wp2_with (at_builtin;refine tN Tryz.underlying28 hi hz0 hz1 hz2 _ _ _ _ _ _ _ _ rfl rfl rfl rfl cI Xz Y Dl ?_;intro v4 w4 eQ dM)
      go_meet
      exact ⟨_,eQ,by rw[List.length_append];omega,Aq.fU dM dL,ae9.then dM⟩
     .go_wp2_with fail;refine (bQ b _ _ Y Y (nA.below (υ.alloc I _))).mono ?_;rintro e w2 ⟨q,rfl,rN,hq1,jP,eI⟩;obtain ⟨t,htl,htc⟩:=J4 W1 9 q.toNat Y;have Kw:Fr b W1 w2:=(Fr.aa (υ.alloc I _)).trans eI;have auL:=(χ W1.heap.size q.toNat (eI.block W1.heap.size ξ (by intro e;injection e;omega))).trans htc
      have bh:=hown1.fr Kw dL;have Ji:=OX.trans Kw;have hzB:=Ji.size;have hq7:q.toNat<7:=Y;go_wp2_with (at_builtin;refine KV Tryz.underlying28 Tryz.underlying9 hi hz0 hz1 hz2 _ _ _ _ t _ rfl rfl rfl rfl bh Y hzB ?_;intro v4 w4 eQ dM)
      go_meet
      exact ⟨_,eQ,by rw[List.length_append,aE];omega,jP.fU dM dL,Ji.then dM⟩
     .have hb0:(r == 0)=false:=by simpa using (show ¬r=0 by omega)
      have hb1:(r == 1)=false:=by simpa using (show ¬r=1 by omega)
      have hd0:decide (r=0)=false:=θ;have hd1:decide (r=1)=false:=θ;go_wp2_with fail;refine (bQ b _ _ Y Y nA).mono ?_;rintro e w2 ⟨q,rfl,rN,hq1,jP,eI⟩;have ZV:q.toNat<m:=Y;have S4:=OX.trans eI;obtain ⟨q0,q1,q2,q3,q4,q5,q6,q7,q8,q9,EB⟩:=HU.out w2 (ai.dO S4) q.toNat ZV;have hzB:=S4.size;have afa:=hown1.fr eI dL
      go_upto_region 7 with fail
      obtain ⟨WK,PI⟩:=ν (w2.alloc (Obj.cells #[.string (U q.toNat).nm,.int .i64 (U q.toNat).op,.slice (U q.toNat).a1 (U q.toNat).n1 (U q.toNat).c1,.slice (U q.toNat).a2 (U q.toNat).n2 (U q.toNat).c2,.int .i64 (U q.toNat).mn,.int .i64 (U q.toNat).mx,.bool (U q.toNat).wh,.int .i64 (U q.toNat).ck,.int .i64 (U q.toNat).en,.slice (U q.toNat).a3 (U q.toNat).n3 (U q.toNat).c3,.int .i64 (U q.toNat).nr] 44));rw[PI];have vS:Below w2.heap.size w2 WK:=by rw[<-PI];exact υ.alloc I _
      have hzk:WK.heap.size=w2.heap.size+1:=by rw[<-PI];simp
      have k1:WK.cell? ⟨w2.heap.size,1,none⟩=some (.int .i64 (U q.toNat).op):=by rw[<-PI,World.cell?_alloc_mark];rfl
      have k2:WK.cell? ⟨w2.heap.size,2,none⟩=some (.slice (U q.toNat).a1 (U q.toNat).n1 (U q.toNat).c1):=by rw[<-PI,World.cell?_alloc_mark];rfl
      have k3:WK.cell? ⟨w2.heap.size,3,none⟩=some (.slice (U q.toNat).a2 (U q.toNat).n2 (U q.toNat).c2):=by rw[<-PI,World.cell?_alloc_mark];rfl
      have k4:WK.cell? ⟨w2.heap.size,4,none⟩=some (.int .i64 (U q.toNat).mn):=by rw[<-PI,World.cell?_alloc_mark];rfl
      have k5:WK.cell? ⟨w2.heap.size,5,none⟩=some (.int .i64 (U q.toNat).mx):=by rw[<-PI,World.cell?_alloc_mark];rfl
      have k7:WK.cell? ⟨w2.heap.size,7,none⟩=some (.int .i64 (U q.toNat).ck):=by rw[<-PI,World.cell?_alloc_mark];rfl
      have tV:=jP.below vS;have hfk:=S4.then (vS.mono S4.size);have afb:=afa.fr (Fr.aa (b:=b) vS) dL;clear PI q0 q1 q2 q3 q4 q5 q6 q7 q8 q9 EB;have MB:=Z (HM.out WK (ai.dO hfk) tV q.toNat ZV);generalize (U q.toNat).op=uop at *;generalize (U q.toNat).ck=uck at *;generalize (U q.toNat).a1=ua1 at *;generalize (U q.toNat).n1=un1 at *;generalize (U q.toNat).c1=uc1 at *;generalize (U q.toNat).a2=ua2 at *;generalize (U q.toNat).n2=un2 at *;generalize (U q.toNat).c2=uc2 at *;generalize (U q.toNat).mn=umn at *;generalize (U q.toNat).mx=umx at *;clear HM HU;have K7:=Z k7;clear k7;go_wp2_with fail;refine MB.out.mono ?_;rintro e w3 ⟨v3,l3,rfl,Rk,Xz,Aq,qH⟩;have k7':w3.cell? ⟨w2.heap.size,7,none⟩=some (.int .i64 uck):=(χ w2.heap.size 7 (qH.block w2.heap.size Y (by intro e;injection e;omega))).trans K7.out
      have amt:=hfk.trans qH;have cI:=afb.fr qH dL;obtain ⟨A3,n3,c3,rfl⟩:=Xz.slice;have hcv:=Xz.conv (P:=Tryz.prog) (T:=28) (d:=9) Tryz.underlying28 Tryz.underlying5 Tryz.underlying9;clear k1 k2 k3 k4 k5 MB;go_wp2_with fail;refine (zB uck (bs l3) w3 (by rw[df];omega)).mono ?_
      rintro e w4 ⟨rfl,dM⟩;rw[mA];have Uz:=OV uck l3;generalize hcq:jD uck l3=cq at Uz|-;obtain ⟨x,y⟩:=cq;clear hcq hcv k7'
      dsimp only at Uz|-
      have afc:Fr b w3 w4:=Fr.aa dM;have Dy:=amt.trans afc;have eQ:=cI.fr afc dL;have hv4:=Xz.below dM;have ht4:=Aq.below dM;have hzC:=Dy.size;by_cases hy:y=0
      .subst hy;go_wp2_with fail;refine (bQ b _ _ Y Y ht4).mono ?_;rintro e w5 ⟨z,rfl,ac1,auP,ht5,hf5⟩;have S7:=Dy.trans hf5;have uM:=eQ.fr hf5 dL;have hzD:=S7.size;by_cases Gi:z=0
       .subst Gi;have hcv:=λw=>Lib.run_convert_string_bytes (P:=Tryz.prog) w 9 28 5 (bs x) Tryz.underlying9 Tryz.underlying28 Tryz.underlying5;obtain ⟨W6,C6,B6,BC,hC6,hB6,Pq,amu,auR⟩:=RB.names w5 5 (bs x)
        go_upto_region 11 with fail
        rw[<-BC,<-hC6,<-hB6];have oQ:Below w5.heap.size w5 W6:=hB6▸amu;have hf6:=S7.then (oQ.mono S7.size);have BO:=uM.fr (Fr.aa (b:=b) oQ) dL;have ht6:=ht5.below oQ;have hzE:=hf6.size;rw[mA]at Pq;have hsx:(bs x).size=x.length:=df _;clear hcv BC hC6;go_wp2_with (at_builtin;refine Yw Tryz.underlying28 hi hz0 hz1 hz2 _ _ _ _ _ B6 _ _ _ rfl rfl rfl rfl hsx BO Pq Y hzE ?_;intro v7 w7 Db dT)
        go_meet
        exact ⟨_,Db,by rw[List.length_append];omega,ht6.fU dT dL,hf6.then dT⟩
       .have hzb:(z == 0)=false:=by simpa using Gi
        have RU:decide (z=0)=false:=decide_eq_false Gi;have hv5:=hv4.fr hf5 Y;go_wp2_with (at_builtin;refine tN Tryz.underlying28 hi hz0 hz1 hz2 _ _ _ _ _ _ _ _ rfl rfl rfl rfl uM hv5 Y hzD ?_;intro v7 w7 Db dT)
        go_meet
        exact ⟨_,Db,by rw[List.length_append];omega,ht5.fU dT dL,S7.then dT⟩
      .have Di:(y == 0)=false:=by simpa using hy
       have hyd:decide (y=0)=false:=decide_eq_false hy;go_wp2_with (at_builtin;refine tN Tryz.underlying28 hi hz0 hz1 hz2 _ _ _ _ _ _ _ _ rfl rfl rfl rfl eQ hv4 Y hzC ?_;intro v7 w7 Db dT)
       go_meet
       exact ⟨_,Db,by rw[List.length_append];omega,ht4.fU dT dL,Dy.then dT⟩
    case rest=>
     obtain ⟨o1,bh,yM,jP,eI⟩:=hcut;have auV:=eI.size
     apply_assumption
     go_wp2_with fail;refine (bQ b _ _ Y Y jP).mono ?_;rintro e w3 ⟨q,rfl,rN,hq1,Aq,qH⟩;have cI:=bh.fr qH dL;have Dy:=eI.trans qH;by_cases hq:0<q
     .have hdq:decide (0<q)=true:=decide_eq_true hq;go_wp2_with fail;refine (bQ b _ _ Y Y Aq).mono ?_;rintro e w4 ⟨p,rfl,Oc,ZA,ht4,hf5⟩;have eQ:=cI.fr hf5 dL;have hf6:=Dy.trans hf5;have hz6:=hf6.size;obtain ⟨u,c,-,lD,lW,lY,Dj⟩:=mM Tryz.underlying9 ⟨#[32,10,61,58]⟩ p.toNat (show p.toNat<4 by omega) .i64 p Y
      go_wp2_with (at_builtin;refine qN Tryz.underlying28 hi hz0 hz1 hz2 _ _ _ _ _ u _ rfl rfl rfl rfl eQ lD.out Y hz6 ?_;intro v1 w5 uM jq _ _);go_roundw
      case rel=>exact ⟨k+1,_,Y,by go_num,uM,by rw[List.length_append];simp;omega,ht4.fU jq dL,hf6.then jq⟩
      case measure=>exact μ
     .have hdq:decide (0<q)=false:=decide_eq_false hq;go_wp2_with fail;go_roundw
      case rel=>exact ⟨k+1,o1,Y,by go_num,cI,Y,Aq,Dy⟩
      case measure=>exact μ
  .obtain rfl:k=n:=Y;have hd:decide ((k:Int)<(k:Int))=false:=θ;have cX:decide (k<k)=false:=θ;go_wp2_with fail;go_ret;exact ⟨_,o,rfl,ho,hown,sk,dY⟩
end Go.Proofs.YtdmoogjddmdmbaaGreatDoor
