/- Walks. -/
import Derived.Test.YtdmoogjddmdmbaaGreatDoorV41
import Derived.Test.YtdmoogjddmdmbaaGreatDoorV15
import Derived.Test.YtdmoogjddmdmbaaGreatDoorV04
set_option maxRecDepth 100000
set_option maxHeartbeats 16000000
set_option linter.unusedVariables false
set_option linter.unusedSimpArgs false
namespace Go.Proofs.YtdmoogjddmdmbaaGreatDoor
open Go.RowKit
section
set_option linter.unusedVariables false
set_option linter.unusedSimpArgs false
open Go.RowKit
def Rz (b:Nat) (w:World) (v:Value):Prop:=∃g f n c,∃U:Nat->KC,v = .slice (some ⟨g,f,none⟩) n c/\1<=n/\n<=1000/\b<g/\g<w.heap.size/\
 (∀j,j<n->∀i,i<11->w.cell? ⟨g,f+j*11+i,none⟩=(U j).cs[i]?)/\∀j,j<n->j6 b w 4 18 (U j).pat
theorem Rz.later {b:Nat} {w w':World} {v:Value} (h:Rz b w v) (hs:af b w w'):Rz b w' v:=by
 obtain ⟨g,f,n,c,U,rfl,h1,h2,h3,h4,h5,h6⟩:=h;exact ⟨g,f,n,c,U,rfl,h1,h2,h3,Nat.lt_of_lt_of_le h4 hs.1,λj hj i hi=>(hs.cell h3 h4).trans (h5 j hj i hi),λj hj=>(h6 j hj).later hs⟩
theorem Rz.gW {b B:Nat} {w:World} {v:Value} {o:List KC} (h:OR 44 11 KC.cs B v o w) (hB:b<B) (h1:o≠[]) (h2:o.length<=1000) (hp:∀u∈o,j6 b w 4 18 u.pat):Rz b w v:=by
 obtain ⟨A,c,rfl,hle,h3 | ⟨g,rfl,hBg,hg,hc⟩⟩:=h.cells CN
 .exact absurd h3 h1
 .cases o with
  | nil=>exact absurd rfl h1
  | cons u0 r=>
   refine ⟨g,0,_,c,λj=>(u0::r)[j]?.getD u0,rfl,by simp,h2,by omega,hg,λj hj i hi=>?_,λj hj=>?_⟩
   .rw[Nat.zero_add,(hc j hj i hi).1];show _=(((u0::r)[j]?.getD u0).cs)[i]?;rw[List.getElem?_eq_getElem hj];rfl
   .show j6 b w 4 18 (((u0::r)[j]?.getD u0).pat);rw[List.getElem?_eq_getElem hj];exact hp _ (List.getElem_mem hj)
end
section
set_option linter.unusedVariables false
set_option linter.unusedSimpArgs false
open Go.RowKit
theorem YC {P:Program} {T e:TypeId} {i0:TypeInfo} (ht:P.underlying T=some (.slice e)) (hi:P.info? e=some i0) (hz0:i0.zero=some (.int .u8 0)) (hz1:i0.size=1) (hz2:i0.bytes=1)
  {w:World} {ops:Array Oper} {rest:List Oper} {o:Oper} {a:Act} {Q:Exit->Act->World->Prop} (s x:Operand) (v:Value) (l r:List UInt8) (g n c B:Nat)
  (gV:o.guard=none) (ho:o.op = .call { callee:=.builtin .append,args:=#[s,x],argTypes:=#[T,T] })
  (hs:a.eval s=v) (hx:a.eval x = .slice (some ⟨g,0,none⟩) n c) (hn:n=r.length) (hown:OB e B v l w) (hy:RB e g r w) (hl:l.length+r.length<1000000000) (hB:B<=w.heap.size)
  (h:∀v' w1,OB e B v' (l++r) w1->Below B w w1->wpList P ops Q rest (a.put o.dst v') w1) :
  wpList P ops Q (o::rest) a w:=by
 subst hn;exact Gh ht hi hz0 hz1 hz2 s x v l r g c B gV ho hs hx hown (λj hj=>hy.cell j hj) hl hB h
theorem OB.slice {e:TypeId} {B:Nat} {v:Value} {l:List UInt8} {w:World} (h:OB e B v l w):∃A n c,v = .slice A n c:=by
 rcases h.2 with ⟨rfl,-⟩ | ⟨g,cap,cur,rfl,-⟩
 .exact ⟨_,_,_,rfl⟩
 .exact ⟨_,_,_,rfl⟩
theorem KE (w:World) (e:TypeId) (j:Nat) (hj:j<7):∃t:ByteArray,t.size<=5/\(w.alloc (Obj.cells #[.string ⟨#[107,101,121]⟩, .string ⟨#[112,97,115,115]⟩, .string ⟨#[32,107,101,121,32]⟩, .string ⟨#[97]⟩, .string ⟨#[61]⟩, .string ⟨#[116,107]⟩, .string ⟨#[107,45]⟩] e)).cell? ⟨w.heap.size,j,none⟩=some (.string t):=by
 rw[World.cell?_alloc_mark]
 match j,hj with
 | 0,_=>exact ⟨_,by decide,rfl⟩
 | 1,_=>exact ⟨_,by decide,rfl⟩
 | 2,_=>exact ⟨_,by decide,rfl⟩
 | 3,_=>exact ⟨_,by decide,rfl⟩
 | 4,_=>exact ⟨_,by decide,rfl⟩
 | 5,_=>exact ⟨_,by decide,rfl⟩
 | 6,_=>exact ⟨_,by decide,rfl⟩
set_option maxHeartbeats 4000000 in
theorem O9 (b n:Nat) (v:Value) (w:World) (hk:Rz b w v) (hn:n<=1000) (ht:az b w) :
  Calls Tryz.prog 7 #[.pointer (some ⟨b,0,none⟩),v, .int .i64 (n:Int)] w (fX b (n*30) w):=by
 obtain ⟨i0,hi,hz0,hz1,hz2⟩:=info_parts ij;obtain ⟨g,f,m,c,U,rfl,h1,h2,gQ,dV,hU,hP⟩:=hk;have dK:=ht.lt;have HU:=Lib.hid (λ(w':World) (hs:af b w w') (j:Nat) (hj:j<m)=>show (w'.cell? ⟨g,f+j*11,none⟩=some (.string (U j).nm)/\w'.cell? ⟨g,f+j*11+1,none⟩=some (.int .i64 (U j).op)/\w'.cell? ⟨g,f+j*11+2,none⟩=some (.slice (U j).a1 (U j).n1 (U j).c1)/\w'.cell? ⟨g,f+j*11+3,none⟩=some (.slice (U j).a2 (U j).n2 (U j).c2)/\w'.cell? ⟨g,f+j*11+4,none⟩=some (.int .i64 (U j).mn)/\w'.cell? ⟨g,f+j*11+5,none⟩=some (.int .i64 (U j).mx)/\w'.cell? ⟨g,f+j*11+6,none⟩=some (.bool (U j).wh)/\w'.cell? ⟨g,f+j*11+7,none⟩=some (.int .i64 (U j).ck)/\w'.cell? ⟨g,f+j*11+8,none⟩=some (.int .i64 (U j).en)/\w'.cell? ⟨g,f+j*11+9,none⟩=some (.slice (U j).a3 (U j).n3 (U j).c3)/\w'.cell? ⟨g,f+j*11+10,none⟩=some (.int .i64 (U j).nr)) from
  ⟨(hs.cell gQ dV).trans (hU j hj 0 (by omega)),(hs.cell gQ dV).trans (hU j hj 1 (by omega)),(hs.cell gQ dV).trans (hU j hj 2 (by omega)),(hs.cell gQ dV).trans (hU j hj 3 (by omega)),(hs.cell gQ dV).trans (hU j hj 4 (by omega)),(hs.cell gQ dV).trans (hU j hj 5 (by omega)),(hs.cell gQ dV).trans (hU j hj 6 (by omega)),(hs.cell gQ dV).trans (hU j hj 7 (by omega)),(hs.cell gQ dV).trans (hU j hj 8 (by omega)),(hs.cell gQ dV).trans (hU j hj 9 (by omega)),(hs.cell gQ dV).trans (hU j hj 10 (by omega))⟩)
 have HM:=Lib.hid (λ(w':World) (hs:af b w w') (htt:az b w') (j:Nat) (hj:j<m)=>show Calls Tryz.prog 24 #[.pointer (some ⟨b,0,none⟩), .agg #[.int .i64 (U j).op, .slice (U j).a1 (U j).n1 (U j).c1, .slice (U j).a2 (U j).n2 (U j).c2, .int .i64 (U j).mn, .int .i64 (U j).mx]] w' (fX b 18 w') from
  iX b 4 18 (U j).pat w' ((hP j hj).later hs) (by omega) htt)
 clear hU hP
 go_enter Tryz.func7,Tryz.ntmps7
 go_wp2_with fail
 go_loopw [7,8] (λv i wr=>∃(k:Nat) (o:List UInt8),k<=n/\i = .int .i64 (k:Int)/\OB 5 w.heap.size v o wr/\o.length<=k*30/\az b wr/\Fr b w wr) (λ_ i _=>n - (intOf i).toNat)
 case atStart=>exact ⟨0,[],by omega,rfl,OB.ic _ _ _,by simp,ht,Fr.refl _ _⟩
 case round=>
  obtain ⟨k,o,hk,rfl,hown,ho,uU,eJ⟩:=hrel;by_cases hlt:k<n
  .have hd:decide ((k:Int)<(n:Int))=true:=decide_eq_true (by omega)
   have iI:decide (k<n)=true:=decide_eq_true hlt;have H0:=Lib.hid (And.intro hown (And.intro ho uU));clear hown ho uU
   go_upto_region 5 with fail
   go_cut [19] from 18 to 68 (λv wx=>∃r:Int,v = .int .i64 r/\0<=r/\r<6/\az b wx/\Fr b wr wx)
   case first=>
    go_wp2_with fail;refine (bB b _ _ (by omega) (by omega) H0.out.2.2).mono ?_
    rintro e w1 ⟨r,rfl,Ha,kI,kr,gI⟩;go_wp2_with fail
    go_meet
    exact ⟨r,rfl,Ha,kI,kr,gI⟩
   case rest=>
    obtain ⟨r,rfl,Ha,kI,kr,gI⟩:=hcut;obtain ⟨hown,ho,-⟩:=H0.out;have hown1:=hown.fr gI dK;have Pj:=eJ.trans gI;have Wj:=Pj.size;obtain ⟨W1,hW1⟩:∃W1:World,W1=wc:=⟨_,rfl⟩;rw[<-hW1]at kr gI hown1 Pj Wj|-;clear hW1 hown gI eJ
    apply_assumption
    go_cut [7] from 18 to 68 (λv wx=>∃(o:List UInt8),OB 5 w.heap.size v o wx/\o.length<=k*30+26/\az b wx/\Fr b w wx)
    case first=>
     have hr:r=0\/r=1\/2<=r:=by omega
     rcases hr with rfl | rfl | lu
     .go_wp2_with fail;refine (bB b _ _ (by omega) (by omega) kr).mono ?_
      rintro e w2 ⟨q,rfl,tH,hq1,lH,eg⟩;obtain ⟨qn,rfl⟩:∃qn:Nat,q=(qn:Int):=⟨q.toNat,by omega⟩
      go_wp2_with fail;refine (KD b qn _ (by omega) lH).mono ?_
      rintro e w3 ⟨v3,l3,rfl,Ry,XE,FC,oT⟩;have bZ:=(hown1.fr eg dK).fr oT dK;have ae6:=(Pj.trans eg).trans oT;have D4:=ae6.size;go_wp2_with (at_builtin;refine tJ Tryz.underlying28 hi hz0 hz1 hz2 _ _ _ _ _ _ _ _ rfl rfl rfl rfl bZ XE (by omega) D4 ?_;intro v4 w4 eS ox)
      go_meet
      exact ⟨_,eS,by rw[List.length_append];omega,FC.fW ox dK,ae6.then ox⟩
     .go_wp2_with fail;refine (bB b _ _ (by omega) (by omega) (kr.below ((Below.refl _ _).alloc (Nat.le_refl _) _))).mono ?_
      rintro e w2 ⟨q,rfl,tH,hq1,lH,eg⟩;obtain ⟨t,htl,htc⟩:=KE W1 9 q.toNat (by omega)
      have Li:Fr b W1 w2:=(Fr.aa ((Below.refl _ _).alloc (Nat.le_refl _) _)).trans eg;have avf:=(World.cell?_of_block (a:=⟨W1.heap.size,q.toNat,none⟩) (eg.block W1.heap.size (by simp) (by intro e;injection e;omega))).trans htc
      have aQ:=hown1.fr Li dK;have JL:=Pj.trans Li;have hzB:=JL.size;have hq7:q.toNat<7:=by omega
      go_wp2_with (at_builtin;refine LL Tryz.underlying28 Tryz.underlying9 hi hz0 hz1 hz2 _ _ _ _ t _ rfl rfl rfl rfl aQ (by omega) hzB ?_;intro v4 w4 eS ox)
      go_meet
      exact ⟨_,eS,by rw[List.length_append,aB];omega,lH.fW ox dK,JL.then ox⟩
     .have hb0:(r == 0)=false:=by simpa using (show ¬r=0 by omega)
      have hb1:(r == 1)=false:=by simpa using (show ¬r=1 by omega)
      have hd0:decide (r=0)=false:=decide_eq_false (by omega)
      have hd1:decide (r=1)=false:=decide_eq_false (by omega)
      go_wp2_with fail;refine (bB b _ _ (by omega) (by omega) kr).mono ?_
      rintro e w2 ⟨q,rfl,tH,hq1,lH,eg⟩;have ZX:q.toNat<m:=by omega
      have Tb:=Pj.trans eg;obtain ⟨q0,q1,q2,q3,q4,q5,q6,q7,q8,q9,CE⟩:=HU.out w2 (af.dH Tb) q.toNat ZX;have hzB:=Tb.size;have ae7:=hown1.fr eg dK
      go_upto_region 7 with fail
      obtain ⟨WK,P0⟩:∃WK,w2.alloc (Obj.cells #[.string (U q.toNat).nm, .int .i64 (U q.toNat).op, .slice (U q.toNat).a1 (U q.toNat).n1 (U q.toNat).c1, .slice (U q.toNat).a2 (U q.toNat).n2 (U q.toNat).c2, .int .i64 (U q.toNat).mn, .int .i64 (U q.toNat).mx, .bool (U q.toNat).wh, .int .i64 (U q.toNat).ck, .int .i64 (U q.toNat).en, .slice (U q.toNat).a3 (U q.toNat).n3 (U q.toNat).c3, .int .i64 (U q.toNat).nr] 44)=WK:=⟨_,rfl⟩;rw[P0];have vW:Below w2.heap.size w2 WK:=by rw[<-P0];exact (Below.refl _ _).alloc (Nat.le_refl _) _
      have hzk:WK.heap.size=w2.heap.size+1:=by rw[<-P0];simp
      have k1:WK.cell? ⟨w2.heap.size,1,none⟩=some (.int .i64 (U q.toNat).op):=by rw[<-P0,World.cell?_alloc_mark];rfl
      have k2:WK.cell? ⟨w2.heap.size,2,none⟩=some (.slice (U q.toNat).a1 (U q.toNat).n1 (U q.toNat).c1):=by rw[<-P0,World.cell?_alloc_mark];rfl
      have k3:WK.cell? ⟨w2.heap.size,3,none⟩=some (.slice (U q.toNat).a2 (U q.toNat).n2 (U q.toNat).c2):=by rw[<-P0,World.cell?_alloc_mark];rfl
      have k4:WK.cell? ⟨w2.heap.size,4,none⟩=some (.int .i64 (U q.toNat).mn):=by rw[<-P0,World.cell?_alloc_mark];rfl
      have k5:WK.cell? ⟨w2.heap.size,5,none⟩=some (.int .i64 (U q.toNat).mx):=by rw[<-P0,World.cell?_alloc_mark];rfl
      have k7:WK.cell? ⟨w2.heap.size,7,none⟩=some (.int .i64 (U q.toNat).ck):=by rw[<-P0,World.cell?_alloc_mark];rfl
      have xD:=lH.below vW;have Sq:=Tb.then (vW.mono Tb.size);have ae8:=ae7.fr (Fr.aa (b:=b) vW) dK;clear P0 q0 q1 q2 q3 q4 q5 q6 q7 q8 q9 CE;have MB:=Lib.hid (HM.out WK (af.dH Sq) xD q.toNat ZX);generalize (U q.toNat).op=uop at *;generalize (U q.toNat).ck=uck at *;generalize (U q.toNat).a1=ua1 at *;generalize (U q.toNat).n1=un1 at *;generalize (U q.toNat).c1=uc1 at *;generalize (U q.toNat).a2=ua2 at *;generalize (U q.toNat).n2=un2 at *;generalize (U q.toNat).c2=uc2 at *;generalize (U q.toNat).mn=umn at *;generalize (U q.toNat).mx=umx at *;clear HM HU;have K7:=Lib.hid k7;clear k7;go_wp2_with fail;refine MB.out.mono ?_;rintro e w3 ⟨v3,l3,rfl,Ry,XE,FC,oT⟩;have k7':w3.cell? ⟨w2.heap.size,7,none⟩=some (.int .i64 uck):=(World.cell?_of_block (a:=⟨w2.heap.size,7,none⟩) (oT.block w2.heap.size (by omega) (by intro e;injection e;omega))).trans K7.out
      have amt:=Sq.trans oT;have bZ:=ae8.fr oT dK;obtain ⟨A3,n3,c3,rfl⟩:=XE.slice;have hcv:=XE.conv (P:=Tryz.prog) (T:=28) (d:=9) Tryz.underlying28 Tryz.underlying5 Tryz.underlying9;clear k1 k2 k3 k4 k5 MB;go_wp2_with fail;refine (zZ uck (bs l3) w3 (by rw[dj];omega)).mono ?_
      rintro e w4 ⟨rfl,ox⟩;rw[oo];have UD:=Pg uck l3;generalize hcq:jK uck l3=cq at UD|-;obtain ⟨x,y⟩:=cq;clear hcq hcv k7'
      dsimp only at UD|-
      have ae9:Fr b w3 w4:=Fr.aa ox;have zL:=amt.trans ae9;have eS:=bZ.fr ae9 dK;have hv4:=XE.below ox;have ht4:=FC.below ox;have hzC:=zL.size;by_cases hy:y=0
      .subst hy;go_wp2_with fail;refine (bB b _ _ (by omega) (by omega) ht4).mono ?_
       rintro e w5 ⟨z,rfl,acT,avj,ht5,SI⟩;have Tc:=zL.trans SI;have lD:=eS.fr SI dK;have hzD:=Tc.size;by_cases Cl:z=0
       .subst Cl;have hcv:=λw=>Lib.run_convert_string_bytes (P:=Tryz.prog) w 9 28 5 (bs x) Tryz.underlying9 Tryz.underlying28 Tryz.underlying5;obtain ⟨W6,C6,B6,sA,hC6,hB6,Ck,amu,avl⟩:=RB.names w5 5 (bs x)
        go_upto_region 11 with fail
        rw[<-sA,<-hC6,<-hB6];have rh:Below w5.heap.size w5 W6:=hB6▸amu;have Ur:=Tc.then (rh.mono Tc.size);have Cw:=lD.fr (Fr.aa (b:=b) rh) dK;have ht6:=ht5.below rh;have hzE:=Ur.size;rw[oo]at Ck;have hsx:(bs x).size=x.length:=dj _;clear hcv sA hC6;go_wp2_with (at_builtin;refine YC Tryz.underlying28 hi hz0 hz1 hz2 _ _ _ _ _ B6 _ _ _ rfl rfl rfl rfl hsx Cw Ck (by omega) hzE ?_;intro v7 w7 DT qs)
        go_meet
        exact ⟨_,DT,by rw[List.length_append];omega,ht6.fW qs dK,Ur.then qs⟩
       .have hzb:(z == 0)=false:=by simpa using Cl
        have R7:decide (z=0)=false:=decide_eq_false Cl;have hv5:=hv4.fr SI (by omega)
        go_wp2_with (at_builtin;refine tJ Tryz.underlying28 hi hz0 hz1 hz2 _ _ _ _ _ _ _ _ rfl rfl rfl rfl lD hv5 (by omega) hzD ?_;intro v7 w7 DT qs)
        go_meet
        exact ⟨_,DT,by rw[List.length_append];omega,ht5.fW qs dK,Tc.then qs⟩
      .have KX:(y == 0)=false:=by simpa using hy
       have hyd:decide (y=0)=false:=decide_eq_false hy;go_wp2_with (at_builtin;refine tJ Tryz.underlying28 hi hz0 hz1 hz2 _ _ _ _ _ _ _ _ rfl rfl rfl rfl eS hv4 (by omega) hzC ?_;intro v7 w7 DT qs)
       go_meet
       exact ⟨_,DT,by rw[List.length_append];omega,ht4.fW qs dK,zL.then qs⟩
    case rest=>
     obtain ⟨o1,aQ,zj,lH,eg⟩:=hcut;have avp:=eg.size
     apply_assumption
     go_wp2_with fail;refine (bB b _ _ (by omega) (by omega) lH).mono ?_
     rintro e w3 ⟨q,rfl,tH,hq1,FC,oT⟩;have bZ:=aQ.fr oT dK;have zL:=eg.trans oT;by_cases hq:0<q
     .have hdq:decide (0<q)=true:=decide_eq_true hq;go_wp2_with fail;refine (bB b _ _ (by omega) (by omega) FC).mono ?_
      rintro e w4 ⟨p,rfl,hp0,hp1,ht4,SI⟩;have eS:=bZ.fr SI dK;have Ur:=zL.trans SI;have hz6:=Ur.size;obtain ⟨u,c,-,lQ,nP,tG,ED⟩:=pO Tryz.underlying9 ⟨#[32,10,61,58]⟩ p.toNat (show p.toNat<4 by omega) .i64 p (by omega)
      go_wp2_with (at_builtin;refine qP Tryz.underlying28 hi hz0 hz1 hz2 _ _ _ _ _ u _ rfl rfl rfl rfl eS lQ.out (by omega) hz6 ?_;intro v1 w5 lD gH _ _)
      go_roundw
      case rel=>exact ⟨k+1,_,by omega,by go_num,lD,by rw[List.length_append];simp;omega,ht4.fW gH dK,Ur.then gH⟩
      case measure=>simp[intOf];omega
     .have hdq:decide (0<q)=false:=decide_eq_false hq;go_wp2_with fail;go_roundw
      case rel=>exact ⟨k+1,o1,by omega,by go_num,bZ,by omega,FC,zL⟩
      case measure=>simp[intOf];omega
  .obtain rfl:k=n:=by omega
   have hd:decide ((k:Int)<(k:Int))=false:=decide_eq_false (by omega)
   have iI:decide (k<k)=false:=decide_eq_false (by omega)
   go_wp2_with fail;go_ret;exact ⟨_,o,rfl,ho,hown,uU,eJ⟩
end
end Go.Proofs.YtdmoogjddmdmbaaGreatDoor
