/- Walks. -/
import Derived.Test.YtdmoogjddmdmbaaGreatDoorX13
import Derived.Test.YtdmoogjddmdmbaaGreatDoorX01
import Derived.Test.YtdmoogjddmdmbaaGreatDoorX16
import Derived.Test.YtdmoogjddmdmbaaGreatDoorX02
import Derived.Test.YtdmoogjddmdmbaaGreatDoorX11
import Derived.Test.YtdmoogjddmdmbaaGreatDoorX08
import Derived.Deep.WholeRow
import Derived.Laws.Rows
import Derived.BigRegion
import Derived.Test.YtdmoogjddmdmbaaGreatDoorX05
import Derived.Test.YtdmoogjddmdmbaaGreatDoorX17
set_option maxRecDepth 100000
set_option maxHeartbeats 16000000
set_option linter.unusedVariables false
set_option linter.unusedSimpArgs false
namespace Go.Proofs.YtdmoogjddmdmbaaGreatDoor
open Go.RowKit
def Ur(n:Nat):List Value:=[.int .i64 (n:Int)]
theorem LF:kz Ur 1:=⟨O,λ_=>rfl,λx u hu=>by simp[Ur]at hu;subst hu;rfl⟩
def eZ(w:World)(v:Value)(l:List Nat):Prop:=∃A c,v=.slice A l.length c/\(l.length<=c/\c<=9223372036854775807)/\(l=[]\/∃g f,A=some ⟨g,f,none⟩/\g<w.heap.size/\∀i (h:i<l.length),w.cell? ⟨g,f+i,none⟩=some (.int .u8 (l[i]:Int)))
theorem eZ.later{w w':World}{v:Value}{l:List Nat}(h:eZ w v l)(hb:Below w.heap.size w w'):eZ w' v l:=by
 obtain ⟨A,c,e,hc,h⟩:=h;refine ⟨A,c,e,hc,h.imp id ?_⟩;rintro ⟨g,f,h1,hg,hcell⟩;exact ⟨g,f,h1,Nat.lt_of_lt_of_le hg hb.size,λi hi=>(hb.cl g (f+i) hg).trans (hcell i hi)⟩
def Fw(l:List Nat)(w:World)(e:Ending)(w':World):Prop:=∃rv,e=.returned rv/\OR 3 1 Ur w.heap.size rv l w'/\Below w.heap.size w w'
structure Us (w:World) (ve va v:Value) (o:List Nat) (wr:World):Prop where
 own:OR 3 1 Ur (w.heap.size+1) v o wr
 eP:Below w.heap.size w wr
 siz:w.heap.size+1<=wr.heap.size
 box:wr.heap[w.heap.size]?=some (.cells #[ve,va] 93 (0,0))
theorem Us.next{w wr w':World}{ve va v v':Value}{o o':List Nat}(h:Us w ve va v o wr)(hown:OR 3 1 Ur (w.heap.size+1) v' o' w')(hb:Below (w.heap.size+1) wr w'):Us w ve va v' o' w':=
 ⟨hown,h.eP.trans (hb.mono Y),Nat.le_trans h.siz hb.size,(hb.block _ Y).trans h.box⟩
theorem Us.later{w wr w':World}{ve va v:Value}{o:List Nat}(h:Us w ve va v o wr)(hb:Below wr.heap.size wr w'):Us w ve va v o w':=
 h.next (h.own.later hb) (hb.mono h.siz)
def RhI(m:Mc)(bs:List Nat)(R:List Nat)(o:List Nat)(sx:Int)(k:Nat):Prop:=(sx=-1/\o=R)\/∃s:Nat,sx=(s:Int)/\s<m.ed.length/\k<=bs.length/\o++gh m (bs.drop k) s k=R
theorem Ou{m:Mc}{bs R o o':List Nat}{s k:Nat}{b:Bool}(hv:pC m)(h:o++gh m (bs.drop k) s k=R)(hb:(m.ac[s]?).getD false=b)(ho:o'=if b=true then o++[k] else o):
  (bs.length<=k->o'=R)/\∀hk:k<bs.length,RhI m bs R o' (Ui m s bs[k]) (k+1):=by
 constructor
 .intro hk;rw[List.drop_eq_nil_of_le hk,gh,hb]at h;rw[ho,<-h]
  cases b <;> simp
 .intro hk;rw[List.drop_eq_getElem_cons hk,gh,hb,<-List.append_assoc]at h;have h2:o++(if b=true then [k] else [])=o':=by rw[ho]; cases b <;> simp
  rw[h2]at h;unfold RhI Ui
  cases ht:bO (bE m s) bs[k] with
  |none=>
   rw[ht]at h;exact .inl ⟨rfl,by simpa using h⟩
  |some t=>
   rw[ht]at h;exact .inr ⟨t,rfl,hv.bJ ht,hk,h⟩
theorem Iy(v vb:Value)(m:Mc)(bs:List Nat)(i:Nat)(w:World)(hm:gH w v m)(hv:pC m)(j9:sF m)(h1:1<=m.ed.length)(hb:eZ w vb bs)(gO:bs.length<=900000)(dV:∀b∈bs,b<256)(hi:i<=bs.length):
  Calls Tryz.prog 94 #[v,vb,.int .i64 (i:Int)] w (Fw (gh m (bs.drop i) 0 i) w):=by
 obtain ⟨ve,va,rfl,he,ha⟩:=id hm;obtain ⟨Ae,ce,rfl,qI,Ht⟩:=he.form;obtain ⟨Aa,ca,rfl,DF,UE⟩:=ha.form;obtain ⟨Ab,cb,rfl,tZ,hbc⟩:=id hb;obtain ⟨n,hn⟩:=ν m.ed.length;have pg:m.ac.length=n:=by rw[hv.len,hn]
 obtain ⟨L,hL⟩:∃n,bs.length=n:=⟨_,rfl⟩;have hnx:=λ(s c:Nat) (W:World) (h:Below w.heap.size w W) (hs:s<m.ed.length)=>JF _ m s c W (hm.later h) hv j9 hs;have Dd:=j9.n;obtain ⟨R,hR⟩:=ν (gh m (bs.drop i) 0 i);rw[hn]at qI Dd hnx;rw[pg]at DF hnx;rw[hL]at tZ gO hi;have HNX:=Z hnx;have HA:=Z ha;have HV:=Z hv;have HBC:=Z hbc;have HN:=Z (H hn pg);have HL:=Z hL;have Pg:Hid (RhI m bs R [] 0 i):=.inr ⟨0,rfl,h1,by rw[hL];exact hi,hR⟩
 have aP:Us w (.slice Ae n ce) (.slice Aa n ca) (.slice none 0 0) [] (w.alloc (.cells #[.slice Ae n ce,.slice Aa n ca] 93)):=⟨OR.km _ _ _,υ.alloc I _,ξ,heap_alloc_new w _⟩;have UT:=Z aP;obtain ⟨i3,Er,hZ,dS,bX⟩:=info_parts gp;have zV:Fw (gh m (bs.drop i) 0 i) w=Fw R w:=by rw[hR]
 rw[zV,hn,pg,hL];clear hnx ha he hv hbc hn pg hL hR aP hm j9 hb h1 zV
 go_enter Tryz.func94,Tryz.ntmps94
 go_wp2_with fail
 go_loopg [7,8,9] (L+1-i) (λq s7 s8 s9 wr=>∃(sx:Int) (k:Nat) (o:List Nat),s8=.int .i64 sx/\s9=.int .i64 (k:Int)/\o.length<=k/\k<=L+1/\q=L+1-k/\Hid (Us w (.slice Ae n ce) (.slice Aa n ca) s7 o wr)/\Hid (RhI m bs R o sx k))
 case atStart=>exact ⟨0,i,[],rfl,rfl,ξ,Y,rfl,UT,Pg⟩
 case round=>
  obtain ⟨sx,k,o,rfl,rfl,hok,hkL,hq,HW,HI⟩:=hrel;have qK:=HW.out.box;obtain ⟨x0,x1⟩:wr.cell? ⟨w.heap.size,0,none⟩=some (.slice Ae n ce)/\wr.cell? ⟨w.heap.size,1,none⟩=some (.slice Aa n ca):=by
   constructor <;> (rw[cell_of_row _ _ _ _ _ _ qK]; rfl)
  have Kc:=HW.out.siz;have hws:w.heap.size<wr.heap.size:=Y;obtain ⟨Ar,cr,rfl⟩:∃A c,u7=.slice A o.length c:=by
   obtain ⟨A,c,e,-⟩:=ar (show wr.ownsRow _ _ _ _ _ _ from HW.out.own);exact ⟨A,c,e⟩
  clear qK;by_cases hsx:sx=-1
  .have hd:decide ((0:Int)<=-1)=false:=O;have HR:Hid (o=R):=by
    rcases HI.out with h|⟨s,h,-⟩
    .exact h.2
    .omega
   subst hsx;clear HI;go_wp2_with fail;go_ret;exact ⟨_,rfl,HR.out▸HW.out.own.mono Y,HW.out.eP⟩
  .obtain ⟨s,ala,j9,sR,Pw⟩:=HI.out.resolve_left (λh=>hsx h.1);subst ala;rw[HN.out.1]at j9;rw[HL.out]at sR;have tj:s<n:=j9;have Y0:decide (s<n)=true:=decide_eq_true tj;have hd:decide ((0:Int)<=(s:Int))=true:=τ;obtain ⟨g0,f0,rfl,-,yP,Yb⟩:=HA.out.at_ (k:=s) (by rw[HN.out.2];exact tj)
   obtain ⟨b,hb⟩:∃b,m.ac[s]'(by rw[HN.out.2];exact tj)=b:=⟨_,rfl⟩
   rw[hb]at Yb;have gL:(m.ac[s]?).getD false=b:=by rw[List.getElem?_eq_getElem (by rw[HN.out.2];exact tj),hb];rfl
   have aeM:=(HW.out.eP.cl g0 (f0+s) yP).trans Yb;have fH:g0<wr.heap.size:=by have:=HW.out.eP.size;omega
   have jG:=Z (λo'=>Ou (o':=o') HV.out Pw gL);clear hsx j9 Pw gL Yb hb HI
   cases b with
   |true=>
    by_cases aU:k<L
    .have hdk:decide (k<L)=true:=decide_eq_true aU;have hne:decide (k=L)=false:=θ;have Yc:decide ((k:Int)=(L:Int))=false:=θ;have alb:(k == L)=false:=ψ;have aeN:((k:Int) == (L:Int))=false:=ψ;have hown:=HW.out.own;go_wp2_with (at_builtin;refine Ha LF Tryz.underlying22 Er hZ dS bX rfl O _ _ _ _ o k _ (w.heap.size+1) rfl rfl rfl rfl rfl hown Y Y ?_;intro v1 w1 hown1 hb1);have lC:=Z (HW.out.next hown1 hb1);have HT:=Z (jG.out (o++[k]) rfl);clear hown hown1 hb1 aeM fH x0 x1 Kc hws;have sR:k<bs.length:=by rw[HL.out];exact aU
     obtain ⟨g,ff,rfl,hg,hcs⟩:=HBC.out.resolve_left (by intro e;rw[e]at sR;simp at sR)
     have PB:=hcs k sR;obtain ⟨c,hc⟩:=ν (bs[k]);rw[hc]at PB;have vD:=HT.out.2 sR;rw[hc]at vD;have CO:=Z vD;have eY:=lC.out.eP;have hb1:=lC.out.box;have hz1:=lC.out.siz;have hd0:∀d':aN w1.heap.size w1,d'.val.cell? ⟨w.heap.size,0,none⟩=some (.slice Ae n ce):=λd'=>by
      rw[cell_of_row _ _ _ _ _ _ ((d'.ah.block w.heap.size Y).trans hb1)];rfl
     have hd1:∀d':aN w1.heap.size w1,d'.val.cell? ⟨w.heap.size,1,none⟩=some (.slice (some ⟨g0,f0,none⟩) n ca):=λd'=>by
      rw[cell_of_row _ _ _ _ _ _ ((d'.ah.block w.heap.size Y).trans hb1)];rfl
     have kc:∀d':aN w1.heap.size w1,w.heap.size<d'.val.heap.size:=λd'=>by have:=d'.ah.size;omega
     have Mv:∀d':aN w1.heap.size w1,d'.val.cell? ⟨g,ff+k,none⟩=some (.int .u8 (c:Int)):=λd'=>((eY.trans (d'.ah.mono eY.size)).cl g (ff+k) hg).trans PB;have hd4:∀d':aN w1.heap.size w1,g<d'.val.heap.size:=λd'=>by have:=d'.ah.size;have:=eY.size;omega
     have aK:∀d':aN w1.heap.size w1,Calls Tryz.prog 122 #[.agg #[.slice Ae n ce,.slice (some ⟨g0,f0,none⟩) n ca],.int .i64 (s:Int),.int .u8 (c:Int)] d'.val λe w'=>e=.returned (.int .i64 (Ui m s c))/\Below d'.val.heap.size d'.val w':=λd'=>HNX.out s c d'.val (eY.trans (d'.ah.mono eY.size)) tj;obtain ⟨x,hx⟩:=ν (Ui m s c);rw[hx]at aK CO;have Ov:=Z aK;clear PB hcs sR hc vD eY hb1 aK hx;refine aq (Below.refl w1 w1) κ κ ?_
     repeat (go_big_quiet_step ((go_at_call 122;exact Calls.bZ I (Ov.out _))))
     refine wpQuiet_nil ?_;intro w2 hw';have ew:Below w1.heap.size w1 w2:=by obtain ⟨d9,rfl⟩:=hw';exact d9.ah
     have wH:=Z (lC.out.later ew);clear hw' hd0 hd1 kc Mv hd4 ew;go_wp2_with fail
     go_roundg (L-k)
     case measure=>omega
     case rel=>exact ⟨x,k+1,o++[k],rfl,by go_num,by (try simp);omega,Y,Y,wH,CO⟩
    .obtain rfl:k=L:=Y;have hdk:decide (k<k)=false:=θ;have hne:decide (k=k)=true:=decide_eq_true rfl;have Yc:decide ((k:Int)=(k:Int))=true:=decide_eq_true rfl;have hown:=HW.out.own;go_wp2_with (at_builtin;refine Ha LF Tryz.underlying22 Er hZ dS bX rfl O _ _ _ _ o k _ (w.heap.size+1) rfl rfl rfl rfl rfl hown Y Y ?_;intro v1 w1 hown1 hb1);have lC:=Z (HW.out.next hown1 hb1);have HT:=Z (jG.out (o++[k]) rfl);clear hown hown1 hb1 aeM fH x0 x1;have HE:=Z (HT.out.1 (Nat.le_of_eq HL.out));go_ret;exact ⟨_,rfl,HE.out▸lC.out.own.mono Y,lC.out.eP⟩
   |false=>
    have lC:=HW;have HT:=Z (jG.out o rfl);by_cases aU:k<L
    .have hdk:decide (k<L)=true:=decide_eq_true aU;have hne:decide (k=L)=false:=θ;have Yc:decide ((k:Int)=(L:Int))=false:=θ;have alb:(k == L)=false:=ψ;have aeN:((k:Int) == (L:Int))=false:=ψ;have sR:k<bs.length:=by rw[HL.out];exact aU
     obtain ⟨g,ff,rfl,hg,hcs⟩:=HBC.out.resolve_left (by intro e;rw[e]at sR;simp at sR)
     have PB:=hcs k sR;obtain ⟨c,hc⟩:=ν (bs[k]);rw[hc]at PB;have vD:=HT.out.2 sR;rw[hc]at vD;have CO:=Z vD;have eY:=lC.out.eP;have hb1:=lC.out.box;have hz1:=lC.out.siz;have hd0:∀d':aN wr.heap.size wr,d'.val.cell? ⟨w.heap.size,0,none⟩=some (.slice Ae n ce):=λd'=>by
      rw[cell_of_row _ _ _ _ _ _ ((d'.ah.block w.heap.size Y).trans hb1)];rfl
     have hd1:∀d':aN wr.heap.size wr,d'.val.cell? ⟨w.heap.size,1,none⟩=some (.slice (some ⟨g0,f0,none⟩) n ca):=λd'=>by
      rw[cell_of_row _ _ _ _ _ _ ((d'.ah.block w.heap.size Y).trans hb1)];rfl
     have kc:∀d':aN wr.heap.size wr,w.heap.size<d'.val.heap.size:=λd'=>by have:=d'.ah.size;omega
     have Mv:∀d':aN wr.heap.size wr,d'.val.cell? ⟨g,ff+k,none⟩=some (.int .u8 (c:Int)):=λd'=>((eY.trans (d'.ah.mono eY.size)).cl g (ff+k) hg).trans PB;have hd4:∀d':aN wr.heap.size wr,g<d'.val.heap.size:=λd'=>by have:=d'.ah.size;have:=eY.size;omega
     have aK:∀d':aN wr.heap.size wr,Calls Tryz.prog 122 #[.agg #[.slice Ae n ce,.slice (some ⟨g0,f0,none⟩) n ca],.int .i64 (s:Int),.int .u8 (c:Int)] d'.val λe w'=>e=.returned (.int .i64 (Ui m s c))/\Below d'.val.heap.size d'.val w':=λd'=>HNX.out s c d'.val (eY.trans (d'.ah.mono eY.size)) tj;obtain ⟨x,hx⟩:=ν (Ui m s c);rw[hx]at aK CO;have Ov:=Z aK;clear PB hcs sR hc vD eY hb1 aK hx;go_wp2_with fail
     try exact absurd (show ((k:Int) == (L:Int))=true by assumption) (by rw[aeN];decide)
     refine aq (Below.refl wr wr) κ κ ?_
     repeat (go_big_quiet_step ((go_at_call 122;exact Calls.bZ I (Ov.out _))))
     refine wpQuiet_nil ?_;intro w2 hw';have ew:Below wr.heap.size wr w2:=by obtain ⟨d9,rfl⟩:=hw';exact d9.ah
     have wH:=Z (lC.out.later ew);clear hw' hd0 hd1 kc Mv hd4 ew;go_wp2_with fail
     go_roundg (L-k)
     case measure=>omega
     case rel=>exact ⟨x,k+1,o,rfl,by go_num,by (try simp);omega,Y,Y,wH,CO⟩
    .obtain rfl:k=L:=Y;have hdk:decide (k<k)=false:=θ;have hne:decide (k=k)=true:=decide_eq_true rfl;have Yc:decide ((k:Int)=(k:Int))=true:=decide_eq_true rfl;have HE:=Z (HT.out.1 (Nat.le_of_eq HL.out));go_wp2_with fail;go_ret;exact ⟨_,rfl,HE.out▸lC.out.own.mono Y,lC.out.eP⟩
theorem Gu(n:Nat)(w:World)(hn:n<=4611686018427387904):Calls Tryz.prog 158 #[.int .i64 (n:Int)] w λe w'=>e=.returned (.int .i64 ((fT n:Nat):Int))/\w'=w:=by
 by_cases h1:n<1
 .have d1:decide ((n:Int)<1)=true:=τ;have hz:fT n=0:=by unfold fT;rw[if_pos (.inl h1)]
  rw[hz]
  go_enter Tryz.func158,Tryz.ntmps158
  go_wp2_with fail;go_ret;exact ⟨rfl,rfl⟩
 have d1:decide ((n:Int)<1)=false:=θ;by_cases h2:1073741824<n
 .have d2:decide (1073741824<(n:Int))=true:=τ;have hz:fT n=0:=by unfold fT;rw[if_pos (.inr h2)]
  rw[hz]
  go_enter Tryz.func158,Tryz.ntmps158
  go_wp2_with fail;go_ret;exact ⟨rfl,rfl⟩
 have d2:decide (1073741824<(n:Int))=false:=θ;obtain ⟨y1,y2,y3,y4⟩:=rk (n:=n) Y Y;have hL:=xE (n:=n) Y Y;have MD:fT n=(Ah 16 (jA n,n*2 ^ (30-jA n))).1:=by unfold fT;rw[if_neg Y]
 have gO:Lib.bitLen (n:Int).toNat=jA n+1:=by rw[Int.toNat_natCast];exact y4
 rw[MD];obtain ⟨y,hy⟩:=ν (jA n);rw[hy]at hL y3 gO|-;obtain ⟨x,hx⟩:=ν (n*2 ^ (30-y));rw[hx]at hL|-;have HX:=Z (H hx hL);have HB:=Z λW=>by have h:=Tryz.bits_Len (n:Int) W Y Y;rw[gO]at h;exact h
 have Bg:wrap64 ((n:Int)*2 ^ (30-y))=(x:Int):=by
  have e:(n:Int)*2 ^ (30-y)=(x:Int):=by rw[<-hx];push_cast;rfl
  rw[e];exact IntWalk.wrap64_in _ (by have:=hL.2;omega)
 clear MD gO y1 y2 y4 hL hx hy
 go_enter Tryz.func158,Tryz.ntmps158
 go_wp2_with fail;refine (HB.out w).mono ?_;rintro e w1 ⟨rfl,rfl⟩;go_wp2_with fail;rw[Bg];clear Bg;go_loopw [3,4,19] (λyv xv iv wr=>∃k y1 x1:Nat,k<=16/\iv=.int .i64 (k:Int)/\yv=.int .i64 (y1:Int)/\xv=.int .i64 (x1:Int)/\Hid (Zx x1/\y1+1<=31*2 ^ k/\Ah (16-k) (y1,x1)=Ah 16 (y,x))/\wr=w1) (λ_ _ iv _=>16 - (intOf iv).toNat)
 case atStart=>exact ⟨0,y,x,Y,rfl,rfl,rfl,⟨HX.out.2,Y,rfl⟩,rfl⟩
 case round=>
  obtain ⟨k,y1,x1,hk,rfl,rfl,rfl,HR,rfl⟩:=hrel;by_cases hlt:k<16
  .have hd:decide ((k:Int)<16)=true:=τ;have cX:decide (k<16)=true:=decide_eq_true hlt;obtain ⟨s1,s2,s3⟩:=Et HR.out.1;have sa:2 ^ k<=2 ^ 15:=Nat.pow_le_pow_right O Y;have Di:=HR.out.2.1;have Ew:Ah (16 - (k+1)) (wM (y1,x1))=Ah 16 (y,x):=by rw[<-HR.out.2.2,show 16-k=(16 - (k+1))+1 by omega];rfl
   have hyk:2*y1+1+1<=31*2 ^ (k+1):=by rw[Nat.pow_succ];omega
   obtain ⟨q,hq⟩:=ν (x1*x1);obtain ⟨d,Q1⟩:=ν (q / 1073741824);have hqi:(x1:Int)*(x1:Int)=(q:Int):=by rw[<-hq];push_cast;rfl
   have hdi:(q:Int).tdiv 1073741824=(d:Int):=by rw[<-Q1];exact Int.ofNat_tdiv q 1073741824
   have cB:wM (y1,x1)=if 2147483648<=d then (2*y1+1,d / 2) else (2*y1,d):=by
    unfold wM;simp only[hq,Q1]
   have cY:=BP (p:=(y1,x1)) HR.out.1;rw[cB]at Ew cY;rw[hq]at s1 s2 s3;rw[Q1]at s1 s2;have hw1:wrap64 (q:Int)=(q:Int):=IntWalk.wrap64_in _ Y;have ew:wrap64 (d:Int)=(d:Int):=IntWalk.wrap64_in _ Y;have yD:wrap64 ((y1:Int)*2)=(y1:Int)*2:=IntWalk.wrap64_in _ Y;have Pv:wrap64 ((y1:Int)*2+1)=(y1:Int)*2+1:=IntWalk.wrap64_in _ Y;have HQ:=Z (H Ew (H cY hyk));have Tj:y1<=2000000:=Y;clear cB Ew cY hyk Di sa hq Q1 s3;by_cases hc:2147483648<=d
   .have ow:decide (2147483648<=(d:Int))=true:=τ;have Wl:decide (2147483648<=d)=true:=decide_eq_true hc;have Ex:=HQ.out;rw[if_pos hc]at Ex;have Ey:=Z Ex;have kc:(d:Int).tdiv 2=((d / 2:Nat):Int):=Int.ofNat_tdiv d 2;obtain ⟨d2,Ez⟩:=ν (d / 2);rw[Ez]at kc;have hw5:wrap64 (d2:Int)=(d2:Int):=IntWalk.wrap64_in _ Y;have HD2:=Z Ez;clear Ex Ez;go_wp2_with fail;go_roundw
    case rel=>exact ⟨k+1,2*y1+1,d2,Y,by go_num,by go_num,by rw[hw5],⟨by rw[<-HD2.out];exact Ey.out.2.1,by have:=Ey.out.2.2;omega,by rw[<-HD2.out];exact Ey.out.1⟩,trivial⟩
    case measure=>exact μ
   .have ow:decide (2147483648<=(d:Int))=false:=θ;have Wl:decide (2147483648<=d)=false:=decide_eq_false hc;have Ex:=HQ.out;rw[if_neg hc]at Ex;have Ey:=Z Ex;clear Ex;go_wp2_with fail;go_roundw
    case rel=>exact ⟨k+1,2*y1,d,Y,by go_num,by go_num,rfl,⟨Ey.out.2.1,by have:=Ey.out.2.2;omega,Ey.out.1⟩,trivial⟩
    case measure=>exact μ
  .obtain rfl:k=16:=Y;have hR:=HR.out.2.2;rw[Nat.sub_self]at hR;have HF:=Z (show (Ah 16 (y,x)).1=y1 by rw[<-hR];rfl)
   clear hR;go_wp2_with fail;go_ret;exact ⟨by rw[HF.out];rfl,rfl⟩
def cR(l:List Nat):List Value:=(List.range 256).map λc=>.int .i64 ((l.count c:Nat):Int)
theorem bA(l:List Nat):(cR l).length=256:=by simp[cR]
theorem kL(l:List Nat)(c:Nat)(hc:c<256):(cR l)[c]?=some (.int .i64 ((l.count c:Nat):Int)):=by
 unfold cR;rw[List.getElem?_map,List.getElem?_range hc];rfl
theorem xG(l:List Nat)(c:Nat)(hc:c<256):cR (l++[c])=(cR l).set c (.int .i64 ((l.count c:Nat)+1:Int)):=by
 refine List.ext_getElem? λi=>?_;by_cases hi:i<256
 .rw[kL _ i hi,List.getElem?_set];by_cases h:c=i
  .subst h;rw[if_pos rfl,if_pos (by rw[bA];exact hc)]
   simp
  .rw[if_neg h,kL _ i hi,List.count_append];simp[List.count_singleton,h]
 .rw[List.getElem?_eq_none (by rw[bA];omega),List.getElem?_eq_none (by rw[List.length_set,bA];omega)]
theorem mC(l:List Nat):∀v∈cR l,v.oneCell'=true:=by
 intro v hv;unfold cR at hv;obtain ⟨c,-,rfl⟩:=List.mem_map.1 hv
 rfl
theorem iK:(Tryz.prog.info? 117).map (λi=>(i.zero,i.size))=some (some (.agg (Array.replicate 256 (.int .i64 0))),256):=κ
theorem BS:cR []=List.replicate 256 (.int .i64 0):=by
 refine List.ext_getElem? λi=>?_;by_cases hi:i<256
 .rw[kL _ i hi,List.getElem?_replicate,if_pos hi];rfl
 .rw[List.getElem?_eq_none (by rw[bA];omega),List.getElem?_eq_none ψ]
theorem y9{W:World}{g:Nat}{old:Array Value}(l:List Value)(h:W.heap[g]?=some (.cells old 117 (0,0)))(ho:old.size=256)(hr:l.length=256)(h1:∀v∈l,v.oneCell'=true):(storeCells ⟨g,0,none⟩ l 0).run Tryz.prog W=.ok () (W.setRow g l.toArray):=by
 have hi:=(zero_of_info iK).2;have:=run_storeVar_row (P:=Tryz.prog) W g 117 117 old l.toArray h (by simp only[List.size_toArray,hr];exact hi) ψ (Array.all_eq_true_iff_forall_mem.2 λv hv=>h1 v (by simpa using hv))
 cases hq:Tryz.prog.info? 117 with
 |none=>simp[hq]at hi
 |some i=>
  have hs:l.length=i.size:=by simp[hq]at hi;omega
  simpa [storeVar,sizeOf,typeInfo,hq,Value.cells,hs] using this
theorem Eu(A:Option Addr)(n c:Nat)(bs:List Nat)(w:World)(hb:eZ w (.slice A n c) bs)(hn:bs.length=n)(dV:∀b∈bs,b<256):Calls Tryz.prog 157 #[.slice A n c] w λe w'=>e=.returned (.agg (cR (if 65536<bs.length then [] else bs)).toArray)/\Below w.heap.size w w':=by
 have Zy:=(zero_of_info iK).1;have rm:=(zero_of_info iK).2;have yx:n<=c/\c<=9223372036854775807:=by
  obtain ⟨A',c',e,h1,-⟩:=hb;injection e with _ e2 e3;omega
 have Ld:(n:Int)<=9223372036854775807:=Y;obtain ⟨RR,Pw⟩:∃R,(if 65536<bs.length then [] else bs)=R:=⟨_,rfl⟩;rw[Pw];have sQ:=Z Pw;have HB:=Z (H hb (H hn dV));clear hb hn dV Pw
 go_enter Tryz.func157,Tryz.ntmps157
 go_upto_region 2 with fail
 refine dD λW0 aP=>?_;have Dk:W0=fN w [(Array.replicate 256 (.int .i64 0),117),(Array.replicate 256 (.int .i64 0),117)]:=by rw[aP];rfl
 have Kr:W0.heap[w.heap.size]?=some (.cells (Array.replicate 256 (.int .i64 0)) 117 (0,0)):=by rw[Dk];exact cJ 0 rfl
 have ME:W0.heap[w.heap.size+1]?=some (.cells (cR []).toArray 117 (0,0)):=by
  have e:(cR []).toArray=Array.replicate 256 (.int .i64 0):=by rw[BS,List.toArray_replicate]
  rw[Dk,e];exact cJ 1 rfl
 have hb0:Below w.heap.size w W0:=by rw[Dk];exact dZ _ _
 clear aP Dk Zy;by_cases pX:65536<n
 .have d:decide (65536<(n:Int))=true:=τ;have H0:=Z (H Kr (H ME hb0));clear Kr ME hb0;go_wp2_with fail;refine wp_load_row 117 (.tmp 3) rfl (w.heap.size+1) rfl 117 (cR []).toArray (0,0) _ H0.out.2.1 Tryz.underlying117 rfl (by simp only[List.size_toArray,bA];exact rm) ?_
  have cB:=y9 (cR []) H0.out.1 ξ (bA _) (mC []);go_wp2_with fail;refine az λWf bY=>?_;have hrow:Wf.heap[w.heap.size]?=some (.cells (cR []).toArray 117 (0,0)):=by rw[bY];exact setRow_heap _ _ _ _ _ _ H0.out.1
  refine bodyPost_ret (v:=.agg (cR []).toArray) (results_cell_row (p:=2) rfl _ _ w.heap.size 117 _ (0,0) _ rfl hrow Tryz.underlying117 rfl (by simp only[List.size_toArray,bA];exact rm)) rfl ?_
  refine ⟨by rw[<-sQ.out,if_pos (by rw[HB.out.2.1];exact pX)],?_⟩
  rw[bY];exact ⟨H0.out.2.2.os,H0.out.2.2.tape,H0.out.2.2.output,by rw[setRow_size];exact H0.out.2.2.size,λk hk=>(setRow_other _ _ _ _ Y).trans (H0.out.2.2.block k hk)⟩
 .have d:decide (65536<(n:Int))=false:=θ;have l1:w.heap.size+1<W0.heap.size:=(γ ME).1;have H0:=Z (H Kr (H ME (H hb0 l1)));clear Kr ME hb0 l1;go_wp2_with fail;go_loopw [12] (λi wr=>∃k:Nat,k<=n/\i=.int .i64 (k:Int)/\Hid (wr.heap[w.heap.size]?=some (.cells (Array.replicate 256 (.int .i64 0)) 117 (0,0))/\wr.heap[w.heap.size+1]?=some (.cells (cR (bs.take k)).toArray 117 (0,0))/\Below w.heap.size w wr)) (λi _=>n - (intOf i).toNat)
  case atStart=>exact ⟨0,Y,rfl,H0.out.1,H0.out.2.1,H0.out.2.2.1⟩
  case round=>
   obtain ⟨k,hk,rfl,HR⟩:=hrel;by_cases hlt:k<n
   .have hd:decide ((k:Int)<(n:Int))=true:=τ;have cX:decide (k<n)=true:=decide_eq_true hlt;have sR:k<bs.length:=by have:=HB.out.2.1;omega
    obtain ⟨A',c',e0,-,eH⟩:=HB.out.1;injection e0 with e1 e2 e3;obtain ⟨g,f,hA,hg,bB⟩:=eH.resolve_left (by rintro rfl;cases sR)
    subst hA;subst e1;have q0:wr.cell? ⟨g,f+k,none⟩=some (.int .u8 ((bs[k]:Nat):Int)):=(HR.out.2.2.cl g (f+k) hg).trans (bB k sR);have uN:bs[k]<256:=HB.out.2.2 _ (List.getElem_mem sR);obtain ⟨x,hx⟩:=ν (bs[k]);rw[hx]at q0 uN;have od:g<wr.heap.size:=Nat.lt_of_lt_of_le hg HR.out.2.2.size;have iY:wr.cell? ⟨w.heap.size+1,x,none⟩=some (.int .i64 (((bs.take k).count x:Nat):Int)):=by
     rw[cell_of_row _ _ _ _ _ _ HR.out.2.1];rw[List.getElem?_toArray,kL _ x uN]
    have MF:wr.frozen? ⟨w.heap.size+1,x,none⟩=false:=frozen_of_row _ _ _ _ _ HR.out.2.1;have zQ:(x:Int)<256:=Y;have ig:(bs.take k).count x<=65536:=by
     have:=List.count_le_length (a:=x) (l:=bs.take k);rw[List.length_take]at this;omega
    obtain ⟨y,hy⟩:=ν ((bs.take k).count x);rw[hy]at iY ig;have hw1:wrap64 ((y:Int)+1)=(y:Int)+1:=IntWalk.wrap64_in _ Y;have lw:w.heap.size+1<wr.heap.size:=(γ HR.out.2.1).1;have HX:=Z (H hx (H hy sR));clear hx hy eH bB;go_wp2_with fail;go_roundw
    case rel=>exact ⟨k+1,Y,by go_num,(Below.heap_setCell _ ⟨w.heap.size+1,x,none⟩ _ _ (by show w.heap.size≠w.heap.size+1;omega)).trans HR.out.1,by
     have h9:=aS HR.out.2.1 x (.int .i64 ((y:Int)+1));rw[show bs.take (k+1)=bs.take k++[x] from by rw[<-HX.out.1];exact List.take_succ_eq_append_getElem HX.out.2.2,xG _ x uN,HX.out.2.1]
     simpa using h9,HR.out.2.2.sc (w.heap.size+1) x (by show w.heap.size<=w.heap.size+1;omega) _⟩
    case measure=>exact μ
   .obtain rfl:k=n:=Y;have hd:decide ((k:Int)<(k:Int))=false:=θ;have cX:decide (k<k)=false:=θ;have tV:bs.take k=bs:=by rw[<-HB.out.2.1,List.take_length]
    have hR:=HR.out;rw[tV]at hR;have za:=Z hR;clear hR tV;go_wp2_with fail;refine wp_load_row 117 (.tmp 3) rfl (w.heap.size+1) rfl 117 (cR bs).toArray (0,0) _ za.out.2.1 Tryz.underlying117 rfl (by simp only[List.size_toArray,bA];exact rm) ?_
    have cB:=y9 (cR bs) za.out.1 ξ (bA _) (mC bs);go_wp2_with fail;refine az λWf bY=>?_;have hrow:Wf.heap[w.heap.size]?=some (.cells (cR bs).toArray 117 (0,0)):=by rw[bY];exact setRow_heap _ _ _ _ _ _ za.out.1
    refine bodyPost_ret (v:=.agg (cR bs).toArray) (results_cell_row (p:=2) rfl _ _ w.heap.size 117 _ (0,0) _ rfl hrow Tryz.underlying117 rfl (by simp only[List.size_toArray,bA];exact rm)) rfl ?_
    refine ⟨by rw[<-sQ.out,if_neg (by rw[HB.out.2.1];exact pX)],?_⟩
    rw[bY];exact ⟨za.out.2.2.os,za.out.2.2.tape,za.out.2.2.output,by rw[setRow_size];exact za.out.2.2.size,λk hk=>(setRow_other _ _ _ _ Y).trans (za.out.2.2.block k hk)⟩
theorem Q0(l:List Nat)(k:Nat)(hk:k<256)(w:World):(Instr.index 117 (.agg (cR l).toArray) (.int .i64 (k:Int))).run Tryz.prog w=.ok (.int .i64 ((l.count k:Nat):Int)) w:=by
 have h:=kL l k hk;have h2:(cR l).toArray[k]?=some (.int .i64 ((l.count k:Nat):Int)):=by rw[List.getElem?_toArray];exact h
 have hs:(cR l).toArray.size=256:=by simp[bA]
 have h3:(cR l)[k]'(by rw[bA];exact hk)=.int .i64 ((l.count k:Nat):Int):=by
  have:=List.getElem?_eq_getElem (l:=cR l) (i:=k) (by rw[bA];exact hk)
  rw[this]at h;injection h
 have hp:(part 3 (cR l).toArray k).run Tryz.prog w=.ok (.int .i64 ((l.count k:Nat):Int)) w:=by
  simp[part,Tryz.isAgg3,h2]
 simp[Instr.index,asIntOf,run_underlying Tryz.underlying117,hs,hk,h2,bA,h3,hp]
theorem Gt{s y k C:Nat}(h:s<=k*C)(hy:y<=C):s+y<=(k+1)*C:=by rw[Nat.succ_mul];exact Nat.add_le_add h hy
theorem MC{s k C:Nat}(h:s<=k*C)(hk:k<=256)(hC:C<=1000000000000):s<=256000000000000:=Nat.le_trans h (Nat.mul_le_mul hk hC)
theorem acD{s y:Nat}(h:s<=256000000000000)(h2:y<=1000000000000):wrap64 (y:Int)=(y:Int)/\wrap64 ((s:Int)+(y:Int))=(s:Int)+(y:Int):=⟨IntWalk.wrap64_in _ Y,IntWalk.wrap64_in _ Y⟩
theorem acE:∃C,C<=1000000000000/\∀len n,n<=65536->lQ len n<=C:=⟨133143920640,O,λlen n h=>QZ h⟩
theorem BR(A:Option Addr)(n c:Nat)(bs:List Nat)(w:World)(hb:eZ w (.slice A n c) bs)(hn:bs.length=n)(dV:∀b∈bs,b<256)(kr:n<=900000):Calls Tryz.prog 126 #[.slice A n c] w λe w'=>e=.returned (.int .i64 ((BQ bs:Nat):Int))/\Below w.heap.size w w':=by
 have HC:=Z (Eu A n c bs w hb hn dV);obtain ⟨R,hR⟩:∃R,(if 65536<bs.length then [] else bs)=R:=⟨_,rfl⟩;rw[hR]at HC;have Ev:∀k,R.count k=cntF bs k:=λk=>by
  rw[<-hR];unfold cntF;by_cases h:65536<bs.length
  .rw[if_pos h,if_pos h];simp
  .rw[if_neg h,if_neg h]
 have hpos:∀k,0<cntF bs k->bs.length<=65536:=λk h=>by
  unfold cntF at h;by_cases h2:65536<bs.length
  .rw[if_pos h2]at h;omega
  .omega
 have HK:=Z (H Ev (H hpos hn));have HIX:=Z λ(k:Nat) (hk:k<256) (W:World)=>by have h:=Q0 R k hk W;rw[Ev k]at h;exact h
 have yx:n<=c/\c<=9223372036854775807:=by
  obtain ⟨A',c',e,h1,-⟩:=hb;injection e with _ e2 e3;omega
 have Ld:(n:Int)<=9223372036854775807:=Y;obtain ⟨M,hM⟩:=ν (BQ bs);rw[hM];have HM:=Z hM;obtain ⟨C,hC⟩:=acE;have My:=Z hC;clear hC;clear hb dV hR Ev hpos hM hn
 go_enter Tryz.func126,Tryz.ntmps126
 go_wp2_with fail;refine HC.out.mono ?_;rintro e w1 ⟨rfl,hb1⟩;have aX:=Z hb1;clear hb1;obtain ⟨AR,hAR⟩:∃a,Value.agg (cR R).toArray=a:=⟨_,rfl⟩;rw[hAR];rw[hAR]at HIX;clear hAR;go_wp2_with fail;go_loopw [3,8] (λsv iv wr=>∃k s:Nat,k<=256/\iv=.int .i64 (k:Int)/\sv=.int .i64 (s:Int)/\Hid (s<=k*C/\s+sP (cntF bs) bs.length (256-k) k=M)/\wr=w1) (λ_ iv _=>256 - (intOf iv).toNat)
 case atStart=>exact ⟨0,0,Y,rfl,rfl,⟨Nat.zero_le _,by rw[Nat.zero_add];exact HM.out⟩,rfl⟩
 case round=>
  obtain ⟨k,s,hk,rfl,rfl,HR,rfl⟩:=hrel;by_cases hlt:k<256
  .have hd:decide ((k:Int)<256)=true:=τ;have cX:decide (k<256)=true:=decide_eq_true hlt;have Dj:=HIX.out k hlt;have cB:sP (cntF bs) bs.length (256-k) k=lQ bs.length (cntF bs k)+sP (cntF bs) bs.length (256 - (k+1)) (k+1):=by rw[show 256-k=(256 - (k+1))+1 by omega];rfl
   have hle:=My.out.2 bs.length _ (nn bs k).1;have bB:=(nn bs k).2;have hp:=HK.out.2.1 k;obtain ⟨q,hq⟩:=ν (cntF bs k);rw[hq]at Dj cB hle bB hp;have hq6:q<=65536:=by rw[<-hq];exact (nn bs k).1
   have zW:=MC HR.out.1 hk My.out.1;by_cases h0:0<q
   .have d0:decide ((0:Int)<(q:Int))=true:=τ;have d0n:decide (0<q)=true:=decide_eq_true h0;have lI:=hp h0;have si:=xF h0 (bB lI) Y;have FL:=y8 bs.length;rw[HK.out.2.2]at si FL hle cB;have L1:=Z λW=>Gu n W Y;have L2:=Z λW=>Gu q W Y;obtain ⟨a,ha⟩:=ν (fT n);obtain ⟨b,hb⟩:=ν (fT q);have mB:lQ n q=q*(a-b):=by unfold lQ;rw[if_pos h0,ha,hb]
    rw[ha]at L1 si FL;rw[hb]at L2 si;rw[mB]at hle cB;obtain ⟨d,hdd⟩:=ν (a-b);rw[hdd]at hle cB;have hw1:wrap64 ((a:Int) - (b:Int))=(d:Int):=by rw[IntWalk.wrap64_in _ Y];omega
    obtain ⟨y,hy⟩:=ν (q*d);rw[hy]at hle cB;have hyi:(q:Int)*(d:Int)=(y:Int):=by rw[<-hy];push_cast;rfl
    have hyC:y<=1000000000000:=Nat.le_trans hle My.out.1;obtain ⟨ew,yD⟩:=acD zW hyC;have bM:=HR.out.2;rw[HK.out.2.2,cB,<-Nat.add_assoc]at bM;have HF:=Z (H (Gt HR.out.1 hle) bM);clear cB hle bB hp hq lI si FL ha hb mB hdd hy bM zW hyC;go_wp2_with fail;refine (L1.out wr).mono ?_;rintro e w2 ⟨rfl,rfl⟩;go_wp2_with fail;refine (L2.out w2).mono ?_;rintro e w3 ⟨rfl,rfl⟩;go_wp2_with fail;go_roundw
    case rel=>exact ⟨k+1,s+y,Y,by go_num,by go_num,⟨HF.out.1,by rw[HK.out.2.2];exact HF.out.2⟩,trivial⟩
    case measure=>exact μ
   .obtain rfl:q=0:=Y;have mB:lQ bs.length 0=0:=by unfold lQ;rw[if_neg O]
    have bM:=HR.out.2;rw[cB,mB,Nat.zero_add]at bM;have HF:=Z (H (Gt (y:=0) HR.out.1 (Nat.zero_le _)) bM);clear cB hle bB hp hq mB bM zW;go_wp2_with fail;go_roundw
    case rel=>exact ⟨k+1,s,Y,by go_num,rfl,⟨HF.out.1,HF.out.2⟩,trivial⟩
    case measure=>exact μ
  .obtain rfl:k=256:=Y;have hR:=HR.out.2;rw[Nat.sub_self,sP,Nat.add_zero]at hR;have HF:=Z hR;clear hR;go_wp2_with fail;go_ret;exact ⟨by rw[<-HF.out];rfl,aX.out⟩
structure Bx (w:World) (a b c d:Value) (wr:World):Prop where
 eP:Below w.heap.size w wr
 siz:w.heap.size+2<=wr.heap.size
 r0:wr.heap[w.heap.size]?=some (.cells #[a,b] 93 (0,0))
 r1:wr.heap[w.heap.size+1]?=some (.cells #[c,d] 93 (0,0))
theorem Yd{n y k:Nat}(h1:2 ^ y<=n)(h2:n<2 ^ (y+1))(hk:k<=y):2 ^ (k+1)<=n↔k<y:=by
 constructor
 .intro h;have h3:2 ^ (k+1)<2 ^ (y+1):=Nat.lt_of_le_of_lt h h2;have:=(Nat.pow_lt_pow_iff_right (a:=2) O).1 h3;omega
 .intro h;exact Nat.le_trans (Nat.pow_le_pow_right O Y) h1
theorem CQ(n:Nat)(w:World)(hn:n<=4611686018427387904):Calls Tryz.prog 65 #[.int .i64 (n:Int)] w λe w'=>e=.returned (.int .i64 ((fT n:Nat):Int))/\w'=w:=by
 by_cases h1:n<1
 .have d1:decide ((n:Int)<1)=true:=τ;have hz:fT n=0:=by unfold fT;rw[if_pos (.inl h1)]
  rw[hz]
  go_enter Tryz.func65,Tryz.ntmps65
  go_wp2_with fail;go_ret;exact ⟨rfl,rfl⟩
 have d1:decide ((n:Int)<1)=false:=θ;by_cases h2:1073741824<n
 .have d2:decide (1073741824<(n:Int))=true:=τ;have hz:fT n=0:=by unfold fT;rw[if_pos (.inr h2)]
  rw[hz]
  go_enter Tryz.func65,Tryz.ntmps65
  go_wp2_with fail;go_ret;exact ⟨rfl,rfl⟩
 have d2:decide (1073741824<(n:Int))=false:=θ;obtain ⟨y1,y2,y3,y4⟩:=rk (n:=n) Y Y;have hL:=xE (n:=n) Y Y;have MD:fT n=(Ah 16 (jA n,n*2 ^ (30-jA n))).1:=by unfold fT;rw[if_neg Y]
 rw[MD];obtain ⟨y,hy⟩:=ν (jA n);rw[hy]at hL y1 y2 y3|-;obtain ⟨x,hx⟩:=ν (n*2 ^ (30-y));rw[hx]at hL|-;have HX:=Z (H hx hL);have aug:n<2147483648:=Y;have HY:=Z (λ(k:Nat) (hk:k<=y)=>Yd y1 y2 hk);have Bg:wrap64 ((n:Int)*2 ^ (30-y))=(x:Int):=by
  have e:(n:Int)*2 ^ (30-y)=(x:Int):=by rw[<-hx];push_cast;rfl
  rw[e];exact IntWalk.wrap64_in _ (by have:=hL.2;omega)
 clear MD y1 y2 y4 hL hx hy
 go_enter Tryz.func65,Tryz.ntmps65
 go_wp2_with fail;go_loopw [3] (λkv wr=>∃k:Nat,k<=y/\kv=.int .i64 (k:Int)/\wr=w) (λkv _=>y - (intOf kv).toNat)
 case atStart=>exact ⟨0,Nat.zero_le _,rfl,rfl⟩
 case round=>
  obtain ⟨k,hk,rfl,rfl⟩:=hrel;have hlt:=HY.out k hk;obtain ⟨P,hP⟩:=ν (2 ^ (k+1));have hPb:P<=2147483648:=by
   have h:=Nat.pow_le_pow_right (n:=2) O (show k+1<=31 by omega)
   rw[hP]at h;exact Nat.le_trans h O
  have RT:wrap64 (2*2 ^ k)=(P:Int):=by
   have e:(2:Int)*2 ^ k=(P:Int):=by rw[<-hP,Nat.pow_succ];push_cast;omega
   rw[e];exact IntWalk.wrap64_in _ Y
  rw[hP]at hlt;clear hP;by_cases hc:k<y
  .have hle:=hlt.2 hc;have dc:decide ((P:Int)<=(n:Int))=true:=τ;have dcn:decide (P<=n)=true:=decide_eq_true hle;have hw:IntKind.i64.wrap ((k:Int)+1)=(k:Int)+1:=IntWalk.i64_in _ Y;have ew:wrap64 ((k:Int)+1)=(k:Int)+1:=IntWalk.wrap64_in _ Y;clear hlt hle;go_wp2_with fail;go_roundw
   case rel=>exact ⟨k+1,Y,by go_num,trivial⟩
   case measure=>exact μ
  .obtain rfl:k=y:=Y;have hle:¬P<=n:=λh=>hc (hlt.1 h);have dc:decide ((P:Int)<=(n:Int))=false:=θ;have dcn:decide (P<=n)=false:=decide_eq_false hle;clear hlt hle hc hk;go_wp2_with fail;rw[Bg];clear Bg;go_loopw [4,5,6] (λxv yv iv v=>∃k1 y1 x1:Nat,k1<=16/\iv=.int .i64 (k1:Int)/\yv=.int .i64 (y1:Int)/\xv=.int .i64 (x1:Int)/\Hid (Zx x1/\y1+1<=31*2 ^ k1/\Ah (16-k1) (y1,x1)=Ah 16 (k,x))/\v=wr) (λ_ _ iv _=>16 - (intOf iv).toNat)
   case atStart=>exact ⟨0,k,x,Y,rfl,rfl,rfl,⟨HX.out.2,Y,rfl⟩,rfl⟩
   case round=>
    obtain ⟨k1,y1,x1,hk,rfl,rfl,rfl,HR,rfl⟩:=hrel;by_cases hlt:k1<16
    .have hd:decide ((k1:Int)<16)=true:=τ;have cX:decide (k1<16)=true:=decide_eq_true hlt;obtain ⟨s1,s2,s3⟩:=Et HR.out.1;have sa:2 ^ k1<=2 ^ 15:=Nat.pow_le_pow_right O Y;have Di:=HR.out.2.1;have Ew:Ah (16 - (k1+1)) (wM (y1,x1))=Ah 16 (k,x):=by rw[<-HR.out.2.2,show 16-k1=(16 - (k1+1))+1 by omega];rfl
     have hyk:2*y1+1+1<=31*2 ^ (k1+1):=by rw[Nat.pow_succ];omega
     obtain ⟨q,hq⟩:=ν (x1*x1);obtain ⟨d,Q1⟩:=ν (q / 1073741824);have hqi:(x1:Int)*(x1:Int)=(q:Int):=by rw[<-hq];push_cast;rfl
     have hw1:wrap64 (q:Int)=(q:Int):=IntWalk.wrap64_in _ Y;have hdi:(q:Int) / 1073741824=(d:Int):=by rw[<-Q1];exact Int.natCast_ediv q 1073741824
     have cB:wM (y1,x1)=if 2147483648<=d then (2*y1+1,d / 2) else (2*y1,d):=by
      unfold wM;simp only[hq,Q1]
     have cY:=BP (p:=(y1,x1)) HR.out.1;rw[cB]at Ew cY;rw[hq]at s1 s2 s3;rw[Q1]at s1 s2;have yD:wrap64 ((y1:Int)*2)=(y1:Int)*2:=IntWalk.wrap64_in _ Y;have Pv:wrap64 ((y1:Int)*2+1)=(y1:Int)*2+1:=IntWalk.wrap64_in _ Y;have HQ:=Z (H Ew (H cY hyk));have Tj:y1<=2000000:=Y;clear cB Ew cY hyk Di sa hq Q1 s3;by_cases hc:2147483648<=d
     .have ow:decide (2147483648<=(d:Int))=true:=τ;have Wl:decide (2147483648<=d)=true:=decide_eq_true hc;have Ex:=HQ.out;rw[if_pos hc]at Ex;have Ey:=Z Ex;have kc:(d:Int) / 2=((d / 2:Nat):Int):=(Int.natCast_ediv d 2).symm;obtain ⟨d2,Ez⟩:=ν (d / 2);rw[Ez]at kc;have HD2:=Z Ez;clear Ex Ez;go_wp2_with fail;go_roundw
      case rel=>exact ⟨k1+1,2*y1+1,d2,Y,by go_num,by go_num,rfl,⟨by rw[<-HD2.out];exact Ey.out.2.1,by have:=Ey.out.2.2;omega,by rw[<-HD2.out];exact Ey.out.1⟩,trivial⟩
      case measure=>exact μ
     .have ow:decide (2147483648<=(d:Int))=false:=θ;have Wl:decide (2147483648<=d)=false:=decide_eq_false hc;have Ex:=HQ.out;rw[if_neg hc]at Ex;have Ey:=Z Ex;clear Ex;go_wp2_with fail;go_roundw
      case rel=>exact ⟨k1+1,2*y1,d,Y,by go_num,by go_num,rfl,⟨Ey.out.2.1,by have:=Ey.out.2.2;omega,Ey.out.1⟩,trivial⟩
      case measure=>exact μ
    .obtain rfl:k1=16:=Y;have hR:=HR.out.2.2;rw[Nat.sub_self]at hR;have HF:=Z (show (Ah 16 (k,x)).1=y1 by rw[<-hR];rfl)
     clear hR;go_wp2_with fail;go_ret;exact ⟨by rw[HF.out];rfl,rfl⟩
theorem CR(A:Option Addr)(n c:Nat)(bs:List Nat)(w:World)(hb:eZ w (.slice A n c) bs)(hn:bs.length=n)(dV:∀b∈bs,b<256):Calls Tryz.prog 64 #[.slice A n c] w λe w'=>e=.returned (.agg (cR (if 65536<bs.length then [] else bs)).toArray)/\Below w.heap.size w w':=by
 have Zy:=(zero_of_info iK).1;have rm:=(zero_of_info iK).2;have yx:n<=c/\c<=9223372036854775807:=by
  obtain ⟨A',c',e,h1,-⟩:=hb;injection e with _ e2 e3;omega
 have Ld:(n:Int)<=9223372036854775807:=Y;obtain ⟨RR,Pw⟩:∃R,(if 65536<bs.length then [] else bs)=R:=⟨_,rfl⟩;rw[Pw];have sQ:=Z Pw;have HB:=Z (H hb (H hn dV));clear hb hn dV Pw
 go_enter Tryz.func64,Tryz.ntmps64
 go_upto_region 2 with fail
 refine dD λW0 aP=>?_;have Dk:W0=fN w [(Array.replicate 256 (.int .i64 0),117),(Array.replicate 256 (.int .i64 0),117)]:=by rw[aP];rfl
 have Kr:W0.heap[w.heap.size]?=some (.cells (Array.replicate 256 (.int .i64 0)) 117 (0,0)):=by rw[Dk];exact cJ 0 rfl
 have ME:W0.heap[w.heap.size+1]?=some (.cells (cR []).toArray 117 (0,0)):=by
  have e:(cR []).toArray=Array.replicate 256 (.int .i64 0):=by rw[BS,List.toArray_replicate]
  rw[Dk,e];exact cJ 1 rfl
 have hb0:Below w.heap.size w W0:=by rw[Dk];exact dZ _ _
 clear aP Dk Zy;by_cases pX:65536<n
 .have d:decide (65536<(n:Int))=true:=τ;have H0:=Z (H Kr (H ME hb0));clear Kr ME hb0;go_wp2_with fail;refine wp_load_row 117 (.tmp 3) rfl (w.heap.size+1) rfl 117 (cR []).toArray (0,0) _ H0.out.2.1 Tryz.underlying117 rfl (by simp only[List.size_toArray,bA];exact rm) ?_
  have cB:=y9 (cR []) H0.out.1 ξ (bA _) (mC []);go_wp2_with fail;refine az λWf bY=>?_;have hrow:Wf.heap[w.heap.size]?=some (.cells (cR []).toArray 117 (0,0)):=by rw[bY];exact setRow_heap _ _ _ _ _ _ H0.out.1
  refine bodyPost_ret (v:=.agg (cR []).toArray) (results_cell_row (p:=2) rfl _ _ w.heap.size 117 _ (0,0) _ rfl hrow Tryz.underlying117 rfl (by simp only[List.size_toArray,bA];exact rm)) rfl ?_
  refine ⟨by rw[<-sQ.out,if_pos (by rw[HB.out.2.1];exact pX)],?_⟩
  rw[bY];exact ⟨H0.out.2.2.os,H0.out.2.2.tape,H0.out.2.2.output,by rw[setRow_size];exact H0.out.2.2.size,λk hk=>(setRow_other _ _ _ _ Y).trans (H0.out.2.2.block k hk)⟩
 .have d:decide (65536<(n:Int))=false:=θ;have l1:w.heap.size+1<W0.heap.size:=(γ ME).1;have H0:=Z (H Kr (H ME (H hb0 l1)));clear Kr ME hb0 l1;go_wp2_with fail;go_loopw [4] (λi wr=>∃k:Nat,k<=n/\i=.int .i64 (k:Int)/\Hid (wr.heap[w.heap.size]?=some (.cells (Array.replicate 256 (.int .i64 0)) 117 (0,0))/\wr.heap[w.heap.size+1]?=some (.cells (cR (bs.take k)).toArray 117 (0,0))/\Below w.heap.size w wr)) (λi _=>n - (intOf i).toNat)
  case atStart=>exact ⟨0,Y,rfl,H0.out.1,H0.out.2.1,H0.out.2.2.1⟩
  case round=>
   obtain ⟨k,hk,rfl,HR⟩:=hrel;by_cases hlt:k<n
   .have hd:decide ((k:Int)<(n:Int))=true:=τ;have cX:decide (k<n)=true:=decide_eq_true hlt;have sR:k<bs.length:=by have:=HB.out.2.1;omega
    obtain ⟨A',c',e0,-,eH⟩:=HB.out.1;injection e0 with e1 e2 e3;obtain ⟨g,f,hA,hg,bB⟩:=eH.resolve_left (by rintro rfl;cases sR)
    subst hA;subst e1;have q0:wr.cell? ⟨g,f+k,none⟩=some (.int .u8 ((bs[k]:Nat):Int)):=(HR.out.2.2.cl g (f+k) hg).trans (bB k sR);have uN:bs[k]<256:=HB.out.2.2 _ (List.getElem_mem sR);obtain ⟨x,hx⟩:=ν (bs[k]);rw[hx]at q0 uN;have od:g<wr.heap.size:=Nat.lt_of_lt_of_le hg HR.out.2.2.size;have iY:wr.cell? ⟨w.heap.size+1,x,none⟩=some (.int .i64 (((bs.take k).count x:Nat):Int)):=by
     rw[cell_of_row _ _ _ _ _ _ HR.out.2.1];rw[List.getElem?_toArray,kL _ x uN]
    have MF:wr.frozen? ⟨w.heap.size+1,x,none⟩=false:=frozen_of_row _ _ _ _ _ HR.out.2.1;have zQ:(x:Int)<256:=Y;have ig:(bs.take k).count x<=65536:=by
     have:=List.count_le_length (a:=x) (l:=bs.take k);rw[List.length_take]at this;omega
    obtain ⟨y,hy⟩:=ν ((bs.take k).count x);rw[hy]at iY ig;have hw1:wrap64 ((y:Int)+1)=(y:Int)+1:=IntWalk.wrap64_in _ Y;have lw:w.heap.size+1<wr.heap.size:=(γ HR.out.2.1).1;have HX:=Z (H hx (H hy sR));clear hx hy eH bB e2 e3;go_wp2_with fail;go_roundw
    case rel=>exact ⟨k+1,Y,by go_num,(Below.heap_setCell _ ⟨w.heap.size+1,x,none⟩ _ _ (by show w.heap.size≠w.heap.size+1;omega)).trans HR.out.1,by
     have h9:=aS HR.out.2.1 x (.int .i64 ((y:Int)+1));rw[show bs.take (k+1)=bs.take k++[x] from by rw[<-HX.out.1];exact List.take_succ_eq_append_getElem HX.out.2.2,xG _ x uN,HX.out.2.1]
     simpa using h9,HR.out.2.2.sc (w.heap.size+1) x (by show w.heap.size<=w.heap.size+1;omega) _⟩
    case measure=>exact μ
   .obtain rfl:k=n:=Y;have hd:decide ((k:Int)<(k:Int))=false:=θ;have cX:decide (k<k)=false:=θ;have tV:bs.take k=bs:=by rw[<-HB.out.2.1,List.take_length]
    have hR:=HR.out;rw[tV]at hR;have za:=Z hR;clear hR tV;go_wp2_with fail;refine wp_load_row 117 (.tmp 3) rfl (w.heap.size+1) rfl 117 (cR bs).toArray (0,0) _ za.out.2.1 Tryz.underlying117 rfl (by simp only[List.size_toArray,bA];exact rm) ?_
    have cB:=y9 (cR bs) za.out.1 ξ (bA _) (mC bs);go_wp2_with fail;refine az λWf bY=>?_;have hrow:Wf.heap[w.heap.size]?=some (.cells (cR bs).toArray 117 (0,0)):=by rw[bY];exact setRow_heap _ _ _ _ _ _ za.out.1
    refine bodyPost_ret (v:=.agg (cR bs).toArray) (results_cell_row (p:=2) rfl _ _ w.heap.size 117 _ (0,0) _ rfl hrow Tryz.underlying117 rfl (by simp only[List.size_toArray,bA];exact rm)) rfl ?_
    refine ⟨by rw[<-sQ.out,if_neg (by rw[HB.out.2.1];exact pX)],?_⟩
    rw[bY];exact ⟨za.out.2.2.os,za.out.2.2.tape,za.out.2.2.output,by rw[setRow_size];exact za.out.2.2.size,λk hk=>(setRow_other _ _ _ _ Y).trans (za.out.2.2.block k hk)⟩
theorem KI(m:Mc):∀(bs:List Nat) (s k:Nat),(gh m bs s k).getLast?=some (k+bs.length)↔dG m bs s=true
 | [],s,k=>by
  rw[gh,dG]
  cases h:(m.ac[s]?).getD false <;> simp
 |c::w,s,k=>by
  rw[gh,dG]
  cases ht:bO (bE m s) c with
  |none=>cases h:(m.ac[s]?).getD false <;> simp
  |some t=>
   simp only;rw[<-KI m w t (k+1)];have e:k+(c::w).length=k+1+w.length:=ψ;rw[e,List.getLast?_append]
   cases hl:(gh m w t (k+1)).getLast? with
   |some x=>simp
   |none=>
    simp only[Option.none_or];constructor
    .intro h;split at h
     .simp at h;omega
     .simp at h
    .intro h;cases h
theorem FC(m:Mc):∀(bs:List Nat) (s k:Nat),(gh m bs s k).length<=bs.length+1
 | [],s,k=>by rw[gh]; split <;> simp
 |c::w,s,k=>by
  rw[gh,List.length_append];have h1:(if (m.ac[s]?).getD false=true then [k] else []).length<=1:=by split <;> simp
  cases ht:bO (bE m s) c with
  |none=>simp at h1|-;omega
  |some t=>have:=FC m w t (k+1);simp at h1 this|-;omega
theorem uf(A:Option Addr)(n c i t:Nat)(w:World):Calls Tryz.prog 123 #[.slice A n c,.int .i64 (i:Int),.int .i64 (t:Int)] w λe w'=>e=.returned (.bool (decide (i<=t) && decide (t<=n)))/\w'=w:=by
 have d0:decide ((0:Int)<=(i:Int))=true:=τ;by_cases h1:i<=t
 .have d1:decide ((i:Int)<=(t:Int))=true:=τ;have Iz:decide (i<=t)=true:=decide_eq_true h1;by_cases h2:t<=n
  .have d2:decide ((t:Int)<=(n:Int))=true:=τ;have Vg:decide (t<=n)=true:=decide_eq_true h2;rw[Iz,Vg]
   go_enter Tryz.func123,Tryz.ntmps123
   go_wp2_with fail;go_ret;exact ⟨rfl,rfl⟩
  .have d2:decide ((t:Int)<=(n:Int))=false:=θ;have Vg:decide (t<=n)=false:=decide_eq_false h2;rw[Iz,Vg]
   go_enter Tryz.func123,Tryz.ntmps123
   go_wp2_with fail;go_ret;exact ⟨rfl,rfl⟩
 .have d1:decide ((i:Int)<=(t:Int))=false:=θ;have Iz:decide (i<=t)=false:=decide_eq_false h1;rw[Iz]
  go_enter Tryz.func123,Tryz.ntmps123
  go_wp2_with fail;go_ret;exact ⟨rfl,rfl⟩
theorem qW(c:Nat)(w:World):Calls Tryz.prog 124 #[.int .u8 (c:Int)] w λe w'=>e=.returned (.bool (Bt c))/\w'=w:=by
 have Bu:c<48\/(48<=c/\c<=57)\/(57<c/\c<65)\/(65<=c/\c<=90)\/(90<c/\c<97)\/(97<=c/\c<=122)\/122<c:=Y;obtain ⟨b1,h1⟩:∃b,decide (97<=(c:Int))=b:=⟨_,rfl⟩;obtain ⟨b2,h2⟩:∃b,decide ((c:Int)<=122)=b:=⟨_,rfl⟩;obtain ⟨b3,h3⟩:∃b,decide (65<=(c:Int))=b:=⟨_,rfl⟩;obtain ⟨b4,h4⟩:∃b,decide ((c:Int)<=90)=b:=⟨_,rfl⟩;obtain ⟨b5,h5⟩:∃b,decide (48<=(c:Int))=b:=⟨_,rfl⟩;obtain ⟨b6,h6⟩:∃b,decide ((c:Int)<=57)=b:=⟨_,rfl⟩;have hs:Bt c=((b1 && b2) || (b3 && b4) || (b5 && b6)):=by
  subst h1 h2 h3 h4 h5 h6;unfold Bt;rw[Bool.eq_iff_iff];simp only[Bool.or_eq_true,Bool.and_eq_true,decide_eq_true_eq];omega
 rw[hs];clear hs Bu
 go_enter Tryz.func124,Tryz.ntmps124
 cases b1 <;> cases b2 <;> cases b3 <;> cases b4 <;> cases b5 <;> cases b6
 all_goals
  go_wp2_with fail;go_ret;exact ⟨rfl,rfl⟩
def KC.val(u:KC):Value:=.agg #[.string u.nm,.int .i64 u.op,.slice u.a1 u.n1 u.c1,.slice u.a2 u.n2 u.c2,.int .i64 u.mn,.int .i64 u.mx,.bool u.wh,.int .i64 u.ck,.int .i64 u.en,.slice u.a3 u.n3 u.c3,.int .i64 u.nr]
theorem Im(u:KC)(A:Option Addr)(n c i t:Nat)(bs:List Nat)(w:World)(hb:eZ w (.slice A n c) bs)(hn:bs.length=n)(kr:n<=900000):Calls Tryz.prog 95 #[.agg #[.string u.nm,.int .i64 u.op,.slice u.a1 u.n1 u.c1,.slice u.a2 u.n2 u.c2,.int .i64 u.mn,.int .i64 u.mx,.bool u.wh,.int .i64 u.ck,.int .i64 u.en,.slice u.a3 u.n3 u.c3,.int .i64 u.nr],.slice A n c,.int .i64 (i:Int),.int .i64 (t:Int)] w λe w'=>e=.returned (.bool (pK u.wh bs i t))/\Below w.heap.size w w':=by
 obtain ⟨wh,YT⟩:∃b,u.wh=b:=⟨_,rfl⟩;rw[YT];obtain ⟨b,aY⟩:∃b,(decide (i<=t) && decide (t<=n))=b:=⟨_,rfl⟩;have HW:=Z λW=>uf A n c i t W;rw[aY]at HW;have bB:pK wh bs i t=(b && (!wh || ((decide (i=0) || !Bt ((bs[i - 1]?).getD 0)) && (decide (t=n) || !Bt ((bs[t]?).getD 0))))):=by unfold pK;rw[hn,aY]
 obtain ⟨R,hR⟩:=ν (pK wh bs i t);rw[hR];have HR:=Z (bB.symm.trans hR);have HB:=Z (H hb aY);clear hb bB aY hR
 go_enter Tryz.func95,Tryz.ntmps95
 go_wp2_with fail;refine aH λW0 aP=>?_;have hb0:Below w.heap.size w W0:=by rw[aP];exact υ.alloc I _
 have hK:W0.heap[w.heap.size]?=some (.cells #[.string u.nm,.int .i64 u.op,.slice u.a1 u.n1 u.c1,.slice u.a2 u.n2 u.c2,.int .i64 u.mn,.int .i64 u.mx,.bool wh,.int .i64 u.ck,.int .i64 u.en,.slice u.a3 u.n3 u.c3,.int .i64 u.nr] 44 (0,0)):=by rw[aP];exact heap_alloc_new w _
 have c6:W0.cell? ⟨w.heap.size,6,none⟩=some (.bool wh):=by rw[cell_of_row _ _ _ _ _ _ hK];rfl
 have lb:w.heap.size<W0.heap.size:=(γ hK).1;have H0:=Z hb0;clear aP hb0 hK;refine (HW.out W0).mono ?_;rintro e w1 ⟨rfl,rfl⟩
 cases b with
 |false=>
  go_wp2_with fail;go_ret;exact ⟨ae (by rw[<-HR.out];rfl),H0.out⟩
 |true=>
  have hit:=HB.out.2;rw[Bool.and_eq_true,decide_eq_true_eq,decide_eq_true_eq]at hit;obtain ⟨h1,h2⟩:=hit
  cases wh with
  |false=>
   clear h1 h2;go_wp2_with fail;go_ret;exact ⟨ae (by rw[<-HR.out];rfl),H0.out⟩
  |true=>
   obtain ⟨A',c',e1,hc,eH⟩:=(HB.out.1.later H0.out);injection e1 with e1 e2 e3;subst e1 e3;have hcell:∀k,k<n->∃g f,A=some ⟨g,f,none⟩/\g<w1.heap.size/\w1.cell? ⟨g,f+k,none⟩=some (.int .u8 (((bs[k]?).getD 0:Nat):Int)):=λk hk=>by
    rcases eH with h|⟨g,f,h3,h4,h5⟩
    .rw[h]at hn;simp at hn;omega
    .exact ⟨g,f,h3,h4,by rw[h5 k Y,List.getElem?_eq_getElem Y];rfl⟩
   have HC:=Z hcell;clear eH hcell hc e2;have pO:t<n->∃y g f,(Bt ((bs[t]?).getD 0)=y/\A=some ⟨g,f,none⟩)/\g<w1.heap.size/\w1.cell? ⟨g,f+t,none⟩=some (.int .u8 (((bs[t]?).getD 0:Nat):Int)):=λh=>by
    obtain ⟨g,f,q1,q2,q3⟩:=HC.out t h;exact ⟨_,g,f,⟨rfl,q1⟩,q2,q3⟩
   have HS:=Z pO;clear pO;by_cases h0:i=0
   .subst h0;by_cases h3:t=n
    .subst h3;clear h1 h2;go_wp2_with fail;go_ret;exact ⟨ae (by rw[<-HR.out];simp),H0.out⟩
    .have d3:((t:Int) == (n:Int))=false:=ψ;have LN:decide (t=n)=false:=decide_eq_false h3;obtain ⟨y,g,f,⟨hy,rfl⟩,hg,bB⟩:=HS.out Y;obtain ⟨x,hx⟩:=ν ((bs[t]?).getD 0);have Y1:t<n:=Y;have Vd:(t:Int)<(n:Int):=Y;rw[hx]at hy bB;have LQ:=Z (λW=>by have h:=qW x W;rw[hy]at h;exact h)
     have HF:=Z (H hx (H LN hy));clear h1 h2 h3 LN hx hy;go_wp2_with fail;refine (LQ.out w1).mono ?_;rintro e w2 ⟨rfl,rfl⟩;go_wp2_with fail;go_ret;refine ⟨ae ?_,H0.out⟩;rw[<-HR.out,HF.out.1,HF.out.2.1,HF.out.2.2]
     cases y <;> rfl
   .obtain ⟨k,rfl⟩:∃k,i=k+1:=⟨i - 1,Y⟩;obtain ⟨g,f,rfl,hg,bB⟩:=HC.out k Y;obtain ⟨x,hx⟩:=ν ((bs[k]?).getD 0);obtain ⟨y,hy⟩:=ν (Bt x);have e0:bs[k+1 - 1]?=bs[k]?:=by rw[Nat.add_sub_cancel]
    have e1:decide (k+1=0)=false:=θ;have HE:=Z (H e0 (H hx (H e1 hy)));have d0:(((k+1:Nat):Int) == 0)=false:=ψ;have w1':IntKind.i64.wrap (((k+1:Nat):Int) - 1)=(k:Int):=by rw[IntWalk.i64_in _ Y];omega
    have kl:(k:Int)<(n:Int):=Y;have kn:k<n:=Y;rw[hx]at bB;have LQ:=Z (λW=>by have h:=qW x W;rw[hy]at h;exact h)
    have d0':((k:Int)+1 == 0)=false:=ψ;clear e0 e1 hx h0 hy
    cases y with
    |true=>
     clear h1 h2;go_wp2_with fail;refine (LQ.out w1).mono ?_;rintro e w2 ⟨rfl,rfl⟩;go_wp2_with fail;go_ret;refine ⟨ae ?_,H0.out⟩;rw[<-HR.out,HE.out.1,HE.out.2.1,HE.out.2.2.1,HE.out.2.2.2];simp
    |false=>
     by_cases h3:t=n
     .subst h3;clear h1 h2;go_wp2_with fail;refine (LQ.out w1).mono ?_;rintro e w2 ⟨rfl,rfl⟩;go_wp2_with fail;go_ret;refine ⟨ae ?_,H0.out⟩;rw[<-HR.out,HE.out.1,HE.out.2.1,HE.out.2.2.1,HE.out.2.2.2];simp
     .have d3:((t:Int) == (n:Int))=false:=ψ;have LN:decide (t=n)=false:=decide_eq_false h3;obtain ⟨z,g2,f2,⟨hz,e2⟩,mg,wE⟩:=HS.out Y;injection e2 with e2;injection e2 with e2 e4 _;subst e2 e4;obtain ⟨x2,fZ⟩:∃x,(bs[t]?).getD 0=x:=⟨_,rfl⟩;have Y1:t<n:=Y;have Vd:(t:Int)<(n:Int):=Y;rw[fZ]at hz wE;have HF:=Z (H fZ (H LN hz));have Ve:=Z (λW=>by have h:=qW x2 W;rw[hz]at h;exact h)
      clear h1 h2 h3 LN fZ hz;go_wp2_with fail;refine (LQ.out w1).mono ?_;rintro e w2 ⟨rfl,rfl⟩;go_wp2_with fail;refine (Ve.out w2).mono ?_;rintro e w3 ⟨rfl,rfl⟩;go_wp2_with fail;go_ret;refine ⟨ae ?_,H0.out⟩;rw[<-HR.out,HE.out.1,HE.out.2.1,HE.out.2.2.1,HE.out.2.2.2,HF.out.1,HF.out.2.1,HF.out.2.2]
      cases z <;> rfl
theorem oP(c:Nat)(w:World):Calls Tryz.prog 30 #[.int .u8 (c:Int)] w λe w'=>e=.returned (.bool (Bt c))/\w'=w:=by
 have Bu:c<48\/(48<=c/\c<=57)\/(57<c/\c<65)\/(65<=c/\c<=90)\/(90<c/\c<97)\/(97<=c/\c<=122)\/122<c:=Y;obtain ⟨b1,h1⟩:∃b,decide (97<=(c:Int))=b:=⟨_,rfl⟩;obtain ⟨b2,h2⟩:∃b,decide ((c:Int)<=122)=b:=⟨_,rfl⟩;obtain ⟨b3,h3⟩:∃b,decide (65<=(c:Int))=b:=⟨_,rfl⟩;obtain ⟨b4,h4⟩:∃b,decide ((c:Int)<=90)=b:=⟨_,rfl⟩;obtain ⟨b5,h5⟩:∃b,decide (48<=(c:Int))=b:=⟨_,rfl⟩;obtain ⟨b6,h6⟩:∃b,decide ((c:Int)<=57)=b:=⟨_,rfl⟩;have hs:Bt c=((b1 && b2) || (b3 && b4) || (b5 && b6)):=by
  subst h1 h2 h3 h4 h5 h6;unfold Bt;rw[Bool.eq_iff_iff];simp only[Bool.or_eq_true,Bool.and_eq_true,decide_eq_true_eq];omega
 rw[hs];clear hs Bu
 go_enter Tryz.func30,Tryz.ntmps30
 cases b1 <;> cases b2 <;> cases b3 <;> cases b4 <;> cases b5 <;> cases b6
 all_goals
  go_wp2_with fail;go_ret;exact ⟨rfl,rfl⟩
theorem Bv(u:KC)(A:Option Addr)(n c i t:Nat)(bs:List Nat)(w:World)(hb:eZ w (.slice A n c) bs)(hn:bs.length=n)(kr:n<=900000)(h1:i<=t)(h2:t<=n):Calls Tryz.prog 12 #[.agg #[.string u.nm,.int .i64 u.op,.slice u.a1 u.n1 u.c1,.slice u.a2 u.n2 u.c2,.int .i64 u.mn,.int .i64 u.mx,.bool u.wh,.int .i64 u.ck,.int .i64 u.en,.slice u.a3 u.n3 u.c3,.int .i64 u.nr],.slice A n c,.int .i64 (i:Int),.int .i64 (t:Int)] w λe w'=>e=.returned (.bool (pK u.wh bs i t))/\Below w.heap.size w w':=by
 obtain ⟨wh,YT⟩:∃b,u.wh=b:=⟨_,rfl⟩;rw[YT];have bB:pK wh bs i t=(!wh || ((decide (i=0) || !Bt ((bs[i - 1]?).getD 0)) && (decide (t=n) || !Bt ((bs[t]?).getD 0)))):=by unfold pK;rw[hn,decide_eq_true h1,decide_eq_true h2];rfl
 obtain ⟨R,hR⟩:=ν (pK wh bs i t);rw[hR];have HR:=Z (bB.symm.trans hR);have HB:=Z (H hb (H h1 h2));have g0:decide ((i:Int)<0)=false:=θ;have g1:decide ((n:Int)<(t:Int))=false:=θ;have g1n:decide (n<t)=false:=θ;have g2:decide ((t:Int)<(i:Int))=false:=θ;have g2n:decide (t<i)=false:=θ;clear hb bB hR h1 h2
 go_enter Tryz.func12,Tryz.ntmps12
 go_upto_region 3 with fail
 refine dD λW0 aP=>?_;have hb0:Below w.heap.size w W0:=by rw[aP];exact υ.alloc I _
 have hK:W0.heap[w.heap.size]?=some (.cells #[.string u.nm,.int .i64 u.op,.slice u.a1 u.n1 u.c1,.slice u.a2 u.n2 u.c2,.int .i64 u.mn,.int .i64 u.mx,.bool wh,.int .i64 u.ck,.int .i64 u.en,.slice u.a3 u.n3 u.c3,.int .i64 u.nr] 44 (0,0)):=by rw[aP];exact heap_alloc_new w _
 have c6:W0.cell? ⟨w.heap.size,6,none⟩=some (.bool wh):=by rw[cell_of_row _ _ _ _ _ _ hK];rfl
 have lb:w.heap.size<W0.heap.size:=(γ hK).1;have H0:=Z hb0;clear aP hb0 hK;obtain ⟨h1,h2⟩:=HB.out.2;obtain ⟨w1,rfl⟩:∃w1,w1=W0:=⟨_,rfl⟩
 cases wh with
 |false=>
  clear h1 h2;go_wp2_with fail;go_ret;exact ⟨ae (by rw[<-HR.out];rfl),H0.out⟩
 |true=>
  obtain ⟨A',c',e1,hc,eH⟩:=(HB.out.1.later H0.out);injection e1 with e1 e2 e3;subst e1 e3;have hcell:∀k,k<n->∃g f,A=some ⟨g,f,none⟩/\g<w1.heap.size/\w1.cell? ⟨g,f+k,none⟩=some (.int .u8 (((bs[k]?).getD 0:Nat):Int)):=λk hk=>by
   rcases eH with h|⟨g,f,h3,h4,h5⟩
   .rw[h]at hn;simp at hn;omega
   .exact ⟨g,f,h3,h4,by rw[h5 k Y,List.getElem?_eq_getElem Y];rfl⟩
  have HC:=Z hcell;clear eH hcell hc e2;have pO:t<n->∃y g f,(Bt ((bs[t]?).getD 0)=y/\A=some ⟨g,f,none⟩)/\g<w1.heap.size/\w1.cell? ⟨g,f+t,none⟩=some (.int .u8 (((bs[t]?).getD 0:Nat):Int)):=λh=>by
   obtain ⟨g,f,q1,q2,q3⟩:=HC.out t h;exact ⟨_,g,f,⟨rfl,q1⟩,q2,q3⟩
  have HS:=Z pO;clear pO;by_cases h0:i=0
  .subst h0;by_cases h3:t=n
   .subst h3;clear h1 h2;go_wp2_with fail;go_ret;exact ⟨ae (by rw[<-HR.out];simp),H0.out⟩
   .have d3:((t:Int) == (n:Int))=false:=ψ;have LN:decide (t=n)=false:=decide_eq_false h3;obtain ⟨y,g,f,⟨hy,rfl⟩,hg,bB⟩:=HS.out Y;obtain ⟨x,hx⟩:=ν ((bs[t]?).getD 0);have Y1:t<n:=Y;have Vd:(t:Int)<(n:Int):=Y;rw[hx]at hy bB;have LQ:=Z (λW=>by have h:=oP x W;rw[hy]at h;exact h)
    have HF:=Z (H hx (H LN hy));clear h1 h2 h3 LN hx hy;go_wp2_with fail;refine (LQ.out w1).mono ?_;rintro e w2 ⟨rfl,rfl⟩;go_wp2_with fail;go_ret;refine ⟨ae ?_,H0.out⟩;rw[<-HR.out,HF.out.1,HF.out.2.1,HF.out.2.2]
    cases y <;> rfl
  .obtain ⟨k,rfl⟩:∃k,i=k+1:=⟨i - 1,Y⟩;obtain ⟨g,f,rfl,hg,bB⟩:=HC.out k Y;obtain ⟨x,hx⟩:=ν ((bs[k]?).getD 0);obtain ⟨y,hy⟩:=ν (Bt x);have e0:bs[k+1 - 1]?=bs[k]?:=by rw[Nat.add_sub_cancel]
   have e1:decide (k+1=0)=false:=θ;have HE:=Z (H e0 (H hx (H e1 hy)));have d0:(((k+1:Nat):Int) == 0)=false:=ψ;have w1':IntKind.i64.wrap (((k+1:Nat):Int) - 1)=(k:Int):=by rw[IntWalk.i64_in _ Y];omega
   have kl:(k:Int)<(n:Int):=Y;have kn:k<n:=Y;rw[hx]at bB;have LQ:=Z (λW=>by have h:=oP x W;rw[hy]at h;exact h)
   have d0':((k:Int)+1 == 0)=false:=ψ;clear e0 e1 hx h0 hy
   cases y with
   |true=>
    clear h1 h2;go_wp2_with fail;refine (LQ.out w1).mono ?_;rintro e w2 ⟨rfl,rfl⟩;go_wp2_with fail;go_ret;refine ⟨ae ?_,H0.out⟩;rw[<-HR.out,HE.out.1,HE.out.2.1,HE.out.2.2.1,HE.out.2.2.2];simp
   |false=>
    by_cases h3:t=n
    .subst h3;clear h1 h2;go_wp2_with fail;refine (LQ.out w1).mono ?_;rintro e w2 ⟨rfl,rfl⟩;go_wp2_with fail;go_ret;refine ⟨ae ?_,H0.out⟩;rw[<-HR.out,HE.out.1,HE.out.2.1,HE.out.2.2.1,HE.out.2.2.2];simp
    .have d3:((t:Int) == (n:Int))=false:=ψ;have LN:decide (t=n)=false:=decide_eq_false h3;obtain ⟨z,g2,f2,⟨hz,e2⟩,mg,wE⟩:=HS.out Y;injection e2 with e2;injection e2 with e2 e4 _;subst e2 e4;obtain ⟨x2,fZ⟩:∃x,(bs[t]?).getD 0=x:=⟨_,rfl⟩;have Y1:t<n:=Y;have Vd:(t:Int)<(n:Int):=Y;rw[fZ]at hz wE;have HF:=Z (H fZ (H LN hz));have Ve:=Z (λW=>by have h:=oP x2 W;rw[hz]at h;exact h)
     clear h1 h2 h3 LN fZ hz;go_wp2_with fail;refine (LQ.out w1).mono ?_;rintro e w2 ⟨rfl,rfl⟩;go_wp2_with fail;refine (Ve.out w2).mono ?_;rintro e w3 ⟨rfl,rfl⟩;go_wp2_with fail;go_ret;refine ⟨ae ?_,H0.out⟩;rw[<-HR.out,HE.out.1,HE.out.2.1,HE.out.2.2.1,HE.out.2.2.2,HF.out.1,HF.out.2.1,HF.out.2.2]
     cases z <;> rfl
end Go.Proofs.YtdmoogjddmdmbaaGreatDoor
