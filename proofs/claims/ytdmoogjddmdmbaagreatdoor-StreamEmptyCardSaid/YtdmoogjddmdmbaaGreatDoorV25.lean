/- Walks. -/
import Derived.Test.YtdmoogjddmdmbaaGreatDoorV16
import Derived.Test.YtdmoogjddmdmbaaGreatDoorV05
import Derived.Test.YtdmoogjddmdmbaaGreatDoorV24
import Derived.Test.YtdmoogjddmdmbaaGreatDoorV23
import Derived.Test.YtdmoogjddmdmbaaGreatDoorV12
import Derived.Test.YtdmoogjddmdmbaaGreatDoorV04
import Derived.Test.YtdmoogjddmdmbaaGreatDoorV13
import Derived.Test.YtdmoogjddmdmbaaGreatDoorV09
import Derived.Deep.WholeRow
import Derived.Laws.Rows
set_option maxRecDepth 100000
set_option maxHeartbeats 16000000
set_option linter.unusedVariables false
set_option linter.unusedSimpArgs false
namespace Go.Proofs.YtdmoogjddmdmbaaGreatDoor
open Go.RowKit
section
set_option linter.unusedVariables false
set_option linter.unusedSimpArgs false
open Go.RowKit
def yA (n:Nat):List Value:=[.int .i64 (n:Int)]
theorem tZ:jg yA 1:=⟨by decide,λ_=>rfl,λx u hu=>by simp[yA]at hu;subst hu;rfl⟩
def lU (w:World) (v:Value) (l:List Nat):Prop:=∃A c,v = .slice A l.length c/\(l.length<=c/\c<=9223372036854775807)/\(l=[]\/∃g f,A=some ⟨g,f,none⟩/\g<w.heap.size/\∀i (h:i<l.length),w.cell? ⟨g,f+i,none⟩=some (.int .u8 (l[i]:Int)))
theorem lU.later {w w':World} {v:Value} {l:List Nat} (h:lU w v l) (hb:Below w.heap.size w w'):lU w' v l:=by
 obtain ⟨A,c,e,hc,h⟩:=h;refine ⟨A,c,e,hc,h.imp id ?_⟩;rintro ⟨g,f,h1,hg,hcell⟩;exact ⟨g,f,h1,Nat.lt_of_lt_of_le hg hb.size,λi hi=>(hb.cell (p:=⟨g,f+i,none⟩) hg).trans (hcell i hi)⟩
def FP (l:List Nat) (w:World) (e:Ending) (w':World):Prop:=∃rv,e = .returned rv/\OR 3 1 yA w.heap.size rv l w'/\Below w.heap.size w w'
structure Uj (w:World) (ve va v:Value) (o:List Nat) (wr:World):Prop where
 own:OR 3 1 yA (w.heap.size+1) v o wr
 eP:Below w.heap.size w wr
 Z6:w.heap.size+1<=wr.heap.size
 box:wr.heap[w.heap.size]?=some (.cells #[ve,va] 93 (0,0))
theorem Uj.next {w wr w':World} {ve va v v':Value} {o o':List Nat} (h:Uj w ve va v o wr) (hown:OR 3 1 yA (w.heap.size+1) v' o' w') (hb:Below (w.heap.size+1) wr w'):Uj w ve va v' o' w':=
 ⟨hown,h.eP.trans (hb.mono (by omega)),Nat.le_trans h.Z6 hb.size,(hb.block _ (by omega)).trans h.box⟩
theorem Uj.later {w wr w':World} {ve va v:Value} {o:List Nat} (h:Uj w ve va v o wr) (hb:Below wr.heap.size wr w'):Uj w ve va v o w':=
 h.next (h.own.later hb) (hb.mono h.Z6)
def RhI (m:Mc) (bs:List Nat) (R:List Nat) (o:List Nat) (sx:Int) (k:Nat):Prop:=(sx=-1/\o=R)\/∃s:Nat,sx=(s:Int)/\s<m.ed.length/\k<=bs.length/\o++gL m (bs.drop k) s k=R
theorem Ou {m:Mc} {bs R o o':List Nat} {s k:Nat} {b:Bool} (hv:pL m) (h:o++gL m (bs.drop k) s k=R) (hb:(m.ac[s]?).getD false=b) (ho:o'=if b=true then o++[k] else o) :
  (bs.length<=k->o'=R)/\∀hk:k<bs.length,RhI m bs R o' (Uc m s bs[k]) (k+1):=by
 constructor
 .intro hk;rw[List.drop_eq_nil_of_le hk,gL,hb]at h;rw[ho,<-h]
  cases b <;> simp
 .intro hk;rw[List.drop_eq_getElem_cons hk,gL,hb,<-List.append_assoc]at h;have h2:o++(if b=true then [k] else [])=o':=by rw[ho]; cases b <;> simp
  rw[h2]at h;unfold RhI Uc
  cases ht:bS (br m s) bs[k] with
  | none=>
   rw[ht]at h;exact .inl ⟨rfl,by simpa using h⟩
  | some t=>
   rw[ht]at h;exact .inr ⟨t,rfl,hv.bz ht,hk,h⟩
set_option maxHeartbeats 2000000 in
theorem I7 (v vb:Value) (m:Mc) (bs:List Nat) (i:Nat) (w:World) (hm:ia w v m) (hv:pL m) (eQ:sf m) (h1:1<=m.ed.length) (hb:lU w vb bs) (oc:bs.length<=900000) (fO:∀b∈bs,b<256) (hi:i<=bs.length) :
  Calls Tryz.prog 94 #[v,vb, .int .i64 (i:Int)] w (FP (gL m (bs.drop i) 0 i) w):=by
 obtain ⟨ve,va,rfl,he,ha⟩:=id hm;obtain ⟨Ae,ce,rfl,qO,Ix⟩:=he.form;obtain ⟨Aa,ca,rfl,Ek,UH⟩:=ha.form;obtain ⟨Ab,cb,rfl,xE,hbc⟩:=id hb;obtain ⟨n,hn⟩:∃n,m.ed.length=n:=⟨_,rfl⟩;have sS:m.ac.length=n:=by rw[hv.len,hn]
 obtain ⟨L,hL⟩:∃n,bs.length=n:=⟨_,rfl⟩;have hnx:=λ(s c:Nat) (W:World) (h:Below w.heap.size w W) (hs:s<m.ed.length)=>J7 _ m s c W (hm.later h) hv eQ hs;have DV:=eQ.n;obtain ⟨R,hR⟩:∃R,gL m (bs.drop i) 0 i=R:=⟨_,rfl⟩;rw[hn]at qO DV hnx;rw[sS]at Ek hnx;rw[hL]at xE oc hi;have Zd:=Lib.hid hnx;have HA:=Lib.hid ha;have HV:=Lib.hid hv;have Uk:=Lib.hid hbc;have HN:=Lib.hid (And.intro hn sS);have HL:=Lib.hid hL;have Py:Hid (RhI m bs R [] 0 i):=.inr ⟨0,rfl,h1,by rw[hL];exact hi,hR⟩
 have ik:Uj w (.slice Ae n ce) (.slice Aa n ca) (.slice none 0 0) [] (w.alloc (.cells #[.slice Ae n ce, .slice Aa n ca] 93)):=⟨OR.ic _ _ _,(Below.refl _ _).alloc (Nat.le_refl _) _,by simp,heap_alloc_new w _⟩
 have UZ:=Lib.hid ik;obtain ⟨i3,Ec,oq,gY,bM⟩:=info_parts ft;have Bh:FP (gL m (bs.drop i) 0 i) w=FP R w:=by rw[hR]
 rw[Bh,hn,sS,hL];clear hnx ha he hv hbc hn sS hL hR ik hm eQ hb h1 Bh
 go_enter Tryz.func94,Tryz.ntmps94
 go_wp2_with fail
 go_loopg [7,8,9] (L+1-i) (λq s7 s8 s9 wr=>∃(sx:Int) (k:Nat) (o:List Nat),s8 = .int .i64 sx/\s9 = .int .i64 (k:Int)/\o.length<=k/\k<=L+1/\q=L+1-k/\Hid (Uj w (.slice Ae n ce) (.slice Aa n ca) s7 o wr)/\Hid (RhI m bs R o sx k))
 case atStart=>exact ⟨0,i,[],rfl,rfl,by simp,by omega,rfl,UZ,Py⟩
 case round=>
  obtain ⟨sx,k,o,rfl,rfl,hok,hkL,hq,HW,HI⟩:=hrel;have gU:=HW.out.box;obtain ⟨x0,x1⟩:wr.cell? ⟨w.heap.size,0,none⟩=some (.slice Ae n ce)/\wr.cell? ⟨w.heap.size,1,none⟩=some (.slice Aa n ca):=by
   constructor <;> (rw[cell_of_row _ _ _ _ _ _ gU]; rfl)
  have xp:=HW.out.Z6;have hws:w.heap.size<wr.heap.size:=by omega
  obtain ⟨Ar,cr,rfl⟩:∃A c,u7 = .slice A o.length c:=by
   obtain ⟨A,c,e,-⟩:=ag (show wr.ownsRow _ _ _ _ _ _ from HW.out.own);exact ⟨A,c,e⟩
  clear gU;by_cases hsx:sx=-1
  .have hd:decide ((0:Int)<=-1)=false:=by decide
   have HR:Hid (o=R):=by
    rcases HI.out with h | ⟨s,h,-⟩
    .exact h.2
    .omega
   subst hsx;clear HI;go_wp2_with fail;go_ret;exact ⟨_,rfl,HR.out▸HW.out.own.mono (by omega),HW.out.eP⟩
  .obtain ⟨s,akv,eQ,Bn,ZG⟩:=HI.out.resolve_left (λh=>hsx h.1);subst akv;rw[HN.out.1]at eQ;rw[HL.out]at Bn;have sT:s<n:=eQ;have Y5:decide (s<n)=true:=decide_eq_true sT;have hd:decide ((0:Int)<=(s:Int))=true:=decide_eq_true (by omega)
   obtain ⟨g0,f0,rfl,-,ur,XX⟩:=HA.out.at_ (k:=s) (by rw[HN.out.2];exact sT)
   obtain ⟨b,hb⟩:∃b,m.ac[s]'(by rw[HN.out.2];exact sT)=b:=⟨_,rfl⟩
   rw[hb]at XX;have gQ:(m.ac[s]?).getD false=b:=by rw[List.getElem?_eq_getElem (by rw[HN.out.2];exact sT),hb];rfl
   have adX:=(HW.out.eP.cell (p:=⟨g0,f0+s,none⟩) ur).trans XX;have et:g0<wr.heap.size:=by have:=HW.out.eP.size;omega
   have lY:=Lib.hid (λo'=>Ou (o':=o') HV.out ZG gQ);clear hsx eQ ZG gQ XX hb HI
   cases b with
   | true=>
    by_cases di:k<L
    .have XY:decide (k<L)=true:=decide_eq_true di;have hne:decide (k=L)=false:=decide_eq_false (by omega)
     have XZ:decide ((k:Int)=(L:Int))=false:=decide_eq_false (by omega)
     have akw:(k == L)=false:=by simp;omega
     have adY:((k:Int) == (L:Int))=false:=by simp;omega
     have hown:=HW.out.own;go_wp2_with (at_builtin;refine Hw tZ Tryz.underlying22 Ec oq gY bM rfl (by decide) _ _ _ _ o k _ (w.heap.size+1) rfl rfl rfl rfl rfl hown (by omega) (by omega) ?_;intro v1 w1 hown1 hb1)
     have lq:=Lib.hid (HW.out.next hown1 hb1);have HT:=Lib.hid (lY.out (o++[k]) rfl);clear hown hown1 hb1 adX et x0 x1 xp hws;have Bn:k<bs.length:=by rw[HL.out];exact di
     obtain ⟨g,ff,rfl,hg,hcs⟩:=Uk.out.resolve_left (by intro e;rw[e]at Bn;simp at Bn)
     have Bp:=hcs k Bn;obtain ⟨c,hc⟩:∃c,bs[k]=c:=⟨_,rfl⟩;rw[hc]at Bp;have oz:=HT.out.2 Bn;rw[hc]at oz;have Dr:=Lib.hid oz;have cJ:=lq.out.eP;have hb1:=lq.out.box;have hz1:=lq.out.Z6;have hd0:∀d':aM w1.heap.size w1,d'.val.cell? ⟨w.heap.size,0,none⟩=some (.slice Ae n ce):=λd'=>by
      rw[cell_of_row _ _ _ _ _ _ ((d'.ay.block w.heap.size (by omega)).trans hb1)];rfl
     have hd1:∀d':aM w1.heap.size w1,d'.val.cell? ⟨w.heap.size,1,none⟩=some (.slice (some ⟨g0,f0,none⟩) n ca):=λd'=>by
      rw[cell_of_row _ _ _ _ _ _ ((d'.ay.block w.heap.size (by omega)).trans hb1)];rfl
     have jO:∀d':aM w1.heap.size w1,w.heap.size<d'.val.heap.size:=λd'=>by have:=d'.ay.size;omega
     have Ju:∀d':aM w1.heap.size w1,d'.val.cell? ⟨g,ff+k,none⟩=some (.int .u8 (c:Int)):=λd'=>((cJ.trans (d'.ay.mono cJ.size)).cell (p:=⟨g,ff+k,none⟩) hg).trans Bp;have PK:∀d':aM w1.heap.size w1,g<d'.val.heap.size:=λd'=>by have:=d'.ay.size;have:=cJ.size;omega
     have aF:∀d':aM w1.heap.size w1,Calls Tryz.prog 122 #[.agg #[.slice Ae n ce, .slice (some ⟨g0,f0,none⟩) n ca], .int .i64 (s:Int), .int .u8 (c:Int)] d'.val λe w'=>e = .returned (.int .i64 (Uc m s c))/\Below d'.val.heap.size d'.val w':=λd'=>Zd.out s c d'.val (cJ.trans (d'.ay.mono cJ.size)) sT;obtain ⟨x,hx⟩:∃x,Uc m s c=x:=⟨_,rfl⟩;rw[hx]at aF Dr;have Ov:=Lib.hid aF;clear Bp hcs Bn hc oz cJ hb1 aF hx;refine aO (Below.refl w1.heap.size w1) (by kernel_rfl) (by kernel_rfl) ?_
     repeat (go_big_quiet_step ((go_at_call 122;exact Calls.cM (Nat.le_refl _) (Ov.out _))))
     refine wpQuiet_nil ?_;intro w2 hw';have pq:Below w1.heap.size w1 w2:=by obtain ⟨d9,rfl⟩:=hw';exact d9.ay
     have wJ:=Lib.hid (lq.out.later pq);clear hw' hd0 hd1 jO Ju PK pq;go_wp2_with fail
     go_roundg (L-k)
     case measure=>omega
     case rel=>exact ⟨x,k+1,o++[k],rfl,by go_num,by (try simp);omega,by omega,by omega,wJ,Dr⟩
    .obtain rfl:k=L:=by omega
     have XY:decide (k<k)=false:=decide_eq_false (by omega)
     have hne:decide (k=k)=true:=decide_eq_true rfl;have XZ:decide ((k:Int)=(k:Int))=true:=decide_eq_true rfl;have hown:=HW.out.own;go_wp2_with (at_builtin;refine Hw tZ Tryz.underlying22 Ec oq gY bM rfl (by decide) _ _ _ _ o k _ (w.heap.size+1) rfl rfl rfl rfl rfl hown (by omega) (by omega) ?_;intro v1 w1 hown1 hb1)
     have lq:=Lib.hid (HW.out.next hown1 hb1);have HT:=Lib.hid (lY.out (o++[k]) rfl);clear hown hown1 hb1 adX et x0 x1;have HE:=Lib.hid (HT.out.1 (Nat.le_of_eq HL.out));go_ret;exact ⟨_,rfl,HE.out▸lq.out.own.mono (by omega),lq.out.eP⟩
   | false=>
    have lq:=HW;have HT:=Lib.hid (lY.out o rfl);by_cases di:k<L
    .have XY:decide (k<L)=true:=decide_eq_true di;have hne:decide (k=L)=false:=decide_eq_false (by omega)
     have XZ:decide ((k:Int)=(L:Int))=false:=decide_eq_false (by omega)
     have akw:(k == L)=false:=by simp;omega
     have adY:((k:Int) == (L:Int))=false:=by simp;omega
     have Bn:k<bs.length:=by rw[HL.out];exact di
     obtain ⟨g,ff,rfl,hg,hcs⟩:=Uk.out.resolve_left (by intro e;rw[e]at Bn;simp at Bn)
     have Bp:=hcs k Bn;obtain ⟨c,hc⟩:∃c,bs[k]=c:=⟨_,rfl⟩;rw[hc]at Bp;have oz:=HT.out.2 Bn;rw[hc]at oz;have Dr:=Lib.hid oz;have cJ:=lq.out.eP;have hb1:=lq.out.box;have hz1:=lq.out.Z6;have hd0:∀d':aM wr.heap.size wr,d'.val.cell? ⟨w.heap.size,0,none⟩=some (.slice Ae n ce):=λd'=>by
      rw[cell_of_row _ _ _ _ _ _ ((d'.ay.block w.heap.size (by omega)).trans hb1)];rfl
     have hd1:∀d':aM wr.heap.size wr,d'.val.cell? ⟨w.heap.size,1,none⟩=some (.slice (some ⟨g0,f0,none⟩) n ca):=λd'=>by
      rw[cell_of_row _ _ _ _ _ _ ((d'.ay.block w.heap.size (by omega)).trans hb1)];rfl
     have jO:∀d':aM wr.heap.size wr,w.heap.size<d'.val.heap.size:=λd'=>by have:=d'.ay.size;omega
     have Ju:∀d':aM wr.heap.size wr,d'.val.cell? ⟨g,ff+k,none⟩=some (.int .u8 (c:Int)):=λd'=>((cJ.trans (d'.ay.mono cJ.size)).cell (p:=⟨g,ff+k,none⟩) hg).trans Bp;have PK:∀d':aM wr.heap.size wr,g<d'.val.heap.size:=λd'=>by have:=d'.ay.size;have:=cJ.size;omega
     have aF:∀d':aM wr.heap.size wr,Calls Tryz.prog 122 #[.agg #[.slice Ae n ce, .slice (some ⟨g0,f0,none⟩) n ca], .int .i64 (s:Int), .int .u8 (c:Int)] d'.val λe w'=>e = .returned (.int .i64 (Uc m s c))/\Below d'.val.heap.size d'.val w':=λd'=>Zd.out s c d'.val (cJ.trans (d'.ay.mono cJ.size)) sT;obtain ⟨x,hx⟩:∃x,Uc m s c=x:=⟨_,rfl⟩;rw[hx]at aF Dr;have Ov:=Lib.hid aF;clear Bp hcs Bn hc oz cJ hb1 aF hx;go_wp2_with fail
     try exact absurd (show ((k:Int) == (L:Int))=true by assumption) (by rw[adY];decide)
     refine aO (Below.refl wr.heap.size wr) (by kernel_rfl) (by kernel_rfl) ?_
     repeat (go_big_quiet_step ((go_at_call 122;exact Calls.cM (Nat.le_refl _) (Ov.out _))))
     refine wpQuiet_nil ?_;intro w2 hw';have pq:Below wr.heap.size wr w2:=by obtain ⟨d9,rfl⟩:=hw';exact d9.ay
     have wJ:=Lib.hid (lq.out.later pq);clear hw' hd0 hd1 jO Ju PK pq;go_wp2_with fail
     go_roundg (L-k)
     case measure=>omega
     case rel=>exact ⟨x,k+1,o,rfl,by go_num,by (try simp);omega,by omega,by omega,wJ,Dr⟩
    .obtain rfl:k=L:=by omega
     have XY:decide (k<k)=false:=decide_eq_false (by omega)
     have hne:decide (k=k)=true:=decide_eq_true rfl;have XZ:decide ((k:Int)=(k:Int))=true:=decide_eq_true rfl;have HE:=Lib.hid (HT.out.1 (Nat.le_of_eq HL.out));go_wp2_with fail;go_ret;exact ⟨_,rfl,HE.out▸lq.out.own.mono (by omega),lq.out.eP⟩
end
section
set_option linter.unusedVariables false
set_option linter.unusedSimpArgs false
open Go.RowKit
end
section
set_option linter.unusedVariables false
set_option linter.unusedSimpArgs false
open Go.RowKit
end
section
set_option linter.unusedVariables false
set_option linter.unusedSimpArgs false
open Go.RowKit
structure Bx (w:World) (a b c d:Value) (wr:World):Prop where
 eP:Below w.heap.size w wr
 Z6:w.heap.size+2<=wr.heap.size
 r0:wr.heap[w.heap.size]?=some (.cells #[a,b] 93 (0,0))
 r1:wr.heap[w.heap.size+1]?=some (.cells #[c,d] 93 (0,0))
end
section
set_option linter.unusedVariables false
set_option linter.unusedSimpArgs false
open Go.RowKit
theorem Ce (A:Option Addr) (n c i t:Nat) (w:World):Calls Tryz.prog 123 #[.slice A n c, .int .i64 (i:Int), .int .i64 (t:Int)] w λe w'=>e = .returned (.bool (decide (i<=t) && decide (t<=n)))/\w'=w:=by
 have d0:decide ((0:Int)<=(i:Int))=true:=decide_eq_true (by omega)
 by_cases h1:i<=t
 .have d1:decide ((i:Int)<=(t:Int))=true:=decide_eq_true (by omega)
  have KY:decide (i<=t)=true:=decide_eq_true h1;by_cases h2:t<=n
  .have d2:decide ((t:Int)<=(n:Int))=true:=decide_eq_true (by omega)
   have d2n:decide (t<=n)=true:=decide_eq_true h2;rw[KY,d2n]
   go_enter Tryz.func123,Tryz.ntmps123
   go_wp2_with fail;go_ret;exact ⟨rfl,rfl⟩
  .have d2:decide ((t:Int)<=(n:Int))=false:=decide_eq_false (by omega)
   have d2n:decide (t<=n)=false:=decide_eq_false h2;rw[KY,d2n]
   go_enter Tryz.func123,Tryz.ntmps123
   go_wp2_with fail;go_ret;exact ⟨rfl,rfl⟩
 .have d1:decide ((i:Int)<=(t:Int))=false:=decide_eq_false (by omega)
  have KY:decide (i<=t)=false:=decide_eq_false h1;rw[KY]
  go_enter Tryz.func123,Tryz.ntmps123
  go_wp2_with fail;go_ret;exact ⟨rfl,rfl⟩
theorem qY (c:Nat) (w:World):Calls Tryz.prog 124 #[.int .u8 (c:Int)] w λe w'=>e = .returned (.bool (Pz c))/\w'=w:=by
 have Mq:c<48\/(48<=c/\c<=57)\/(57<c/\c<65)\/(65<=c/\c<=90)\/(90<c/\c<97)\/(97<=c/\c<=122)\/122<c:=by omega
 obtain ⟨b1,h1⟩:∃b,decide (97<=(c:Int))=b:=⟨_,rfl⟩;obtain ⟨b2,h2⟩:∃b,decide ((c:Int)<=122)=b:=⟨_,rfl⟩;obtain ⟨b3,h3⟩:∃b,decide (65<=(c:Int))=b:=⟨_,rfl⟩;obtain ⟨b4,h4⟩:∃b,decide ((c:Int)<=90)=b:=⟨_,rfl⟩;obtain ⟨b5,h5⟩:∃b,decide (48<=(c:Int))=b:=⟨_,rfl⟩;obtain ⟨b6,h6⟩:∃b,decide ((c:Int)<=57)=b:=⟨_,rfl⟩;have hs:Pz c=((b1 && b2) || (b3 && b4) || (b5 && b6)):=by
  subst h1 h2 h3 h4 h5 h6;unfold Pz;rw[Bool.eq_iff_iff];simp only[Bool.or_eq_true,Bool.and_eq_true,decide_eq_true_eq];omega
 rw[hs];clear hs Mq
 go_enter Tryz.func124,Tryz.ntmps124
 cases b1 <;> cases b2 <;> cases b3 <;> cases b4 <;> cases b5 <;> cases b6
 all_goals
  go_wp2_with fail;go_ret;exact ⟨rfl,rfl⟩
def KC.val (u:KC):Value:=.agg #[.string u.nm, .int .i64 u.op, .slice u.a1 u.n1 u.c1, .slice u.a2 u.n2 u.c2, .int .i64 u.mn, .int .i64 u.mx, .bool u.wh, .int .i64 u.ck, .int .i64 u.en, .slice u.a3 u.n3 u.c3, .int .i64 u.nr]
set_option maxHeartbeats 4000000 in
theorem IW (u:KC) (A:Option Addr) (n c i t:Nat) (bs:List Nat) (w:World) (hb:lU w (.slice A n c) bs) (hn:bs.length=n) (lZ:n<=900000):Calls Tryz.prog 95 #[.agg #[.string u.nm, .int .i64 u.op, .slice u.a1 u.n1 u.c1, .slice u.a2 u.n2 u.c2, .int .i64 u.mn, .int .i64 u.mx, .bool u.wh, .int .i64 u.ck, .int .i64 u.en, .slice u.a3 u.n3 u.c3, .int .i64 u.nr], .slice A n c, .int .i64 (i:Int), .int .i64 (t:Int)] w λe w'=>e = .returned (.bool (tW u.wh bs i t))/\Below w.heap.size w w':=by
 obtain ⟨wh,hwh⟩:∃b,u.wh=b:=⟨_,rfl⟩;rw[hwh];obtain ⟨b,aP⟩:∃b,(decide (i<=t) && decide (t<=n))=b:=⟨_,rfl⟩;have HW:=Lib.hid λW=>Ce A n c i t W;rw[aP]at HW;have bD:tW wh bs i t=(b && (!wh || ((decide (i=0) || !Pz ((bs[i - 1]?).getD 0)) && (decide (t=n) || !Pz ((bs[t]?).getD 0))))):=by unfold tW;rw[hn,aP]
 obtain ⟨R,hR⟩:∃R,tW wh bs i t=R:=⟨_,rfl⟩;rw[hR];have HR:=Lib.hid (bD.symm.trans hR);have HB:=Lib.hid (And.intro hb aP);clear hb bD aP hR
 go_enter Tryz.func95,Tryz.ntmps95
 go_wp2_with fail;refine dx λW0 ik=>?_;have hb0:Below w.heap.size w W0:=by rw[ik];exact (Below.refl _ _).alloc (Nat.le_refl _) _
 have hK:W0.heap[w.heap.size]?=some (.cells #[.string u.nm, .int .i64 u.op, .slice u.a1 u.n1 u.c1, .slice u.a2 u.n2 u.c2, .int .i64 u.mn, .int .i64 u.mx, .bool wh, .int .i64 u.ck, .int .i64 u.en, .slice u.a3 u.n3 u.c3, .int .i64 u.nr] 44 (0,0)):=by rw[ik];exact heap_alloc_new w _
 have c6:W0.cell? ⟨w.heap.size,6,none⟩=some (.bool wh):=by rw[cell_of_row _ _ _ _ _ _ hK];rfl
 have lb:w.heap.size<W0.heap.size:=(Array.getElem?_eq_some_iff.1 hK).1;have H0:=Lib.hid hb0;clear ik hb0 hK;refine (HW.out W0).mono ?_;rintro e w1 ⟨rfl,rfl⟩
 cases b with
 | false=>
  go_wp2_with fail;go_ret;exact ⟨aj (by rw[<-HR.out];rfl),H0.out⟩
 | true=>
  have hit:=HB.out.2;rw[Bool.and_eq_true,decide_eq_true_eq,decide_eq_true_eq]at hit;obtain ⟨h1,h2⟩:=hit
  cases wh with
  | false=>
   clear h1 h2;go_wp2_with fail;go_ret;exact ⟨aj (by rw[<-HR.out];rfl),H0.out⟩
  | true=>
   obtain ⟨A',c',e1,hc,eA⟩:=(HB.out.1.later H0.out);injection e1 with e1 e2 e3;subst e1 e3;have hcell:∀k,k<n->∃g f,A=some ⟨g,f,none⟩/\g<w1.heap.size/\w1.cell? ⟨g,f+k,none⟩=some (.int .u8 (((bs[k]?).getD 0:Nat):Int)):=λk hk=>by
    rcases eA with h | ⟨g,f,h3,h4,h5⟩
    .rw[h]at hn;simp at hn;omega
    .exact ⟨g,f,h3,h4,by rw[h5 k (by omega),List.getElem?_eq_getElem (by omega)];rfl⟩
   have HC:=Lib.hid hcell;clear eA hcell hc e2;have GB:t<n->∃y g f,(Pz ((bs[t]?).getD 0)=y/\A=some ⟨g,f,none⟩)/\g<w1.heap.size/\w1.cell? ⟨g,f+t,none⟩=some (.int .u8 (((bs[t]?).getD 0:Nat):Int)):=λh=>by
    obtain ⟨g,f,q1,q2,q3⟩:=HC.out t h;exact ⟨_,g,f,⟨rfl,q1⟩,q2,q3⟩
   have HS:=Lib.hid GB;clear GB;by_cases h0:i=0
   .subst h0;by_cases h3:t=n
    .subst h3;clear h1 h2;go_wp2_with fail;go_ret;exact ⟨aj (by rw[<-HR.out];simp),H0.out⟩
    .have d3:((t:Int) == (n:Int))=false:=by simp;omega
     have Y6:decide (t=n)=false:=decide_eq_false h3;obtain ⟨y,g,f,⟨hy,rfl⟩,hg,bD⟩:=HS.out (by omega)
     obtain ⟨x,hx⟩:∃x,(bs[t]?).getD 0=x:=⟨_,rfl⟩;have Tz:t<n:=by omega
     have ahr:(t:Int)<(n:Int):=by omega
     rw[hx]at hy bD;have HSG:=Lib.hid (λW=>by have h:=qY x W;rw[hy]at h;exact h)
     have HF:=Lib.hid (And.intro hx (And.intro Y6 hy));clear h1 h2 h3 Y6 hx hy;go_wp2_with fail;refine (HSG.out w1).mono ?_;rintro e w2 ⟨rfl,rfl⟩;go_wp2_with fail;go_ret;refine ⟨aj ?_,H0.out⟩;rw[<-HR.out,HF.out.1,HF.out.2.1,HF.out.2.2]
     cases y <;> rfl
   .obtain ⟨k,rfl⟩:∃k,i=k+1:=⟨i - 1,by omega⟩
    obtain ⟨g,f,rfl,hg,bD⟩:=HC.out k (by omega)
    obtain ⟨x,hx⟩:∃x,(bs[k]?).getD 0=x:=⟨_,rfl⟩;obtain ⟨y,hy⟩:∃y,Pz x=y:=⟨_,rfl⟩;have e0:bs[k+1 - 1]?=bs[k]?:=by rw[Nat.add_sub_cancel]
    have e1:decide (k+1=0)=false:=decide_eq_false (by omega)
    have HE:=Lib.hid (And.intro e0 (And.intro hx (And.intro e1 hy)));have d0:(((k+1:Nat):Int) == 0)=false:=by simp;omega
    have w1':IntKind.i64.wrap (((k+1:Nat):Int) - 1)=(k:Int):=by rw[IntWalk.i64_in _ (by omega)];omega
    have kl:(k:Int)<(n:Int):=by omega
    have kn:k<n:=by omega
    rw[hx]at bD;have HSG:=Lib.hid (λW=>by have h:=qY x W;rw[hy]at h;exact h)
    have d0':((k:Int)+1 == 0)=false:=by simp;omega
    clear e0 e1 hx h0 hy
    cases y with
    | true=>
     clear h1 h2;go_wp2_with fail;refine (HSG.out w1).mono ?_;rintro e w2 ⟨rfl,rfl⟩;go_wp2_with fail;go_ret;refine ⟨aj ?_,H0.out⟩;rw[<-HR.out,HE.out.1,HE.out.2.1,HE.out.2.2.1,HE.out.2.2.2];simp
    | false=>
     by_cases h3:t=n
     .subst h3;clear h1 h2;go_wp2_with fail;refine (HSG.out w1).mono ?_;rintro e w2 ⟨rfl,rfl⟩;go_wp2_with fail;go_ret;refine ⟨aj ?_,H0.out⟩;rw[<-HR.out,HE.out.1,HE.out.2.1,HE.out.2.2.1,HE.out.2.2.2];simp
     .have d3:((t:Int) == (n:Int))=false:=by simp;omega
      have Y6:decide (t=n)=false:=decide_eq_false h3;obtain ⟨z,g2,f2,⟨hz,e2⟩,jC,Mr⟩:=HS.out (by omega)
      injection e2 with e2;injection e2 with e2 e4 _;subst e2 e4;obtain ⟨x2,iK⟩:∃x,(bs[t]?).getD 0=x:=⟨_,rfl⟩;have Tz:t<n:=by omega
      have ahr:(t:Int)<(n:Int):=by omega
      rw[iK]at hz Mr;have HF:=Lib.hid (And.intro iK (And.intro Y6 hz));have ahs:=Lib.hid (λW=>by have h:=qY x2 W;rw[hz]at h;exact h)
      clear h1 h2 h3 Y6 iK hz;go_wp2_with fail;refine (HSG.out w1).mono ?_;rintro e w2 ⟨rfl,rfl⟩;go_wp2_with fail;refine (ahs.out w2).mono ?_;rintro e w3 ⟨rfl,rfl⟩;go_wp2_with fail;go_ret;refine ⟨aj ?_,H0.out⟩;rw[<-HR.out,HE.out.1,HE.out.2.1,HE.out.2.2.1,HE.out.2.2.2,HF.out.1,HF.out.2.1,HF.out.2.2]
      cases z <;> rfl
end
section
set_option linter.unusedVariables false
set_option linter.unusedSimpArgs false
open Go.RowKit
theorem Lw (m:Mc):∀(bs:List Nat) (s k:Nat),(gL m bs s k).getLast?=some (k+bs.length)↔jn m bs s=true
 | [],s,k=>by
  rw[gL,jn]
  cases h:(m.ac[s]?).getD false <;> simp
 | c::w,s,k=>by
  rw[gL,jn]
  cases ht:bS (br m s) c with
  | none=>cases h:(m.ac[s]?).getD false <;> simp
  | some t=>
   simp only;rw[<-Lw m w t (k+1)];have e:k+(c::w).length=k+1+w.length:=by simp;omega
   rw[e,List.getLast?_append]
   cases hl:(gL m w t (k+1)).getLast? with
   | some x=>simp
   | none=>
    simp only[Option.none_or];constructor
    .intro h
     split at h
     .simp at h;omega
     .simp at h
    .intro h;cases h
theorem Ga (m:Mc):∀(bs:List Nat) (s k:Nat),(gL m bs s k).length<=bs.length+1
 | [],s,k=>by rw[gL]; split <;> simp
 | c::w,s,k=>by
  rw[gL,List.length_append];have h1:(if (m.ac[s]?).getD false=true then [k] else []).length<=1:=by split <;> simp
  cases ht:bS (br m s) c with
  | none=>simp at h1|-;omega
  | some t=>have:=Ga m w t (k+1);simp at h1 this|-;omega
end
section
set_option linter.unusedVariables false
set_option linter.unusedSimpArgs false
open Go.RowKit
theorem Z1.form {e:TypeId} {B:Nat} {v:Value} {l:List UInt8} {w:World} (h:OB e B v l w):∃A c,v = .slice A l.length c/\(l.length<=c/\c<=9223372036854775807)/\(0<l.length->∃g,A=some ⟨g,0,none⟩/\B<=g/\g<w.heap.size/\(∀j (h:j<l.length),w.cell? ⟨g,j,none⟩=some (.int .u8 l[j].toNat)/\w.frozen? ⟨g,j,none⟩=false)):=by
 have h':=h;rcases h.2 with ⟨h1,h0⟩ | ⟨g,cap,cur,rfl,hb,hg,hle,hm,-⟩
 .exact ⟨none,0,by rw[h1,h0],⟨by omega,by decide⟩,λh=>by omega⟩
 .refine ⟨_,_,rfl,⟨hle,by unfold maxLen at hm;omega⟩,λ_=>⟨g,rfl,hb,(Array.getElem?_eq_some_iff.1 hg).1,λj hj=>⟨?_,by simp[World.frozen?,hg]⟩⟩⟩
  have:=World.ownsRow.cellAt h' j (by simpa using hj)
  rw[this];simp[hj]
theorem Z1.reads {e:TypeId} {B:Nat} {v:Value} {l:List UInt8} {w:World} (h:OB e B v l w):lU w v (l.map UInt8.toNat):=by
 obtain ⟨A,c,rfl,hc,h⟩:=Z1.form h;refine ⟨A,c,by rw[List.length_map],by rw[List.length_map];exact hc,?_⟩
 cases hl:l with
 | nil=>exact .inl rfl
 | cons a r=>
  obtain ⟨g,rfl,h1,h2,h3⟩:=h (by rw[hl];simp)
  refine .inr ⟨g,0,rfl,h2,λi hi=>?_⟩;rw[<-hl]at hi;have ez:i<l.length:=by simpa using hi
  have:=(h3 i ez).1;subst hl;rw[Nat.zero_add,this,List.getElem_map]
end
section
set_option linter.unusedVariables false
set_option linter.unusedSimpArgs false
open Go.RowKit
set_option maxHeartbeats 4000000 in
theorem G1 (n:Nat) (w:World) (hn:n<=4611686018427387904):Calls Tryz.prog 158 #[.int .i64 (n:Int)] w λe w'=>e = .returned (.int .i64 ((lO n:Nat):Int))/\w'=w:=by
 by_cases h1:n<1
 .have d1:decide ((n:Int)<1)=true:=decide_eq_true (by omega)
  have hz:lO n=0:=by unfold lO;rw[if_pos (.inl h1)]
  rw[hz]
  go_enter Tryz.func158,Tryz.ntmps158
  go_wp2_with fail;go_ret;exact ⟨rfl,rfl⟩
 have d1:decide ((n:Int)<1)=false:=decide_eq_false (by omega)
 by_cases h2:1073741824<n
 .have d2:decide (1073741824<(n:Int))=true:=decide_eq_true (by omega)
  have hz:lO n=0:=by unfold lO;rw[if_pos (.inr h2)]
  rw[hz]
  go_enter Tryz.func158,Tryz.ntmps158
  go_wp2_with fail;go_ret;exact ⟨rfl,rfl⟩
 have d2:decide (1073741824<(n:Int))=false:=decide_eq_false (by omega)
 obtain ⟨y1,y2,y3,y4⟩:=uJ (n:=n) (by omega) (by omega)
 have hL:=Jw (n:=n) (by omega) (by omega)
 have acv:lO n=(Le 16 (ko n,n*2 ^ (30-ko n))).1:=by unfold lO;rw[if_neg (by omega)]
 have oc:Lib.bitLen (n:Int).toNat=ko n+1:=by rw[Int.toNat_natCast];exact y4
 rw[acv];obtain ⟨y,hy⟩:∃y,ko n=y:=⟨_,rfl⟩;rw[hy]at hL y3 oc|-;obtain ⟨x,hx⟩:∃x,n*2 ^ (30-y)=x:=⟨_,rfl⟩;rw[hx]at hL|-;have HX:=Lib.hid (And.intro hx hL);have HB:=Lib.hid λW=>by have h:=Tryz.bits_Len (n:Int) W (by omega) (by omega);rw[oc]at h;exact h
 have Gq:wrap64 ((n:Int)*2 ^ (30-y))=(x:Int):=by
  have e:(n:Int)*2 ^ (30-y)=(x:Int):=by rw[<-hx];push_cast;rfl
  rw[e];exact IntWalk.wrap64_in _ (by have:=hL.2;omega)
 clear acv oc y1 y2 y4 hL hx hy
 go_enter Tryz.func158,Tryz.ntmps158
 go_wp2_with fail;refine (HB.out w).mono ?_;rintro e w1 ⟨rfl,rfl⟩;go_wp2_with fail;rw[Gq];clear Gq
 go_loopw [3,4,19] (λyv xv iv wr=>∃k y1 x1:Nat,k<=16/\iv = .int .i64 (k:Int)/\yv = .int .i64 (y1:Int)/\xv = .int .i64 (x1:Int)/\Hid (InL x1/\y1+1<=31*2 ^ k/\Le (16-k) (y1,x1)=Le 16 (y,x))/\wr=w1) (λ_ _ iv _=>16 - (intOf iv).toNat)
 case atStart=>exact ⟨0,y,x,by omega,rfl,rfl,rfl,⟨HX.out.2,by omega,rfl⟩,rfl⟩
 case round=>
  obtain ⟨k,y1,x1,hk,rfl,rfl,rfl,HR,rfl⟩:=hrel;by_cases hlt:k<16
  .have hd:decide ((k:Int)<16)=true:=decide_eq_true (by omega)
   have iI:decide (k<16)=true:=decide_eq_true hlt;obtain ⟨s1,s2,s3⟩:=Nf HR.out.1;have Cp:2 ^ k<=2 ^ 15:=Nat.pow_le_pow_right (by decide) (by omega)
   have KX:=HR.out.2.1;have Wq:Le (16 - (k+1)) (Bm (y1,x1))=Le 16 (y,x):=by rw[<-HR.out.2.2,show 16-k=(16 - (k+1))+1 by omega];rfl
   have hyk:2*y1+1+1<=31*2 ^ (k+1):=by rw[Nat.pow_succ];omega
   obtain ⟨q,hq⟩:∃q,x1*x1=q:=⟨_,rfl⟩;obtain ⟨d,hdv⟩:∃d,q / 1073741824=d:=⟨_,rfl⟩;have hqi:(x1:Int)*(x1:Int)=(q:Int):=by rw[<-hq];push_cast;rfl
   have hdi:(q:Int).tdiv 1073741824=(d:Int):=by rw[<-hdv];exact Int.ofNat_tdiv q 1073741824
   have bT:Bm (y1,x1)=if 2147483648<=d then (2*y1+1,d / 2) else (2*y1,d):=by
    unfold Bm;simp only[hq,hdv]
   have dk:=Ng (p:=(y1,x1)) HR.out.1;rw[bT]at Wq dk;rw[hq]at s1 s2 s3;rw[hdv]at s1 s2;have hw1:wrap64 (q:Int)=(q:Int):=IntWalk.wrap64_in _ (by omega)
   have pq:wrap64 (d:Int)=(d:Int):=IntWalk.wrap64_in _ (by omega)
   have Ma:wrap64 ((y1:Int)*2)=(y1:Int)*2:=IntWalk.wrap64_in _ (by omega)
   have PJ:wrap64 ((y1:Int)*2+1)=(y1:Int)*2+1:=IntWalk.wrap64_in _ (by omega)
   have HQ:=Lib.hid (And.intro Wq (And.intro dk hyk));have UM:y1<=2000000:=by omega
   clear bT Wq dk hyk KX Cp hq hdv s3;by_cases hc:2147483648<=d
   .have ui:decide (2147483648<=(d:Int))=true:=decide_eq_true (by omega)
    have aji:decide (2147483648<=d)=true:=decide_eq_true hc;have Ws:=HQ.out;rw[if_pos hc]at Ws;have Wt:=Lib.hid Ws;have jO:(d:Int).tdiv 2=((d / 2:Nat):Int):=Int.ofNat_tdiv d 2;obtain ⟨d2,Wu⟩:∃d2,d / 2=d2:=⟨_,rfl⟩;rw[Wu]at jO;have hw5:wrap64 (d2:Int)=(d2:Int):=IntWalk.wrap64_in _ (by omega)
    have HD2:=Lib.hid Wu;clear Ws Wu;go_wp2_with fail;go_roundw
    case rel=>exact ⟨k+1,2*y1+1,d2,by omega,by go_num,by go_num,by rw[hw5],⟨by rw[<-HD2.out];exact Wt.out.2.1,by have:=Wt.out.2.2;omega,by rw[<-HD2.out];exact Wt.out.1⟩,trivial⟩
    case measure=>simp[intOf];omega
   .have ui:decide (2147483648<=(d:Int))=false:=decide_eq_false (by omega)
    have aji:decide (2147483648<=d)=false:=decide_eq_false hc;have Ws:=HQ.out;rw[if_neg hc]at Ws;have Wt:=Lib.hid Ws;clear Ws;go_wp2_with fail;go_roundw
    case rel=>exact ⟨k+1,2*y1,d,by omega,by go_num,by go_num,rfl,⟨Wt.out.2.1,by have:=Wt.out.2.2;omega,Wt.out.1⟩,trivial⟩
    case measure=>simp[intOf];omega
  .obtain rfl:k=16:=by omega
   have hR:=HR.out.2.2;rw[Nat.sub_self]at hR;have HF:=Lib.hid (show (Le 16 (y,x)).1=y1 by rw[<-hR];rfl)
   clear hR;go_wp2_with fail;go_ret;exact ⟨by rw[HF.out];rfl,rfl⟩
def fP (l:List Nat):List Value:=(List.range 256).map λc=>.int .i64 ((l.count c:Nat):Int)
theorem cO (l:List Nat):(fP l).length=256:=by simp[fP]
theorem qf (l:List Nat) (c:Nat) (hc:c<256):(fP l)[c]?=some (.int .i64 ((l.count c:Nat):Int)):=by
 unfold fP;rw[List.getElem?_map,List.getElem?_range hc];rfl
theorem JB (l:List Nat) (c:Nat) (hc:c<256):fP (l++[c])=(fP l).set c (.int .i64 ((l.count c:Nat)+1:Int)):=by
 refine List.ext_getElem? λi=>?_;by_cases hi:i<256
 .rw[qf _ i hi,List.getElem?_set];by_cases h:c=i
  .subst h;rw[if_pos rfl,if_pos (by rw[cO];exact hc)]
   simp
  .rw[if_neg h,qf _ i hi,List.count_append];simp[List.count_singleton,h]
 .rw[List.getElem?_eq_none (by rw[cO];omega),List.getElem?_eq_none (by rw[List.length_set,cO];omega)]
theorem Cy (l:List Nat):∀v∈fP l,v.oneCell'=true:=by
 intro v hv;unfold fP at hv;obtain ⟨c,-,rfl⟩:=List.mem_map.1 hv
 rfl
theorem uL:(Tryz.prog.info? 117).map (λi=>(i.zero,i.size))=some (some (.agg (Array.replicate 256 (.int .i64 0))),256):=by kernel_rfl
theorem Nj:fP []=List.replicate 256 (.int .i64 0):=by
 refine List.ext_getElem? λi=>?_;by_cases hi:i<256
 .rw[qf _ i hi,List.getElem?_replicate,if_pos hi];rfl
 .rw[List.getElem?_eq_none (by rw[cO];omega),List.getElem?_eq_none (by simp;omega)]
theorem Nk {W:World} {g:Nat} {old:Array Value} (l:List Value) (h:W.heap[g]?=some (.cells old 117 (0,0))) (ho:old.size=256) (hr:l.length=256) (h1:∀v∈l,v.oneCell'=true):(storeCells ⟨g,0,none⟩ l 0).run Tryz.prog W = .ok () (W.setRow g l.toArray):=by
 have hi:=(zero_of_info uL).2;have:=run_storeVar_row (P:=Tryz.prog) W g 117 117 old l.toArray h (by simp only[List.size_toArray,hr];exact hi) (by simp;omega) (Array.all_eq_true_iff_forall_mem.2 λv hv=>h1 v (by simpa using hv))
 cases hq:Tryz.prog.info? 117 with
 | none=>simp[hq]at hi
 | some i=>
  have hs:l.length=i.size:=by simp[hq]at hi;omega
  simpa [storeVar,sizeOf,typeInfo,hq,Value.cells,hs] using this
set_option maxHeartbeats 4000000 in
theorem Fa (A:Option Addr) (n c:Nat) (bs:List Nat) (w:World) (hb:lU w (.slice A n c) bs) (hn:bs.length=n) (fO:∀b∈bs,b<256):Calls Tryz.prog 157 #[.slice A n c] w λe w'=>e = .returned (.agg (fP (if 65536<bs.length then [] else bs)).toArray)/\Below w.heap.size w w':=by
 have hzv:=(zero_of_info uL).1;have Rj:=(zero_of_info uL).2;have Bu:n<=c/\c<=9223372036854775807:=by
  obtain ⟨A',c',e,h1,-⟩:=hb;injection e with _ e2 e3;omega
 have US:(n:Int)<=9223372036854775807:=by omega
 obtain ⟨RR,ZG⟩:∃R,(if 65536<bs.length then [] else bs)=R:=⟨_,rfl⟩;rw[ZG];have Cz:=Lib.hid ZG;have HB:=Lib.hid (And.intro hb (And.intro hn fO));clear hb hn fO ZG
 go_enter Tryz.func157,Tryz.ntmps157
 go_upto_region 2 with fail
 refine dN λW0 ik=>?_;have Mj:W0=gM w [(Array.replicate 256 (.int .i64 0),117),(Array.replicate 256 (.int .i64 0),117)]:=by rw[ik];rfl
 have Wv:W0.heap[w.heap.size]?=some (.cells (Array.replicate 256 (.int .i64 0)) 117 (0,0)):=by rw[Mj];exact cX 0 rfl
 have hA1:W0.heap[w.heap.size+1]?=some (.cells (fP []).toArray 117 (0,0)):=by
  have e:(fP []).toArray=Array.replicate 256 (.int .i64 0):=by rw[Nj,List.toArray_replicate]
  rw[Mj,e];exact cX 1 rfl
 have hb0:Below w.heap.size w W0:=by rw[Mj];exact fg _ _
 clear ik Mj hzv;by_cases wO:65536<n
 .have d:decide (65536<(n:Int))=true:=decide_eq_true (by omega)
  have H0:=Lib.hid (And.intro Wv (And.intro hA1 hb0));clear Wv hA1 hb0;go_wp2_with fail;refine wp_load_row 117 (.tmp 3) rfl (w.heap.size+1) rfl 117 (fP []).toArray (0,0) _ H0.out.2.1 Tryz.underlying117 rfl (by simp only[List.size_toArray,cO];exact Rj) ?_
  have bT:=Nk (fP []) H0.out.1 (by simp) (cO _) (Cy [])
  go_wp2_with fail;refine ar λWf cH=>?_;have hrow:Wf.heap[w.heap.size]?=some (.cells (fP []).toArray 117 (0,0)):=by rw[cH];exact setRow_heap _ _ _ _ _ _ H0.out.1
  refine bodyPost_ret (v:=.agg (fP []).toArray) (results_cell_row (p:=2) rfl _ _ w.heap.size 117 _ (0,0) _ rfl hrow Tryz.underlying117 rfl (by simp only[List.size_toArray,cO];exact Rj)) rfl ?_
  refine ⟨by rw[<-Cz.out,if_pos (by rw[HB.out.2.1];exact wO)],?_⟩
  rw[cH];exact ⟨H0.out.2.2.os,H0.out.2.2.tape,H0.out.2.2.output,by rw[setRow_size];exact H0.out.2.2.size,λk hk=>(setRow_other _ _ _ _ (by omega)).trans (H0.out.2.2.block k hk)⟩
 .have d:decide (65536<(n:Int))=false:=decide_eq_false (by omega)
  have l1:w.heap.size+1<W0.heap.size:=(Array.getElem?_eq_some_iff.1 hA1).1;have H0:=Lib.hid (And.intro Wv (And.intro hA1 (And.intro hb0 l1)));clear Wv hA1 hb0 l1;go_wp2_with fail
  go_loopw [12] (λi wr=>∃k:Nat,k<=n/\i = .int .i64 (k:Int)/\Hid (wr.heap[w.heap.size]?=some (.cells (Array.replicate 256 (.int .i64 0)) 117 (0,0))/\wr.heap[w.heap.size+1]?=some (.cells (fP (bs.take k)).toArray 117 (0,0))/\Below w.heap.size w wr)) (λi _=>n - (intOf i).toNat)
  case atStart=>exact ⟨0,by omega,rfl,H0.out.1,H0.out.2.1,H0.out.2.2.1⟩
  case round=>
   obtain ⟨k,hk,rfl,HR⟩:=hrel;by_cases hlt:k<n
   .have hd:decide ((k:Int)<(n:Int))=true:=decide_eq_true (by omega)
    have iI:decide (k<n)=true:=decide_eq_true hlt;have Bn:k<bs.length:=by have:=HB.out.2.1;omega
    obtain ⟨A',c',e0,-,eA⟩:=HB.out.1;injection e0 with e1 e2 e3;obtain ⟨g,f,hA,hg,bD⟩:=eA.resolve_left (by rintro rfl;cases Bn)
    subst hA;subst e1;have q0:wr.cell? ⟨g,f+k,none⟩=some (.int .u8 ((bs[k]:Nat):Int)):=(HR.out.2.2.cell (p:=⟨g,f+k,none⟩) hg).trans (bD k Bn);have Nl:bs[k]<256:=HB.out.2.2 _ (List.getElem_mem Bn);obtain ⟨x,hx⟩:∃x,bs[k]=x:=⟨_,rfl⟩;rw[hx]at q0 Nl;have oC:g<wr.heap.size:=Nat.lt_of_lt_of_le hg HR.out.2.2.size;have mZ:wr.cell? ⟨w.heap.size+1,x,none⟩=some (.int .i64 (((bs.take k).count x:Nat):Int)):=by
     rw[cell_of_row _ _ _ _ _ _ HR.out.2.1];rw[List.getElem?_toArray,qf _ x Nl]
    have PM:wr.frozen? ⟨w.heap.size+1,x,none⟩=false:=frozen_of_row _ _ _ _ _ HR.out.2.1;have BI:(x:Int)<256:=by omega
    have ji:(bs.take k).count x<=65536:=by
     have:=List.count_le_length (a:=x) (l:=bs.take k);rw[List.length_take]at this;omega
    obtain ⟨y,hy⟩:∃y,(bs.take k).count x=y:=⟨_,rfl⟩;rw[hy]at mZ ji;have hw1:wrap64 ((y:Int)+1)=(y:Int)+1:=IntWalk.wrap64_in _ (by omega)
    have lw:w.heap.size+1<wr.heap.size:=(Array.getElem?_eq_some_iff.1 HR.out.2.1).1;have HX:=Lib.hid (And.intro hx (And.intro hy Bn));clear hx hy eA bD;go_wp2_with fail;go_roundw
    case rel=>exact ⟨k+1,by omega,by go_num,(Below.heap_setCell _ ⟨w.heap.size+1,x,none⟩ _ _ (by show w.heap.size≠w.heap.size+1;omega)).trans HR.out.1,by
     have h9:=bh HR.out.2.1 x (.int .i64 ((y:Int)+1));rw[show bs.take (k+1)=bs.take k++[x] from by rw[<-HX.out.1];exact List.take_succ_eq_append_getElem HX.out.2.2,JB _ x Nl,HX.out.2.1]
     simpa using h9,HR.out.2.2.setCell (p:=⟨w.heap.size+1,x,none⟩) (by show w.heap.size<=w.heap.size+1;omega) _⟩
    case measure=>simp[intOf];omega
   .obtain rfl:k=n:=by omega
    have hd:decide ((k:Int)<(k:Int))=false:=decide_eq_false (by omega)
    have iI:decide (k<k)=false:=decide_eq_false (by omega)
    have xD:bs.take k=bs:=by rw[<-HB.out.2.1,List.take_length]
    have hR:=HR.out;rw[xD]at hR;have PO:=Lib.hid hR;clear hR xD;go_wp2_with fail;refine wp_load_row 117 (.tmp 3) rfl (w.heap.size+1) rfl 117 (fP bs).toArray (0,0) _ PO.out.2.1 Tryz.underlying117 rfl (by simp only[List.size_toArray,cO];exact Rj) ?_
    have bT:=Nk (fP bs) PO.out.1 (by simp) (cO _) (Cy bs)
    go_wp2_with fail;refine ar λWf cH=>?_;have hrow:Wf.heap[w.heap.size]?=some (.cells (fP bs).toArray 117 (0,0)):=by rw[cH];exact setRow_heap _ _ _ _ _ _ PO.out.1
    refine bodyPost_ret (v:=.agg (fP bs).toArray) (results_cell_row (p:=2) rfl _ _ w.heap.size 117 _ (0,0) _ rfl hrow Tryz.underlying117 rfl (by simp only[List.size_toArray,cO];exact Rj)) rfl ?_
    refine ⟨by rw[<-Cz.out,if_neg (by rw[HB.out.2.1];exact wO)],?_⟩
    rw[cH];exact ⟨PO.out.2.2.os,PO.out.2.2.tape,PO.out.2.2.output,by rw[setRow_size];exact PO.out.2.2.size,λk hk=>(setRow_other _ _ _ _ (by omega)).trans (PO.out.2.2.block k hk)⟩
end
section
set_option linter.unusedVariables false
set_option linter.unusedSimpArgs false
open Go.RowKit
theorem Rh (l:List Nat) (k:Nat) (hk:k<256) (w:World):(Instr.index 117 (.agg (fP l).toArray) (.int .i64 (k:Int))).run Tryz.prog w = .ok (.int .i64 ((l.count k:Nat):Int)) w:=by
 have h:=qf l k hk;have h2:(fP l).toArray[k]?=some (.int .i64 ((l.count k:Nat):Int)):=by rw[List.getElem?_toArray];exact h
 have hs:(fP l).toArray.size=256:=by simp[cO]
 have h3:(fP l)[k]'(by rw[cO];exact hk) = .int .i64 ((l.count k:Nat):Int):=by
  have:=List.getElem?_eq_getElem (l:=fP l) (i:=k) (by rw[cO];exact hk)
  rw[this]at h;injection h
 have hp:(part 3 (fP l).toArray k).run Tryz.prog w = .ok (.int .i64 ((l.count k:Nat):Int)) w:=by
  simp[part,Tryz.isAgg3,h2]
 simp[Instr.index,asIntOf,run_underlying Tryz.underlying117,hs,hk,h2,cO,h3,hp]
theorem TV {s y k C:Nat} (h:s<=k*C) (hy:y<=C):s+y<=(k+1)*C:=by rw[Nat.succ_mul];exact Nat.add_le_add h hy
theorem Wp {s k C:Nat} (h:s<=k*C) (hk:k<=256) (hC:C<=1000000000000):s<=256000000000000:=Nat.le_trans h (Nat.mul_le_mul hk hC)
theorem ajf {s y:Nat} (h:s<=256000000000000) (h2:y<=1000000000000):wrap64 (y:Int)=(y:Int)/\wrap64 ((s:Int)+(y:Int))=(s:Int)+(y:Int):=⟨IntWalk.wrap64_in _ (by omega),IntWalk.wrap64_in _ (by omega)⟩
theorem ajg:∃C,C<=1000000000000/\∀len n,n<=65536->ux len n<=C:=⟨133143920640,by decide,λlen n h=>Rg h⟩
set_option maxHeartbeats 4000000 in
theorem Cx (A:Option Addr) (n c:Nat) (bs:List Nat) (w:World) (hb:lU w (.slice A n c) bs) (hn:bs.length=n) (fO:∀b∈bs,b<256) (lZ:n<=900000):Calls Tryz.prog 126 #[.slice A n c] w λe w'=>e = .returned (.int .i64 ((Rf bs:Nat):Int))/\Below w.heap.size w w':=by
 have HC:=Lib.hid (Fa A n c bs w hb hn fO);obtain ⟨R,hR⟩:∃R,(if 65536<bs.length then [] else bs)=R:=⟨_,rfl⟩;rw[hR]at HC;have Ri:∀k,R.count k=cntF bs k:=λk=>by
  rw[<-hR];unfold cntF;by_cases h:65536<bs.length
  .rw[if_pos h,if_pos h];simp
  .rw[if_neg h,if_neg h]
 have hpos:∀k,0<cntF bs k->bs.length<=65536:=λk h=>by
  unfold cntF at h;by_cases h2:65536<bs.length
  .rw[if_pos h2]at h;omega
  .omega
 have HK:=Lib.hid (And.intro Ri (And.intro hpos hn));have HIX:=Lib.hid λ(k:Nat) (hk:k<256) (W:World)=>by have h:=Rh R k hk W;rw[Ri k]at h;exact h
 have Bu:n<=c/\c<=9223372036854775807:=by
  obtain ⟨A',c',e,h1,-⟩:=hb;injection e with _ e2 e3;omega
 have US:(n:Int)<=9223372036854775807:=by omega
 obtain ⟨M,hM⟩:∃M,Rf bs=M:=⟨_,rfl⟩;rw[hM];have HM:=Lib.hid hM;obtain ⟨C,hC⟩:=ajg;have Wl:=Lib.hid hC;clear hC;clear hb fO hR Ri hpos hM hn
 go_enter Tryz.func126,Tryz.ntmps126
 go_wp2_with fail;refine HC.out.mono ?_;rintro e w1 ⟨rfl,hb1⟩;have bH:=Lib.hid hb1;clear hb1;obtain ⟨AR,hAR⟩:∃a,Value.agg (fP R).toArray=a:=⟨_,rfl⟩;rw[hAR];rw[hAR]at HIX;clear hAR;go_wp2_with fail
 go_loopw [3,8] (λsv iv wr=>∃k s:Nat,k<=256/\iv = .int .i64 (k:Int)/\sv = .int .i64 (s:Int)/\Hid (s<=k*C/\s+JA (cntF bs) bs.length (256-k) k=M)/\wr=w1) (λ_ iv _=>256 - (intOf iv).toNat)
 case atStart=>exact ⟨0,0,by omega,rfl,rfl,⟨Nat.zero_le _,by rw[Nat.zero_add];exact HM.out⟩,rfl⟩
 case round=>
  obtain ⟨k,s,hk,rfl,rfl,HR,rfl⟩:=hrel;by_cases hlt:k<256
  .have hd:decide ((k:Int)<256)=true:=decide_eq_true (by omega)
   have iI:decide (k<256)=true:=decide_eq_true hlt;have ED:=HIX.out k hlt;have bT:JA (cntF bs) bs.length (256-k) k=ux bs.length (cntF bs k)+JA (cntF bs) bs.length (256 - (k+1)) (k+1):=by rw[show 256-k=(256 - (k+1))+1 by omega];rfl
   have hle:=Wl.out.2 bs.length _ (zB bs k).1;have bD:=(zB bs k).2;have hp:=HK.out.2.1 k;obtain ⟨q,hq⟩:∃q,cntF bs k=q:=⟨_,rfl⟩;rw[hq]at ED bT hle bD hp;have hq6:q<=65536:=by rw[<-hq];exact (zB bs k).1
   have La:=Wp HR.out.1 hk Wl.out.1;by_cases h0:0<q
   .have d0:decide ((0:Int)<(q:Int))=true:=decide_eq_true (by omega)
    have d0n:decide (0<q)=true:=decide_eq_true h0;have rk:=hp h0;have xX:=Jz h0 (bD rk) (by omega)
    have LX:=G0 bs.length;rw[HK.out.2.2]at xX LX hle bT;have L1:=Lib.hid λW=>G1 n W (by omega)
    have L2:=Lib.hid λW=>G1 q W (by omega)
    obtain ⟨a,ha⟩:∃a,lO n=a:=⟨_,rfl⟩;obtain ⟨b,hb⟩:∃b,lO q=b:=⟨_,rfl⟩;have uK:ux n q=q*(a-b):=by unfold ux;rw[if_pos h0,ha,hb]
    rw[ha]at L1 xX LX;rw[hb]at L2 xX;rw[uK]at hle bT;obtain ⟨d,hdd⟩:∃d,a-b=d:=⟨_,rfl⟩;rw[hdd]at hle bT;have hw1:wrap64 ((a:Int) - (b:Int))=(d:Int):=by rw[IntWalk.wrap64_in _ (by omega)];omega
    obtain ⟨y,hy⟩:∃y,q*d=y:=⟨_,rfl⟩;rw[hy]at hle bT;have hyi:(q:Int)*(d:Int)=(y:Int):=by rw[<-hy];push_cast;rfl
    have hyC:y<=1000000000000:=Nat.le_trans hle Wl.out.1;obtain ⟨pq,Ma⟩:=ajf La hyC;have bO:=HR.out.2;rw[HK.out.2.2,bT,<-Nat.add_assoc]at bO;have HF:=Lib.hid (And.intro (TV HR.out.1 hle) bO);clear bT hle bD hp hq rk xX LX ha hb uK hdd hy bO La hyC;go_wp2_with fail;refine (L1.out wr).mono ?_;rintro e w2 ⟨rfl,rfl⟩;go_wp2_with fail;refine (L2.out w2).mono ?_;rintro e w3 ⟨rfl,rfl⟩;go_wp2_with fail;go_roundw
    case rel=>exact ⟨k+1,s+y,by omega,by go_num,by go_num,⟨HF.out.1,by rw[HK.out.2.2];exact HF.out.2⟩,trivial⟩
    case measure=>simp[intOf];omega
   .obtain rfl:q=0:=by omega
    have uK:ux bs.length 0=0:=by unfold ux;rw[if_neg (by decide)]
    have bO:=HR.out.2;rw[bT,uK,Nat.zero_add]at bO;have HF:=Lib.hid (And.intro (TV (y:=0) HR.out.1 (Nat.zero_le _)) bO);clear bT hle bD hp hq uK bO La;go_wp2_with fail;go_roundw
    case rel=>exact ⟨k+1,s,by omega,by go_num,rfl,⟨HF.out.1,HF.out.2⟩,trivial⟩
    case measure=>simp[intOf];omega
  .obtain rfl:k=256:=by omega
   have hR:=HR.out.2;rw[Nat.sub_self,JA,Nat.add_zero]at hR;have HF:=Lib.hid hR;clear hR;go_wp2_with fail;go_ret;exact ⟨by rw[<-HF.out];rfl,bH.out⟩
end
end Go.Proofs.YtdmoogjddmdmbaaGreatDoor
