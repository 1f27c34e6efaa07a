/- Walk: machine.Reach. · Walks: ref05's union and step. · Walk: ref05.Belongs at a pattern that is right and a text that is not too long. · Walk: machine.Valid at a valid machine. · Walk: ref06.Valid at a valid machine. · Walk: ref06.Equal at valid machines. · Walks: machine.Ends, machine.Accepts. · Walk: ref06.Same at valid machines. · Walk: machine.Least at a valid machine. · Walks: the tape's Between. · Walks: the reader of patterns at one text: its set. · law06.own: what the steps at a round's end leave (two rows grow, the tape moves on, the box is written). · Walk: the maker's Set: a set of bytes, one of eight. · Rows of bytes in which one byte is changed; a row of bytes as a slice that reads. -/
import Derived.Test.YtadjdkickjjieaaGreatDoorY19
import Derived.Test.YtadjdkickjjieaaGreatDoorY21
import Derived.Test.YtadjdkickjjieaaGreatDoorY22
import Derived.Test.YtadjdkickjjieaaGreatDoorY14
import Derived.Test.YtadjdkickjjieaaGreatDoorY01
import Derived.Test.YtadjdkickjjieaaGreatDoorY20
import Derived.Test.YtadjdkickjjieaaGreatDoorY18
import Derived.StillTailTactics
import Derived.Test.YtadjdkickjjieaaGreatDoorY04
import Derived.Test.YtadjdkickjjieaaGreatDoorY13
import Derived.Test.YtadjdkickjjieaaGreatDoorY10
namespace Go.Proofs.YtadjdkickjjieaaGreatDoor
set_option linter.unusedVariables false
set_option linter.unusedSimpArgs false
set_option maxRecDepth 100000
open Go.RowKit
def inC (n:Nat):List Value:=[.int .i64 (n:Int)]
theorem zLq:EncS inC 1:=⟨by decide,λ_=>rfl,λx u hu=>by simp[inC]at hu;subst hu;rfl⟩
def ByIn (w:World) (v:Value) (l:List Nat):Prop:=∃A c,v = .slice A l.length c/\(l.length<=c/\c<=9223372036854775807)/\(l=[]\/∃g f,A=some ⟨g,f,none⟩/\g<w.heap.size/\∀i (h:i<l.length),w.cell? ⟨g,f+i,none⟩=some (.int .u8 (l[i]:Int)))
theorem ByIn.later {w w':World} {v:Value} {l:List Nat} (h:ByIn w v l) (hb:Below w.heap.size w w'):ByIn w' v l:=by
 obtain ⟨A,c,e,hc,h⟩:=h;refine ⟨A,c,e,hc,h.imp id ?_⟩;rintro ⟨g,f,h1,hg,hcell⟩;exact ⟨g,f,h1,Nat.lt_of_lt_of_le hg hb.size,λi hi=>(hb.cell (p:=⟨g,f+i,none⟩) hg).trans (hcell i hi)⟩
def zI3 (l:List Nat) (w:World) (e:Ending) (w':World):Prop:=∃rv,e = .returned rv/\OR 3 1 inC w.heap.size rv l w'/\Below w.heap.size w w'
structure RhW (w:World) (ve va v:Value) (o:List Nat) (wr:World):Prop where
 own:OR 3 1 inC (w.heap.size+1) v o wr
 bel:Below w.heap.size w wr
 siz:w.heap.size+1<=wr.heap.size
 box:wr.heap[w.heap.size]?=some (.cells #[ve,va] 73 (0,0))
theorem RhW.next {w wr w':World} {ve va v v':Value} {o o':List Nat} (h:RhW w ve va v o wr) (hown:OR 3 1 inC (w.heap.size+1) v' o' w') (hb:Below (w.heap.size+1) wr w'):RhW w ve va v' o' w':=
 ⟨hown,h.bel.trans (hb.mono (by omega)),Nat.le_trans h.siz hb.size,(hb.block _ (by omega)).trans h.box⟩
theorem RhW.later {w wr w':World} {ve va v:Value} {o:List Nat} (h:RhW w ve va v o wr) (hb:Below wr.heap.size wr w'):RhW w ve va v o w':=
 h.next (h.own.later hb) (hb.mono h.siz)
def RhI (m:Mc) (bs:List Nat) (R:List Nat) (o:List Nat) (sx:Int) (k:Nat):Prop:=(sx=-1/\o=R)\/∃s:Nat,sx=(s:Int)/\s<m.ed.length/\k<=bs.length/\o++rchF m (bs.drop k) s k=R
theorem zJ9 {m:Mc} {bs R o o':List Nat} {s k:Nat} {b:Bool} (hv:Vld m) (h:o++rchF m (bs.drop k) s k=R) (hb:(m.ac[s]?).getD false=b) (ho:o'=if b=true then o++[k] else o) :
  (bs.length<=k->o'=R)/\∀hk:k<bs.length,RhI m bs R o' (nxF m s bs[k]) (k+1):=by
 constructor
 .intro hk;rw[List.drop_eq_nil_of_le hk,rchF,hb]at h;rw[ho,<-h]
  cases b <;> simp
 .intro hk;rw[List.drop_eq_getElem_cons hk,rchF,hb,<-List.append_assoc]at h;have h2:o++(if b=true then [k] else [])=o':=by rw[ho]; cases b <;> simp
  rw[h2]at h;unfold RhI nxF
  cases ht:trn (rowM m s) bs[k] with
  | none=>
   rw[ht]at h;exact .inl ⟨rfl,by simpa using h⟩
  | some t=>
   rw[ht]at h;exact .inr ⟨t,rfl,hv.trn_lt ht,hk,h⟩
set_option maxHeartbeats 2000000 in
theorem zIC (v vb:Value) (m:Mc) (bs:List Nat) (i:Nat) (w:World) (hm:McIn w v m) (hv:Vld m) (hsm:McSm m) (h1:1<=m.ed.length) (hb:ByIn w vb bs) (hbl:bs.length<=900000) (hby:∀b∈bs,b<256) (hi:i<=bs.length) :
  Calls Tryz.prog 98 #[v,vb, .int .i64 (i:Int)] w (zI3 (rchF m (bs.drop i) 0 i) w):=by
 obtain ⟨ve,va,rfl,he,ha⟩:=id hm;obtain ⟨Ae,ce,rfl,hce1,hce2⟩:=he.form;obtain ⟨Aa,ca,rfl,hca1,hca2⟩:=ha.form;obtain ⟨Ab,cb,rfl,hcb,hbc⟩:=id hb;obtain ⟨n,hn⟩:∃n,m.ed.length=n:=⟨_,rfl⟩;have hac:m.ac.length=n:=by rw[hv.len,hn]
 obtain ⟨L,hL⟩:∃n,bs.length=n:=⟨_,rfl⟩;have hnx:=λ(s c:Nat) (W:World) (h:Below w.heap.size w W) (hs:s<m.ed.length)=>zJA _ m s c W (hm.later h) hv hsm hs;have hnn:=hsm.n;obtain ⟨R,hR⟩:∃R,rchF m (bs.drop i) 0 i=R:=⟨_,rfl⟩;rw[hn]at hce1 hnn hnx;rw[hac]at hca1 hnx;rw[hL]at hcb hbl hi;have HNX:=Lib.hid hnx;have HA:=Lib.hid ha;have HV:=Lib.hid hv;have HBC:=Lib.hid hbc;have HN:=Lib.hid (And.intro hn hac);have HL:=Lib.hid hL;have HI0:Hid (RhI m bs R [] 0 i):=.inr ⟨0,rfl,h1,by rw[hL];exact hi,hR⟩
 have hW0:RhW w (.slice Ae n ce) (.slice Aa n ca) (.slice none 0 0) [] (w.alloc (.cells #[.slice Ae n ce, .slice Aa n ca] 73)):=⟨OR.nil_ _ _ _,(Below.refl _ _).alloc (Nat.le_refl _) _,by simp,heap_alloc_new w _⟩
 have HW0:=Lib.hid hW0;obtain ⟨i3,hi3,hk0,hk1,hk2⟩:=info_parts zBK;have hri:zI3 (rchF m (bs.drop i) 0 i) w=zI3 R w:=by rw[hR]
 rw[hri,hn,hac,hL];clear hnx ha he hv hbc hn hac hL hR hW0 hm hsm hb h1 hri
 go_enter Tryz.func98,Tryz.ntmps98
 go_wp2_with fail
 go_loopg [7,8,9] (L+1-i) (λq s7 s8 s9 wr=>∃(sx:Int) (k:Nat) (o:List Nat),s8 = .int .i64 sx/\s9 = .int .i64 (k:Int)/\o.length<=k/\k<=L+1/\q=L+1-k/\Hid (RhW w (.slice Ae n ce) (.slice Aa n ca) s7 o wr)/\Hid (RhI m bs R o sx k))
 case atStart=>exact ⟨0,i,[],rfl,rfl,by simp,by omega,rfl,HW0,HI0⟩
 case round=>
  obtain ⟨sx,k,o,rfl,rfl,hok,hkL,hq,HW,HI⟩:=hrel;have hbx:=HW.out.box;obtain ⟨x0,x1⟩:wr.cell? ⟨w.heap.size,0,none⟩=some (.slice Ae n ce)/\wr.cell? ⟨w.heap.size,1,none⟩=some (.slice Aa n ca):=by
   constructor <;> (rw[cell_of_row _ _ _ _ _ _ hbx]; rfl)
  have hwz:=HW.out.siz;have hws:w.heap.size<wr.heap.size:=by omega
  obtain ⟨Ar,cr,rfl⟩:∃A c,u7 = .slice A o.length c:=by
   obtain ⟨A,c,e,-⟩:=zAC (show wr.ownsRow _ _ _ _ _ _ from HW.out.own);exact ⟨A,c,e⟩
  clear hbx;by_cases hsx:sx=-1
  .have hd:decide ((0:Int)<=-1)=false:=by decide
   have HR:Hid (o=R):=by
    rcases HI.out with h | ⟨s,h,-⟩
    .exact h.2
    .omega
   subst hsx;clear HI;go_wp2_with fail;go_ret;exact ⟨_,rfl,HR.out▸HW.out.own.mono (by omega),HW.out.bel⟩
  .obtain ⟨s,hsx2,hsm,hkb,hRR⟩:=HI.out.resolve_left (λh=>hsx h.1);subst hsx2;rw[HN.out.1]at hsm;rw[HL.out]at hkb;have hsn:s<n:=hsm;have hds:decide (s<n)=true:=decide_eq_true hsn;have hd:decide ((0:Int)<=(s:Int))=true:=decide_eq_true (by omega)
   obtain ⟨g0,f0,rfl,-,hg0,hac0⟩:=HA.out.at_ (k:=s) (by rw[HN.out.2];exact hsn)
   obtain ⟨b,hb⟩:∃b,m.ac[s]'(by rw[HN.out.2];exact hsn)=b:=⟨_,rfl⟩
   rw[hb]at hac0;have hbg:(m.ac[s]?).getD false=b:=by rw[List.getElem?_eq_getElem (by rw[HN.out.2];exact hsn),hb];rfl
   have hacw:=(HW.out.bel.cell (p:=⟨g0,f0+s,none⟩) hg0).trans hac0;have hg1:g0<wr.heap.size:=by have:=HW.out.bel.size;omega
   have HST:=Lib.hid (λo'=>zJ9 (o':=o') HV.out hRR hbg);clear hsx hsm hRR hbg hac0 hb HI
   cases b with
   | true=>
    by_cases hkl:k<L
    .have hdk:decide (k<L)=true:=decide_eq_true hkl;have hne:decide (k=L)=false:=decide_eq_false (by omega)
     have hnei:decide ((k:Int)=(L:Int))=false:=decide_eq_false (by omega)
     have hneb:(k == L)=false:=by simp;omega
     have hnec:((k:Int) == (L:Int))=false:=by simp;omega
     have hown:=HW.out.own;go_wp2_with (at_builtin;refine zFk zLq Tryz.underlying22 hi3 hk0 hk1 hk2 rfl (by decide) _ _ _ _ o k _ (w.heap.size+1) rfl rfl rfl rfl rfl hown (by omega) (by omega) ?_;intro v1 w1 hown1 hb1)
     have HW1:=Lib.hid (HW.out.next hown1 hb1);have HT:=Lib.hid (HST.out (o++[k]) rfl);clear hown hown1 hb1 hacw hg1 x0 x1 hwz hws;have hkb:k<bs.length:=by rw[HL.out];exact hkl
     obtain ⟨g,ff,rfl,hg,hcs⟩:=HBC.out.resolve_left (by intro e;rw[e]at hkb;simp at hkb)
     have hck:=hcs k hkb;obtain ⟨c,hc⟩:∃c,bs[k]=c:=⟨_,rfl⟩;rw[hc]at hck;have hnext:=HT.out.2 hkb;rw[hc]at hnext;have HNEXT:=Lib.hid hnext;have hbW:=HW1.out.bel;have hb1:=HW1.out.box;have hz1:=HW1.out.siz;have hd0:∀d':BelT w1.heap.size w1,d'.val.cell? ⟨w.heap.size,0,none⟩=some (.slice Ae n ce):=λd'=>by
      rw[cell_of_row _ _ _ _ _ _ ((d'.property.block w.heap.size (by omega)).trans hb1)];rfl
     have hd1:∀d':BelT w1.heap.size w1,d'.val.cell? ⟨w.heap.size,1,none⟩=some (.slice (some ⟨g0,f0,none⟩) n ca):=λd'=>by
      rw[cell_of_row _ _ _ _ _ _ ((d'.property.block w.heap.size (by omega)).trans hb1)];rfl
     have hd2:∀d':BelT w1.heap.size w1,w.heap.size<d'.val.heap.size:=λd'=>by have:=d'.property.size;omega
     have hd3:∀d':BelT w1.heap.size w1,d'.val.cell? ⟨g,ff+k,none⟩=some (.int .u8 (c:Int)):=λd'=>((hbW.trans (d'.property.mono hbW.size)).cell (p:=⟨g,ff+k,none⟩) hg).trans hck;have hd4:∀d':BelT w1.heap.size w1,g<d'.val.heap.size:=λd'=>by have:=d'.property.size;have:=hbW.size;omega
     have hcall:∀d':BelT w1.heap.size w1,Calls Tryz.prog 129 #[.agg #[.slice Ae n ce, .slice (some ⟨g0,f0,none⟩) n ca], .int .i64 (s:Int), .int .u8 (c:Int)] d'.val λe w'=>e = .returned (.int .i64 (nxF m s c))/\Below d'.val.heap.size d'.val w':=λd'=>HNX.out s c d'.val (hbW.trans (d'.property.mono hbW.size)) hsn;obtain ⟨x,hx⟩:∃x,nxF m s c=x:=⟨_,rfl⟩;rw[hx]at hcall HNEXT;have HCALL:=Lib.hid hcall;clear hck hcs hkb hc hnext hbW hb1 hcall hx;refine zAH (Below.refl w1.heap.size w1) (by kernel_rfl) (by kernel_rfl) ?_
     repeat (go_big_quiet_step ((go_at_call 129;exact Calls.below_of (Nat.le_refl _) (HCALL.out _))))
     refine wpQuiet_nil ?_;intro w2 hw';have hw2:Below w1.heap.size w1 w2:=by obtain ⟨d9,rfl⟩:=hw';exact d9.property
     have HW2:=Lib.hid (HW1.out.later hw2);clear hw' hd0 hd1 hd2 hd3 hd4 hw2;go_wp2_with fail
     go_roundg (L-k)
     case measure=>omega
     case rel=>exact ⟨x,k+1,o++[k],rfl,by go_num,by (try simp);omega,by omega,by omega,HW2,HNEXT⟩
    .obtain rfl:k=L:=by omega
     have hdk:decide (k<k)=false:=decide_eq_false (by omega)
     have hne:decide (k=k)=true:=decide_eq_true rfl;have hnei:decide ((k:Int)=(k:Int))=true:=decide_eq_true rfl;have hown:=HW.out.own;go_wp2_with (at_builtin;refine zFk zLq Tryz.underlying22 hi3 hk0 hk1 hk2 rfl (by decide) _ _ _ _ o k _ (w.heap.size+1) rfl rfl rfl rfl rfl hown (by omega) (by omega) ?_;intro v1 w1 hown1 hb1)
     have HW1:=Lib.hid (HW.out.next hown1 hb1);have HT:=Lib.hid (HST.out (o++[k]) rfl);clear hown hown1 hb1 hacw hg1 x0 x1;have HE:=Lib.hid (HT.out.1 (Nat.le_of_eq HL.out));go_ret;exact ⟨_,rfl,HE.out▸HW1.out.own.mono (by omega),HW1.out.bel⟩
   | false=>
    have HW1:=HW;have HT:=Lib.hid (HST.out o rfl);by_cases hkl:k<L
    .have hdk:decide (k<L)=true:=decide_eq_true hkl;have hne:decide (k=L)=false:=decide_eq_false (by omega)
     have hnei:decide ((k:Int)=(L:Int))=false:=decide_eq_false (by omega)
     have hneb:(k == L)=false:=by simp;omega
     have hnec:((k:Int) == (L:Int))=false:=by simp;omega
     have hkb:k<bs.length:=by rw[HL.out];exact hkl
     obtain ⟨g,ff,rfl,hg,hcs⟩:=HBC.out.resolve_left (by intro e;rw[e]at hkb;simp at hkb)
     have hck:=hcs k hkb;obtain ⟨c,hc⟩:∃c,bs[k]=c:=⟨_,rfl⟩;rw[hc]at hck;have hnext:=HT.out.2 hkb;rw[hc]at hnext;have HNEXT:=Lib.hid hnext;have hbW:=HW1.out.bel;have hb1:=HW1.out.box;have hz1:=HW1.out.siz;have hd0:∀d':BelT wr.heap.size wr,d'.val.cell? ⟨w.heap.size,0,none⟩=some (.slice Ae n ce):=λd'=>by
      rw[cell_of_row _ _ _ _ _ _ ((d'.property.block w.heap.size (by omega)).trans hb1)];rfl
     have hd1:∀d':BelT wr.heap.size wr,d'.val.cell? ⟨w.heap.size,1,none⟩=some (.slice (some ⟨g0,f0,none⟩) n ca):=λd'=>by
      rw[cell_of_row _ _ _ _ _ _ ((d'.property.block w.heap.size (by omega)).trans hb1)];rfl
     have hd2:∀d':BelT wr.heap.size wr,w.heap.size<d'.val.heap.size:=λd'=>by have:=d'.property.size;omega
     have hd3:∀d':BelT wr.heap.size wr,d'.val.cell? ⟨g,ff+k,none⟩=some (.int .u8 (c:Int)):=λd'=>((hbW.trans (d'.property.mono hbW.size)).cell (p:=⟨g,ff+k,none⟩) hg).trans hck;have hd4:∀d':BelT wr.heap.size wr,g<d'.val.heap.size:=λd'=>by have:=d'.property.size;have:=hbW.size;omega
     have hcall:∀d':BelT wr.heap.size wr,Calls Tryz.prog 129 #[.agg #[.slice Ae n ce, .slice (some ⟨g0,f0,none⟩) n ca], .int .i64 (s:Int), .int .u8 (c:Int)] d'.val λe w'=>e = .returned (.int .i64 (nxF m s c))/\Below d'.val.heap.size d'.val w':=λd'=>HNX.out s c d'.val (hbW.trans (d'.property.mono hbW.size)) hsn;obtain ⟨x,hx⟩:∃x,nxF m s c=x:=⟨_,rfl⟩;rw[hx]at hcall HNEXT;have HCALL:=Lib.hid hcall;clear hck hcs hkb hc hnext hbW hb1 hcall hx;go_wp2_with fail
     try exact absurd (show ((k:Int) == (L:Int))=true by assumption) (by rw[hnec];decide)
     refine zAH (Below.refl wr.heap.size wr) (by kernel_rfl) (by kernel_rfl) ?_
     repeat (go_big_quiet_step ((go_at_call 129;exact Calls.below_of (Nat.le_refl _) (HCALL.out _))))
     refine wpQuiet_nil ?_;intro w2 hw';have hw2:Below wr.heap.size wr w2:=by obtain ⟨d9,rfl⟩:=hw';exact d9.property
     have HW2:=Lib.hid (HW1.out.later hw2);clear hw' hd0 hd1 hd2 hd3 hd4 hw2;go_wp2_with fail
     go_roundg (L-k)
     case measure=>omega
     case rel=>exact ⟨x,k+1,o,rfl,by go_num,by (try simp);omega,by omega,by omega,HW2,HNEXT⟩
    .obtain rfl:k=L:=by omega
     have hdk:decide (k<k)=false:=decide_eq_false (by omega)
     have hne:decide (k=k)=true:=decide_eq_true rfl;have hnei:decide ((k:Int)=(k:Int))=true:=decide_eq_true rfl;have HE:=Lib.hid (HT.out.1 (Nat.le_of_eq HL.out));go_wp2_with fail;go_ret;exact ⟨_,rfl,HE.out▸HW1.out.own.mono (by omega),HW1.out.bel⟩
theorem AlR.setv {W:World} {B go n c:Nat} {o:List Bool} {wr:World} (h:AlR W B go n c o wr) (hn:o.length=n) (s:Nat) (z:Bool):AlR W B go n c (o.set s z) (wr.setCell ⟨go,s,none⟩ (.bool z)):=by
 have hrow:∀o:List Bool,rowF bC o=o.map Value.bool:=λo=>by
  unfold rowF
  induction o with
  | nil=>rfl
  | cons b r ih=>simp only[List.map_cons,List.flatten_cons,ih];rfl
 refine ⟨?_,?_⟩
 .have h1:wr.ownsRow B 4 1 (.slice (some ⟨go,0,none⟩) n c) n (rowF bC o):=by have:=h.own;unfold OR at this;rwa [hn]at this
  have h2:=(h1.stored s (.bool z)).1;show World.ownsRow _ _ _ _ _ _ _;rw[List.length_set,hn,hrow,List.map_set];rw[hrow]at h2;exact h2
 .exact h.kf.trans ⟨rfl,rfl,rfl,by simp[World.setCell],λk _ hn=>Below.heap_setCell _ _ _ _ (λe=>hn (by simp[show k=go from e])),λk hk=>.inl hk⟩
theorem AlR.drew {W:World} {B go n c:Nat} {o:List Bool} {wr:World} (h:AlR W B go n c o wr):AlR W B go n c o wr.drew:=⟨h.own,⟨h.kf.os,h.kf.tape,h.kf.output,h.kf.size,h.kf.blk,h.kf.new⟩⟩
def zMr (l:List Bool) (w:World) (e:Ending) (w':World):Prop:=∃v,e = .returned v/\BlIn w' v l/\Below w.heap.size w w'
set_option maxHeartbeats 4000000 in
theorem zEH (va vb:Value) (a b:List Bool) (w:World) (ha:BlIn w va a) (hb:BlIn w vb b) (hl:a.length=b.length) (hn:a.length<=2000) :
  Calls Tryz.prog 74 #[va,vb] w (zMr (orL a b) w):=by
 obtain ⟨Aa,ca,rfl,hca,hoa⟩:=ha;obtain ⟨Ab,cb,rfl,hcb,hob⟩:=hb;obtain ⟨n,hN⟩:∃n,a.length=n:=⟨_,rfl⟩;have hM:b.length=n:=by omega
 have hmk:=zDK n (by omega)
 have hW1:=zDn w n (by omega)
 have hb1:Below w.heap.size w (w.alloc (.cells (Array.replicate n (.bool false)) 4)):=(Below.refl _ _).alloc (Nat.le_refl _) _;obtain ⟨W1,hW⟩:∃W1,w.alloc (.cells (Array.replicate n (.bool false)) 4)=W1:=⟨_,rfl⟩;have hz1:W1.heap.size=w.heap.size+1:=by rw[<-hW];simp
 rw[hW]at hW1 hb1;have HA0:=Lib.hid (show AlR W1 w.heap.size w.heap.size n n (orK a b 0) W1 from ⟨by rw[zJr,hN];exact hW1,KeepF.refl _ _⟩)
 have HB1:=Lib.hid hb1;have HWW:=Lib.hid hW;have HN:=Lib.hid (And.intro hN hM);have HOA:=Lib.hid hoa;have HOB:=Lib.hid hob;have hz2:w.heap.size+1<=W1.heap.size:=by omega
 rw[hN]at hca hn|-;rw[hM]at hcb|-;clear hl hW1 hb1 hW hN hM hoa hob hz1
 go_enter Tryz.func74,Tryz.ntmps74
 go_wp2_with fail;rw[HWW.out]
 go_loopw [6] (λiv wr=>∃i:Nat,i<=n/\iv = .int .i64 (i:Int)/\Hid (AlR W1 w.heap.size w.heap.size n n (orK a b i) wr)) (λiv _=>n - (intOf iv).toNat)
 case atStart=>exact ⟨0,Nat.zero_le _,rfl,HA0⟩
 case round=>
  obtain ⟨i,hi,rfl,HA⟩:=hrel;have hbw:Below w.heap.size w wr:=HB1.out.trans (HA.out.kf.below (λk hk=>by rw[List.mem_singleton]at hk;omega) (by omega))
  by_cases hlt:i<n
  .have hd:decide ((i:Int)<(n:Int))=true:=decide_eq_true (by omega)
   have hdn:decide (i<n)=true:=decide_eq_true hlt;have hia:i<a.length:=by rw[HN.out.1];exact hlt
   have hib:i<b.length:=by rw[HN.out.2];exact hlt
   obtain ⟨ga,fa,rfl,hga,hcla⟩:=HOA.out.resolve_left (λh=>by rw[h]at hia;simp at hia)
   obtain ⟨gb,fb,rfl,hgb,hclb⟩:=HOB.out.resolve_left (λh=>by rw[h]at hib;simp at hib)
   obtain ⟨x,hx⟩:∃x,a[i]=x:=⟨_,rfl⟩;obtain ⟨y,hy⟩:∃y,b[i]=y:=⟨_,rfl⟩;have c0:=(hbw.cell (p:=⟨ga,fa+i,none⟩) hga).trans (hcla i hia);have c1:=(hbw.cell (p:=⟨gb,fb+i,none⟩) hgb).trans (hclb i hib);rw[hx]at c0;rw[hy]at c1;have la:ga<wr.heap.size:=by have:=hbw.size;omega
   have lb:gb<wr.heap.size:=by have:=hbw.size;omega
   have hs:=zKe a b hia;have hset:=HA.out.setv (by rw[zCp,HN.out.1]) i (x || y)
   rw[List.getElem?_eq_getElem hia,List.getElem?_eq_getElem hib,hx,hy,Option.getD_some,Option.getD_some]at hs;rw[hs]at hset;obtain ⟨z,hz⟩:∃z,(orK a b i)[i]?=some z:=⟨_,List.getElem?_eq_getElem (by rw[zCp];exact hia)⟩
   obtain ⟨d0,d1,d2⟩:=HA.out.cell hz;have HS:=Lib.hid hset;have hi63:(i:Int)<(n:Int):=by omega
   clear hs hset hz hx hy hcla hclb hbw
   cases x with
   | true=>
    go_wp2_with fail;go_roundw
    case rel=>exact ⟨i+1,by omega,by go_num,HS⟩
    case measure=>simp[intOf];omega
   | false=>
    go_wp2_with fail;go_roundw
    case rel=>exact ⟨i+1,by omega,by go_num,HS⟩
    case measure=>simp[intOf];omega
  .obtain rfl:i=n:=by omega
   have hd:decide ((i:Int)<(i:Int))=false:=decide_eq_false (by omega)
   have hdn:decide (i<i)=false:=decide_eq_false (by omega)
   have HBW:=Lib.hid hbw;clear hbw;go_wp2_with fail;go_ret;have ho:=HA.out.own;rw[<-HN.out.1,zLJ]at ho;exact ⟨_,rfl,BlIn.of_OR (by rw[<-HN.out.1];exact ho),HBW.out⟩
def zM4 (nd:Nd) (bs:List Nat) (A:Nat->Prop) (w:World) (e:Ending) (w':World):Prop:=∃v l,e = .returned v/\BlIn w' v l/\StB bs.length (stR (zAc nd) bs A) l/\Below w.heap.size w w'
set_option maxHeartbeats 16000000 in
theorem zJY (bs:List Nat) (hbl:bs.length<=1024) (hby:∀b∈bs,b<256):∀(m:Nat) (nd:Nd) (vs:List Value) (vb va:Value) (a:List Bool) (A:Nat->Prop) (w:World),zAE nd<=m->zAF nd=true->NdIn w nd vs->ByIn w vb bs->BlIn w va a->StB bs.length A a->
  Calls Tryz.prog 41 #[.agg vs.toArray,vb,va] w (zM4 nd bs A w):=by
 intro m
 induction m with
 | zero=>intro nd vs vb va a A w h;cases nd;rw[zAE]at h;omega
 | succ m ih=>
  rintro ⟨op,rs,kids,mn,mx⟩ vs vb va a A w hm hR hn hvb hva hA;obtain ⟨hop,hRs⟩:=zAp hR;rw[zAE]at hm;obtain ⟨A1,c1,A2,c2,rfl,hr,hc2,hk⟩:=hn.form;simp only[Nd.op,Nd.rs,Nd.kids,Nd.mn,Nd.mx]at hr hc2 hk|-;obtain ⟨Ab,cb,rfl,hcb,hob⟩:=id hvb;obtain ⟨Aa,ca,rfl,hca,hoa⟩:=id hva;have hlen:=hA.1;obtain ⟨n,hN⟩:∃n,bs.length=n:=⟨_,rfl⟩;have hN1:a.length=n+1:=by omega
  obtain ⟨nr,hnr⟩:∃k,rs.length=k:=⟨_,rfl⟩;obtain ⟨nk,hnk⟩:∃k,kids.length=k:=⟨_,rfl⟩;rw[hN1]at hva hca|-;rw[hN]at hvb hcb hbl|-;rw[hnr]at hr|-;rw[hnk]at hc2|-;have hmk:=zDK (n+1) (by omega)
  have hmk2:∀w,(Instr.makeSlice 71 (.int .i64 ((n:Int)+1)) (.int .i64 ((n:Int)+1))).run Tryz.prog w = .ok (.slice (some ⟨w.heap.size,0,none⟩) (n+1) (n+1)) (w.alloc (.cells (Array.replicate (n+1) (.bool false)) 4)):=hmk;obtain ⟨W,hW⟩:∃W,(w.alloc (.cells #[.int .i64 op, .slice A1 nr c1, .slice A2 nk c2, .int .i64 mn, .int .i64 mx] 29)).alloc (.cells (Array.replicate (n+1) (.bool false)) 4)=W:=⟨_,rfl⟩;have hB:Below w.heap.size w W:=by rw[<-hW];exact ((Below.refl _ _).alloc (Nat.le_refl _) _).alloc (by simp) _
  have hX:W.heap[w.heap.size]?=some (.cells #[.int .i64 op, .slice A1 nr c1, .slice A2 nk c2, .int .i64 mn, .int .i64 mx] 29 (0,0)):=by rw[<-hW,zAI _ _ _ (by simp)];exact heap_alloc_new w _
  have hzW:W.heap.size=w.heap.size+2:=by rw[<-hW];simp
  have hO0:OR 4 1 bC (w.heap.size+1) (.slice (some ⟨w.heap.size+1,0,none⟩) (n+1) (n+1)) (List.replicate (n+1) false) W:=by
   have:=zDn (w.alloc (.cells #[.int .i64 op, .slice A1 nr c1, .slice A2 nk c2, .int .i64 mn, .int .i64 mx] 29)) (n+1) (by omega)
   rw[<-hW];simpa using this
  have HWW:=Lib.hid hW;have HW:=Lib.hid (And.intro hB (And.intro hX hO0));have HIH:=Lib.hid ih;have HM:=Lib.hid (And.intro hm (And.intro hRs (And.intro hnr hnk)));have HV:=Lib.hid (And.intro hvb (And.intro hva hA));have HRG:=Lib.hid hr;have HBY:=Lib.hid (And.intro hN hby);have hzw2:w.heap.size+2<=W.heap.size:=by omega
  clear hmk hW hB hX hO0 ih hm hRs hnr hnk hvb hva hA hr hn hN hN1 hlen hzW hby;rcases hop with rfl | rfl | rfl | ⟨rfl,hk1,hm0,hm1,hm2⟩
  .obtain ⟨rfl,hrg⟩:=zEs hR;clear hR hrg
   go_enter Tryz.func41,Tryz.ntmps41
   go_wp2_with fail
   try rw[HWW.out]
   go_loopw [8] (λiv wr=>∃i:Nat,i<=n/\iv = .int .i64 (i:Int)/\Hid (AlR W (w.heap.size+1) (w.heap.size+1) (n+1) (n+1) (seK rs bs a i) wr)) (λiv _=>n - (intOf iv).toNat)
   case atStart=>exact ⟨0,Nat.zero_le _,rfl,by rw[zKY,HBY.out.1];exact HW.out.2.2,KeepF.refl _ _⟩
   case round=>
    obtain ⟨i,hi,rfl,HA⟩:=hrel;have hbw:Below w.heap.size w wr:=HW.out.1.trans (HA.out.kf.below (λk hk=>by rw[List.mem_singleton]at hk;omega) (by omega))
    have hx:=(HA.out.kf.blk w.heap.size (by omega) (λhm=>by rw[List.mem_singleton]at hm;omega)).trans HW.out.2.1
    obtain ⟨n0,n1,n2,n3,n4⟩:=zAB hx;have lN:w.heap.size<wr.heap.size:=(Array.getElem?_eq_some_iff.1 hx).1;by_cases hlt:i<n
    .have hd:decide ((i:Int)<(n:Int))=true:=decide_eq_true (by omega)
     have hdn:decide (i<n)=true:=decide_eq_true hlt;have hib:i<bs.length:=by rw[HBY.out.1];exact hlt
     have hia:i<a.length:=by have:=HV.out.2.2.1;have:=HBY.out.1;omega
     obtain ⟨ga,fa,rfl,hga,hcla⟩:=hoa.resolve_left (λh=>by rw[h]at hia;simp at hia)
     obtain ⟨gb,fb,rfl,hgb,hclb⟩:=hob.resolve_left (λh=>by rw[h]at hib;simp at hib)
     obtain ⟨x,hx9⟩:∃x,a[i]=x:=⟨_,rfl⟩;obtain ⟨y,hy9⟩:∃y,bs[i]=y:=⟨_,rfl⟩;have d0:=(hbw.cell (p:=⟨ga,fa+i,none⟩) hga).trans (hcla i hia);have d1:=(hbw.cell (p:=⟨gb,fb+i,none⟩) hgb).trans (hclb i hib);rw[hx9]at d0;rw[hy9]at d1;have la:ga<wr.heap.size:=by have:=hbw.size;omega
     have lb:gb<wr.heap.size:=by have:=hbw.size;omega
     have hs:=zJ0 rs bs a hib;have hset:=HA.out.setv (by rw[zBw,HBY.out.1]) (i+1) (x && inR rs y)
     rw[List.getElem?_eq_getElem hia,List.getElem?_eq_getElem hib,hx9,hy9,Option.getD_some,Option.getD_some]at hs;rw[hs]at hset;obtain ⟨z,hz⟩:∃z,(seK rs bs a i)[i+1]?=some z:=⟨_,List.getElem?_eq_getElem (by rw[zBw];omega)⟩
     obtain ⟨e0,e1,e2⟩:=HA.out.cell hz;have hrw:RgIn wr (.slice A1 nr c1) rs:=HRG.out.later hbw;have HS:=Lib.hid hset;have hi63:(i:Int)<(n:Int):=by omega
     have hi64:(i:Int)+1<(n:Int)+1:=by omega
     have hw1:IntKind.i64.wrap ((i:Int)+1)=(i:Int)+1:=IntWalk.i64_in _ (by omega)
     have hw0:(0:Int)<=(i:Int)+1:=by omega
     have hwn:((i:Int)+1).toNat=i+1:=by omega
     have hi1n:decide (i+1<n+1)=true:=decide_eq_true (by omega)
     have hi1a:i<n+1:=by omega
     have hin:=zLK (.slice A1 nr c1) rs y wr.drew hrw;obtain ⟨iy,hiy⟩:∃b,inR rs y=b:=⟨_,rfl⟩;rw[hiy]at hin HS;have HIN:=Lib.hid hin;clear hs hset hz hx9 hy9 hcla hclb hx hrw hiy hin
     go_upto_region 13 with fail
     have hi65:(i:Int)<(n:Int)+1:=by omega
     cases x with
     | true=>
      refine wp_region_still_tail 17 (by kernel_rfl) (by kernel_rfl) ?_
      simp only[List.take_succ_cons,List.take_zero,List.drop_succ_cons,List.drop_zero]
      repeat still_step
      still_call (HIN.out)
      repeat still_step
      try refine wpStill_nil ?_
      clear hi65;go_wp2_with fail;go_roundw
      case rel=>exact ⟨i+1,by omega,by go_num,Lib.hid (by have h:=HS.out;rw[Bool.true_and]at h;exact h.drew)⟩
      case measure=>simp[intOf];omega
     | false=>
      refine wp_region_still_tail 17 (by kernel_rfl) (by kernel_rfl) ?_
      simp only[List.take_succ_cons,List.take_zero,List.drop_succ_cons,List.drop_zero]
      iterate 7 still_step
      (refine wpStill_step (λK hK=>?_);go_simp;generalize hfr:(Act.mk _ _)=fr;refine hK fr ?_;clear hK K)
      repeat (refine wpStill_step (λK hK=>?_);rw[<-hfr];clear hfr;go_simp;generalize hfr:(Act.mk _ _)=fr;refine hK fr ?_;clear hK K)
      try refine wpStill_nil ?_
      rw[<-hfr];clear hfr;clear hi65;go_wp2_with fail;go_roundw
      case rel=>exact ⟨i+1,by omega,by go_num,Lib.hid (by have h:=HS.out;rw[Bool.false_and]at h;exact h.drew)⟩
      case measure=>simp[intOf];omega
    .obtain rfl:i=n:=by omega
     have hd:decide ((i:Int)<(i:Int))=false:=decide_eq_false (by omega)
     have hdn:decide (i<i)=false:=decide_eq_false (by omega)
     have HBW:=Lib.hid hbw;clear hbw;go_wp2_with fail;go_ret;have hs:=zKQ (rs:=rs) HV.out.2.2;rw[HBY.out.1]at hs;have ho:=HA.out.own;have hlen:(seK rs bs a i).length=i+1:=by rw[zBw,HBY.out.1]
     rw[<-hlen]at ho;refine ⟨_,seK rs bs a i,rfl,?_,?_,HBW.out⟩
     .have:=BlIn.of_OR ho;rw[hlen]at this;exact this
     .rw[HBY.out.1];exact hs.congr λj _=>zBI λw=>(zKm w).symm
  .clear hR
   go_enter Tryz.func41,Tryz.ntmps41
   go_wp2_with fail
   try rw[HWW.out]
   have hk0:=HV.out.2.1.later HW.out.1;have HS0:=Lib.hid (And.intro hk0 (And.intro (show StB bs.length (stR (zCH (kids.take 0)) bs A) a from HV.out.2.2.congr λj hj=>by rw[List.take_zero];exact (zIh hj).symm) (And.intro HW.out.1 HW.out.2.1)))
   clear hk0
   go_loopw [9,7] (λiv ov wr=>∃(i:Nat) (l:List Bool) (xv:Value),i<=nk/\iv = .int .i64 (i:Int)/\xv=ov/\Hid (BlIn wr xv l/\StB bs.length (stR (zCH (kids.take i)) bs A) l/\Below w.heap.size w wr/\wr.heap[w.heap.size]?=some (.cells #[.int .i64 2, .slice A1 nr c1, .slice A2 nk c2, .int .i64 mn, .int .i64 mx] 29 (0,0)))) (λiv _ _=>nk - (intOf iv).toNat)
   case atStart=>exact ⟨0,a,_,Nat.zero_le _,rfl,rfl,HS0.out⟩
   case round=>
    obtain ⟨i,l,ov,hi,rfl,rfl,HR⟩:=hrel;obtain ⟨n0,n1,n2,n3,n4⟩:=zAB HR.out.2.2.2;have lN:w.heap.size<wr.heap.size:=(Array.getElem?_eq_some_iff.1 HR.out.2.2.2).1;by_cases hlt:i<nk
    .have hd:decide ((i:Int)<(nk:Int))=true:=decide_eq_true (by omega)
     have hdn:decide (i<nk)=true:=decide_eq_true hlt;have hkl:i<kids.length:=by rw[HM.out.2.2.2];exact hlt
     obtain ⟨g,f,rfl,hg,hkd⟩:=hk.resolve_left (by intro e;rw[e]at hkl;cases hkl)
     obtain ⟨vs,hcv,hnd⟩:=hkd.at i hkl;have hmem:=zAG (List.getElem_mem hkl);have hrk:=zAK HM.out.2.1 (List.getElem_mem hkl);have hsq:=λj (hj:j<=bs.length)=>zJz hkl (bs:=bs) (A:=A) hj;obtain ⟨kd,hkd2⟩:∃kd,kids[i]=kd:=⟨_,rfl⟩;rw[hkd2]at hnd hmem hrk hsq;obtain ⟨B1,e1,B2,e2,rfl,-,-,-⟩:=hnd.form;have q:∀j,j<5->wr.cell? ⟨g,f+i*5+j,none⟩=([.int .i64 kd.op, .slice B1 kd.rs.length e1, .slice B2 kd.kids.length e2, .int .i64 kd.mn, .int .i64 kd.mx]:List Value)[j]?:=λj hj=>(HR.out.2.2.1.cell (p:=⟨g,f+i*5+j,none⟩) hg).trans (hcv j hj);have q0:=q 0 (by omega);have q1:=q 1 (by omega);have q2:=q 2 (by omega);have q3:=q 3 (by omega);have q4:=q 4 (by omega)
     simp only[Nat.zero_mul,Nat.add_zero,List.getElem?_cons_zero,List.getElem?_cons_succ]at q0 q1 q2 q3 q4;have lg:g<wr.heap.size:=Nat.lt_of_lt_of_le hg HR.out.2.2.1.size;have hcall:=HIH.out kd _ (.slice Ab n cb) ov l _ wr (by have:=HM.out.1;omega) hrk (hnd.later HR.out.2.2.1) (HV.out.1.later HR.out.2.2.1) HR.out.1 HR.out.2.1
     have HI:=Lib.hid hcall;have HSQ:=Lib.hid hsq;have hi63:(i:Int)<(nk:Int):=by omega
     clear q hcv hnd hkd2 hkd hmem hrk hsq hcall;go_wp2_with fail;refine HI.out.mono ?_;rintro e w1 ⟨v,l2,rfl,hbl,hst,hb1⟩;have HR1:=Lib.hid (And.intro hbl (And.intro (show StB bs.length (stR (zCH (kids.take (i+1))) bs A) l2 from hst.congr λj hj=>(HSQ.out j hj).symm) (And.intro (HR.out.2.2.1.trans (hb1.mono HR.out.2.2.1.size)) ((hb1.block _ lN).trans HR.out.2.2.2))));clear hbl hst hb1 q0 q1 q2 q3 q4 n0 n1 n2 n3 n4 lN lg;go_wp2_with fail;go_roundw
     case rel=>exact ⟨i+1,l2,_,by omega,by go_num,rfl,HR1.out⟩
     case measure=>simp[intOf];omega
    .obtain rfl:i=nk:=by omega
     have hd:decide ((i:Int)<(i:Int))=false:=decide_eq_false (by omega)
     have hdn:decide (i<i)=false:=decide_eq_false (by omega)
     go_wp2_with fail;go_ret;refine ⟨_,l,rfl,HR.out.1,HR.out.2.1.congr λj _=>zBI λw=>?_,HR.out.2.2.1⟩;rw[zKo,List.take_of_length_le (by have:=HM.out.2.2.2;omega)]
  .clear hR
   go_enter Tryz.func41,Tryz.ntmps41
   go_wp2_with fail
   try rw[HWW.out]
   have hn1:List.replicate (n+1) false=List.replicate (bs.length+1) false:=by rw[HBY.out.1]
   have HS0:=Lib.hid (And.intro (BlIn.of_OR HW.out.2.2) (And.intro (show StB bs.length (stR (zBr (kids.take 0)) bs A) (List.replicate (n+1) false) from hn1▸(StB.no bs.length).congr λj hj=>by rw[List.take_zero];exact ⟨λh=>h.elim,λh=>zMl h⟩) (And.intro HW.out.1 HW.out.2.1)))
   clear hn1
   go_loopw [10,7] (λiv ov wr=>∃(i:Nat) (l:List Bool) (xv:Value),i<=nk/\iv = .int .i64 (i:Int)/\xv=ov/\Hid (BlIn wr xv l/\StB bs.length (stR (zBr (kids.take i)) bs A) l/\Below w.heap.size w wr/\wr.heap[w.heap.size]?=some (.cells #[.int .i64 3, .slice A1 nr c1, .slice A2 nk c2, .int .i64 mn, .int .i64 mx] 29 (0,0)))) (λiv _ _=>nk - (intOf iv).toNat)
   case atStart=>exact ⟨0,_,_,Nat.zero_le _,rfl,rfl,HS0.out⟩
   case round=>
    obtain ⟨i,l,ov,hi,rfl,rfl,HR⟩:=hrel;obtain ⟨n0,n1,n2,n3,n4⟩:=zAB HR.out.2.2.2;have lN:w.heap.size<wr.heap.size:=(Array.getElem?_eq_some_iff.1 HR.out.2.2.2).1;by_cases hlt:i<nk
    .have hd:decide ((i:Int)<(nk:Int))=true:=decide_eq_true (by omega)
     have hdn:decide (i<nk)=true:=decide_eq_true hlt;have hkl:i<kids.length:=by rw[HM.out.2.2.2];exact hlt
     obtain ⟨g,f,rfl,hg,hkd⟩:=hk.resolve_left (by intro e;rw[e]at hkl;cases hkl)
     obtain ⟨vs,hcv,hnd⟩:=hkd.at i hkl;have hmem:=zAG (List.getElem_mem hkl);have hrk:=zAK HM.out.2.1 (List.getElem_mem hkl);have hsq:=λj=>zJe hkl (bs:=bs) (A:=A) (j:=j);obtain ⟨kd,hkd2⟩:∃kd,kids[i]=kd:=⟨_,rfl⟩;rw[hkd2]at hnd hmem hrk hsq;obtain ⟨B1,e1,B2,e2,rfl,-,-,-⟩:=hnd.form;have q:∀j,j<5->wr.cell? ⟨g,f+i*5+j,none⟩=([.int .i64 kd.op, .slice B1 kd.rs.length e1, .slice B2 kd.kids.length e2, .int .i64 kd.mn, .int .i64 kd.mx]:List Value)[j]?:=λj hj=>(HR.out.2.2.1.cell (p:=⟨g,f+i*5+j,none⟩) hg).trans (hcv j hj);have q0:=q 0 (by omega);have q1:=q 1 (by omega);have q2:=q 2 (by omega);have q3:=q 3 (by omega);have q4:=q 4 (by omega)
     simp only[Nat.zero_mul,Nat.add_zero,List.getElem?_cons_zero,List.getElem?_cons_succ]at q0 q1 q2 q3 q4;have lg:g<wr.heap.size:=Nat.lt_of_lt_of_le hg HR.out.2.2.1.size;have HI:=Lib.hid (HIH.out kd _ (.slice Ab n cb) (.slice Aa (n+1) ca) a A wr (by have:=HM.out.1;omega) hrk (hnd.later HR.out.2.2.1) (HV.out.1.later HR.out.2.2.1) (HV.out.2.1.later HR.out.2.2.1) HV.out.2.2)
     have HSQ:=Lib.hid hsq;have hi63:(i:Int)<(nk:Int):=by omega
     clear q hcv hnd hkd2 hkd hmem hrk hsq;go_wp2_with fail;refine HI.out.mono ?_;rintro e w1 ⟨v,l2,rfl,hbl,hst,hb1⟩;have HU:=Lib.hid (zEH ov v l l2 w1 (HR.out.1.later hb1) hbl (by rw[HR.out.2.1.1,hst.1]) (by have:=HR.out.2.1.1;have:=HBY.out.1;omega))
     have HR1:=Lib.hid (And.intro (show StB bs.length (stR (zBr (kids.take (i+1))) bs A) (orL l l2) from (HR.out.2.1.or hst).congr λj _=>(HSQ.out j).symm) (And.intro (HR.out.2.2.1.trans (hb1.mono HR.out.2.2.1.size)) ((hb1.block _ lN).trans HR.out.2.2.2)));clear hbl hst hb1 q0 q1 q2 q3 q4 n0 n1 n2 n3 n4 lN lg;go_wp2_with fail;refine HU.out.mono ?_;rintro e w2 ⟨v3,rfl,hbl,hb2⟩;have lN:w.heap.size<w1.heap.size:=(Array.getElem?_eq_some_iff.1 HR1.out.2.2).1;have HR2:=Lib.hid (And.intro hbl (And.intro HR1.out.1 (And.intro (HR1.out.2.1.trans (hb2.mono HR1.out.2.1.size)) ((hb2.block _ lN).trans HR1.out.2.2))));clear hbl hb2 lN;go_wp2_with fail;go_roundw
     case rel=>exact ⟨i+1,_,_,by omega,by go_num,rfl,HR2.out⟩
     case measure=>simp[intOf];omega
    .obtain rfl:i=nk:=by omega
     have hd:decide ((i:Int)<(i:Int))=false:=decide_eq_false (by omega)
     have hdn:decide (i<i)=false:=decide_eq_false (by omega)
     go_wp2_with fail;go_ret;refine ⟨_,l,rfl,HR.out.1,HR.out.2.1.congr λj _=>zBI λw=>?_,HR.out.2.2.1⟩;rw[zKB,List.take_of_length_le (by have:=HM.out.2.2.2;omega)]
  .clear hR;have hk1n:nk=1:=by have:=HM.out.2.2.2;omega
   obtain ⟨k0,hk0⟩:∃k0,kids=[k0]:=by
    have:=HM.out.2.2.2
    match kids,this with
    | [k0],_=>exact ⟨k0,rfl⟩
    | [],h=>simp at h;omega
    | _::_::_,h=>simp at h;omega
   have hkl:0<kids.length:=by rw[hk0];simp
   obtain ⟨g,f,rfl,hg,hkd⟩:=hk.resolve_left (by intro e;rw[e]at hkl;cases hkl)
   obtain ⟨vs,hcv,hnd⟩:=hkd.at 0 hkl;have hmem:=zAG (List.getElem_mem hkl);have hrk:=zAK HM.out.2.1 (List.getElem_mem hkl);have hk00:kids[0]=k0:=by simp only[hk0,List.getElem_cons_zero]
   rw[hk00]at hnd hmem hrk;obtain ⟨B1,e1,B2,e2,rfl,-,-,-⟩:=hnd.form;have hq:∀j,j<5->w.cell? ⟨g,f+j,none⟩=([.int .i64 k0.op, .slice B1 k0.rs.length e1, .slice B2 k0.kids.length e2, .int .i64 k0.mn, .int .i64 k0.mx]:List Value)[j]?:=λj hj=>by have:=hcv j hj;rwa [Nat.zero_mul,Nat.add_zero]at this
   have HQ:=Lib.hid (And.intro hq (And.intro hg (And.intro hnd (And.intro hrk (And.intro (show zAE k0<=m by have:=HM.out.1;omega) hk0)))))
   obtain ⟨M,hM⟩:∃M:Nat,mx=(M:Int):=⟨mx.toNat,by omega⟩
   subst hM;obtain ⟨L,hL⟩:∃L:Nat,mn=(L:Int):=⟨mn.toNat,by omega⟩
   subst hL;have hML:M<=64:=by omega
   clear hq hcv hnd hmem hrk hkd hk00 hkl hk hk1 hm0 hm1 hm2;subst hk1n;have HK0:=Lib.hid hk0;clear hk0
   go_enter Tryz.func41,Tryz.ntmps41
   go_wp2_with fail
   try rw[HWW.out]
   have hn1:List.replicate (n+1) false=List.replicate (bs.length+1) false:=by rw[HBY.out.1]
   have HS0:=Lib.hid (And.intro (And.intro (BlIn.of_OR HW.out.2.2) (show StB bs.length (unP (zAc k0) bs A (L:Int) 0) (List.replicate (n+1) false) from hn1▸(StB.no bs.length).congr λj hj=>⟨λh=>h.elim,λh=>zKK h⟩)) (And.intro (And.intro (HV.out.2.1.later HW.out.1) (show StB bs.length (stR (powL (zAc k0) 0) bs A) a from HV.out.2.2.congr λj hj=>(zKg hj).symm)) (And.intro HW.out.1 HW.out.2.1)));clear hn1
   go_loopw [11,7,2] (λiv ov av wr=>∃(i:Nat) (l a':List Bool) (xv yv:Value),i<=M+1/\iv = .int .i64 (i:Int)/\xv=ov/\yv=av/\Hid ((BlIn wr xv l/\StB bs.length (unP (zAc k0) bs A (L:Int) i) l)/\(BlIn wr yv a'/\StB bs.length (stR (powL (zAc k0) i) bs A) a')/\Below w.heap.size w wr/\wr.heap[w.heap.size]?=some (.cells #[.int .i64 4, .slice A1 nr c1, .slice (some ⟨g,f,none⟩) 1 c2, .int .i64 (L:Int), .int .i64 (M:Int)] 29 (0,0)))) (λiv _ _ _=>M+1 - (intOf iv).toNat)
   case atStart=>exact ⟨0,_,a,_,_,Nat.zero_le _,rfl,rfl,rfl,HS0.out⟩
   case round=>
    obtain ⟨i,l,a',ov,av,hi,rfl,rfl,rfl,HR⟩:=hrel;obtain ⟨n0,n1,n2,n3,n4⟩:=zAB HR.out.2.2.2;have lN:w.heap.size<wr.heap.size:=(Array.getElem?_eq_some_iff.1 HR.out.2.2.2).1;by_cases hlt:i<=M
    .have hd:decide ((i:Int)<=(M:Int))=true:=decide_eq_true (by omega)
     have hdn:decide (i<=M)=true:=decide_eq_true hlt;have q0:=(HR.out.2.2.1.cell (p:=⟨g,f+0,none⟩) HQ.out.2.1).trans (HQ.out.1 0 (by omega))
     have q1:=(HR.out.2.2.1.cell (p:=⟨g,f+1,none⟩) HQ.out.2.1).trans (HQ.out.1 1 (by omega))
     have q2:=(HR.out.2.2.1.cell (p:=⟨g,f+2,none⟩) HQ.out.2.1).trans (HQ.out.1 2 (by omega))
     have q3:=(HR.out.2.2.1.cell (p:=⟨g,f+3,none⟩) HQ.out.2.1).trans (HQ.out.1 3 (by omega))
     have q4:=(HR.out.2.2.1.cell (p:=⟨g,f+4,none⟩) HQ.out.2.1).trans (HQ.out.1 4 (by omega))
     simp only[Nat.add_zero,List.getElem?_cons_zero,List.getElem?_cons_succ]at q0 q1 q2 q3 q4;have lg:g<wr.heap.size:=Nat.lt_of_lt_of_le HQ.out.2.1 HR.out.2.2.1.size;by_cases hge:L<=i
     .have hd2:decide ((L:Int)<=(i:Int))=true:=decide_eq_true (by omega)
      have hd2n:decide (L<=i)=true:=decide_eq_true hge;have HU:=Lib.hid (zEH ov av l a' wr HR.out.1.1 HR.out.2.1.1 (by rw[HR.out.1.2.1,HR.out.2.1.2.1]) (by have:=HR.out.1.2.1;have:=HBY.out.1;omega))
      have HGE:=Lib.hid hge;clear hge q0 q1 q2 q3 q4 lg;go_wp2_with fail;refine HU.out.mono ?_;rintro e w1 ⟨v3,rfl,hbl,hb1⟩;have HR1:=Lib.hid (And.intro (And.intro hbl (show StB bs.length (unP (zAc k0) bs A (L:Int) (i+1)) (orL l a') from (HR.out.1.2.or HR.out.2.1.2).congr λj _=>(zLs (by have:=HGE.out;omega)).symm)) (And.intro (And.intro (HR.out.2.1.1.later hb1) HR.out.2.1.2) (And.intro (HR.out.2.2.1.trans (hb1.mono HR.out.2.2.1.size)) ((hb1.block _ lN).trans HR.out.2.2.2))))
      have HI:=Lib.hid (HIH.out k0 _ (.slice Ab n cb) av a' _ w1 HQ.out.2.2.2.2.1 HQ.out.2.2.2.1 (HQ.out.2.2.1.later HR1.out.2.2.1) (HV.out.1.later HR1.out.2.2.1) HR1.out.2.1.1 HR1.out.2.1.2);clear hbl hb1 n0 n1 n2 n3 n4 lN;obtain ⟨n0,n1,n2,n3,n4⟩:=zAB HR1.out.2.2.2;have lN:w.heap.size<w1.heap.size:=(Array.getElem?_eq_some_iff.1 HR1.out.2.2.2).1;have q0:=(HR1.out.2.2.1.cell (p:=⟨g,f+0,none⟩) HQ.out.2.1).trans (HQ.out.1 0 (by omega))
      have q1:=(HR1.out.2.2.1.cell (p:=⟨g,f+1,none⟩) HQ.out.2.1).trans (HQ.out.1 1 (by omega))
      have q2:=(HR1.out.2.2.1.cell (p:=⟨g,f+2,none⟩) HQ.out.2.1).trans (HQ.out.1 2 (by omega))
      have q3:=(HR1.out.2.2.1.cell (p:=⟨g,f+3,none⟩) HQ.out.2.1).trans (HQ.out.1 3 (by omega))
      have q4:=(HR1.out.2.2.1.cell (p:=⟨g,f+4,none⟩) HQ.out.2.1).trans (HQ.out.1 4 (by omega))
      simp only[Nat.add_zero,List.getElem?_cons_zero,List.getElem?_cons_succ]at q0 q1 q2 q3 q4;have lg:g<w1.heap.size:=Nat.lt_of_lt_of_le HQ.out.2.1 HR1.out.2.2.1.size;go_wp2_with fail;refine HI.out.mono ?_;rintro e w2 ⟨v,l2,rfl,hbl,hst,hb1⟩;have HR2:=Lib.hid (And.intro (And.intro (HR1.out.1.1.later hb1) HR1.out.1.2) (And.intro (And.intro hbl (show StB bs.length (stR (powL (zAc k0) (i+1)) bs A) l2 from hst.congr λj hj=>(zGI hj).symm)) (And.intro (HR1.out.2.2.1.trans (hb1.mono HR1.out.2.2.1.size)) ((hb1.block _ lN).trans HR1.out.2.2.2))));clear hbl hst hb1 q0 q1 q2 q3 q4 n0 n1 n2 n3 n4 lN lg;go_wp2_with fail;go_roundw
      case rel=>exact ⟨i+1,_,l2,_,_,by omega,by go_num,rfl,rfl,HR2.out⟩
      case measure=>simp[intOf];omega
     .have hd2:decide ((L:Int)<=(i:Int))=false:=decide_eq_false (by omega)
      have hd2n:decide (L<=i)=false:=decide_eq_false hge;have HGE:=Lib.hid hge;have HI:=Lib.hid (HIH.out k0 _ (.slice Ab n cb) av a' _ wr HQ.out.2.2.2.2.1 HQ.out.2.2.2.1 (HQ.out.2.2.1.later HR.out.2.2.1) (HV.out.1.later HR.out.2.2.1) HR.out.2.1.1 HR.out.2.1.2);clear hge;go_wp2_with fail;refine HI.out.mono ?_;rintro e w2 ⟨v,l2,rfl,hbl,hst,hb1⟩;have HR2:=Lib.hid (And.intro (And.intro (HR.out.1.1.later hb1) (show StB bs.length (unP (zAc k0) bs A (L:Int) (i+1)) l from HR.out.1.2.congr λj _=>(zMT (by have:=HGE.out;omega)).symm)) (And.intro (And.intro hbl (show StB bs.length (stR (powL (zAc k0) (i+1)) bs A) l2 from hst.congr λj hj=>(zGI hj).symm)) (And.intro (HR.out.2.2.1.trans (hb1.mono HR.out.2.2.1.size)) ((hb1.block _ lN).trans HR.out.2.2.2))))
      clear hbl hst hb1 q0 q1 q2 q3 q4 n0 n1 n2 n3 n4 lN lg;go_wp2_with fail;go_roundw
      case rel=>exact ⟨i+1,l,l2,_,_,by omega,by go_num,rfl,rfl,HR2.out⟩
      case measure=>simp[intOf];omega
    .obtain rfl:i=M+1:=by omega
     have hd:decide (((M+1:Nat):Int)<=(M:Int))=false:=decide_eq_false (by omega)
     have hdn:decide (M+1<=M)=false:=decide_eq_false (by omega)
     have hdi:decide ((M:Int)+1<=(M:Int))=false:=decide_eq_false (by omega)
     go_wp2_with fail;go_ret;refine ⟨_,l,rfl,HR.out.1.1,HR.out.1.2.congr λj _=>?_,HR.out.2.2.1⟩;rw[HK0.out];exact zJg (by omega)
theorem StB.first (n:Nat):StB n (λj=>j=0) ((List.replicate (n+1) false).set 0 true):=⟨by simp,λj hj=>by
 cases j with
 | zero=>simp
 | succ j=>rw[List.getElem?_set];simp[List.getElem?_replicate]⟩
theorem zIQ (w:World) (n:Nat) (hn:n<=1000):OR 4 1 bC w.heap.size (.slice (some ⟨w.heap.size,0,none⟩) (n+1) (n+1)) ((List.replicate (n+1) false).set 0 true) (w.alloc (.cells ((Array.replicate (n+1) (.bool false)).setIfInBounds 0 (.bool true)) 4)):=by
 have hrow:∀o:List Bool,rowF bC o=o.map Value.bool:=λo=>by
  unfold rowF
  induction o with
  | nil=>rfl
  | cons b r ih=>simp only[List.map_cons,List.flatten_cons,ih];rfl
 refine ⟨by rw[hrow];simp, .inr ⟨w.heap.size,n+1,(Array.replicate (n+1) (.bool false)).setIfInBounds 0 (.bool true),by simp,Nat.le_refl _,heap_alloc_new w _,by simp,by unfold maxLen;omega,by simp,?_⟩⟩
 rw[hrow,List.length_set,List.length_replicate,List.map_set];simp;rw[List.take_of_length_le (by simp)]
theorem zLL {L:List Nat->Prop} {bs:List Nat}:stR L bs (λj=>j=0) bs.length↔L bs:=by
 constructor
 .rintro ⟨i,-,rfl,h⟩;rwa [List.take_length,List.drop_zero]at h
 .intro h;exact ⟨0,Nat.zero_le _,rfl,by rwa [List.take_length,List.drop_zero]⟩
def zMA (nd:Nd) (bs:List Nat) (w:World) (e:Ending) (w':World):Prop:=(∃r,e = .returned (.bool r)/\(r=true↔zAc nd bs))/\Below w.heap.size w w'
set_option maxHeartbeats 8000000 in
theorem zFU (nd:Nd) (vs:List Value) (A:Option Addr) (n c:Nat) (bs:List Nat) (w:World) (hn:NdIn w nd vs) (hv:zAV nd=0) (hb:ByIn w (.slice A n c) bs) (hl:bs.length=n) (hbl:n<=1000) (hby:∀b∈bs,b<256) :
  Calls Tryz.prog 19 #[.agg vs.toArray, .slice A n c] w (zMA nd bs w):=by
 have HV:=Lib.hid λW (hW:Below w.heap.size w W)=>zDS nd vs W (hn.later hW);rw[hv]at HV;have HS:=Lib.hid λW (va:Value) (a:List Bool) (hW:Below w.heap.size w W) (h1:BlIn W va a) (h2:StB bs.length (λj=>j=0) a)=>zJY bs (by omega) hby _ nd vs (.slice A n c) va a _ W (Nat.le_refl _) (zBE hv).2.2.1 (hn.later hW) (hb.later hW) h1 h2
 obtain ⟨A1,c1,A2,c2,rfl,-⟩:=hn.form;have HL:=Lib.hid hl;have hmk:=zDK (n+1) (by omega)
 have hmk2:∀w,(Instr.makeSlice 71 (.int .i64 ((n:Int)+1)) (.int .i64 ((n:Int)+1))).run Tryz.prog w = .ok (.slice (some ⟨w.heap.size,0,none⟩) (n+1) (n+1)) (w.alloc (.cells (Array.replicate (n+1) (.bool false)) 4)):=hmk;have g1:decide (1024<(n:Int))=false:=decide_eq_false (by omega)
 have g1n:decide (1024<n)=false:=decide_eq_false (by omega)
 clear hmk hn hb hv hby hl
 go_enter Tryz.func19,Tryz.ntmps19
 go_wp2_with fail;refine zAM λW0 hW0=>?_;have hb0:Below w.heap.size w W0:=by rw[hW0];exact (Below.refl _ _).alloc (Nat.le_refl _) _
 have hX0:W0.heap[w.heap.size]?=some (.cells #[.int .i64 nd.op, .slice A1 nd.rs.length c1, .slice A2 nd.kids.length c2, .int .i64 nd.mn, .int .i64 nd.mx] 29 (0,0)):=by rw[hW0];exact heap_alloc_new w _
 have HB0:=Lib.hid (And.intro hb0 hX0);clear hW0 hb0 hX0;refine (HV.out W0 HB0.out.1).mono ?_;rintro e w1 ⟨rfl,hb1⟩;have HB1:=Lib.hid (And.intro (HB0.out.1.trans (hb1.mono HB0.out.1.size)) ((hb1.block _ (Array.getElem?_eq_some_iff.1 HB0.out.2).1).trans HB0.out.2));clear hb1;obtain ⟨W2,hW2⟩:∃W2,w1.alloc (.cells ((Array.replicate (n+1) (.bool false)).setIfInBounds 0 (.bool true)) 4)=W2:=⟨_,rfl⟩;have hbW2:Below w1.heap.size w1 W2:=by rw[<-hW2];exact (Below.refl _ _).alloc (Nat.le_refl _) _
 have hOs:=zIQ w1 n hbl;rw[hW2]at hOs;have HB2:=Lib.hid (And.intro (HB1.out.1.trans (hbW2.mono HB1.out.1.size)) ((hbW2.block _ (Array.getElem?_eq_some_iff.1 HB1.out.2).1).trans HB1.out.2));have HC:=Lib.hid (HS.out W2 _ _ HB2.out.1 (BlIn.of_OR hOs) (by rw[HL.out];exact StB.first n))
 have HWW:=Lib.hid hW2;clear hOs hbW2 hW2
 go_upto_region 5 with fail
 try rw[HWW.out]
 obtain ⟨n0,n1,n2,n3,n4⟩:=zAB HB2.out.2;have lN:w.heap.size<W2.heap.size:=(Array.getElem?_eq_some_iff.1 HB2.out.2).1;go_wp2_with fail;refine HC.out.mono ?_;rintro e w2 ⟨v,l,rfl,hvl,hst,hb2⟩;obtain ⟨A3,c3,rfl,hc3⟩:=hvl.form;have hll:l.length=n+1:=by rw[hst.1,HL.out]
 obtain ⟨g,f,rfl,hnl,hg,hcell⟩:=hvl.at_ (k:=n) (by omega)
 have HR:=Lib.hid (show l[n]=true↔zAc nd bs by
  have:=hst.2 n (by rw[HL.out];exact Nat.le_refl _)
  rw[List.getElem?_eq_getElem (by omega)]at this
  have h2:=zLL (L:=zAc nd) (bs:=bs);rw[HL.out]at h2;rw[<-h2,<-this];constructor
  .intro h;rw[h]
  .intro h;exact Option.some.inj h)
 obtain ⟨r,hr⟩:∃r,l[n]=r:=⟨_,rfl⟩;rw[hr]at HR hcell;rw[hll];rw[hll]at hc3;have HB3:=Lib.hid (HB2.out.1.trans (hb2.mono HB2.out.1.size));have hn63:(n:Int)<(n:Int)+1:=by omega
 have hnn:n<n+1:=by omega
 clear hvl hst hb2 hnl hll hr;go_wp2_with fail;go_ret;exact ⟨⟨r,rfl,HR.out⟩,HB3.out⟩
theorem zFy (nd:Nd) (m:Mc) (vs:List Value) (A:Option Addr) (n c:Nat) (bs:List Nat) (w:World) (hn:NdIn w nd vs) (hv:zAV nd=0) (hm:∀x,acF m x 0=true↔zAc nd x) (hb:ByIn w (.slice A n c) bs) (hl:bs.length=n) (hbl:n<=1000) (hby:∀b∈bs,b<256) :
  Calls Tryz.prog 19 #[.agg vs.toArray, .slice A n c] w λe w'=>e = .returned (.bool (acF m bs 0))/\Below w.heap.size w w':=by
 refine (zFU nd vs A n c bs w hn hv hb hl hbl hby).mono ?_;rintro e w' ⟨⟨r,rfl,hr⟩,hw⟩;exact ⟨zAA (by rw[Bool.eq_iff_iff,hr,hm]),hw⟩
structure Bx (w:World) (a b c d:Value) (wr:World):Prop where
 bel:Below w.heap.size w wr
 siz:w.heap.size+2<=wr.heap.size
 r0:wr.heap[w.heap.size]?=some (.cells #[a,b] 73 (0,0))
 r1:wr.heap[w.heap.size+1]?=some (.cells #[c,d] 73 (0,0))
theorem zJm (m:Mc):∀(bs:List Nat) (s k:Nat),(rchF m bs s k).getLast?=some (k+bs.length)↔acF m bs s=true
 | [],s,k=>by
  rw[rchF,acF]
  cases h:(m.ac[s]?).getD false <;> simp
 | c::w,s,k=>by
  rw[rchF,acF]
  cases ht:trn (rowM m s) c with
  | none=>cases h:(m.ac[s]?).getD false <;> simp
  | some t=>
   simp only;rw[<-zJm m w t (k+1)];have e:k+(c::w).length=k+1+w.length:=by simp;omega
   rw[e,List.getLast?_append]
   cases hl:(rchF m w t (k+1)).getLast? with
   | some x=>simp
   | none=>
    simp only[Option.none_or];constructor
    .intro h
     split at h
     .simp at h;omega
     .simp at h
    .intro h;cases h
theorem zIm (m:Mc):∀(bs:List Nat) (s k:Nat),(rchF m bs s k).length<=bs.length+1
 | [],s,k=>by rw[rchF]; split <;> simp
 | c::w,s,k=>by
  rw[rchF,List.length_append];have h1:(if (m.ac[s]?).getD false=true then [k] else []).length<=1:=by split <;> simp
  cases ht:trn (rowM m s) c with
  | none=>simp at h1|-;omega
  | some t=>have:=zIm m w t (k+1);simp at h1 this|-;omega
def zNj (m:Mc) (w:World) (e:Ending) (w':World):Prop:=∃rv m',e = .returned (.tuple #[rv, .int .i64 0])/\McUp w.heap.size w' rv m'/\Below w.heap.size w w'/\LeOK m m'
def zML (b:Nat) (lo hi:Int) (w:World) (e:Ending) (w':World):Prop:=∃r:Int,e = .returned (.int .i64 r)/\lo<=r/\r<=hi/\TapeOK b w'/\Fr b w w'
theorem zC0 (b:Nat) (lo hi:Int) (w:World) (h0:-1000<=lo) (h1:lo<=hi) (h2:hi<=60000) (ht:TapeOK b w) :
  Calls Tryz.prog 13 #[.pointer (some ⟨b,0,none⟩), .int .i64 lo, .int .i64 hi] w (zML b lo hi w):=by
 obtain ⟨n,hn⟩:∃n,hi-lo+1=n:=⟨_,rfl⟩;have hw1:IntKind.i64.wrap (hi-lo)=hi-lo:=IntWalk.i64_in _ (by omega)
 have hw2:IntKind.i64.wrap (hi-lo+1)=n:=by rw[IntWalk.i64_in _ (by omega)];exact hn
 have HX:=Lib.hid (zAh b n w (by omega) (by omega) ht)
 have HN:=Lib.hid hn;clear hn ht
 go_enter Tryz.func13,Tryz.ntmps13
 go_wp2_with fail;refine HX.out.mono ?_;rintro e w1 ⟨r,rfl,hr1,hr2,ht1,hf1⟩;have hn:=HN.out;have hw3:IntKind.i64.wrap (lo+r)=lo+r:=IntWalk.i64_in _ (by omega)
 have HR:=Lib.hid (And.intro (show lo<=lo+r by omega) (And.intro (show lo+r<=hi by omega) (And.intro ht1 hf1)))
 clear hn hr1 hr2 ht1 hf1;go_wp2_with fail;go_ret;exact ⟨_,rfl,HR.out.1,HR.out.2.1,HR.out.2.2.1,HR.out.2.2.2⟩
def rgC (r:Nat×Nat):List Value:=[.int .u8 (r.1:Int), .int .u8 (r.2:Int)]
theorem zBG {P:Program} {f:FuncId} {args:Array Value} {Q:Ending->World->Prop} {w:World} (h:∀W,W=w->Calls P f args W Q):Calls P f args w Q:=h w rfl
theorem zMt {b:Nat} {L:List Nat} {w w':World} (hf:Fr b w w'):KeepF (b::L) [] w w':=⟨hf.os,hf.tape,hf.output,hf.size,λk hk hn=>hf.block k hk (λe=>hn (by injection e with e;simp[e])),λk hk=>by cases hk⟩
theorem zIB {L:List Nat} {w w':World} (hf:Below w.heap.size w w'):KeepF L [] w w':=⟨hf.os,hf.tape,hf.output,hf.size,λk hk _=>hf.block k hk,λk hk=>by cases hk⟩
structure StO (b B N i:Nat) (vE vA:Value) (gv:List Value) (rs:List (List Ed)) (acs:List Bool) (W:World) (c:Nat) (w:World):Prop where
 m0:MkM B N [] vE vA gv rs acs W
 bB:b<B
 kf:KeepF (b::fpM N vE vA) [] W w
 tp:TapeOK b w
 bx:c<=5->w.heap[N]?=W.heap[N]?
 ve:c<=1->w.ownsRow B 179 1 vE i gv
 va:c<=4->w.ownsRow B 4 1 vA i (rowF bC acs)
def FEo (B k:Nat) (vE rv:Value) (gv:List Value) (W:World) (c:Nat) (x:Value) (w:World):Prop:=
 2<=c->c<=5->(∃A c',x = .slice A k c')/\w.ownsRow B 179 1 x k (gv++[rv])/\zA3 x vE W.heap.size
def FBo (B N k:Nat) (vE vA rv:Value) (gv:List Value) (W:World) (c:Nat) (w:World):Prop:=
 c=6->∃x,w.ownsRow B 179 1 x k (gv++[rv])/\zA3 x vE W.heap.size/\w.heap[N]?=some (.cells #[x,vA] 73 (0,0))
def FAo (B k:Nat) (vA:Value) (acs:List Bool) (W:World) (c:Nat) (x:Value) (w:World):Prop:=
 5<=c->(∃A c',x = .slice A k c')/\(∃q,w.ownsRow B 4 1 x k (rowF bC acs++[.bool q]))/\zA3 x vA W.heap.size
section
variable {b B N i k:Nat} {vE vA rv x y:Value} {gv:List Value} {rs:List (List Ed)} {acs:List Bool} {W w w':World} {c c':Nat}
theorem zDm {N:Nat} {j:Nat} {L:List Nat} {v:Value} (h:N∈L):KeepF L [] w (w.setCell ⟨N,j,none⟩ v):=
 ⟨rfl,rfl,rfl,by simp[World.setCell],λk _ hn=>Below.heap_setCell _ _ _ _ λe=>hn (e▸h),λk hk=>by cases hk⟩
end
def RgUp (B:Nat) (w:World) (v:Value) (rs:List (Nat×Nat)):Prop:=∀W,KeepF (List.range B) [] w W->RgIn W v rs
def zMe (b:Nat) (w:World) (e:Ending) (w':World):Prop:=∃rs v,rs∈zBv/\e = .returned (.agg #[.int .i64 1,v, .slice none 0 0, .int .i64 0, .int .i64 0])/\RgUp w.heap.size w' v rs/\TapeOK b w'/\Fr b w w'
theorem rg1 {W:World} {g a b:Nat} {T:TypeId} {m:Nat×Nat} (h:W.heap[g]?=some (.cells #[.int .u8 (a:Int), .int .u8 (b:Int)] T m)) (ha:a<256) (hb:b<256):RgIn W (.slice (some ⟨g,0,none⟩) 1 1) [(a,b)]:=
 ⟨_,1,rfl,⟨Nat.le_refl _,by decide⟩, .inr ⟨g,0,rfl,(Array.getElem?_eq_some_iff.1 h).1,λi hi=>by
  match i,hi with
  | 0,_=>exact ⟨⟨by rw[cell_of_row _ _ _ _ _ _ h];rfl,by rw[cell_of_row _ _ _ _ _ _ h];rfl⟩,ha,hb⟩⟩⟩
theorem rg2 {W:World} {g a b a2 b2:Nat} {T:TypeId} {m:Nat×Nat} (h:W.heap[g]?=some (.cells #[.int .u8 (a:Int), .int .u8 (b:Int), .int .u8 (a2:Int), .int .u8 (b2:Int)] T m)) (ha:a<256) (hb:b<256) (ha2:a2<256) (hb2:b2<256):RgIn W (.slice (some ⟨g,0,none⟩) 2 2) [(a,b),(a2,b2)]:=
 ⟨_,2,rfl,⟨Nat.le_refl _,by decide⟩, .inr ⟨g,0,rfl,(Array.getElem?_eq_some_iff.1 h).1,λi hi=>by
  match i,hi with
  | 0,_=>exact ⟨⟨by rw[cell_of_row _ _ _ _ _ _ h];rfl,by rw[cell_of_row _ _ _ _ _ _ h];rfl⟩,ha,hb⟩
  | 1,_=>exact ⟨⟨by rw[cell_of_row _ _ _ _ _ _ h];rfl,by rw[cell_of_row _ _ _ _ _ _ h];rfl⟩,ha2,hb2⟩⟩⟩
theorem zHV {B:Nat} {w:World} {g a b:Nat} {T:TypeId} {m:Nat×Nat} (h:w.heap[g]?=some (.cells #[.int .u8 (a:Int), .int .u8 (b:Int)] T m)) (ha:a<256) (hb:b<256) (hg:B<=g):RgUp B w (.slice (some ⟨g,0,none⟩) 1 1) [(a,b)]:=
 λW hk=>rg1 ((hk.blk g (Array.getElem?_eq_some_iff.1 h).1 (λhm=>by have:=List.mem_range.1 hm;omega)).trans h) ha hb
theorem zMJ {B:Nat} {w:World} {g a b a2 b2:Nat} {T:TypeId} {m:Nat×Nat} (h:w.heap[g]?=some (.cells #[.int .u8 (a:Int), .int .u8 (b:Int), .int .u8 (a2:Int), .int .u8 (b2:Int)] T m)) (ha:a<256) (hb:b<256) (ha2:a2<256) (hb2:b2<256) (hg:B<=g):RgUp B w (.slice (some ⟨g,0,none⟩) 2 2) [(a,b),(a2,b2)]:=
 λW hk=>rg2 ((hk.blk g (Array.getElem?_eq_some_iff.1 h).1 (λhm=>by have:=List.mem_range.1 hm;omega)).trans h) ha hb ha2 hb2
theorem zFx {b B:Nat} {w w':World} (hf:Fr b w w') (hb:b<B):KeepF (List.range B) [] w w':=⟨hf.os,hf.tape,hf.output,hf.size,λk hk hn=>hf.block k hk (λe=>hn (by injection e with e;simp;omega)),λk hk=>by cases hk⟩
set_option maxHeartbeats 4000000 in
theorem zDY (b:Nat) (w:World) (ht:TapeOK b w):Calls Tryz.prog 28 #[.pointer (some ⟨b,0,none⟩)] w (zMe b w):=by
 have HT:=Lib.hid ht;have hbl:=ht.lt;clear ht
 go_enter Tryz.func28,Tryz.ntmps28
 go_wp2_with fail;refine zBG λW0 hW0=>?_;have hW:W0=zBz w [(#[.int .i64 0, .slice none 0 0, .slice none 0 0, .int .i64 0, .int .i64 0],29),(#[.int .u8 97, .int .u8 98],99),(#[.int .u8 48, .int .u8 57],99),(#[.int .u8 97, .int .u8 97],99),(#[.int .u8 98, .int .u8 98],99),(#[.int .u8 48, .int .u8 57, .int .u8 97, .int .u8 102],99),(#[.int .u8 107, .int .u8 107],99),(#[.int .u8 45, .int .u8 45],99),(#[.int .u8 0, .int .u8 9, .int .u8 250, .int .u8 255],99),(#[.slice (some ⟨w.heap.size+1,0,none⟩) 1 1, .slice (some ⟨w.heap.size+1+1,0,none⟩) 1 1, .slice (some ⟨w.heap.size+1+1+1,0,none⟩) 1 1, .slice (some ⟨w.heap.size+1+1+1+1,0,none⟩) 1 1, .slice (some ⟨w.heap.size+1+1+1+1+1,0,none⟩) 2 2, .slice (some ⟨w.heap.size+1+1+1+1+1+1,0,none⟩) 1 1, .slice (some ⟨w.heap.size+1+1+1+1+1+1+1,0,none⟩) 1 1, .slice (some ⟨w.heap.size+1+1+1+1+1+1+1+1,0,none⟩) 2 2],26)]:=hW0;have g0:W0.heap[w.heap.size+1]?=some (.cells #[.int .u8 97, .int .u8 98] 99 (0,0)):=by rw[hW];exact zAj 1 rfl
 have g1:W0.heap[w.heap.size+1+1]?=some (.cells #[.int .u8 48, .int .u8 57] 99 (0,0)):=by rw[hW];exact zAj 2 rfl
 have g2:W0.heap[w.heap.size+1+1+1]?=some (.cells #[.int .u8 97, .int .u8 97] 99 (0,0)):=by rw[hW];exact zAj 3 rfl
 have g3:W0.heap[w.heap.size+1+1+1+1]?=some (.cells #[.int .u8 98, .int .u8 98] 99 (0,0)):=by rw[hW];exact zAj 4 rfl
 have g4:W0.heap[w.heap.size+1+1+1+1+1]?=some (.cells #[.int .u8 48, .int .u8 57, .int .u8 97, .int .u8 102] 99 (0,0)):=by rw[hW];exact zAj 5 rfl
 have g5:W0.heap[w.heap.size+1+1+1+1+1+1]?=some (.cells #[.int .u8 107, .int .u8 107] 99 (0,0)):=by rw[hW];exact zAj 6 rfl
 have g6:W0.heap[w.heap.size+1+1+1+1+1+1+1]?=some (.cells #[.int .u8 45, .int .u8 45] 99 (0,0)):=by rw[hW];exact zAj 7 rfl
 have g7:W0.heap[w.heap.size+1+1+1+1+1+1+1+1]?=some (.cells #[.int .u8 0, .int .u8 9, .int .u8 250, .int .u8 255] 99 (0,0)):=by rw[hW];exact zAj 8 rfl
 have gR:W0.heap[w.heap.size+1+1+1+1+1+1+1+1+1]?=some (.cells #[.slice (some ⟨w.heap.size+1,0,none⟩) 1 1, .slice (some ⟨w.heap.size+1+1,0,none⟩) 1 1, .slice (some ⟨w.heap.size+1+1+1,0,none⟩) 1 1, .slice (some ⟨w.heap.size+1+1+1+1,0,none⟩) 1 1, .slice (some ⟨w.heap.size+1+1+1+1+1,0,none⟩) 2 2, .slice (some ⟨w.heap.size+1+1+1+1+1+1,0,none⟩) 1 1, .slice (some ⟨w.heap.size+1+1+1+1+1+1+1,0,none⟩) 1 1, .slice (some ⟨w.heap.size+1+1+1+1+1+1+1+1,0,none⟩) 2 2] 26 (0,0)):=by rw[hW];exact zAj 9 rfl
 have gB:W0.heap[w.heap.size]?=some (.cells #[.int .i64 0, .slice none 0 0, .slice none 0 0, .int .i64 0, .int .i64 0] 29 (0,0)):=by rw[hW];exact zAj 0 rfl
 have hz:W0.heap.size=w.heap.size+10:=by rw[hW];exact zDT _ w
 have hb:Below w.heap.size w W0:=by rw[hW];exact zBM _ w
 have hrow:∀c,c<8->∃v rs,rs∈zBv/\W0.cell? ⟨w.heap.size+1+1+1+1+1+1+1+1+1,c,none⟩=some v/\RgUp (w.heap.size+1) W0 v rs/\v.oneCell'=true:=λc hc=>by
  rcases (show c=0\/c=1\/c=2\/c=3\/c=4\/c=5\/c=6\/c=7 by omega) with rfl | rfl | rfl | rfl | rfl | rfl | rfl | rfl
  .exact ⟨_,[(97,98)],by decide,by rw[cell_of_row _ _ _ _ _ _ gR];rfl,zHV (a:=97) (b:=98) g0 (by decide) (by decide) (by omega),rfl⟩
  .exact ⟨_,[(48,57)],by decide,by rw[cell_of_row _ _ _ _ _ _ gR];rfl,zHV (a:=48) (b:=57) g1 (by decide) (by decide) (by omega),rfl⟩
  .exact ⟨_,[(97,97)],by decide,by rw[cell_of_row _ _ _ _ _ _ gR];rfl,zHV (a:=97) (b:=97) g2 (by decide) (by decide) (by omega),rfl⟩
  .exact ⟨_,[(98,98)],by decide,by rw[cell_of_row _ _ _ _ _ _ gR];rfl,zHV (a:=98) (b:=98) g3 (by decide) (by decide) (by omega),rfl⟩
  .exact ⟨_,[(48,57),(97,102)],by decide,by rw[cell_of_row _ _ _ _ _ _ gR];rfl,zMJ (a:=48) (b:=57) (a2:=97) (b2:=102) g4 (by decide) (by decide) (by decide) (by decide) (by omega),rfl⟩
  .exact ⟨_,[(107,107)],by decide,by rw[cell_of_row _ _ _ _ _ _ gR];rfl,zHV (a:=107) (b:=107) g5 (by decide) (by decide) (by omega),rfl⟩
  .exact ⟨_,[(45,45)],by decide,by rw[cell_of_row _ _ _ _ _ _ gR];rfl,zHV (a:=45) (b:=45) g6 (by decide) (by decide) (by omega),rfl⟩
  .exact ⟨_,[(0,9),(250,255)],by decide,by rw[cell_of_row _ _ _ _ _ _ gR];rfl,zMJ (a:=0) (b:=9) (a2:=250) (b2:=255) g7 (by decide) (by decide) (by decide) (by decide) (by omega),rfl⟩
 obtain ⟨bR,hbR⟩:∃k,w.heap.size+1+1+1+1+1+1+1+1+1=k:=⟨_,rfl⟩;rw[hbR]at hrow|-;have HR:=Lib.hid (And.intro hrow (And.intro gB (And.intro hb (show w.heap.size<=bR/\bR<W0.heap.size by omega))))
 have ht0:=HT.out.below hb;clear hW hW0 g0 g1 g2 g3 g4 g5 g6 g7 gR gB hrow hbR hb hz HT;refine (zAh b 8 W0 (by decide) (by decide) ht0).mono ?_
 rintro e w1 ⟨r,rfl,hr1,hr2,ht1,hf1⟩;obtain ⟨c,rfl⟩:∃c:Nat,r=(c:Int):=⟨r.toNat,by omega⟩
 obtain ⟨v,rs,hrs,hcl,hup,h1c⟩:=HR.out.1 c (by omega)
 obtain ⟨Av,cv,rfl,-⟩:=hup W0 (zIB (Below.refl _ _));obtain ⟨nv,hnv⟩:∃k,rs.length=k:=⟨_,rfl⟩;rw[hnv]at hup hcl;have HNV:=Lib.hid hnv;have hbz:=HR.out.2.2.1.size;have hrm:=(HR.out.2.1);have hRb:=HR.out.2.2.2;have hcl1:w1.cell? ⟨bR,c,none⟩=some (.slice Av nv cv):=(World.cell?_of_block (a:=⟨bR,c,none⟩) (hf1.block bR hRb.2 (λe=>by injection e with e;omega))).trans hcl
 have hB1:w1.heap[w.heap.size]?=some (.cells #[.int .i64 0, .slice none 0 0, .slice none 0 0, .int .i64 0, .int .i64 0] 29 (0,0)):=(hf1.block _ (by omega) (λe=>by injection e with e;omega)).trans hrm
 have lB:w.heap.size<w1.heap.size:=(Array.getElem?_eq_some_iff.1 hB1).1;have lR:bR<w1.heap.size:=by have:=hf1.size;omega
 have z0:w1.cell? ⟨w.heap.size,0,none⟩=some (.int .i64 0):=by rw[cell_of_row _ _ _ _ _ _ hB1];rfl
 have z1:w1.cell? ⟨w.heap.size,1,none⟩=some (.slice none 0 0):=by rw[cell_of_row _ _ _ _ _ _ hB1];rfl
 have z2:w1.cell? ⟨w.heap.size,2,none⟩=some (.slice none 0 0):=by rw[cell_of_row _ _ _ _ _ _ hB1];rfl
 have z3:w1.cell? ⟨w.heap.size,3,none⟩=some (.int .i64 0):=by rw[cell_of_row _ _ _ _ _ _ hB1];rfl
 have z4:w1.cell? ⟨w.heap.size,4,none⟩=some (.int .i64 0):=by rw[cell_of_row _ _ _ _ _ _ hB1];rfl
 have f0:w1.frozen? ⟨w.heap.size,0,none⟩=false:=by simp[World.frozen?,hB1]
 have f1:w1.frozen? ⟨w.heap.size,1,none⟩=false:=by simp[World.frozen?,hB1]
 have f2:w1.frozen? ⟨w.heap.size,2,none⟩=false:=by simp[World.frozen?,hB1]
 have f3:w1.frozen? ⟨w.heap.size,3,none⟩=false:=by simp[World.frozen?,hB1]
 have f4:w1.frozen? ⟨w.heap.size,4,none⟩=false:=by simp[World.frozen?,hB1]
 have HP:=Lib.hid (And.intro hrs (And.intro hup (And.intro ht1 (And.intro hf1 (And.intro hB1 (show w.heap.size<=W0.heap.size by omega))))))
 have hd0:decide ((0:Int)<=(c:Int))=true:=decide_eq_true (by omega)
 have hd1:decide ((c:Int)<8)=true:=decide_eq_true (by omega)
 clear h1c hnv hrs hup ht1 hf1 hB1 hbz hrm hRb hcl;go_wp2_with fail;refine zAD λWf hWf=>?_;refine bodyPost_ret (v:=.agg #[.int .i64 1, .slice Av nv cv, .slice none 0 0, .int .i64 0, .int .i64 0]) (by rw[hWf];simp[results,Tryz.results28,go_sem,z0,z1,z2,z3,z4,lB];try rfl) rfl ?_
 have hm:w.heap.size∈[w.heap.size]:=List.mem_singleton.2 rfl;have hkl:KeepF [w.heap.size] [] w1 Wf:=by rw[hWf];exact ((((zDm hm).tr (zDm hm)).tr (zDm hm)).tr (zDm hm)).tr (zDm hm)
 have hbf:Below w.heap.size w1 Wf:=hkl.below (λk hk=>by rw[List.mem_singleton]at hk;omega) (by omega)
 have hf:=HP.out.2.2.2.1;have h0:=HR.out.2.2.1;refine ⟨rs,_,HP.out.1,rfl,λW hk=>?_,HP.out.2.2.1.below' hbf hbl,⟨hbf.os.trans (hf.os.trans h0.os),hbf.tape.trans (hf.tape.trans h0.tape),hbf.output.trans (hf.output.trans h0.output),by have:=h0.size;have:=hf.size;have:=hbf.size;omega,λk hk hne=>(hbf.block k hk).trans ((hf.block k (Nat.lt_of_lt_of_le hk h0.size) hne).trans (h0.block k hk))⟩⟩
 have hw1:KeepF (List.range (w.heap.size+1)) [] w1 Wf:=⟨hkl.os,hkl.tape,hkl.output,hkl.size,λk hk hn=>hkl.blk k hk (λe=>hn (by rw[List.mem_singleton]at e;simp;omega)),λk hk=>by cases hk⟩
 have hw2:KeepF (List.range (w.heap.size+1)) [] Wf W:=⟨hk.os,hk.tape,hk.output,hk.size,λk h1 hn=>hk.blk k h1 (λe=>hn (by simp at e|-;omega)),λk hk=>by cases hk⟩
 have hnv:=HNV.out;subst hnv;exact HP.out.2.1 W ((zFx hf (by omega)).tr (hw1.tr hw2))
theorem OBs.form {e:TypeId} {B:Nat} {v:Value} {l:List UInt8} {w:World} (h:OB e B v l w):∃A c,v = .slice A l.length c/\(l.length<=c/\c<=9223372036854775807)/\(0<l.length->∃g,A=some ⟨g,0,none⟩/\B<=g/\g<w.heap.size/\(∀j (h:j<l.length),w.cell? ⟨g,j,none⟩=some (.int .u8 l[j].toNat)/\w.frozen? ⟨g,j,none⟩=false)):=by
 have h':=h;rcases h.2 with ⟨h1,h0⟩ | ⟨g,cap,cur,rfl,hb,hg,hle,hm,-⟩
 .exact ⟨none,0,by rw[h1,h0],⟨by omega,by decide⟩,λh=>by omega⟩
 .refine ⟨_,_,rfl,⟨hle,by unfold maxLen at hm;omega⟩,λ_=>⟨g,rfl,hb,(Array.getElem?_eq_some_iff.1 hg).1,λj hj=>⟨?_,by simp[World.frozen?,hg]⟩⟩⟩
  have:=World.ownsRow.cellAt h' j (by simpa using hj)
  rw[this];simp[hj]
theorem OBs.reads {e:TypeId} {B:Nat} {v:Value} {l:List UInt8} {w:World} (h:OB e B v l w):ByIn w v (l.map UInt8.toNat):=by
 obtain ⟨A,c,rfl,hc,h⟩:=OBs.form h;refine ⟨A,c,by rw[List.length_map],by rw[List.length_map];exact hc,?_⟩
 cases hl:l with
 | nil=>exact .inl rfl
 | cons a r=>
  obtain ⟨g,rfl,h1,h2,h3⟩:=h (by rw[hl];simp)
  refine .inr ⟨g,0,rfl,h2,λi hi=>?_⟩;rw[<-hl]at hi;have hi2:i<l.length:=by simpa using hi
  have:=(h3 i hi2).1;subst hl;rw[Nat.zero_add,this,List.getElem_map]
end Go.Proofs.YtadjdkickjjieaaGreatDoor
