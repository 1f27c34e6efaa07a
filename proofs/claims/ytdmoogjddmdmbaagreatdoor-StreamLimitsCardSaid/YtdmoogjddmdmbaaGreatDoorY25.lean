/- Walk: machine.Reach. · Walk: machine.Valid at a valid machine. · Walk: ref06.Valid at a valid machine. · Walk: ref06.Equal at valid machines. · library.Clear of any kind, text and place. · Walks: machine.Ends, machine.Accepts. · Rows of bytes in which one byte is changed; a row of bytes as a slice that reads. · entropy.Log, Counts, Measure. · entropy.Measure. -/
import Derived.Test.YtdmoogjddmdmbaaGreatDoorY21
import Derived.Test.YtdmoogjddmdmbaaGreatDoorY05
import Derived.Test.YtdmoogjddmdmbaaGreatDoorY24
import Derived.Test.YtdmoogjddmdmbaaGreatDoorY16
import Derived.Test.YtdmoogjddmdmbaaGreatDoorY23
import Derived.Test.YtdmoogjddmdmbaaGreatDoorY14
import Derived.Test.YtdmoogjddmdmbaaGreatDoorY04
import Derived.Test.YtdmoogjddmdmbaaGreatDoorY13
import Derived.Test.YtdmoogjddmdmbaaGreatDoorY09
import Derived.Deep.WholeRow
import Derived.Laws.Rows
namespace Go.Proofs.YtdmoogjddmdmbaaGreatDoor
set_option linter.unusedVariables false
set_option linter.unusedSimpArgs false
set_option maxRecDepth 100000
open Go.RowKit
def inC (n:Nat):List Value:=[.int .i64 (n:Int)]
theorem inC_E:EncS inC 1:=⟨by decide,λ_=>rfl,λx u hu=>by simp[inC]at hu;subst hu;rfl⟩
def ByIn (w:World) (v:Value) (l:List Nat):Prop:=∃A c,v = .slice A l.length c/\(l.length<=c/\c<=9223372036854775807)/\(l=[]\/∃g f,A=some ⟨g,f,none⟩/\g<w.heap.size/\∀i (h:i<l.length),w.cell? ⟨g,f+i,none⟩=some (.int .u8 (l[i]:Int)))
theorem ByIn.later {w w':World} {v:Value} {l:List Nat} (h:ByIn w v l) (hb:Below w.heap.size w w'):ByIn w' v l:=by
 obtain ⟨A,c,e,hc,h⟩:=h;refine ⟨A,c,e,hc,h.imp id ?_⟩;rintro ⟨g,f,h1,hg,hcell⟩;exact ⟨g,f,h1,Nat.lt_of_lt_of_le hg hb.size,λi hi=>(hb.cell (p:=⟨g,f+i,none⟩) hg).trans (hcell i hi)⟩
def RhPost (l:List Nat) (w:World) (e:Ending) (w':World):Prop:=∃rv,e = .returned rv/\OR 3 1 inC w.heap.size rv l w'/\Below w.heap.size w w'
structure RhW (w:World) (ve va v:Value) (o:List Nat) (wr:World):Prop where
 own:OR 3 1 inC (w.heap.size+1) v o wr
 bel:Below w.heap.size w wr
 siz:w.heap.size+1<=wr.heap.size
 box:wr.heap[w.heap.size]?=some (.cells #[ve,va] 93 (0,0))
theorem RhW.next {w wr w':World} {ve va v v':Value} {o o':List Nat} (h:RhW w ve va v o wr) (hown:OR 3 1 inC (w.heap.size+1) v' o' w') (hb:Below (w.heap.size+1) wr w'):RhW w ve va v' o' w':=
 ⟨hown,h.bel.trans (hb.mono (by omega)),Nat.le_trans h.siz hb.size,(hb.block _ (by omega)).trans h.box⟩
theorem RhW.later {w wr w':World} {ve va v:Value} {o:List Nat} (h:RhW w ve va v o wr) (hb:Below wr.heap.size wr w'):RhW w ve va v o w':=
 h.next (h.own.later hb) (hb.mono h.siz)
def RhI (m:Mc) (bs:List Nat) (R:List Nat) (o:List Nat) (sx:Int) (k:Nat):Prop:=(sx=-1/\o=R)\/∃s:Nat,sx=(s:Int)/\s<m.ed.length/\k<=bs.length/\o++rchF m (bs.drop k) s k=R
theorem rhI_step {m:Mc} {bs R o o':List Nat} {s k:Nat} {b:Bool} (hv:Vld m) (h:o++rchF m (bs.drop k) s k=R) (hb:(m.ac[s]?).getD false=b) (ho:o'=if b=true then o++[k] else o) :
  (bs.length<=k->o'=R)/\∀hk:k<bs.length,RhI m bs R o' (nxF m s bs[k]) (k+1):=by
 constructor
 .intro hk;rw[List.drop_eq_nil_of_le hk,rchF,hb]at h;rw[ho,<-h]
  cases b <;> simp
 .intro hk;rw[List.drop_eq_getElem_cons hk,rchF,hb,<-List.append_assoc]at h;have h2:o++(if b=true then [k] else [])=o':=by rw[ho]; cases b <;> simp
  rw[h2]at h;unfold RhI nxF
  cases ht:trn (rowM m s) bs[k] with
  | none=>
   rw[ht]at h;exact .inl ⟨rfl,by simpa using h⟩
  | some t=>
   rw[ht]at h;exact .inr ⟨t,rfl,hv.trn_lt ht,hk,h⟩
set_option maxHeartbeats 2000000 in
theorem reach_any (v vb:Value) (m:Mc) (bs:List Nat) (i:Nat) (w:World) (hm:McIn w v m) (hv:Vld m) (hsm:McSm m) (h1:1<=m.ed.length) (hb:ByIn w vb bs) (hbl:bs.length<=900000) (hby:∀b∈bs,b<256) (hi:i<=bs.length) :
  Calls Tryz.prog 94 #[v,vb, .int .i64 (i:Int)] w (RhPost (rchF m (bs.drop i) 0 i) w):=by
 obtain ⟨ve,va,rfl,he,ha⟩:=id hm;obtain ⟨Ae,ce,rfl,hce1,hce2⟩:=he.form;obtain ⟨Aa,ca,rfl,hca1,hca2⟩:=ha.form;obtain ⟨Ab,cb,rfl,hcb,hbc⟩:=id hb;obtain ⟨n,hn⟩:∃n,m.ed.length=n:=⟨_,rfl⟩;have hac:m.ac.length=n:=by rw[hv.len,hn]
 obtain ⟨L,hL⟩:∃n,bs.length=n:=⟨_,rfl⟩;have hnx:=λ(s c:Nat) (W:World) (h:Below w.heap.size w W) (hs:s<m.ed.length)=>mnext_any _ m s c W (hm.later h) hv hsm hs;have hnn:=hsm.n;obtain ⟨R,hR⟩:∃R,rchF m (bs.drop i) 0 i=R:=⟨_,rfl⟩;rw[hn]at hce1 hnn hnx;rw[hac]at hca1 hnx;rw[hL]at hcb hbl hi;have HNX:=Lib.hid hnx;have HA:=Lib.hid ha;have HV:=Lib.hid hv;have HBC:=Lib.hid hbc;have HN:=Lib.hid (And.intro hn hac);have HL:=Lib.hid hL;have HI0:Hid (RhI m bs R [] 0 i):=.inr ⟨0,rfl,h1,by rw[hL];exact hi,hR⟩
 have hW0:RhW w (.slice Ae n ce) (.slice Aa n ca) (.slice none 0 0) [] (w.alloc (.cells #[.slice Ae n ce, .slice Aa n ca] 93)):=⟨OR.nil_ _ _ _,(Below.refl _ _).alloc (Nat.le_refl _) _,by simp,heap_alloc_new w _⟩
 have HW0:=Lib.hid hW0;obtain ⟨i3,hi3,hk0,hk1,hk2⟩:=info_parts info_int;have hri:RhPost (rchF m (bs.drop i) 0 i) w=RhPost R w:=by rw[hR]
 rw[hri,hn,hac,hL];clear hnx ha he hv hbc hn hac hL hR hW0 hm hsm hb h1 hri
 go_enter Tryz.func94,Tryz.ntmps94
 go_wp2_with fail
 go_loopg [7,8,9] (L+1-i) (λq s7 s8 s9 wr=>∃(sx:Int) (k:Nat) (o:List Nat),s8 = .int .i64 sx/\s9 = .int .i64 (k:Int)/\o.length<=k/\k<=L+1/\q=L+1-k/\Hid (RhW w (.slice Ae n ce) (.slice Aa n ca) s7 o wr)/\Hid (RhI m bs R o sx k))
 case atStart=>exact ⟨0,i,[],rfl,rfl,by simp,by omega,rfl,HW0,HI0⟩
 case round=>
  obtain ⟨sx,k,o,rfl,rfl,hok,hkL,hq,HW,HI⟩:=hrel;have hbx:=HW.out.box;obtain ⟨x0,x1⟩:wr.cell? ⟨w.heap.size,0,none⟩=some (.slice Ae n ce)/\wr.cell? ⟨w.heap.size,1,none⟩=some (.slice Aa n ca):=by
   constructor <;> (rw[cell_of_row _ _ _ _ _ _ hbx]; rfl)
  have hwz:=HW.out.siz;have hws:w.heap.size<wr.heap.size:=by omega
  obtain ⟨Ar,cr,rfl⟩:∃A c,u7 = .slice A o.length c:=by
   obtain ⟨A,c,e,-⟩:=own_form (show wr.ownsRow _ _ _ _ _ _ from HW.out.own);exact ⟨A,c,e⟩
  clear hbx;by_cases hsx:sx=-1
  .have hd:decide ((0:Int)<=-1)=false:=by decide
   have HR:Hid (o=R):=by
    rcases HI.out with h | ⟨s,h,-⟩
    .exact h.2
    .omega
   subst hsx;clear HI;go_wp2_with fail;go_ret;exact ⟨_,rfl,HR.out▸HW.out.own.mono (by omega),HW.out.bel⟩
  .obtain ⟨s,hsx2,hsm,hkb,hRR⟩:=HI.out.resolve_left (λh=>hsx h.1);subst hsx2;rw[HN.out.1]at hsm;rw[HL.out]at hkb;have hsn:s<n:=hsm;have hds:decide (s<n)=true:=decide_eq_true hsn;have hd:decide ((0:Int)<=(s:Int))=true:=decide_eq_true (by omega)
   obtain ⟨g0,f0,rfl,-,hg0,hac0⟩:=HA.out.at_ (k:=s) (by rw[HN.out.2];exact hsn)
   obtain ⟨b,hb⟩:∃b,m.ac[s]'(by rw[HN.out.2];exact hsn)=b:=⟨_,rfl⟩
   rw[hb]at hac0;have hbg:(m.ac[s]?).getD false=b:=by rw[List.getElem?_eq_getElem (by rw[HN.out.2];exact hsn),hb];rfl
   have hacw:=(HW.out.bel.cell (p:=⟨g0,f0+s,none⟩) hg0).trans hac0;have hg1:g0<wr.heap.size:=by have:=HW.out.bel.size;omega
   have HST:=Lib.hid (λo'=>rhI_step (o':=o') HV.out hRR hbg);clear hsx hsm hRR hbg hac0 hb HI
   cases b with
   | true=>
    by_cases hkl:k<L
    .have hdk:decide (k<L)=true:=decide_eq_true hkl;have hne:decide (k=L)=false:=decide_eq_false (by omega)
     have hnei:decide ((k:Int)=(L:Int))=false:=decide_eq_false (by omega)
     have hneb:(k == L)=false:=by simp;omega
     have hnec:((k:Int) == (L:Int))=false:=by simp;omega
     have hown:=HW.out.own;go_wp2_with (at_builtin;refine app_one inC_E Tryz.underlying22 hi3 hk0 hk1 hk2 rfl (by decide) _ _ _ _ o k _ (w.heap.size+1) rfl rfl rfl rfl rfl hown (by omega) (by omega) ?_;intro v1 w1 hown1 hb1)
     have HW1:=Lib.hid (HW.out.next hown1 hb1);have HT:=Lib.hid (HST.out (o++[k]) rfl);clear hown hown1 hb1 hacw hg1 x0 x1 hwz hws;have hkb:k<bs.length:=by rw[HL.out];exact hkl
     obtain ⟨g,ff,rfl,hg,hcs⟩:=HBC.out.resolve_left (by intro e;rw[e]at hkb;simp at hkb)
     have hck:=hcs k hkb;obtain ⟨c,hc⟩:∃c,bs[k]=c:=⟨_,rfl⟩;rw[hc]at hck;have hnext:=HT.out.2 hkb;rw[hc]at hnext;have HNEXT:=Lib.hid hnext;have hbW:=HW1.out.bel;have hb1:=HW1.out.box;have hz1:=HW1.out.siz;have hd0:∀d':BelT w1.heap.size w1,d'.val.cell? ⟨w.heap.size,0,none⟩=some (.slice Ae n ce):=λd'=>by
      rw[cell_of_row _ _ _ _ _ _ ((d'.property.block w.heap.size (by omega)).trans hb1)];rfl
     have hd1:∀d':BelT w1.heap.size w1,d'.val.cell? ⟨w.heap.size,1,none⟩=some (.slice (some ⟨g0,f0,none⟩) n ca):=λd'=>by
      rw[cell_of_row _ _ _ _ _ _ ((d'.property.block w.heap.size (by omega)).trans hb1)];rfl
     have hd2:∀d':BelT w1.heap.size w1,w.heap.size<d'.val.heap.size:=λd'=>by have:=d'.property.size;omega
     have hd3:∀d':BelT w1.heap.size w1,d'.val.cell? ⟨g,ff+k,none⟩=some (.int .u8 (c:Int)):=λd'=>((hbW.trans (d'.property.mono hbW.size)).cell (p:=⟨g,ff+k,none⟩) hg).trans hck;have hd4:∀d':BelT w1.heap.size w1,g<d'.val.heap.size:=λd'=>by have:=d'.property.size;have:=hbW.size;omega
     have hcall:∀d':BelT w1.heap.size w1,Calls Tryz.prog 122 #[.agg #[.slice Ae n ce, .slice (some ⟨g0,f0,none⟩) n ca], .int .i64 (s:Int), .int .u8 (c:Int)] d'.val λe w'=>e = .returned (.int .i64 (nxF m s c))/\Below d'.val.heap.size d'.val w':=λd'=>HNX.out s c d'.val (hbW.trans (d'.property.mono hbW.size)) hsn;obtain ⟨x,hx⟩:∃x,nxF m s c=x:=⟨_,rfl⟩;rw[hx]at hcall HNEXT;have HCALL:=Lib.hid hcall;clear hck hcs hkb hc hnext hbW hb1 hcall hx;refine wp_region_below (Below.refl w1.heap.size w1) (by kernel_rfl) (by kernel_rfl) ?_
     repeat (go_big_quiet_step ((go_at_call 122;exact Calls.below_of (Nat.le_refl _) (HCALL.out _))))
     refine wpQuiet_nil ?_;intro w2 hw';have hw2:Below w1.heap.size w1 w2:=by obtain ⟨d9,rfl⟩:=hw';exact d9.property
     have HW2:=Lib.hid (HW1.out.later hw2);clear hw' hd0 hd1 hd2 hd3 hd4 hw2;go_wp2_with fail
     go_roundg (L-k)
     case measure=>omega
     case rel=>exact ⟨x,k+1,o++[k],rfl,by go_num,by (try simp);omega,by omega,by omega,HW2,HNEXT⟩
    .obtain rfl:k=L:=by omega
     have hdk:decide (k<k)=false:=decide_eq_false (by omega)
     have hne:decide (k=k)=true:=decide_eq_true rfl;have hnei:decide ((k:Int)=(k:Int))=true:=decide_eq_true rfl;have hown:=HW.out.own;go_wp2_with (at_builtin;refine app_one inC_E Tryz.underlying22 hi3 hk0 hk1 hk2 rfl (by decide) _ _ _ _ o k _ (w.heap.size+1) rfl rfl rfl rfl rfl hown (by omega) (by omega) ?_;intro v1 w1 hown1 hb1)
     have HW1:=Lib.hid (HW.out.next hown1 hb1);have HT:=Lib.hid (HST.out (o++[k]) rfl);clear hown hown1 hb1 hacw hg1 x0 x1;have HE:=Lib.hid (HT.out.1 (Nat.le_of_eq HL.out));go_ret;exact ⟨_,rfl,HE.out▸HW1.out.own.mono (by omega),HW1.out.bel⟩
   | false=>
    have HW1:=HW;have HT:=Lib.hid (HST.out o rfl);by_cases hkl:k<L
    .have hdk:decide (k<L)=true:=decide_eq_true hkl;have hne:decide (k=L)=false:=decide_eq_false (by omega)
     have hnei:decide ((k:Int)=(L:Int))=false:=decide_eq_false (by omega)
     have hneb:(k == L)=false:=by simp;omega
     have hnec:((k:Int) == (L:Int))=false:=by simp;omega
     have hkb:k<bs.length:=by rw[HL.out];exact hkl
     obtain ⟨g,ff,rfl,hg,hcs⟩:=HBC.out.resolve_left (by intro e;rw[e]at hkb;simp at hkb)
     have hck:=hcs k hkb;obtain ⟨c,hc⟩:∃c,bs[k]=c:=⟨_,rfl⟩;rw[hc]at hck;have hnext:=HT.out.2 hkb;rw[hc]at hnext;have HNEXT:=Lib.hid hnext;have hbW:=HW1.out.bel;have hb1:=HW1.out.box;have hz1:=HW1.out.siz;have hd0:∀d':BelT wr.heap.size wr,d'.val.cell? ⟨w.heap.size,0,none⟩=some (.slice Ae n ce):=λd'=>by
      rw[cell_of_row _ _ _ _ _ _ ((d'.property.block w.heap.size (by omega)).trans hb1)];rfl
     have hd1:∀d':BelT wr.heap.size wr,d'.val.cell? ⟨w.heap.size,1,none⟩=some (.slice (some ⟨g0,f0,none⟩) n ca):=λd'=>by
      rw[cell_of_row _ _ _ _ _ _ ((d'.property.block w.heap.size (by omega)).trans hb1)];rfl
     have hd2:∀d':BelT wr.heap.size wr,w.heap.size<d'.val.heap.size:=λd'=>by have:=d'.property.size;omega
     have hd3:∀d':BelT wr.heap.size wr,d'.val.cell? ⟨g,ff+k,none⟩=some (.int .u8 (c:Int)):=λd'=>((hbW.trans (d'.property.mono hbW.size)).cell (p:=⟨g,ff+k,none⟩) hg).trans hck;have hd4:∀d':BelT wr.heap.size wr,g<d'.val.heap.size:=λd'=>by have:=d'.property.size;have:=hbW.size;omega
     have hcall:∀d':BelT wr.heap.size wr,Calls Tryz.prog 122 #[.agg #[.slice Ae n ce, .slice (some ⟨g0,f0,none⟩) n ca], .int .i64 (s:Int), .int .u8 (c:Int)] d'.val λe w'=>e = .returned (.int .i64 (nxF m s c))/\Below d'.val.heap.size d'.val w':=λd'=>HNX.out s c d'.val (hbW.trans (d'.property.mono hbW.size)) hsn;obtain ⟨x,hx⟩:∃x,nxF m s c=x:=⟨_,rfl⟩;rw[hx]at hcall HNEXT;have HCALL:=Lib.hid hcall;clear hck hcs hkb hc hnext hbW hb1 hcall hx;go_wp2_with fail
     try exact absurd (show ((k:Int) == (L:Int))=true by assumption) (by rw[hnec];decide)
     refine wp_region_below (Below.refl wr.heap.size wr) (by kernel_rfl) (by kernel_rfl) ?_
     repeat (go_big_quiet_step ((go_at_call 122;exact Calls.below_of (Nat.le_refl _) (HCALL.out _))))
     refine wpQuiet_nil ?_;intro w2 hw';have hw2:Below wr.heap.size wr w2:=by obtain ⟨d9,rfl⟩:=hw';exact d9.property
     have HW2:=Lib.hid (HW1.out.later hw2);clear hw' hd0 hd1 hd2 hd3 hd4 hw2;go_wp2_with fail
     go_roundg (L-k)
     case measure=>omega
     case rel=>exact ⟨x,k+1,o,rfl,by go_num,by (try simp);omega,by omega,by omega,HW2,HNEXT⟩
    .obtain rfl:k=L:=by omega
     have hdk:decide (k<k)=false:=decide_eq_false (by omega)
     have hne:decide (k=k)=true:=decide_eq_true rfl;have hnei:decide ((k:Int)=(k:Int))=true:=decide_eq_true rfl;have HE:=Lib.hid (HT.out.1 (Nat.le_of_eq HL.out));go_wp2_with fail;go_ret;exact ⟨_,rfl,HE.out▸HW1.out.own.mono (by omega),HW1.out.bel⟩
structure Bx (w:World) (a b c d:Value) (wr:World):Prop where
 bel:Below w.heap.size w wr
 siz:w.heap.size+2<=wr.heap.size
 r0:wr.heap[w.heap.size]?=some (.cells #[a,b] 93 (0,0))
 r1:wr.heap[w.heap.size+1]?=some (.cells #[c,d] 93 (0,0))
theorem within_A (A:Option Addr) (n c i t:Nat) (w:World):Calls Tryz.prog 123 #[.slice A n c, .int .i64 (i:Int), .int .i64 (t:Int)] w λe w'=>e = .returned (.bool (decide (i<=t) && decide (t<=n)))/\w'=w:=by
 have d0:decide ((0:Int)<=(i:Int))=true:=decide_eq_true (by omega)
 by_cases h1:i<=t
 .have d1:decide ((i:Int)<=(t:Int))=true:=decide_eq_true (by omega)
  have d1n:decide (i<=t)=true:=decide_eq_true h1;by_cases h2:t<=n
  .have d2:decide ((t:Int)<=(n:Int))=true:=decide_eq_true (by omega)
   have d2n:decide (t<=n)=true:=decide_eq_true h2;rw[d1n,d2n]
   go_enter Tryz.func123,Tryz.ntmps123
   go_wp2_with fail;go_ret;exact ⟨rfl,rfl⟩
  .have d2:decide ((t:Int)<=(n:Int))=false:=decide_eq_false (by omega)
   have d2n:decide (t<=n)=false:=decide_eq_false h2;rw[d1n,d2n]
   go_enter Tryz.func123,Tryz.ntmps123
   go_wp2_with fail;go_ret;exact ⟨rfl,rfl⟩
 .have d1:decide ((i:Int)<=(t:Int))=false:=decide_eq_false (by omega)
  have d1n:decide (i<=t)=false:=decide_eq_false h1;rw[d1n]
  go_enter Tryz.func123,Tryz.ntmps123
  go_wp2_with fail;go_ret;exact ⟨rfl,rfl⟩
theorem sign7_any (c:Nat) (w:World):Calls Tryz.prog 124 #[.int .u8 (c:Int)] w λe w'=>e = .returned (.bool (sgN c))/\w'=w:=by
 have hcase:c<48\/(48<=c/\c<=57)\/(57<c/\c<65)\/(65<=c/\c<=90)\/(90<c/\c<97)\/(97<=c/\c<=122)\/122<c:=by omega
 obtain ⟨b1,h1⟩:∃b,decide (97<=(c:Int))=b:=⟨_,rfl⟩;obtain ⟨b2,h2⟩:∃b,decide ((c:Int)<=122)=b:=⟨_,rfl⟩;obtain ⟨b3,h3⟩:∃b,decide (65<=(c:Int))=b:=⟨_,rfl⟩;obtain ⟨b4,h4⟩:∃b,decide ((c:Int)<=90)=b:=⟨_,rfl⟩;obtain ⟨b5,h5⟩:∃b,decide (48<=(c:Int))=b:=⟨_,rfl⟩;obtain ⟨b6,h6⟩:∃b,decide ((c:Int)<=57)=b:=⟨_,rfl⟩;have hs:sgN c=((b1 && b2) || (b3 && b4) || (b5 && b6)):=by
  subst h1 h2 h3 h4 h5 h6;unfold sgN;rw[Bool.eq_iff_iff];simp only[Bool.or_eq_true,Bool.and_eq_true,decide_eq_true_eq];omega
 rw[hs];clear hs hcase
 go_enter Tryz.func124,Tryz.ntmps124
 cases b1 <;> cases b2 <;> cases b3 <;> cases b4 <;> cases b5 <;> cases b6
 all_goals
  go_wp2_with fail;go_ret;exact ⟨rfl,rfl⟩
def KC.val (u:KC):Value:=.agg #[.string u.nm, .int .i64 u.op, .slice u.a1 u.n1 u.c1, .slice u.a2 u.n2 u.c2, .int .i64 u.mn, .int .i64 u.mx, .bool u.wh, .int .i64 u.ck, .int .i64 u.en, .slice u.a3 u.n3 u.c3, .int .i64 u.nr]
set_option maxHeartbeats 4000000 in
theorem clear_any (u:KC) (A:Option Addr) (n c i t:Nat) (bs:List Nat) (w:World) (hb:ByIn w (.slice A n c) bs) (hn:bs.length=n) (hnl:n<=900000):Calls Tryz.prog 95 #[.agg #[.string u.nm, .int .i64 u.op, .slice u.a1 u.n1 u.c1, .slice u.a2 u.n2 u.c2, .int .i64 u.mn, .int .i64 u.mx, .bool u.wh, .int .i64 u.ck, .int .i64 u.en, .slice u.a3 u.n3 u.c3, .int .i64 u.nr], .slice A n c, .int .i64 (i:Int), .int .i64 (t:Int)] w λe w'=>e = .returned (.bool (clrF u.wh bs i t))/\Below w.heap.size w w':=by
 obtain ⟨wh,hwh⟩:∃b,u.wh=b:=⟨_,rfl⟩;rw[hwh];obtain ⟨b,hbw⟩:∃b,(decide (i<=t) && decide (t<=n))=b:=⟨_,rfl⟩;have HW:=Lib.hid λW=>within_A A n c i t W;rw[hbw]at HW;have hcl:clrF wh bs i t=(b && (!wh || ((decide (i=0) || !sgN ((bs[i - 1]?).getD 0)) && (decide (t=n) || !sgN ((bs[t]?).getD 0))))):=by unfold clrF;rw[hn,hbw]
 obtain ⟨R,hR⟩:∃R,clrF wh bs i t=R:=⟨_,rfl⟩;rw[hR];have HR:=Lib.hid (hcl.symm.trans hR);have HB:=Lib.hid (And.intro hb hbw);clear hb hcl hbw hR
 go_enter Tryz.func95,Tryz.ntmps95
 go_wp2_with fail;refine calls_nm λW0 hW0=>?_;have hb0:Below w.heap.size w W0:=by rw[hW0];exact (Below.refl _ _).alloc (Nat.le_refl _) _
 have hK:W0.heap[w.heap.size]?=some (.cells #[.string u.nm, .int .i64 u.op, .slice u.a1 u.n1 u.c1, .slice u.a2 u.n2 u.c2, .int .i64 u.mn, .int .i64 u.mx, .bool wh, .int .i64 u.ck, .int .i64 u.en, .slice u.a3 u.n3 u.c3, .int .i64 u.nr] 44 (0,0)):=by rw[hW0];exact heap_alloc_new w _
 have c6:W0.cell? ⟨w.heap.size,6,none⟩=some (.bool wh):=by rw[cell_of_row _ _ _ _ _ _ hK];rfl
 have lb:w.heap.size<W0.heap.size:=(Array.getElem?_eq_some_iff.1 hK).1;have H0:=Lib.hid hb0;clear hW0 hb0 hK;refine (HW.out W0).mono ?_;rintro e w1 ⟨rfl,rfl⟩
 cases b with
 | false=>
  go_wp2_with fail;go_ret;exact ⟨ret_bool (by rw[<-HR.out];rfl),H0.out⟩
 | true=>
  have hit:=HB.out.2;rw[Bool.and_eq_true,decide_eq_true_eq,decide_eq_true_eq]at hit;obtain ⟨h1,h2⟩:=hit
  cases wh with
  | false=>
   clear h1 h2;go_wp2_with fail;go_ret;exact ⟨ret_bool (by rw[<-HR.out];rfl),H0.out⟩
  | true=>
   obtain ⟨A',c',e1,hc,hor⟩:=(HB.out.1.later H0.out);injection e1 with e1 e2 e3;subst e1 e3;have hcell:∀k,k<n->∃g f,A=some ⟨g,f,none⟩/\g<w1.heap.size/\w1.cell? ⟨g,f+k,none⟩=some (.int .u8 (((bs[k]?).getD 0:Nat):Int)):=λk hk=>by
    rcases hor with h | ⟨g,f,h3,h4,h5⟩
    .rw[h]at hn;simp at hn;omega
    .exact ⟨g,f,h3,h4,by rw[h5 k (by omega),List.getElem?_eq_getElem (by omega)];rfl⟩
   have HC:=Lib.hid hcell;clear hor hcell hc e2;have hsecond:t<n->∃y g f,(sgN ((bs[t]?).getD 0)=y/\A=some ⟨g,f,none⟩)/\g<w1.heap.size/\w1.cell? ⟨g,f+t,none⟩=some (.int .u8 (((bs[t]?).getD 0:Nat):Int)):=λh=>by
    obtain ⟨g,f,q1,q2,q3⟩:=HC.out t h;exact ⟨_,g,f,⟨rfl,q1⟩,q2,q3⟩
   have HS:=Lib.hid hsecond;clear hsecond;by_cases h0:i=0
   .subst h0;by_cases h3:t=n
    .subst h3;clear h1 h2;go_wp2_with fail;go_ret;exact ⟨ret_bool (by rw[<-HR.out];simp),H0.out⟩
    .have d3:((t:Int) == (n:Int))=false:=by simp;omega
     have d3n:decide (t=n)=false:=decide_eq_false h3;obtain ⟨y,g,f,⟨hy,rfl⟩,hg,hcl⟩:=HS.out (by omega)
     obtain ⟨x,hx⟩:∃x,(bs[t]?).getD 0=x:=⟨_,rfl⟩;have htn:t<n:=by omega
     have htni:(t:Int)<(n:Int):=by omega
     rw[hx]at hy hcl;have HSG:=Lib.hid (λW=>by have h:=sign7_any x W;rw[hy]at h;exact h)
     have HF:=Lib.hid (And.intro hx (And.intro d3n hy));clear h1 h2 h3 d3n hx hy;go_wp2_with fail;refine (HSG.out w1).mono ?_;rintro e w2 ⟨rfl,rfl⟩;go_wp2_with fail;go_ret;refine ⟨ret_bool ?_,H0.out⟩;rw[<-HR.out,HF.out.1,HF.out.2.1,HF.out.2.2]
     cases y <;> rfl
   .obtain ⟨k,rfl⟩:∃k,i=k+1:=⟨i - 1,by omega⟩
    obtain ⟨g,f,rfl,hg,hcl⟩:=HC.out k (by omega)
    obtain ⟨x,hx⟩:∃x,(bs[k]?).getD 0=x:=⟨_,rfl⟩;obtain ⟨y,hy⟩:∃y,sgN x=y:=⟨_,rfl⟩;have e0:bs[k+1 - 1]?=bs[k]?:=by rw[Nat.add_sub_cancel]
    have e1:decide (k+1=0)=false:=decide_eq_false (by omega)
    have HE:=Lib.hid (And.intro e0 (And.intro hx (And.intro e1 hy)));have d0:(((k+1:Nat):Int) == 0)=false:=by simp;omega
    have w1':IntKind.i64.wrap (((k+1:Nat):Int) - 1)=(k:Int):=by rw[IntWalk.i64_in _ (by omega)];omega
    have kl:(k:Int)<(n:Int):=by omega
    have kn:k<n:=by omega
    rw[hx]at hcl;have HSG:=Lib.hid (λW=>by have h:=sign7_any x W;rw[hy]at h;exact h)
    have d0':((k:Int)+1 == 0)=false:=by simp;omega
    clear e0 e1 hx h0 hy
    cases y with
    | true=>
     clear h1 h2;go_wp2_with fail;refine (HSG.out w1).mono ?_;rintro e w2 ⟨rfl,rfl⟩;go_wp2_with fail;go_ret;refine ⟨ret_bool ?_,H0.out⟩;rw[<-HR.out,HE.out.1,HE.out.2.1,HE.out.2.2.1,HE.out.2.2.2];simp
    | false=>
     by_cases h3:t=n
     .subst h3;clear h1 h2;go_wp2_with fail;refine (HSG.out w1).mono ?_;rintro e w2 ⟨rfl,rfl⟩;go_wp2_with fail;go_ret;refine ⟨ret_bool ?_,H0.out⟩;rw[<-HR.out,HE.out.1,HE.out.2.1,HE.out.2.2.1,HE.out.2.2.2];simp
     .have d3:((t:Int) == (n:Int))=false:=by simp;omega
      have d3n:decide (t=n)=false:=decide_eq_false h3;obtain ⟨z,g2,f2,⟨hz,e2⟩,hg2,hcl2⟩:=HS.out (by omega)
      injection e2 with e2;injection e2 with e2 e4 _;subst e2 e4;obtain ⟨x2,hx2⟩:∃x,(bs[t]?).getD 0=x:=⟨_,rfl⟩;have htn:t<n:=by omega
      have htni:(t:Int)<(n:Int):=by omega
      rw[hx2]at hz hcl2;have HF:=Lib.hid (And.intro hx2 (And.intro d3n hz));have HSG2:=Lib.hid (λW=>by have h:=sign7_any x2 W;rw[hz]at h;exact h)
      clear h1 h2 h3 d3n hx2 hz;go_wp2_with fail;refine (HSG.out w1).mono ?_;rintro e w2 ⟨rfl,rfl⟩;go_wp2_with fail;refine (HSG2.out w2).mono ?_;rintro e w3 ⟨rfl,rfl⟩;go_wp2_with fail;go_ret;refine ⟨ret_bool ?_,H0.out⟩;rw[<-HR.out,HE.out.1,HE.out.2.1,HE.out.2.2.1,HE.out.2.2.2,HF.out.1,HF.out.2.1,HF.out.2.2]
      cases z <;> rfl
theorem rch_last (m:Mc):∀(bs:List Nat) (s k:Nat),(rchF m bs s k).getLast?=some (k+bs.length)↔acF m bs s=true
 | [],s,k=>by
  rw[rchF,acF]
  cases h:(m.ac[s]?).getD false <;> simp
 | c::w,s,k=>by
  rw[rchF,acF]
  cases ht:trn (rowM m s) c with
  | none=>cases h:(m.ac[s]?).getD false <;> simp
  | some t=>
   simp only;rw[<-rch_last m w t (k+1)];have e:k+(c::w).length=k+1+w.length:=by simp;omega
   rw[e,List.getLast?_append]
   cases hl:(rchF m w t (k+1)).getLast? with
   | some x=>simp
   | none=>
    simp only[Option.none_or];constructor
    .intro h
     split at h
     .simp at h;omega
     .simp at h
    .intro h;cases h
theorem rch_len (m:Mc):∀(bs:List Nat) (s k:Nat),(rchF m bs s k).length<=bs.length+1
 | [],s,k=>by rw[rchF]; split <;> simp
 | c::w,s,k=>by
  rw[rchF,List.length_append];have h1:(if (m.ac[s]?).getD false=true then [k] else []).length<=1:=by split <;> simp
  cases ht:trn (rowM m s) c with
  | none=>simp at h1|-;omega
  | some t=>have:=rch_len m w t (k+1);simp at h1 this|-;omega
theorem OBs.form {e:TypeId} {B:Nat} {v:Value} {l:List UInt8} {w:World} (h:OB e B v l w):∃A c,v = .slice A l.length c/\(l.length<=c/\c<=9223372036854775807)/\(0<l.length->∃g,A=some ⟨g,0,none⟩/\B<=g/\g<w.heap.size/\(∀j (h:j<l.length),w.cell? ⟨g,j,none⟩=some (.int .u8 l[j].toNat)/\w.frozen? ⟨g,j,none⟩=false)):=by
 have h':=h;rcases h.2 with ⟨h1,h0⟩ | ⟨g,cap,cur,rfl,hb,hg,hle,hm,-⟩
 .exact ⟨none,0,by rw[h1,h0],⟨by omega,by decide⟩,λh=>by omega⟩
 .refine ⟨_,_,rfl,⟨hle,by unfold maxLen at hm;omega⟩,λ_=>⟨g,rfl,hb,(Array.getElem?_eq_some_iff.1 hg).1,λj hj=>⟨?_,by simp[World.frozen?,hg]⟩⟩⟩
  have:=World.ownsRow.cellAt h' j (by simpa using hj)
  rw[this];simp[hj]
theorem OBs.reads {e:TypeId} {B:Nat} {v:Value} {l:List UInt8} {w:World} (h:OB e B v l w):ByIn w v (l.map UInt8.toNat):=by
 obtain ⟨A,c,rfl,hc,h⟩:=OBs.form h;refine ⟨A,c,by rw[List.length_map],by rw[List.length_map];exact hc,?_⟩
 cases hl:l with
 | nil=>exact .inl rfl
 | cons a r=>
  obtain ⟨g,rfl,h1,h2,h3⟩:=h (by rw[hl];simp)
  refine .inr ⟨g,0,rfl,h2,λi hi=>?_⟩;rw[<-hl]at hi;have hi2:i<l.length:=by simpa using hi
  have:=(h3 i hi2).1;subst hl;rw[Nat.zero_add,this,List.getElem_map]
set_option maxHeartbeats 4000000 in
theorem log_any (n:Nat) (w:World) (hn:n<=4611686018427387904):Calls Tryz.prog 158 #[.int .i64 (n:Int)] w λe w'=>e = .returned (.int .i64 ((logF n:Nat):Int))/\w'=w:=by
 by_cases h1:n<1
 .have d1:decide ((n:Int)<1)=true:=decide_eq_true (by omega)
  have hz:logF n=0:=by unfold logF;rw[if_pos (.inl h1)]
  rw[hz]
  go_enter Tryz.func158,Tryz.ntmps158
  go_wp2_with fail;go_ret;exact ⟨rfl,rfl⟩
 have d1:decide ((n:Int)<1)=false:=decide_eq_false (by omega)
 by_cases h2:1073741824<n
 .have d2:decide (1073741824<(n:Int))=true:=decide_eq_true (by omega)
  have hz:logF n=0:=by unfold logF;rw[if_pos (.inr h2)]
  rw[hz]
  go_enter Tryz.func158,Tryz.ntmps158
  go_wp2_with fail;go_ret;exact ⟨rfl,rfl⟩
 have d2:decide (1073741824<(n:Int))=false:=decide_eq_false (by omega)
 obtain ⟨y1,y2,y3,y4⟩:=lgY_is (n:=n) (by omega) (by omega)
 have hL:=inL_start (n:=n) (by omega) (by omega)
 have hlog:logF n=(itL 16 (lgY n,n*2 ^ (30-lgY n))).1:=by unfold logF;rw[if_neg (by omega)]
 have hbl:Lib.bitLen (n:Int).toNat=lgY n+1:=by rw[Int.toNat_natCast];exact y4
 rw[hlog];obtain ⟨y,hy⟩:∃y,lgY n=y:=⟨_,rfl⟩;rw[hy]at hL y3 hbl|-;obtain ⟨x,hx⟩:∃x,n*2 ^ (30-y)=x:=⟨_,rfl⟩;rw[hx]at hL|-;have HX:=Lib.hid (And.intro hx hL);have HB:=Lib.hid λW=>by have h:=Tryz.bits_Len (n:Int) W (by omega) (by omega);rw[hbl]at h;exact h
 have hsh:wrap64 ((n:Int)*2 ^ (30-y))=(x:Int):=by
  have e:(n:Int)*2 ^ (30-y)=(x:Int):=by rw[<-hx];push_cast;rfl
  rw[e];exact IntWalk.wrap64_in _ (by have:=hL.2;omega)
 clear hlog hbl y1 y2 y4 hL hx hy
 go_enter Tryz.func158,Tryz.ntmps158
 go_wp2_with fail;refine (HB.out w).mono ?_;rintro e w1 ⟨rfl,rfl⟩;go_wp2_with fail;rw[hsh];clear hsh
 go_loopw [3,4,19] (λyv xv iv wr=>∃k y1 x1:Nat,k<=16/\iv = .int .i64 (k:Int)/\yv = .int .i64 (y1:Int)/\xv = .int .i64 (x1:Int)/\Hid (InL x1/\y1+1<=31*2 ^ k/\itL (16-k) (y1,x1)=itL 16 (y,x))/\wr=w1) (λ_ _ iv _=>16 - (intOf iv).toNat)
 case atStart=>exact ⟨0,y,x,by omega,rfl,rfl,rfl,⟨HX.out.2,by omega,rfl⟩,rfl⟩
 case round=>
  obtain ⟨k,y1,x1,hk,rfl,rfl,rfl,HR,rfl⟩:=hrel;by_cases hlt:k<16
  .have hd:decide ((k:Int)<16)=true:=decide_eq_true (by omega)
   have hdn:decide (k<16)=true:=decide_eq_true hlt;obtain ⟨s1,s2,s3⟩:=inL_sq HR.out.1;have hpk:2 ^ k<=2 ^ 15:=Nat.pow_le_pow_right (by decide) (by omega)
   have hyb:=HR.out.2.1;have hstp:itL (16 - (k+1)) (stL (y1,x1))=itL 16 (y,x):=by rw[<-HR.out.2.2,show 16-k=(16 - (k+1))+1 by omega];rfl
   have hyk:2*y1+1+1<=31*2 ^ (k+1):=by rw[Nat.pow_succ];omega
   obtain ⟨q,hq⟩:∃q,x1*x1=q:=⟨_,rfl⟩;obtain ⟨d,hdv⟩:∃d,q / 1073741824=d:=⟨_,rfl⟩;have hqi:(x1:Int)*(x1:Int)=(q:Int):=by rw[<-hq];push_cast;rfl
   have hdi:(q:Int).tdiv 1073741824=(d:Int):=by rw[<-hdv];exact Int.ofNat_tdiv q 1073741824
   have hst:stL (y1,x1)=if 2147483648<=d then (2*y1+1,d / 2) else (2*y1,d):=by
    unfold stL;simp only[hq,hdv]
   have hin:=inL_step (p:=(y1,x1)) HR.out.1;rw[hst]at hstp hin;rw[hq]at s1 s2 s3;rw[hdv]at s1 s2;have hw1:wrap64 (q:Int)=(q:Int):=IntWalk.wrap64_in _ (by omega)
   have hw2:wrap64 (d:Int)=(d:Int):=IntWalk.wrap64_in _ (by omega)
   have hw3:wrap64 ((y1:Int)*2)=(y1:Int)*2:=IntWalk.wrap64_in _ (by omega)
   have hw4:wrap64 ((y1:Int)*2+1)=(y1:Int)*2+1:=IntWalk.wrap64_in _ (by omega)
   have HQ:=Lib.hid (And.intro hstp (And.intro hin hyk));have hyl:y1<=2000000:=by omega
   clear hst hstp hin hyk hyb hpk hq hdv s3;by_cases hc:2147483648<=d
   .have hdc:decide (2147483648<=(d:Int))=true:=decide_eq_true (by omega)
    have hdcn:decide (2147483648<=d)=true:=decide_eq_true hc;have HQ2:=HQ.out;rw[if_pos hc]at HQ2;have HQ3:=Lib.hid HQ2;have hd2:(d:Int).tdiv 2=((d / 2:Nat):Int):=Int.ofNat_tdiv d 2;obtain ⟨d2,hd2e⟩:∃d2,d / 2=d2:=⟨_,rfl⟩;rw[hd2e]at hd2;have hw5:wrap64 (d2:Int)=(d2:Int):=IntWalk.wrap64_in _ (by omega)
    have HD2:=Lib.hid hd2e;clear HQ2 hd2e;go_wp2_with fail;go_roundw
    case rel=>exact ⟨k+1,2*y1+1,d2,by omega,by go_num,by go_num,by rw[hw5],⟨by rw[<-HD2.out];exact HQ3.out.2.1,by have:=HQ3.out.2.2;omega,by rw[<-HD2.out];exact HQ3.out.1⟩,trivial⟩
    case measure=>simp[intOf];omega
   .have hdc:decide (2147483648<=(d:Int))=false:=decide_eq_false (by omega)
    have hdcn:decide (2147483648<=d)=false:=decide_eq_false hc;have HQ2:=HQ.out;rw[if_neg hc]at HQ2;have HQ3:=Lib.hid HQ2;clear HQ2;go_wp2_with fail;go_roundw
    case rel=>exact ⟨k+1,2*y1,d,by omega,by go_num,by go_num,rfl,⟨HQ3.out.2.1,by have:=HQ3.out.2.2;omega,HQ3.out.1⟩,trivial⟩
    case measure=>simp[intOf];omega
  .obtain rfl:k=16:=by omega
   have hR:=HR.out.2.2;rw[Nat.sub_self]at hR;have HF:=Lib.hid (show (itL 16 (y,x)).1=y1 by rw[<-hR];rfl)
   clear hR;go_wp2_with fail;go_ret;exact ⟨by rw[HF.out];rfl,rfl⟩
def cntV (l:List Nat):List Value:=(List.range 256).map λc=>.int .i64 ((l.count c:Nat):Int)
theorem cntV_len (l:List Nat):(cntV l).length=256:=by simp[cntV]
theorem cntV_at (l:List Nat) (c:Nat) (hc:c<256):(cntV l)[c]?=some (.int .i64 ((l.count c:Nat):Int)):=by
 unfold cntV;rw[List.getElem?_map,List.getElem?_range hc];rfl
theorem cntV_snoc (l:List Nat) (c:Nat) (hc:c<256):cntV (l++[c])=(cntV l).set c (.int .i64 ((l.count c:Nat)+1:Int)):=by
 refine List.ext_getElem? λi=>?_;by_cases hi:i<256
 .rw[cntV_at _ i hi,List.getElem?_set];by_cases h:c=i
  .subst h;rw[if_pos rfl,if_pos (by rw[cntV_len];exact hc)]
   simp
  .rw[if_neg h,cntV_at _ i hi,List.count_append];simp[List.count_singleton,h]
 .rw[List.getElem?_eq_none (by rw[cntV_len];omega),List.getElem?_eq_none (by rw[List.length_set,cntV_len];omega)]
theorem cntV_one (l:List Nat):∀v∈cntV l,v.oneCell'=true:=by
 intro v hv;unfold cntV at hv;obtain ⟨c,-,rfl⟩:=List.mem_map.1 hv
 rfl
theorem info_cnt:(Tryz.prog.info? 117).map (λi=>(i.zero,i.size))=some (some (.agg (Array.replicate 256 (.int .i64 0))),256):=by kernel_rfl
theorem cntV_nil:cntV []=List.replicate 256 (.int .i64 0):=by
 refine List.ext_getElem? λi=>?_;by_cases hi:i<256
 .rw[cntV_at _ i hi,List.getElem?_replicate,if_pos hi];rfl
 .rw[List.getElem?_eq_none (by rw[cntV_len];omega),List.getElem?_eq_none (by simp;omega)]
theorem st_row {W:World} {g:Nat} {old:Array Value} (l:List Value) (h:W.heap[g]?=some (.cells old 117 (0,0))) (ho:old.size=256) (hr:l.length=256) (h1:∀v∈l,v.oneCell'=true):(storeCells ⟨g,0,none⟩ l 0).run Tryz.prog W = .ok () (W.setRow g l.toArray):=by
 have hi:=(zero_of_info info_cnt).2;have:=run_storeVar_row (P:=Tryz.prog) W g 117 117 old l.toArray h (by simp only[List.size_toArray,hr];exact hi) (by simp;omega) (Array.all_eq_true_iff_forall_mem.2 λv hv=>h1 v (by simpa using hv))
 cases hq:Tryz.prog.info? 117 with
 | none=>simp[hq]at hi
 | some i=>
  have hs:l.length=i.size:=by simp[hq]at hi;omega
  simpa [storeVar,sizeOf,typeInfo,hq,Value.cells,hs] using this
set_option maxHeartbeats 4000000 in
theorem counts_any (A:Option Addr) (n c:Nat) (bs:List Nat) (w:World) (hb:ByIn w (.slice A n c) bs) (hn:bs.length=n) (hby:∀b∈bs,b<256):Calls Tryz.prog 157 #[.slice A n c] w λe w'=>e = .returned (.agg (cntV (if 65536<bs.length then [] else bs)).toArray)/\Below w.heap.size w w':=by
 have hzv:=(zero_of_info info_cnt).1;have hinf:=(zero_of_info info_cnt).2;have hnc:n<=c/\c<=9223372036854775807:=by
  obtain ⟨A',c',e,h1,-⟩:=hb;injection e with _ e2 e3;omega
 have hn63:(n:Int)<=9223372036854775807:=by omega
 obtain ⟨RR,hRR⟩:∃R,(if 65536<bs.length then [] else bs)=R:=⟨_,rfl⟩;rw[hRR];have HRS:=Lib.hid hRR;have HB:=Lib.hid (And.intro hb (And.intro hn hby));clear hb hn hby hRR
 go_enter Tryz.func157,Tryz.ntmps157
 go_upto_region 2 with fail
 refine wp_nm λW0 hW0=>?_;have hWa:W0=allocs w [(Array.replicate 256 (.int .i64 0),117),(Array.replicate 256 (.int .i64 0),117)]:=by rw[hW0];rfl
 have hA0:W0.heap[w.heap.size]?=some (.cells (Array.replicate 256 (.int .i64 0)) 117 (0,0)):=by rw[hWa];exact allocs_at 0 rfl
 have hA1:W0.heap[w.heap.size+1]?=some (.cells (cntV []).toArray 117 (0,0)):=by
  have e:(cntV []).toArray=Array.replicate 256 (.int .i64 0):=by rw[cntV_nil,List.toArray_replicate]
  rw[hWa,e];exact allocs_at 1 rfl
 have hb0:Below w.heap.size w W0:=by rw[hWa];exact allocs_below _ _
 clear hW0 hWa hzv;by_cases hbig:65536<n
 .have d:decide (65536<(n:Int))=true:=decide_eq_true (by omega)
  have H0:=Lib.hid (And.intro hA0 (And.intro hA1 hb0));clear hA0 hA1 hb0;go_wp2_with fail;refine wp_load_row 117 (.tmp 3) rfl (w.heap.size+1) rfl 117 (cntV []).toArray (0,0) _ H0.out.2.1 Tryz.underlying117 rfl (by simp only[List.size_toArray,cntV_len];exact hinf) ?_
  have hst:=st_row (cntV []) H0.out.1 (by simp) (cntV_len _) (cntV_one [])
  go_wp2_with fail;refine post_named λWf hWf=>?_;have hrow:Wf.heap[w.heap.size]?=some (.cells (cntV []).toArray 117 (0,0)):=by rw[hWf];exact setRow_heap _ _ _ _ _ _ H0.out.1
  refine bodyPost_ret (v:=.agg (cntV []).toArray) (results_cell_row (p:=2) rfl _ _ w.heap.size 117 _ (0,0) _ rfl hrow Tryz.underlying117 rfl (by simp only[List.size_toArray,cntV_len];exact hinf)) rfl ?_
  refine ⟨by rw[<-HRS.out,if_pos (by rw[HB.out.2.1];exact hbig)],?_⟩
  rw[hWf];exact ⟨H0.out.2.2.os,H0.out.2.2.tape,H0.out.2.2.output,by rw[setRow_size];exact H0.out.2.2.size,λk hk=>(setRow_other _ _ _ _ (by omega)).trans (H0.out.2.2.block k hk)⟩
 .have d:decide (65536<(n:Int))=false:=decide_eq_false (by omega)
  have l1:w.heap.size+1<W0.heap.size:=(Array.getElem?_eq_some_iff.1 hA1).1;have H0:=Lib.hid (And.intro hA0 (And.intro hA1 (And.intro hb0 l1)));clear hA0 hA1 hb0 l1;go_wp2_with fail
  go_loopw [12] (λi wr=>∃k:Nat,k<=n/\i = .int .i64 (k:Int)/\Hid (wr.heap[w.heap.size]?=some (.cells (Array.replicate 256 (.int .i64 0)) 117 (0,0))/\wr.heap[w.heap.size+1]?=some (.cells (cntV (bs.take k)).toArray 117 (0,0))/\Below w.heap.size w wr)) (λi _=>n - (intOf i).toNat)
  case atStart=>exact ⟨0,by omega,rfl,H0.out.1,H0.out.2.1,H0.out.2.2.1⟩
  case round=>
   obtain ⟨k,hk,rfl,HR⟩:=hrel;by_cases hlt:k<n
   .have hd:decide ((k:Int)<(n:Int))=true:=decide_eq_true (by omega)
    have hdn:decide (k<n)=true:=decide_eq_true hlt;have hkb:k<bs.length:=by have:=HB.out.2.1;omega
    obtain ⟨A',c',e0,-,hor⟩:=HB.out.1;injection e0 with e1 e2 e3;obtain ⟨g,f,hA,hg,hcl⟩:=hor.resolve_left (by rintro rfl;cases hkb)
    subst hA;subst e1;have q0:wr.cell? ⟨g,f+k,none⟩=some (.int .u8 ((bs[k]:Nat):Int)):=(HR.out.2.2.cell (p:=⟨g,f+k,none⟩) hg).trans (hcl k hkb);have hb256:bs[k]<256:=HB.out.2.2 _ (List.getElem_mem hkb);obtain ⟨x,hx⟩:∃x,bs[k]=x:=⟨_,rfl⟩;rw[hx]at q0 hb256;have hgr:g<wr.heap.size:=Nat.lt_of_lt_of_le hg HR.out.2.2.size;have hcx:wr.cell? ⟨w.heap.size+1,x,none⟩=some (.int .i64 (((bs.take k).count x:Nat):Int)):=by
     rw[cell_of_row _ _ _ _ _ _ HR.out.2.1];rw[List.getElem?_toArray,cntV_at _ x hb256]
    have hfx:wr.frozen? ⟨w.heap.size+1,x,none⟩=false:=frozen_of_row _ _ _ _ _ HR.out.2.1;have hxl:(x:Int)<256:=by omega
    have hcl':(bs.take k).count x<=65536:=by
     have:=List.count_le_length (a:=x) (l:=bs.take k);rw[List.length_take]at this;omega
    obtain ⟨y,hy⟩:∃y,(bs.take k).count x=y:=⟨_,rfl⟩;rw[hy]at hcx hcl';have hw1:wrap64 ((y:Int)+1)=(y:Int)+1:=IntWalk.wrap64_in _ (by omega)
    have lw:w.heap.size+1<wr.heap.size:=(Array.getElem?_eq_some_iff.1 HR.out.2.1).1;have HX:=Lib.hid (And.intro hx (And.intro hy hkb));clear hx hy hor hcl;go_wp2_with fail;go_roundw
    case rel=>exact ⟨k+1,by omega,by go_num,(Below.heap_setCell _ ⟨w.heap.size+1,x,none⟩ _ _ (by show w.heap.size≠w.heap.size+1;omega)).trans HR.out.1,by
     have h9:=set_row3 HR.out.2.1 x (.int .i64 ((y:Int)+1));rw[show bs.take (k+1)=bs.take k++[x] from by rw[<-HX.out.1];exact List.take_succ_eq_append_getElem HX.out.2.2,cntV_snoc _ x hb256,HX.out.2.1]
     simpa using h9,HR.out.2.2.setCell (p:=⟨w.heap.size+1,x,none⟩) (by show w.heap.size<=w.heap.size+1;omega) _⟩
    case measure=>simp[intOf];omega
   .obtain rfl:k=n:=by omega
    have hd:decide ((k:Int)<(k:Int))=false:=decide_eq_false (by omega)
    have hdn:decide (k<k)=false:=decide_eq_false (by omega)
    have htk:bs.take k=bs:=by rw[<-HB.out.2.1,List.take_length]
    have hR:=HR.out;rw[htk]at hR;have HRR:=Lib.hid hR;clear hR htk;go_wp2_with fail;refine wp_load_row 117 (.tmp 3) rfl (w.heap.size+1) rfl 117 (cntV bs).toArray (0,0) _ HRR.out.2.1 Tryz.underlying117 rfl (by simp only[List.size_toArray,cntV_len];exact hinf) ?_
    have hst:=st_row (cntV bs) HRR.out.1 (by simp) (cntV_len _) (cntV_one bs)
    go_wp2_with fail;refine post_named λWf hWf=>?_;have hrow:Wf.heap[w.heap.size]?=some (.cells (cntV bs).toArray 117 (0,0)):=by rw[hWf];exact setRow_heap _ _ _ _ _ _ HRR.out.1
    refine bodyPost_ret (v:=.agg (cntV bs).toArray) (results_cell_row (p:=2) rfl _ _ w.heap.size 117 _ (0,0) _ rfl hrow Tryz.underlying117 rfl (by simp only[List.size_toArray,cntV_len];exact hinf)) rfl ?_
    refine ⟨by rw[<-HRS.out,if_neg (by rw[HB.out.2.1];exact hbig)],?_⟩
    rw[hWf];exact ⟨HRR.out.2.2.os,HRR.out.2.2.tape,HRR.out.2.2.output,by rw[setRow_size];exact HRR.out.2.2.size,λk hk=>(setRow_other _ _ _ _ (by omega)).trans (HRR.out.2.2.block k hk)⟩
theorem idx_cnt (l:List Nat) (k:Nat) (hk:k<256) (w:World):(Instr.index 117 (.agg (cntV l).toArray) (.int .i64 (k:Int))).run Tryz.prog w = .ok (.int .i64 ((l.count k:Nat):Int)) w:=by
 have h:=cntV_at l k hk;have h2:(cntV l).toArray[k]?=some (.int .i64 ((l.count k:Nat):Int)):=by rw[List.getElem?_toArray];exact h
 have hs:(cntV l).toArray.size=256:=by simp[cntV_len]
 have h3:(cntV l)[k]'(by rw[cntV_len];exact hk) = .int .i64 ((l.count k:Nat):Int):=by
  have:=List.getElem?_eq_getElem (l:=cntV l) (i:=k) (by rw[cntV_len];exact hk)
  rw[this]at h;injection h
 have hp:(part 3 (cntV l).toArray k).run Tryz.prog w = .ok (.int .i64 ((l.count k:Nat):Int)) w:=by
  simp[part,Tryz.isAgg3,h2]
 simp[Instr.index,asIntOf,run_underlying Tryz.underlying117,hs,hk,h2,cntV_len,h3,hp]
theorem en_bd {s y k C:Nat} (h:s<=k*C) (hy:y<=C):s+y<=(k+1)*C:=by rw[Nat.succ_mul];exact Nat.add_le_add h hy
theorem en_top {s k C:Nat} (h:s<=k*C) (hk:k<=256) (hC:C<=1000000000000):s<=256000000000000:=Nat.le_trans h (Nat.mul_le_mul hk hC)
theorem en_w {s y:Nat} (h:s<=256000000000000) (h2:y<=1000000000000):wrap64 (y:Int)=(y:Int)/\wrap64 ((s:Int)+(y:Int))=(s:Int)+(y:Int):=⟨IntWalk.wrap64_in _ (by omega),IntWalk.wrap64_in _ (by omega)⟩
theorem en_C:∃C,C<=1000000000000/\∀len n,n<=65536->addE len n<=C:=⟨133143920640,by decide,λlen n h=>addE_le h⟩
set_option maxHeartbeats 4000000 in
theorem measure_any (A:Option Addr) (n c:Nat) (bs:List Nat) (w:World) (hb:ByIn w (.slice A n c) bs) (hn:bs.length=n) (hby:∀b∈bs,b<256) (hnl:n<=900000):Calls Tryz.prog 126 #[.slice A n c] w λe w'=>e = .returned (.int .i64 ((meaF bs:Nat):Int))/\Below w.heap.size w w':=by
 have HC:=Lib.hid (counts_any A n c bs w hb hn hby);obtain ⟨R,hR⟩:∃R,(if 65536<bs.length then [] else bs)=R:=⟨_,rfl⟩;rw[hR]at HC;have hcnt:∀k,R.count k=cntF bs k:=λk=>by
  rw[<-hR];unfold cntF;by_cases h:65536<bs.length
  .rw[if_pos h,if_pos h];simp
  .rw[if_neg h,if_neg h]
 have hpos:∀k,0<cntF bs k->bs.length<=65536:=λk h=>by
  unfold cntF at h;by_cases h2:65536<bs.length
  .rw[if_pos h2]at h;omega
  .omega
 have HK:=Lib.hid (And.intro hcnt (And.intro hpos hn));have HIX:=Lib.hid λ(k:Nat) (hk:k<256) (W:World)=>by have h:=idx_cnt R k hk W;rw[hcnt k]at h;exact h
 have hnc:n<=c/\c<=9223372036854775807:=by
  obtain ⟨A',c',e,h1,-⟩:=hb;injection e with _ e2 e3;omega
 have hn63:(n:Int)<=9223372036854775807:=by omega
 obtain ⟨M,hM⟩:∃M,meaF bs=M:=⟨_,rfl⟩;rw[hM];have HM:=Lib.hid hM;obtain ⟨C,hC⟩:=en_C;have HCC:=Lib.hid hC;clear hC;clear hb hby hR hcnt hpos hM hn
 go_enter Tryz.func126,Tryz.ntmps126
 go_wp2_with fail;refine HC.out.mono ?_;rintro e w1 ⟨rfl,hb1⟩;have HB1:=Lib.hid hb1;clear hb1;obtain ⟨AR,hAR⟩:∃a,Value.agg (cntV R).toArray=a:=⟨_,rfl⟩;rw[hAR];rw[hAR]at HIX;clear hAR;go_wp2_with fail
 go_loopw [3,8] (λsv iv wr=>∃k s:Nat,k<=256/\iv = .int .i64 (k:Int)/\sv = .int .i64 (s:Int)/\Hid (s<=k*C/\s+sumE (cntF bs) bs.length (256-k) k=M)/\wr=w1) (λ_ iv _=>256 - (intOf iv).toNat)
 case atStart=>exact ⟨0,0,by omega,rfl,rfl,⟨Nat.zero_le _,by rw[Nat.zero_add];exact HM.out⟩,rfl⟩
 case round=>
  obtain ⟨k,s,hk,rfl,rfl,HR,rfl⟩:=hrel;by_cases hlt:k<256
  .have hd:decide ((k:Int)<256)=true:=decide_eq_true (by omega)
   have hdn:decide (k<256)=true:=decide_eq_true hlt;have hix:=HIX.out k hlt;have hst:sumE (cntF bs) bs.length (256-k) k=addE bs.length (cntF bs k)+sumE (cntF bs) bs.length (256 - (k+1)) (k+1):=by rw[show 256-k=(256 - (k+1))+1 by omega];rfl
   have hle:=HCC.out.2 bs.length _ (cntF_le bs k).1;have hcl:=(cntF_le bs k).2;have hp:=HK.out.2.1 k;obtain ⟨q,hq⟩:∃q,cntF bs k=q:=⟨_,rfl⟩;rw[hq]at hix hst hle hcl hp;have hq6:q<=65536:=by rw[<-hq];exact (cntF_le bs k).1
   have hsb:=en_top HR.out.1 hk HCC.out.1;by_cases h0:0<q
   .have d0:decide ((0:Int)<(q:Int))=true:=decide_eq_true (by omega)
    have d0n:decide (0<q)=true:=decide_eq_true h0;have hln:=hp h0;have hmono:=logF_mono h0 (hcl hln) (by omega)
    have hlb:=logF_le bs.length;rw[HK.out.2.2]at hmono hlb hle hst;have L1:=Lib.hid λW=>log_any n W (by omega)
    have L2:=Lib.hid λW=>log_any q W (by omega)
    obtain ⟨a,ha⟩:∃a,logF n=a:=⟨_,rfl⟩;obtain ⟨b,hb⟩:∃b,logF q=b:=⟨_,rfl⟩;have hadd:addE n q=q*(a-b):=by unfold addE;rw[if_pos h0,ha,hb]
    rw[ha]at L1 hmono hlb;rw[hb]at L2 hmono;rw[hadd]at hle hst;obtain ⟨d,hdd⟩:∃d,a-b=d:=⟨_,rfl⟩;rw[hdd]at hle hst;have hw1:wrap64 ((a:Int) - (b:Int))=(d:Int):=by rw[IntWalk.wrap64_in _ (by omega)];omega
    obtain ⟨y,hy⟩:∃y,q*d=y:=⟨_,rfl⟩;rw[hy]at hle hst;have hyi:(q:Int)*(d:Int)=(y:Int):=by rw[<-hy];push_cast;rfl
    have hyC:y<=1000000000000:=Nat.le_trans hle HCC.out.1;obtain ⟨hw2,hw3⟩:=en_w hsb hyC;have hfin:=HR.out.2;rw[HK.out.2.2,hst,<-Nat.add_assoc]at hfin;have HF:=Lib.hid (And.intro (en_bd HR.out.1 hle) hfin);clear hst hle hcl hp hq hln hmono hlb ha hb hadd hdd hy hfin hsb hyC;go_wp2_with fail;refine (L1.out wr).mono ?_;rintro e w2 ⟨rfl,rfl⟩;go_wp2_with fail;refine (L2.out w2).mono ?_;rintro e w3 ⟨rfl,rfl⟩;go_wp2_with fail;go_roundw
    case rel=>exact ⟨k+1,s+y,by omega,by go_num,by go_num,⟨HF.out.1,by rw[HK.out.2.2];exact HF.out.2⟩,trivial⟩
    case measure=>simp[intOf];omega
   .obtain rfl:q=0:=by omega
    have hadd:addE bs.length 0=0:=by unfold addE;rw[if_neg (by decide)]
    have hfin:=HR.out.2;rw[hst,hadd,Nat.zero_add]at hfin;have HF:=Lib.hid (And.intro (en_bd (y:=0) HR.out.1 (Nat.zero_le _)) hfin);clear hst hle hcl hp hq hadd hfin hsb;go_wp2_with fail;go_roundw
    case rel=>exact ⟨k+1,s,by omega,by go_num,rfl,⟨HF.out.1,HF.out.2⟩,trivial⟩
    case measure=>simp[intOf];omega
  .obtain rfl:k=256:=by omega
   have hR:=HR.out.2;rw[Nat.sub_self,sumE,Nat.add_zero]at hR;have HF:=Lib.hid hR;clear hR;go_wp2_with fail;go_ret;exact ⟨by rw[<-HF.out];rfl,HB1.out⟩
end Go.Proofs.YtdmoogjddmdmbaaGreatDoor
