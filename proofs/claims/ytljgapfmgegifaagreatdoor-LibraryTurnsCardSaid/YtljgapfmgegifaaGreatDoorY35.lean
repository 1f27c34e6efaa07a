/- Walks: pattern.kid, pattern.write and pattern.Text at any pattern. · Walks: pattern.Read, pattern.Parse at tk[0-9]{2}. -/
import Derived.Test.YtljgapfmgegifaaGreatDoorY33
import Derived.Test.YtljgapfmgegifaaGreatDoorY18
import Derived.Test.YtljgapfmgegifaaGreatDoorY20
import Derived.Test.YtljgapfmgegifaaGreatDoorY12
import Derived.Deep.RegionHeld3
namespace Go.Proofs.YtljgapfmgegifaaGreatDoor
set_option linter.unusedVariables false
set_option linter.unusedSimpArgs false
set_option maxRecDepth 100000
open Go.RowKit
theorem vr_keep {fp fp':List Nat} {w w':World} (hv:VrOK w) (hk:KeepF fp fp' w w') (hlo:∀k∈fp,nG<=k):VrOK w'/\∀k∈fp',nG<=k:=
 ⟨hv.of_low hk.size λk h=>hk.blk k (Nat.lt_of_lt_of_le h hv.low) λhm=>by have:=hlo k hm;omega,λk hm=>(hk.new k hm).elim (hlo k) λh=>Nat.le_trans hv.low h⟩
def WtCall (nd:Nd):Prop:=∀(vs:List Value) (b:Nat) (l:List UInt8) (fp:List Nat) (w:World),BuK b l fp w->NdUL fp w vs nd->VrOK w->(∀k∈fp,nG<=k)->l.length+(txtN nd).length<=800000000->
 Calls Tryz.prog 127 #[.pointer (some ⟨b,0,none⟩), .agg vs.toArray] w (WtP b (l++txtN nd) fp w)
def parT (p:Bool) (t:List UInt8):List UInt8:=if p=true then 40::(t++[41]) else t
theorem NdUL.of {L L':List Nat} {w w':World} {vs:List Value} {nd:Nd} (h:NdUL L w vs nd) (hk:KeepF L L' w w'):NdUL L' w' vs nd:=h.next hk.non λk hm=>hk.new k hm
set_option maxHeartbeats 4000000 in
theorem kid_of {nd:Nd} (HW:WtCall nd) (p:Bool) (vs:List Value) (b:Nat) (l:List UInt8) (fp:List Nat) (w:World) (h:BuK b l fp w) (hn:NdUL fp w vs nd) (hv:VrOK w) (hlo:∀k∈fp,nG<=k) (hl:l.length+(parT p (txtN nd)).length<=800000000) :
  Calls Tryz.prog 162 #[.pointer (some ⟨b,0,none⟩), .agg vs.toArray, .bool p] w (WtP b (l++parT p (txtN nd)) fp w):=by
 obtain ⟨A1,c1,A2,c2,rfl,-⟩:=(hn w (kf_self _ _)).form;have H:=Lib.hid (And.intro h (And.intro hn (And.intro hv (And.intro hlo hl))));clear h hn hv hlo hl
 go_enter Tryz.func162,Tryz.ntmps162
 cases p with
 | true=>
  go_wp2_with fail;refine calls_named λW0 hW0=>?_;have hb0:Below w.heap.size w W0:=by rw[hW0];exact (Below.refl _ _).alloc (Nat.le_refl _) _
  have hN0:W0.heap[w.heap.size]?=some (.cells #[.int .i64 nd.op, .slice A1 nd.rs.length c1, .slice A2 nd.kids.length c2, .int .i64 nd.mn, .int .i64 nd.mx] 31 (0,0)):=by rw[hW0];exact heap_alloc_new w _
  have hl9:l.length+((txtN nd).length+2)<=800000000:=by have h9:=H.out.2.2.2.2;unfold parT at h9;rw[if_pos rfl,List.length_cons,List.length_append]at h9;simp at h9;omega
  have hnx:w.heap.size∉fp:=λhm=>by have:=H.out.1.lt _ hm;omega
  have H0:=Lib.hid (And.intro hb0 (And.intro hN0 hnx));have H1:=Lib.hid (byte_K b l fp 40 40 rfl W0 (H.out.1.below hb0) (by omega))
  clear hW0 hb0 hN0 hnx;refine H1.out.mono ?_;rintro e w1 ⟨rfl,fp1,hk1,kf1⟩;have kf01:KeepF fp fp1 w w1:=(KeepF.of_below (fp:=fp) H0.out.1).trans kf1;obtain ⟨n1,e1⟩:=bufKeep hk1 kf1 H0.out.2.2 (Array.getElem?_eq_some_iff.1 H0.out.2.1).1;have hN1:=e1.trans H0.out.2.1;obtain ⟨b0,b1,b2,b3,b4⟩:=cells5 hN1;have lb:w.heap.size<w1.heap.size:=(Array.getElem?_eq_some_iff.1 hN1).1;have hv1:=vr_keep H.out.2.2.1 kf01 H.out.2.2.2.1;have H2:=Lib.hid (HW _ b (l++[40]) fp1 w1 hk1 (H.out.2.1.of kf01) hv1.1 hv1.2 (by rw[List.length_append,List.length_singleton];omega))
  have HK:=Lib.hid kf01;clear hk1 kf1 kf01 n1 e1 hN1 hv1;go_wp2_with fail;refine H2.out.mono ?_;rintro e w2 ⟨rfl,fp2,hk2,kf2⟩;have H3:=Lib.hid (And.intro hk2 (HK.out.trans kf2));have H4:=Lib.hid (byte_K b _ fp2 41 41 rfl w2 hk2 (by rw[List.length_append,List.length_append,List.length_singleton];omega))
  clear hk2 kf2 b0 b1 b2 b3 b4 lb;go_wp2_with fail;refine H4.out.mono ?_;rintro e w3 ⟨rfl,fp3,hk3,kf3⟩;have H5:=Lib.hid (And.intro hk3 (H3.out.2.trans kf3));clear hk3 kf3;go_wp2_with fail
  go_end0
  refine ⟨rfl,fp3,?_,H5.out.2⟩;have h9:=H5.out.1;unfold parT;rw[if_pos rfl];simpa using h9
 | false=>
  go_wp2_with fail;refine calls_named λW0 hW0=>?_;have hb0:Below w.heap.size w W0:=by rw[hW0];exact (Below.refl _ _).alloc (Nat.le_refl _) _
  have kf01:KeepF fp fp w W0:=KeepF.of_below hb0;have hv1:=vr_keep H.out.2.2.1 kf01 H.out.2.2.2.1;have H2:=Lib.hid (HW _ b l fp W0 (H.out.1.below hb0) (H.out.2.1.of kf01) hv1.1 hv1.2 (by have h9:=H.out.2.2.2.2;unfold parT at h9;rw[if_neg (by decide)]at h9;exact h9))
  have HK:=Lib.hid kf01;clear hW0 hb0 kf01 hv1;refine H2.out.mono ?_;rintro e w2 ⟨rfl,fp2,hk2,kf2⟩;have H3:=Lib.hid (And.intro hk2 (HK.out.trans kf2));clear hk2 kf2;go_wp2_with fail
  go_end0
  exact ⟨rfl,fp2,H3.out.1,H3.out.2⟩
theorem txtS_cons {kids:List Nd} {i:Nat} (h:i<kids.length):txtS (kids.drop i)=parT (kids[i].op == 3) (txtN kids[i])++txtS (kids.drop (i+1)):=by
 rw[List.drop_eq_getElem_cons h,txtS]
 congr 1
 unfold parT;by_cases h3:kids[i].op=3
 .rw[if_pos h3,if_pos (by simp[h3])]
 .rw[if_neg h3,if_neg (by simp[h3])]
def restC (kids:List Nd) (i:Nat):List UInt8:=if i=0 then txtC kids else txtD (kids.drop i)
def barT (i:Nat):List UInt8:=if i=0 then [] else [124]
theorem restC_cons {kids:List Nd} {i:Nat} (h:i<kids.length):restC kids i=(barT i++txtN kids[i])++restC kids (i+1):=by
 unfold restC barT;rw[if_neg (show ¬i+1=0 by omega)]
 by_cases h0:i=0
 .subst h0;rw[if_pos rfl,if_pos rfl];have e:=List.drop_eq_getElem_cons h;rw[List.drop_zero]at e
  conv=>lhs;rw[e]
  rw[txtC];rfl
 .rw[if_neg h0,if_neg h0,List.drop_eq_getElem_cons h,txtD];rfl
theorem restC_end {kids:List Nd} {i:Nat} (h:kids.length<=i):restC kids i=[]:=by
 unfold restC;by_cases h0:i=0
 .rw[if_pos h0];have:kids=[]:=List.length_eq_zero_iff.1 (by omega)
  rw[this,txtC]
 .rw[if_neg h0,List.drop_of_length_le h,txtD]
set_option maxHeartbeats 16000000 in
theorem wt_any {ok:Nat->Prop} (HSG:SgnH ok):∀(m:Nat) (nd:Nd),nodesT nd<=m->rightF nd=true->okN ok nd->WtCall nd:=by
 intro m
 induction m with
 | zero=>intro nd h;cases nd;rw[nodesT]at h;omega
 | succ m ih=>
  rintro ⟨op,rs,kids,mn,mx⟩ hm hR hok vs b l fp w h hn hv hlo hl;obtain ⟨hop,hRs⟩:=rightF_op hR;have hle:=rep_le hR;rw[nodesT]at hm;rw[okN]at hok;have hkid:∀k∈kids,WtCall k:=λk hk=>ih k (by have:=nodesT_kid hk;omega) (rightFs_mem hRs hk) (okNs_mem hok.2 hk)
  obtain ⟨A1,c1,A2,c2,rfl,-,hc2,-⟩:=(hn w (kf_self _ _)).form;have hrng:RgUL fp w (.slice A1 rs.length c1) rs:=λW hW=>by
   obtain ⟨A3,c3,A4,c4,e,hr,-,-⟩:=(hn W hW).form;injection e with _ e;injection e with e _;have hr:RgIn W (.slice A3 rs.length c3) rs:=hr;have e:Value.slice A1 rs.length c1=Value.slice A3 rs.length c3:=e;rw[e];exact hr
  simp only[Nd.op,Nd.rs,Nd.kids,Nd.mn,Nd.mx]at hc2|-;obtain ⟨nr,hnr⟩:∃k,rs.length=k:=⟨_,rfl⟩;obtain ⟨nk,hnk⟩:∃k,kids.length=k:=⟨_,rfl⟩;have hnku:kids≠[]->∃g f,A2=some ⟨g,f,none⟩/\g∉fp/\g<w.heap.size/\∀i (hi:i<kids.length),∃us:List Value,(∀j,j<5->w.cell? ⟨g,f+i*5+j,none⟩=us[j]?)/\us.length=5/\NdUL fp w us kids[i]:=λh0=>by
   obtain ⟨A5,n5,c5,g,f,c6,e,q1,q2,q3⟩:=hn.kid h0;injection e with _ e;injection e with _ e;injection e with e _;injection e with e _ _;exact ⟨g,f,e,q1,q2,q3⟩
  have HN:=Lib.hid (And.intro hnr (And.intro hnk (And.intro hkid hnku)));have HB:=Lib.hid (And.intro h (And.intro hv hlo));have HT:=Lib.hid (show txtN (.mk op rs kids mn mx)=if op=1 then setT rs else if op=2 then txtS kids else if op=3 then txtC kids else txtH kids++repT mn mx by rw[txtN])
  have HL:=Lib.hid hl;have HRG:=Lib.hid (And.intro hrng hok.1);rw[hnr]at hrng|-;rw[hnk]at hc2|-;have hk63:(nk:Int)<=9223372036854775807:=by omega
  clear hnr hnk hkid hnku h hv hlo hl hrng hok hm hRs ih;rcases hop with rfl | rfl | rfl | ⟨rfl,hk1,hm0,hm1,hm2⟩
  .rw[if_pos rfl]at HT;clear hR hle
   go_enter Tryz.func127,Tryz.ntmps127
   go_wp2_with fail;refine calls_named λW0 hW0=>?_;have hb0:Below w.heap.size w W0:=by rw[hW0];exact (Below.refl _ _).alloc (Nat.le_refl _) _
   have kf0:KeepF fp fp w W0:=KeepF.of_below hb0;have H2:=Lib.hid (wset_any HSG b l fp A1 nr c1 rs W0 (HB.out.1.below hb0) (by have h9:=HRG.out.1.next kf0;rw[HN.out.1]at h9;exact h9) HN.out.1 HRG.out.2 (by have h9:=HL.out;rw[HT.out]at h9;omega))
   have HK:=Lib.hid kf0;clear hW0 hb0 kf0;refine H2.out.mono ?_;rintro e w2 ⟨rfl,fp2,hk2,kf2⟩;have H3:=Lib.hid (And.intro hk2 (HK.out.trans kf2));clear hk2 kf2;go_wp2_with fail
   go_end0
   exact ⟨rfl,fp2,by rw[HT.out];exact H3.out.1,H3.out.2⟩
  .rw[if_neg (by decide),if_pos rfl]at HT
   clear hR hle
   go_enter Tryz.func127,Tryz.ntmps127
   go_wp2_with fail;refine wpX_nm λW0 hW0=>?_;have hb0:Below w.heap.size w W0:=by rw[hW0];exact (Below.refl _ _).alloc (Nat.le_refl _) _
   have H0:=Lib.hid (And.intro (HB.out.1.below hb0) (KeepF.of_below (fp:=fp) hb0));clear hW0 hb0
   go_loopw [52] (λiv wr=>∃(i:Nat) (li:List UInt8) (fpi:List Nat),i<=nk/\iv = .int .i64 (i:Int)/\Hid (li++txtS (kids.drop i)=l++txtS kids)/\Hid (BuK b li fpi wr/\KeepF fp fpi w wr)) (λiv _=>nk - (intOf iv).toNat)
   case atStart=>exact ⟨0,l,fp,Nat.zero_le _,rfl,by rw[List.drop_zero];rfl,H0.out⟩
   case round=>
    obtain ⟨i,li,fpi,hi,rfl,HE,HK⟩:=hrel;by_cases hlt:i<nk
    .have hd:decide ((i:Int)<(nk:Int))=true:=decide_eq_true (by omega)
     have hdn:decide (i<nk)=true:=decide_eq_true hlt;have hil:i<kids.length:=by rw[HN.out.2.1];exact hlt
     have hne:kids≠[]:=by rintro rfl;cases hil
     obtain ⟨g,f,rfl,hgn,hg,hkd⟩:=HN.out.2.2.2 hne;obtain ⟨us,hc,hul,hnu⟩:=hkd i hil;have hwt:=HN.out.2.2.1 _ (List.getElem_mem hil);have hcons:=txtS_cons hil;obtain ⟨kd,hkd2⟩:∃kd,kids[i]=kd:=⟨_,rfl⟩;rw[hkd2]at hnu hwt hcons;obtain ⟨B1,e1,B2,e2,rfl,-⟩:=(hnu w (kf_self _ _)).form;have hblk:wr.heap[g]?=w.heap[g]?:=HK.out.2.blk g hg hgn;have q:∀j,j<5->wr.cell? ⟨g,f+i*5+j,none⟩=([.int .i64 kd.op, .slice B1 kd.rs.length e1, .slice B2 kd.kids.length e2, .int .i64 kd.mn, .int .i64 kd.mx]:List Value)[j]?:=λj hj=>(World.cell?_of_block (a:=⟨g,f+i*5+j,none⟩) hblk).trans (hc j hj);have q0:=q 0 (by omega);have q1:=q 1 (by omega);have q2:=q 2 (by omega);have q3:=q 3 (by omega);have q4:=q 4 (by omega)
     simp only[Nat.add_zero,List.getElem?_cons_zero,List.getElem?_cons_succ]at q0 q1 q2 q3 q4;have lg:g<wr.heap.size:=Nat.lt_of_lt_of_le hg HK.out.2.size;obtain ⟨p,hp⟩:∃p,(kd.op == 3)=p:=⟨_,rfl⟩;rw[hp]at hcons;have hv1:=vr_keep HB.out.2.1 HK.out.2 HB.out.2.2;have hbd:li.length+(parT p (txtN kd)).length<=800000000:=by
      have h1:=congrArg List.length HE.out;have h2:=HL.out;rw[HT.out]at h2;rw[hcons,List.length_append,List.length_append,List.length_append]at h1;omega
     have HI:=Lib.hid λW (hW:Below wr.heap.size wr W)=>kid_of hwt p _ b li fpi W (HK.out.1.below hW) ((hnu.of HK.out.2).of (KeepF.of_below hW)) (vr_keep hv1.1 (KeepF.of_below (fp:=fpi) hW) hv1.2).1 hv1.2 hbd;have HC:=Lib.hid hcons;have hi63:(i:Int)<(nk:Int):=by omega
     clear hc q hnu hkd hwt hcons hkd2 hblk hbd hv1 hne;go_wp2_with fail;refine calls_named λW2 hW2=>?_;have hb2:Below wr.heap.size wr W2:=by rw[hW2];exact (Below.refl _ _).alloc (Nat.le_refl _) _
     have HB2:=Lib.hid hb2;clear hW2 hb2 q0 q1 q2 q3 q4 lg;refine (HI.out W2 HB2.out).mono ?_;rintro e w3 ⟨rfl,fp3,hk3,kf3⟩;have H4:=Lib.hid (And.intro hk3 ((HK.out.2.trans (KeepF.of_below (fp:=fpi) HB2.out)).trans kf3));have HE2:=Lib.hid (show (li++parT p (txtN kd))++txtS (kids.drop (i+1))=l++txtS kids by rw[<-HE.out,HC.out,List.append_assoc])
     clear hk3 kf3;go_wp2_with fail;go_roundw
     case rel=>exact ⟨i+1,_,fp3,by omega,by go_num,HE2,H4.out⟩
     case measure=>simp[intOf];omega
    .obtain rfl:i=nk:=by omega
     have hd:decide ((i:Int)<(i:Int))=false:=decide_eq_false (by omega)
     have hdn:decide (i<i)=false:=decide_eq_false (by omega)
     go_wp2_with fail
     go_end0
     have h1:=HE.out;rw[List.drop_of_length_le (by rw[HN.out.2.1];exact Nat.le_refl _),txtS,List.append_nil]at h1
     exact ⟨rfl,fpi,by rw[HT.out,<-h1];exact HK.out.1,HK.out.2⟩
  .rw[if_neg (by decide),if_neg (by decide),if_pos rfl]at HT
   clear hR hle
   go_enter Tryz.func127,Tryz.ntmps127
   go_wp2_with fail;refine wpX_nm λW0 hW0=>?_;have hb0:Below w.heap.size w W0:=by rw[hW0];exact (Below.refl _ _).alloc (Nat.le_refl _) _
   have H0:=Lib.hid (And.intro (HB.out.1.below hb0) (KeepF.of_below (fp:=fp) hb0));clear hW0 hb0
   go_loopw [68] (λiv wr=>∃(i:Nat) (li:List UInt8) (fpi:List Nat),i<=nk/\iv = .int .i64 (i:Int)/\Hid (li++restC kids i=l++txtC kids)/\Hid (BuK b li fpi wr/\KeepF fp fpi w wr)) (λiv _=>nk - (intOf iv).toNat)
   case atStart=>exact ⟨0,l,fp,Nat.zero_le _,rfl,rfl,H0.out⟩
   case round=>
    obtain ⟨i,li,fpi,hi,rfl,HE,HK⟩:=hrel;by_cases hlt:i<nk
    .have hd:decide ((i:Int)<(nk:Int))=true:=decide_eq_true (by omega)
     have hdn:decide (i<nk)=true:=decide_eq_true hlt;have hil:i<kids.length:=by rw[HN.out.2.1];exact hlt
     have hne:kids≠[]:=by rintro rfl;cases hil
     obtain ⟨g,f,rfl,hgn,hg,hkd⟩:=HN.out.2.2.2 hne;obtain ⟨us,hc,hul,hnu⟩:=hkd i hil;have hwt:=HN.out.2.2.1 _ (List.getElem_mem hil);have hcons:=restC_cons hil;obtain ⟨kd,hkd2⟩:∃kd,kids[i]=kd:=⟨_,rfl⟩;rw[hkd2]at hnu hwt hcons;obtain ⟨B1,e1,B2,e2,rfl,-⟩:=(hnu w (kf_self _ _)).form;have hblk:wr.heap[g]?=w.heap[g]?:=HK.out.2.blk g hg hgn;have q:∀j,j<5->wr.cell? ⟨g,f+i*5+j,none⟩=([.int .i64 kd.op, .slice B1 kd.rs.length e1, .slice B2 kd.kids.length e2, .int .i64 kd.mn, .int .i64 kd.mx]:List Value)[j]?:=λj hj=>(World.cell?_of_block (a:=⟨g,f+i*5+j,none⟩) hblk).trans (hc j hj);have q0:=q 0 (by omega);have q1:=q 1 (by omega);have q2:=q 2 (by omega);have q3:=q 3 (by omega);have q4:=q 4 (by omega)
     simp only[Nat.add_zero,List.getElem?_cons_zero,List.getElem?_cons_succ]at q0 q1 q2 q3 q4;have lg:g<wr.heap.size:=Nat.lt_of_lt_of_le hg HK.out.2.size;have hv1:=vr_keep HB.out.2.1 HK.out.2 HB.out.2.2;have hbd:li.length+(1+(txtN kd).length)<=800000001:=by
      have h1:=congrArg List.length HE.out;have h2:=HL.out;rw[HT.out]at h2;rw[hcons,List.length_append,List.length_append,List.length_append,List.length_append]at h1;omega
     have hbd0:li.length+(barT i).length+(txtN kd).length<=800000000:=by
      have h1:=congrArg List.length HE.out;have h2:=HL.out;rw[HT.out]at h2;rw[hcons,List.length_append,List.length_append,List.length_append,List.length_append]at h1;omega
     have HI:=Lib.hid λ(li2:List UInt8) (fp2:List Nat) W (hW:KeepF fpi fp2 wr W) (hk:BuK b li2 fp2 W) (hl2:li2.length+(txtN kd).length<=800000000)=>hwt _ b li2 fp2 W hk ((hnu.of HK.out.2).of hW) (vr_keep hv1.1 hW hv1.2).1 (vr_keep hv1.1 hW hv1.2).2 hl2;have HC:=Lib.hid (And.intro hcons (And.intro hbd hbd0));have hi63:(i:Int)<(nk:Int):=by omega
     clear hc q hnu hkd hwt hcons hkd2 hblk hbd hbd0 hv1 hne
     go_upto_region 19 with fail
     refine wpX_nm λW2 hW2=>?_;have hb2:Below wr.heap.size wr W2:=by rw[hW2];exact (Below.refl _ _).alloc (Nat.le_refl _) _
     have hX2:W2.heap[wr.heap.size]?=some (.cells #[.int .i64 kd.op, .slice B1 kd.rs.length e1, .slice B2 kd.kids.length e2, .int .i64 kd.mn, .int .i64 kd.mx] 31 (0,0)):=by rw[hW2];exact heap_alloc_new wr _
     have hnx:wr.heap.size∉fpi:=λhm=>by have:=HK.out.1.lt _ hm;omega
     have HB2:=Lib.hid (And.intro (HK.out.1.below hb2) (And.intro (KeepF.of_below (fp:=fpi) hb2) (And.intro hX2 hnx)));have lx:wr.heap.size<W2.heap.size:=(Array.getElem?_eq_some_iff.1 hX2).1;clear hW2 hb2 hX2 hnx q0 q1 q2 q3 q4 lg;by_cases h0:i=0
     .have hz:decide ((0:Int)<(i:Int))=false:=decide_eq_false (by omega)
      have hzn:decide (0<i)=false:=decide_eq_false (by omega)
      have H3:=Lib.hid (HI.out li fpi W2 HB2.out.2.1 HB2.out.1 (by have:=HC.out.2.2;omega))
      have HE2:=Lib.hid (show (li++txtN kd)++restC kids (i+1)=l++txtC kids by rw[<-HE.out,HC.out.1,h0];simp[barT])
      obtain ⟨x0,x1,x2,x3,x4⟩:=cells5 HB2.out.2.2.1;clear h0;go_wp2_with fail;refine H3.out.mono ?_;rintro e w3 ⟨rfl,fp3,hk3,kf3⟩;have H4:=Lib.hid (And.intro hk3 ((HK.out.2.trans HB2.out.2.1).trans kf3));clear hk3 kf3 x0 x1 x2 x3 x4 lx;go_wp2_with fail;go_roundw
      case rel=>exact ⟨i+1,_,fp3,by omega,by go_num,HE2,H4.out⟩
      case measure=>simp[intOf];omega
     .have hz:decide ((0:Int)<(i:Int))=true:=decide_eq_true (by omega)
      have hzn:decide (0<i)=true:=decide_eq_true (by omega)
      have HE2:=Lib.hid (show (li++[124]++txtN kd)++restC kids (i+1)=l++txtC kids by rw[<-HE.out,HC.out.1];simp[barT,h0])
      have H2:=Lib.hid (byte_K b li fpi 124 124 rfl W2 HB2.out.1 (by have:=HC.out.2.1;omega))
      have HB0:=Lib.hid h0;clear h0;go_wp2_with fail;refine H2.out.mono ?_;rintro e w2 ⟨rfl,fp2,hk2,kf2⟩;obtain ⟨n2,e2'⟩:=bufKeep hk2 kf2 HB2.out.2.2.2 lx;have hX3:=e2'.trans HB2.out.2.2.1;obtain ⟨x0,x1,x2,x3,x4⟩:=cells5 hX3;have lx2:wr.heap.size<w2.heap.size:=(Array.getElem?_eq_some_iff.1 hX3).1;have kf02:=HB2.out.2.1.trans kf2;have hbar:(barT i).length=1:=by simp[barT,HB0.out]
      have hbd9:(li++[124]).length+(txtN kd).length<=800000000:=by rw[List.length_append,List.length_singleton];have:=HC.out.2.2;omega
      have H3:=Lib.hid (HI.out (li++[124]) fp2 w2 kf02 hk2 hbd9);have HK2:=Lib.hid (HK.out.2.trans kf02);clear hk2 kf2 n2 e2' hX3 kf02 lx hbar hbd9;go_wp2_with fail;refine H3.out.mono ?_;rintro e w3 ⟨rfl,fp3,hk3,kf3⟩;have H4:=Lib.hid (And.intro hk3 (HK2.out.trans kf3));clear hk3 kf3 x0 x1 x2 x3 x4 lx2;go_wp2_with fail;go_roundw
      case rel=>exact ⟨i+1,_,fp3,by omega,by go_num,HE2,H4.out⟩
      case measure=>simp[intOf];omega
    .obtain rfl:i=nk:=by omega
     have hd:decide ((i:Int)<(i:Int))=false:=decide_eq_false (by omega)
     have hdn:decide (i<i)=false:=decide_eq_false (by omega)
     go_wp2_with fail
     go_end0
     have h1:=HE.out;rw[restC_end (by rw[HN.out.2.1];exact Nat.le_refl _),List.append_nil]at h1
     exact ⟨rfl,fpi,by rw[HT.out,<-h1];exact HK.out.1,HK.out.2⟩
  .rw[if_neg (by decide),if_neg (by decide),if_neg (by decide)]at HT
   have hle:=hle rfl;obtain ⟨kd,hkd⟩:∃kd,kids=[kd]:=by
    match kids,hk1 with
    | [kd],_=>exact ⟨kd,rfl⟩
   have hnk1:nk=1:=by rw[<-HN.out.2.1];exact hk1
   subst hnk1;obtain ⟨g,f,rfl,hgn,hg,hkds⟩:=HN.out.2.2.2 (by rw[hkd];simp)
   obtain ⟨us,hc,hul,hnu⟩:=hkds 0 (by rw[hkd];simp)
   have hwt:=HN.out.2.2.1 kd (by rw[hkd];simp)
   have hk0:kids[0]'(by rw[hkd];simp)=kd:=by simp only[hkd,List.getElem_cons_zero]
   rw[hk0]at hnu;obtain ⟨B1,e1,B2,e2,rfl,-⟩:=(hnu w (kf_self _ _)).form;obtain ⟨p,hp⟩:∃p,(kd.op != 1)=p:=⟨_,rfl⟩;have htH:txtH kids=parT p (txtN kd):=by
    rw[hkd,txtH];unfold parT;by_cases h1:kd.op=1
    .rw[if_pos h1,if_neg (by rw[<-hp];simp[h1])]
    .rw[if_neg h1,if_pos (by rw[<-hp];simp[h1])]
   obtain ⟨M,hM⟩:∃M:Nat,mx=(M:Int):=⟨mx.toNat,by omega⟩
   subst hM;obtain ⟨L,hL⟩:∃L:Nat,mn=(L:Int):=⟨mn.toNat,by omega⟩
   subst hL;have hM64:M<=64:=by omega
   have hL64:L<=64:=by omega
   have HTT:=Lib.hid (show txtN (.mk 4 rs kids (L:Int) (M:Int))=parT p (txtN kd)++repT (L:Int) (M:Int) by rw[HT.out,htH])
   have hbd:l.length+(parT p (txtN kd)).length+20<=800000020:=by
    have h2:=HL.out;rw[HTT.out,List.length_append]at h2;omega
   have HI:=Lib.hid λW (hW:KeepF fp fp w W) (hk:BuK b l fp W)=>kid_of hwt p _ b l fp W hk (hnu.of hW) (vr_keep HB.out.2.1 hW HB.out.2.2).1 HB.out.2.2 (by omega)
   have hq:∀j,j<5->w.cell? ⟨g,f+j,none⟩=([.int .i64 kd.op, .slice B1 kd.rs.length e1, .slice B2 kd.kids.length e2, .int .i64 kd.mn, .int .i64 kd.mx]:List Value)[j]?:=λj hj=>by have:=hc j hj;rwa [Nat.zero_mul,Nat.add_zero]at this
   have HQ:=Lib.hid (And.intro hq (And.intro hg hgn));clear hq hc hnu hwt hkds hk0 htH hR hbd hkd hk1 hm0 hm1 hm2 hg
   go_enter Tryz.func127,Tryz.ntmps127
   go_upto_region 2 with fail
   refine wpX_nm λW0 hW0=>?_;have hb0:Below w.heap.size w W0:=by rw[hW0];exact (Below.refl _ _).alloc (Nat.le_refl _) _
   have hX0:W0.heap[w.heap.size]?=some (.cells #[.int .i64 4, .slice A1 nr c1, .slice (some ⟨g,f,none⟩) 1 c2, .int .i64 (L:Int), .int .i64 (M:Int)] 31 (0,0)):=by rw[hW0];exact heap_alloc_new w _
   have hnx:w.heap.size∉fp:=λhm=>by have:=HB.out.1.lt _ hm;omega
   have H0:=Lib.hid (And.intro hb0 (And.intro hX0 hnx));obtain ⟨b0,b1,b2,b3,b4⟩:=cells5 hX0;have lb:w.heap.size<W0.heap.size:=(Array.getElem?_eq_some_iff.1 hX0).1;have q0:=(hb0.cell (p:=⟨g,f+0,none⟩) HQ.out.2.1).trans (HQ.out.1 0 (by omega))
   have q1:=(hb0.cell (p:=⟨g,f+1,none⟩) HQ.out.2.1).trans (HQ.out.1 1 (by omega))
   have q2:=(hb0.cell (p:=⟨g,f+2,none⟩) HQ.out.2.1).trans (HQ.out.1 2 (by omega))
   have q3:=(hb0.cell (p:=⟨g,f+3,none⟩) HQ.out.2.1).trans (HQ.out.1 3 (by omega))
   have q4:=(hb0.cell (p:=⟨g,f+4,none⟩) HQ.out.2.1).trans (HQ.out.1 4 (by omega))
   simp only[Nat.add_zero,List.getElem?_cons_zero,List.getElem?_cons_succ]at q0 q1 q2 q3 q4;have lg:g<W0.heap.size:=Nat.lt_of_lt_of_le HQ.out.2.1 hb0.size;have hz0:W0.cell? ⟨w.heap.size,2,none⟩=some (.slice (some ⟨g,f,none⟩) 1 c2)/\W0.cell? ⟨g,f,none⟩=some (.int .i64 kd.op)/\W0.cell? ⟨g,f+1,none⟩=some (.slice B1 kd.rs.length e1)/\W0.cell? ⟨g,f+2,none⟩=some (.slice B2 kd.kids.length e2)/\W0.cell? ⟨g,f+3,none⟩=some (.int .i64 kd.mn)/\W0.cell? ⟨g,f+4,none⟩=some (.int .i64 kd.mx):=⟨b2,q0,q1,q2,q3,q4⟩;have hzd:W0.drew.cell? ⟨w.heap.size,2,none⟩=some (.slice (some ⟨g,f,none⟩) 1 c2)/\W0.drew.cell? ⟨g,f,none⟩=some (.int .i64 kd.op)/\W0.drew.cell? ⟨g,f+1,none⟩=some (.slice B1 kd.rs.length e1)/\W0.drew.cell? ⟨g,f+2,none⟩=some (.slice B2 kd.kids.length e2)/\W0.drew.cell? ⟨g,f+3,none⟩=some (.int .i64 kd.mn)/\W0.drew.cell? ⟨g,f+4,none⟩=some (.int .i64 kd.mx):=hz0;have hkd0:=HI.out W0.drew (KeepF.of_below (fp:=fp) (hb0.drew)) (HB.out.1.below hb0.drew);have HKD:=Lib.hid hkd0;clear hW0 hb0 hX0 hnx hkd0
   go_region_held3 (λw'=>w'.cell? ⟨w.heap.size,2,none⟩=some (.slice (some ⟨g,f,none⟩) 1 c2)/\w'.cell? ⟨g,f,none⟩=some (.int .i64 kd.op)/\w'.cell? ⟨g,f+1,none⟩=some (.slice B1 kd.rs.length e1)/\w'.cell? ⟨g,f+2,none⟩=some (.slice B2 kd.kids.length e2)/\w'.cell? ⟨g,f+3,none⟩=some (.int .i64 kd.mn)/\w'.cell? ⟨g,f+4,none⟩=some (.int .i64 kd.mx))
    (first | exact hz0 | exact hzd | exact hz3)
    ((go_at_call 162;refine HKD.out.mono ?_;rintro e w3 ⟨rfl,fp3,hk3,kf3⟩;obtain ⟨n3,e3⟩:=bufKeep hk3 kf3 H0.out.2.2 lb;have eg:=kf3.blk g lg HQ.out.2.2;have hz3:w3.cell? ⟨w.heap.size,2,none⟩=some (.slice (some ⟨g,f,none⟩) 1 c2)/\w3.cell? ⟨g,f,none⟩=some (.int .i64 kd.op)/\w3.cell? ⟨g,f+1,none⟩=some (.slice B1 kd.rs.length e1)/\w3.cell? ⟨g,f+2,none⟩=some (.slice B2 kd.kids.length e2)/\w3.cell? ⟨g,f+3,none⟩=some (.int .i64 kd.mn)/\w3.cell? ⟨g,f+4,none⟩=some (.int .i64 kd.mx):=⟨(World.cell?_of_block (a:=⟨w.heap.size,2,none⟩) e3).trans b2,(World.cell?_of_block (a:=⟨g,f,none⟩) eg).trans q0,(World.cell?_of_block (a:=⟨g,f+1,none⟩) eg).trans q1,(World.cell?_of_block (a:=⟨g,f+2,none⟩) eg).trans q2,(World.cell?_of_block (a:=⟨g,f+3,none⟩) eg).trans q3,(World.cell?_of_block (a:=⟨g,f+4,none⟩) eg).trans q4⟩))
   have kf03:KeepF fp fp3 w w3:=(KeepF.of_below (fp:=fp) H0.out.1.drew).trans kf3;have hX3:w3.heap[w.heap.size]?=some (.cells #[.int .i64 4, .slice A1 nr c1, .slice (some ⟨g,f,none⟩) 1 c2, .int .i64 (L:Int), .int .i64 (M:Int)] 31 (0,0)):=e3.trans H0.out.2.1;have hv3:=vr_keep HB.out.2.1 kf03 HB.out.2.2;have hdL:=dec_len L 6 (by omega)
   have hdM:=dec_len M 6 (by omega)
   obtain ⟨D1,hD1⟩:∃D,bs (Lib.decDigits L)=D:=⟨_,rfl⟩;obtain ⟨D2,hD2⟩:∃D,bs (Lib.decDigits M)=D:=⟨_,rfl⟩;have hs1:D1.size<=7:=by rw[<-hD1,bs_size];exact hdL
   have hs2:D2.size<=7:=by rw[<-hD2,bs_size];exact hdM
   have hIT1:=itoa_any L (by omega) w3 hv3.1
   rw[hD1]at hIT1;have HI1:=Lib.hid hIT1;have hll:l.length+(parT p (txtN kd)).length<=800000000:=by
    have h2:=HL.out;rw[HTT.out,List.length_append]at h2;omega
   have H3:=Lib.hid (And.intro hk3 (And.intro kf03 (And.intro hX3 (And.intro hv3.1 (And.intro hv3.2 n3)))));have HDD:=Lib.hid (And.intro hD1 (And.intro hD2 hll));obtain ⟨x0,x1,x2,x3,x4⟩:=cells5 hX3;have lx:w.heap.size<w3.heap.size:=(Array.getElem?_eq_some_iff.1 hX3).1;have hbg1:¬9223372036854775807<(⟨#[123]⟩:ByteArray).size+D1.size:=by show ¬_<1+_;omega
   have hbg1':¬9223372036854775807<1+D1.size:=hbg1;have hbg2:¬9223372036854775807<(⟨#[44]⟩:ByteArray).size+D2.size:=by show ¬_<1+_;omega
   have hbg2':¬9223372036854775807<1+D2.size:=hbg2;clear hk3 kf3 e3 eg hz3 hz0 hzd b0 b1 b2 b3 b4 q0 q1 q2 q3 q4 lb lg kf03 hX3 hv3 hdL hdM hD1 hD2 hIT1 hll n3;go_wp2_with fail;refine HI1.out.mono ?_;rintro e w4 ⟨rfl,hb4⟩;have kf4:KeepF fp3 fp3 w3 w4:=KeepF.of_below hb4;have hX4:=(hb4.block _ lx).trans H3.out.2.2.1;have H4:=Lib.hid (str_K b (l++parT p (txtN kd)) fp3 ((⟨#[123]⟩:ByteArray)++D1) w4 (H3.out.1.below hb4) (by rw[List.length_append];have:=HDD.out.2.2;omega) (by rw[ByteArray.size_append];show 1+_<=_;omega))
   have HX4:=Lib.hid (And.intro hX4 (H3.out.2.1.trans kf4));have lx4:w.heap.size<w4.heap.size:=(Array.getElem?_eq_some_iff.1 hX4).1;clear hb4 kf4 hX4 x0 x1 x2 x3 x4 lx;go_wp2_with fail;refine H4.out.mono ?_;rintro e w5 ⟨rfl,fp5,hk5,kf5⟩;obtain ⟨n5,e5⟩:=bufKeep hk5 kf5 H3.out.2.2.2.2.2 lx4;have hX5:=e5.trans HX4.out.1;obtain ⟨x0,x1,x2,x3,x4⟩:=cells5 hX5;have lx5:w.heap.size<w5.heap.size:=(Array.getElem?_eq_some_iff.1 hX5).1;have kf05:=HX4.out.2.trans kf5;have hv5:=vr_keep HB.out.2.1 kf05 HB.out.2.2;have hIT2:=itoa_any M (by omega) w5 hv5.1
   rw[HDD.out.2.1]at hIT2;have HI2:=Lib.hid hIT2;have H5:=Lib.hid (And.intro hk5 kf05);have hlen5:(l++parT p (txtN kd)++bl ((⟨#[123]⟩:ByteArray)++D1)).length<=800000100:=by
    rw[List.length_append,List.length_append,size_list,ByteArray.size_append];have:=HDD.out.2.2;show _+(1+_)<=_;omega
   have HL5:=Lib.hid hlen5;clear hk5 kf5 n5 e5 hX5 kf05 hv5 hIT2 lx4 hlen5;have hrep:∀(X:List UInt8),bl ((⟨#[123]⟩:ByteArray)++D1)=123::Lib.decDigits L:=λ_=>by
    rw[show ∀s t:ByteArray,bl (s++t)=bl s++bl t from λs t=>by unfold bl;simp,<-HDD.out.1,bl_bs]
    rfl
   have HR1:=Lib.hid (hrep []);clear hrep;by_cases hML:M=L
   .have hne:((M:Int) != (L:Int))=false:=by simp[hML]
    have H6:=Lib.hid (byte_K b _ fp5 125 125 rfl w5 H5.out.1 (by have:=HL5.out;omega))
    have HE:=Lib.hid (show l++parT p (txtN kd)++bl ((⟨#[123]⟩:ByteArray)++D1)++[125]=l++txtN (.mk 4 rs kids (L:Int) (M:Int)) by
     rw[HTT.out,HR1.out];unfold repT;rw[if_pos (by omega)]
     simp)
    clear hML;go_wp2_with fail;refine H6.out.mono ?_;rintro e w6 ⟨rfl,fp6,hk6,kf6⟩;have H7:=Lib.hid (And.intro hk6 (H5.out.2.trans kf6));clear hk6 kf6;go_wp2_with fail
    go_end0
    exact ⟨rfl,fp6,by rw[<-HE.out];exact H7.out.1,H7.out.2⟩
   .have hne:((M:Int) != (L:Int))=true:=by simp;omega
    have HML:=Lib.hid hML;clear hML;go_wp2_with fail;refine HI2.out.mono ?_;rintro e w6 ⟨rfl,hb6⟩;have H6:=Lib.hid (str_K b _ fp5 ((⟨#[44]⟩:ByteArray)++D2) w6 (H5.out.1.below hb6) (by have:=HL5.out;omega) (by rw[ByteArray.size_append];show 1+_<=_;omega))
    have HK6:=Lib.hid (H5.out.2.trans (KeepF.of_below (fp:=fp5) hb6));clear hb6 x0 x1 x2 x3 x4 lx5;go_wp2_with fail;refine H6.out.mono ?_;rintro e w7 ⟨rfl,fp7,hk7,kf7⟩;have HK7:=Lib.hid (HK6.out.trans kf7);have hlen7:(l++parT p (txtN kd)++bl ((⟨#[123]⟩:ByteArray)++D1)++bl ((⟨#[44]⟩:ByteArray)++D2)).length<=900000000:=by
     rw[List.length_append,size_list,ByteArray.size_append];have:=HL5.out;show _+(1+_)<=_;omega
    have H8:=Lib.hid (byte_K b _ fp7 125 125 rfl w7 hk7 (by omega))
    clear hk7 kf7 hlen7;have HE:=Lib.hid (show l++parT p (txtN kd)++bl ((⟨#[123]⟩:ByteArray)++D1)++bl ((⟨#[44]⟩:ByteArray)++D2)++[125]=l++txtN (.mk 4 rs kids (L:Int) (M:Int)) by
     rw[HTT.out,HR1.out,show ∀s t:ByteArray,bl (s++t)=bl s++bl t from λs t=>by unfold bl;simp,<-HDD.out.2.1,bl_bs]
     unfold repT;have:=HML.out;rw[if_neg (by omega)]
     simp
     rfl)
    go_wp2_with fail;refine H8.out.mono ?_;rintro e w8 ⟨rfl,fp8,hk8,kf8⟩;have H9:=Lib.hid (And.intro hk8 (HK7.out.trans kf8));clear hk8 kf8;go_wp2_with fail
    go_end0
    exact ⟨rfl,fp8,by rw[<-HE.out];exact H9.out.1,H9.out.2⟩
set_option maxHeartbeats 4000000 in
theorem text_nd {ok:Nat->Prop} (HSG:SgnH ok) (nd:Nd) (vs:List Value) (w:World) (hn:NdIn w nd vs) (hvd:validF nd=0) (hok:okN ok nd) (hl:(txtN nd).length<=800000000) (hvr:VrOK w):Calls Tryz.prog 97 #[.agg vs.toArray] w λe w'=>e = .returned (.tuple #[.string (bs (txtN nd)), .int .i64 0])/\Below w.heap.size w w':=by
 have HV:=Lib.hid (λW (hb:Below w.heap.size w W)=>valid_any nd vs W (hn.later hb));rw[hvd]at HV;have HN:=Lib.hid (And.intro hn (And.intro (valid_zero hvd).2.2.1 (And.intro hok (And.intro hl hvr))));obtain ⟨A1,c1,A2,c2,rfl,-⟩:=hn.form;clear hn hvd hok hl hvr
 go_enter Tryz.func97,Tryz.ntmps97
 go_wp2_with fail;refine calls_named λW0 hW0=>?_;have hb0:Below w.heap.size w W0:=by rw[hW0];exact (Below.refl _ _).alloc (Nat.le_refl _) _
 have hN:W0.heap[w.heap.size]?=some (.cells #[.int .i64 nd.op, .slice A1 nd.rs.length c1, .slice A2 nd.kids.length c2, .int .i64 nd.mn, .int .i64 nd.mx] 31 (0,0)):=by rw[hW0];exact heap_alloc_new w _
 have lb0:w.heap.size<W0.heap.size:=(Array.getElem?_eq_some_iff.1 hN).1;refine (HV.out W0 hb0).mono ?_;rintro e w1 ⟨rfl,hb1⟩;have hN1:=(hb1.block w.heap.size lb0).trans hN;obtain ⟨b0,b1,b2,b3,b4⟩:=cells5 hN1;have lb1:w.heap.size<w1.heap.size:=(Array.getElem?_eq_some_iff.1 hN1).1;have lb2:w.heap.size<w1.heap.size+1:=by omega
 have hnb:w.heap.size≠w1.heap.size:=by omega
 have H1:=Lib.hid (And.intro (hb0.trans (hb1.mono hb0.size)) hN1);clear hW0 hb0 hN hb1 hN1 lb0;go_wp2_with fail;refine calls_named λW2 hW2=>?_;have hb2:Below w1.heap.size w1 W2:=by rw[hW2];exact (Below.refl _ _).alloc (Nat.le_refl _) _
 have hB2:W2.heap[w1.heap.size]?=some (.cells #[.pointer none, .slice none 0 0] 105 (0,0)):=by rw[hW2];exact heap_alloc_new w1 _
 have hw2:Below w.heap.size w W2:=H1.out.1.trans (hb2.mono H1.out.1.size);have hul:NdUL [w1.heap.size] W2 [.int .i64 nd.op, .slice A1 nd.rs.length c1, .slice A2 nd.kids.length c2, .int .i64 nd.mn, .int .i64 nd.mx] nd:=λW hW=>HN.out.1.later (hw2.trans (hW.below (λk hk=>by have:=List.mem_singleton.1 hk;omega) hw2.size))
 have hvr2:=HN.out.2.2.2.2.later hw2;have H2:=Lib.hid (wt_any HSG _ nd (Nat.le_refl _) HN.out.2.1 HN.out.2.2.1 _ w1.heap.size [] [w1.heap.size] W2 (BuK.fresh hB2) hul hvr2 (λk hk=>by have h1:=List.mem_singleton.1 hk;have h2:=HN.out.2.2.2.2.low;omega) (by have:=HN.out.2.2.2.1;simpa using this))
 have HW2:=Lib.hid hw2;clear hW2 hb2 hB2 hw2 hul hvr2 b0 b1 b2 b3 b4 lb2 hnb;refine H2.out.mono ?_;rintro e w3 ⟨rfl,fp3,hk3,kf3⟩;have hw2s:=HW2.out.size;have HS:=Lib.hid (string_K w.heap.size _ _ fp3 w3 hk3 (λk hk=>by
  rcases kf3.new k hk with h | h
  .have:=List.mem_singleton.1 h;omega
  .omega) (Nat.le_trans hw2s kf3.size))
 have hbw3:Below w.heap.size w w3:=HW2.out.trans (kf3.below (λk hk=>by have:=List.mem_singleton.1 hk;omega) HW2.out.size)
 have HB3:=Lib.hid hbw3;clear hk3 kf3 hbw3;go_wp2_with fail;refine HS.out.mono ?_;rintro e w4 ⟨rfl,hb4⟩;have HB4:=Lib.hid (HB3.out.trans hb4);clear hb4;go_wp2_with fail;refine post_named λWf hWf=>?_;subst hWf;refine bodyPost_ret (v:=.tuple #[.string (bs ([]++txtN nd)), .int .i64 0]) (by simp[results,Tryz.results97,go_sem];try rfl) rfl ?_
 exact ⟨rfl,HB4.out⟩
def RdN (w:World) (e:Ending) (w':World):Prop:=∃x,e = .returned (.tuple #[x, .int .i64 0])/\ItN w.heap.size x tokN w'/\Below w.heap.size w w'
def tkOk (c:Nat):Prop:=c=116\/c=107\/c=48\/c=57
theorem tk_sgn:SgnH tkOk:=by
 rintro c W (rfl | rfl | rfl | rfl) _
 .exact sign_at 116 ⟨#[116]⟩ W (by decide) (by decide) (by rfl) (λ_=>by kernel_rfl)
 .exact sign_at 107 ⟨#[107]⟩ W (by decide) (by decide) (by rfl) (λ_=>by kernel_rfl)
 .exact sign_at 48 ⟨#[48]⟩ W (by decide) (by decide) (by rfl) (λ_=>by kernel_rfl)
 .exact sign_at 57 ⟨#[57]⟩ W (by decide) (by decide) (by rfl) (λ_=>by kernel_rfl)
theorem tk_txt:bs (txtN tokN)=⟨#[116,107,91,48,45,57,93,123,50,125]⟩:=by kernel_rfl
theorem tk_len:(txtN tokN).length=10:=by kernel_rfl
theorem tk_ok:okN tkOk tokN:=by simp[tokN,chN,dgN,okN,okNs,tkOk]
theorem text_tk (B:Nat) (x:Value) (w:World) (h:ItN B x tokN w) (hvr:VrOK w):Calls Tryz.prog 97 #[x] w λe w'=>e = .returned (.tuple #[.string ⟨#[116,107,91,48,45,57,93,123,50,125]⟩, .int .i64 0])/\Below w.heap.size w w':=by
 obtain ⟨u,rfl,hu⟩:=h;have:=text_nd tk_sgn tokN u.cs w hu.in_ (by decide) tk_ok (by rw[tk_len];decide) hvr
 rw[tk_txt]at this;exact this
set_option maxHeartbeats 4000000 in
theorem read_tk (w:World) (hvr:VrOK w):Calls Tryz.prog 71 #[.string ⟨#[116,107,91,48,45,57,93,123,50,125]⟩] w (RdN w):=by
 have HVR:=Lib.hid hvr;clear hvr
 go_enter Tryz.func71,Tryz.ntmps71
 go_wp2_with fail;refine calls_named λW0 hW0=>?_;have hb0:Below w.heap.size w W0:=by rw[hW0];exact ((Below.refl _ _).alloc (Nat.le_refl _) _).alloc (by simp) _
 have hY:W0.heap[w.heap.size]?=some (.cells #[.int .i64 0, .slice none 0 0, .slice none 0 0, .int .i64 0, .int .i64 0] 31 (0,0)):=by rw[hW0,old_alloc _ _ _ (by simp)];exact heap_alloc_new w _
 have hR:RdW (w.heap.size+1) ⟨#[116,107,91,48,45,57,93,123,50,125]⟩ false 0 W0:=by rw[hW0];simpa [RdW] using heap_alloc_new (w.alloc (.cells #[.int .i64 0, .slice none 0 0, .slice none 0 0, .int .i64 0, .int .i64 0] 31)) (.cells #[.string ⟨#[116,107,91,48,45,57,93,123,50,125]⟩, .bool false, .int .i64 0] 134)
 have hz0:W0.heap.size=w.heap.size+2:=by rw[hW0];simp
 have H1:=Lib.hid (choice_tk (w.heap.size+1) W0 hR);have H0:=Lib.hid (And.intro hb0 hY);clear hW0 hb0 hY hR;refine H1.out.mono ?_;rintro e w1 ⟨x,rfl,hit,hr1,hk1⟩;obtain ⟨p0,p1,p2,p3,p4,p5,p6,p7,p8,rfl⟩:=hit.form;have hz1:=hk1.size;have hbA:Below w1.heap.size w1 (w1.alloc (.cells #[.int .i64 p0, .slice p1 p2 p3, .slice p4 p5 p6, .int .i64 p7, .int .i64 p8] 31)):=(Below.refl _ _).alloc (Nat.le_refl _) _;have hbw1:Below w.heap.size w w1:=H0.out.1.trans (hk1.below (λk hk=>by rw[List.mem_singleton]at hk;omega) H0.out.1.size)
 have hbwA:=hbw1.trans (hbA.mono hbw1.size);have H2:=Lib.hid (text_tk _ _ _ (hit.keep (KeepF.of_below (fp:=[]) hbA) (λk hk=>by cases hk)) (HVR.out.later hbwA))
 have hYA:=(hbA.block w.heap.size (by omega)).trans ((hk1.blk w.heap.size (by omega) (by simp)).trans H0.out.2)
 have hNA:=heap_alloc_new w1 (.cells #[.int .i64 p0, .slice p1 p2 p3, .slice p4 p5 p6, .int .i64 p7, .int .i64 p8] 31);have hrA:=hr1.later hbA;have hitA:=hit.keep (KeepF.of_below (fp:=[]) hbA) (λk hk=>by cases hk)
 have HA:=Lib.hid (And.intro hbwA (And.intro hYA (And.intro hNA (And.intro hrA hitA))));clear hit hr1 hk1 hbA hbw1 hbwA hYA hNA hrA hitA;go_wp2_with fail;refine H2.out.mono ?_;rintro e w2 ⟨rfl,hb2⟩;have hsA:(w1.alloc (.cells #[.int .i64 p0, .slice p1 p2 p3, .slice p4 p5 p6, .int .i64 p7, .int .i64 p8] 31)).heap.size=w1.heap.size+1:=by simp
 have hz2:=hb2.size;rw[hsA]at hz2;have hY2:=(hb2.block w.heap.size (by rw[hsA];omega)).trans HA.out.2.1
 have hN2:=(hb2.block w1.heap.size (by rw[hsA];omega)).trans HA.out.2.2.1
 have hr2:=HA.out.2.2.2.1.later hb2;have hit2:=HA.out.2.2.2.2.keep (KeepF.of_below (fp:=[]) hb2) (λk hk=>by cases hk)
 have hbw2:=HA.out.1.trans (hb2.mono (by rw[hsA];omega))
 obtain ⟨⟨c0,c1,c2⟩,-,lr2⟩:=hr2.cells;obtain ⟨k0,k1,k2,k3,k4⟩:=cells5 hN2;obtain ⟨y0,y1,y2,y3,y4⟩:=cells5 hY2;have fy:∀j,j<5->w2.frozen? ⟨w.heap.size,j,none⟩=false:=λj _=>by simp[World.frozen?,hY2]
 have fy0:=fy 0 (by decide)
 have fy1:=fy 1 (by decide)
 have fy2:=fy 2 (by decide)
 have fy3:=fy 3 (by decide)
 have fy4:=fy 4 (by decide)
 have m1:w1.heap.size<w2.heap.size:=by omega
 have m3:w.heap.size<w2.heap.size:=by omega
 have H3:=Lib.hid (And.intro hit2 hbw2);clear hY2 hN2 hr2 hit2 hbw2 hb2 hsA fy;go_wp2_with fail;refine post_named λWf hWf=>?_;obtain ⟨u1,u2,u3,-⟩:=set5 hWf;refine bodyPost_ret (v:=.tuple #[.agg #[.int .i64 p0, .slice p1 p2 p3, .slice p4 p5 p6, .int .i64 p7, .int .i64 p8], .int .i64 0]) (by rw[hWf];simp[results,Tryz.results71,go_sem,y0,y1,y2,y3,y4,m3];try rfl) rfl ?_
 have hkf:KeepF [w.heap.size] [] w2 Wf:=⟨u3.1,u3.2.1,u3.2.2,by omega,λk _ hn=>u1 k (λe=>hn (by simp[e])),λk hk=>by cases hk⟩
 exact ⟨_,rfl,(H3.out.1.keep hkf (λk hk=>by simp at hk;omega)).mono (show w.heap.size<=W0.heap.size by omega),H3.out.2.trans (hkf.below (λk hk=>by simp at hk;omega) H3.out.2.size)⟩
set_option maxHeartbeats 4000000 in
theorem parse_tk (w:World) (hvr:VrOK w):Calls Tryz.prog 47 #[.string ⟨#[116,107,91,48,45,57,93,123,50,125]⟩] w (RdN w):=by
 have HVR:=Lib.hid hvr;clear hvr
 go_enter Tryz.func47,Tryz.ntmps47
 go_wp2_with fail;refine calls_named λW0 hW0=>?_;have hb0:Below w.heap.size w W0:=by rw[hW0];exact (Below.refl _ _).alloc (Nat.le_refl _) _
 have hY:W0.heap[w.heap.size]?=some (.cells #[.int .i64 0, .slice none 0 0, .slice none 0 0, .int .i64 0, .int .i64 0] 31 (0,0)):=by rw[hW0];exact heap_alloc_new w _
 have hz0:W0.heap.size=w.heap.size+1:=by rw[hW0];simp
 have H1:=Lib.hid (read_tk W0 (HVR.out.later hb0));have H0:=Lib.hid (And.intro hb0 hY);clear hW0 hb0 hY;refine H1.out.mono ?_;rintro e w2 ⟨x,rfl,hit,hb2⟩;obtain ⟨p0,p1,p2,p3,p4,p5,p6,p7,p8,rfl⟩:=hit.form;have hz2:=hb2.size;have hY2:=(hb2.block w.heap.size (by omega)).trans H0.out.2
 have hbw2:=H0.out.1.trans (hb2.mono (by omega))
 obtain ⟨y0,y1,y2,y3,y4⟩:=cells5 hY2;have fy:∀j,j<5->w2.frozen? ⟨w.heap.size,j,none⟩=false:=λj _=>by simp[World.frozen?,hY2]
 have fy0:=fy 0 (by decide)
 have fy1:=fy 1 (by decide)
 have fy2:=fy 2 (by decide)
 have fy3:=fy 3 (by decide)
 have fy4:=fy 4 (by decide)
 have m3:w.heap.size<w2.heap.size:=by omega
 have H3:=Lib.hid (And.intro hit hbw2);clear hY2 hit hbw2 hb2 fy;go_wp2_with fail;refine post_named λWf hWf=>?_;obtain ⟨u1,u2,u3,-⟩:=set5 hWf;refine bodyPost_ret (v:=.tuple #[.agg #[.int .i64 p0, .slice p1 p2 p3, .slice p4 p5 p6, .int .i64 p7, .int .i64 p8], .int .i64 0]) (by rw[hWf];simp[results,Tryz.results47,go_sem,y0,y1,y2,y3,y4,m3];try rfl) rfl ?_
 have hkf:KeepF [w.heap.size] [] w2 Wf:=⟨u3.1,u3.2.1,u3.2.2,by omega,λk _ hn=>u1 k (λe=>hn (by simp[e])),λk hk=>by cases hk⟩
 exact ⟨_,rfl,(H3.out.1.keep hkf (λk hk=>by simp at hk;omega)).mono (show w.heap.size<=W0.heap.size by omega),H3.out.2.trans (hkf.below (λk hk=>by simp at hk;omega) H3.out.2.size)⟩
end Go.Proofs.YtljgapfmgegifaaGreatDoor
