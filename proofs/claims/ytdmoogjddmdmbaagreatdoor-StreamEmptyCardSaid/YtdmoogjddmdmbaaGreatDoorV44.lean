/- Walks. -/
import Derived.Test.YtdmoogjddmdmbaaGreatDoorV43
set_option maxRecDepth 100000
set_option maxHeartbeats 16000000
set_option linter.unusedVariables false
set_option linter.unusedSimpArgs false
namespace Go.Proofs.YtdmoogjddmdmbaaGreatDoor
open Go.RowKit
section
set_option linter.unusedVariables false
set_option linter.unusedSimpArgs false
open Go.RowKit
theorem SZ {w1:World} {b g:Nat} (h:KN b w1 4 18 [iG 0,iG 1,iG 2,iG 3,iG 4,iG 5] 6 (.slice (some ⟨g,0,none⟩) 6 6)):∃A1 c1 A2 c2,g<w1.heap.size/\w1.cell? ⟨g,0,none⟩=some (.int .i64 2)/\w1.cell? ⟨g,1,none⟩=some (.slice A1 0 c1)/\w1.cell? ⟨g,2,none⟩=some (.slice A2 3 c2)/\w1.cell? ⟨g,3,none⟩=some (.int .i64 0)/\w1.cell? ⟨g,4,none⟩=some (.int .i64 0)/\bX w1 (iG 0) [.int .i64 2, .slice A1 0 c1, .slice A2 3 c2, .int .i64 0, .int .i64 0]:=by
 obtain ⟨-,-,g',c',xx,-,-,hg,hS⟩:=h;injection xx with xx _ _;injection xx with xx;injection xx with xx _ _;subst xx;obtain ⟨⟨vs,hc,hn⟩,-⟩:=hS w1 (af.refl _ _);obtain ⟨A1,c1,A2,c2,hvs,-⟩:=hn.form;have hvs:vs=[.int .i64 2, .slice A1 0 c1, .slice A2 3 c2, .int .i64 0, .int .i64 0]:=hvs;subst hvs;exact ⟨A1,c1,A2,c2,hg,hc 0 (by decide),hc 1 (by decide),hc 2 (by decide),hc 3 (by decide),hc 4 (by decide),hn⟩
theorem DM {W:World} {g:Nat} {l:List UInt8} {cs:Array Value} {m:Nat×Nat} (h:W.heap[g]?=some (.cells cs 5 m)) (hc:∀i (h:i<l.length),cs[i]?=some (.int .u8 (l[i].toNat:Int))) (hl:l.length<=1000000):rH tz 1 W (.slice (some ⟨g,0,none⟩) l.length l.length) l:=by
 refine ⟨some ⟨g,0,none⟩,l.length,rfl,⟨Nat.le_refl _,by omega⟩, .inr ⟨g,0,rfl,(Array.getElem?_eq_some_iff.1 h).1,λi hi j hj=>?_⟩⟩
 obtain rfl:j=0:=by omega
 rw[Nat.zero_add,Nat.mul_one,Nat.add_zero,cell_of_row _ _ _ _ _ _ h,hc i hi]
 rfl
theorem nC {b:Nat} {w W:World} {a0 a1 a2 a3 a4 x0 x1 x2 x3 x4:Value} {T:TypeId} (h:w.heap[b]?=some (.cells #[a0,a1,a2,a3,a4] T (0,0))) (hW:W=((((w.setCell ⟨b,0,none⟩ x0).setCell ⟨b,1,none⟩ x1).setCell ⟨b,2,none⟩ x2).setCell ⟨b,3,none⟩ x3).setCell ⟨b,4,none⟩ x4):W.heap[b]?=some (.cells #[x0,x1,x2,x3,x4] T (0,0))/\(∀q,q≠b->W.heap[q]?=w.heap[q]?)/\∀B v,B<=b->Below B v w->Below B v W:=by
 subst hW;refine ⟨by simp[World.setCell,Array.getElem?_modify,h],λq hq=>?_,λB v hB hb=>?_⟩
 .iterate 5 (rw[jb hq])
 .iterate 5 (refine Below.setCell ?_ hB _)
  exact hb
theorem nD {b:Nat} {w:World} {cs:Array Value} {T:TypeId} (h:w.heap[b]?=some (.cells cs T (0,0))):w.frozen? ⟨b,0,none⟩=false/\w.frozen? ⟨b,1,none⟩=false/\w.frozen? ⟨b,2,none⟩=false/\w.frozen? ⟨b,3,none⟩=false/\w.frozen? ⟨b,4,none⟩=false/\b<w.heap.size:=by
 refine ⟨?_,?_,?_,?_,?_,(Array.getElem?_eq_some_iff.1 h).1⟩ <;> simp[World.frozen?,h]
theorem DG.forms {B:Nat} {w:World} {K:List UInt8} {nx:List Nat} {ms:List Mt} {kv nv mv:Value} (h:DG B w K nx ms kv nv mv):∃A1 c1 A2 c2 A3 c3,kv = .slice A1 K.length c1/\nv = .slice A2 nx.length c2/\mv = .slice A3 ms.length c3:=by
 obtain ⟨A1,c1,e1,-⟩:=ag (show w.ownsRow _ _ _ _ _ _ from h.k);obtain ⟨A2,c2,e2,-⟩:=ag (show w.ownsRow _ _ _ _ _ _ from h.n);obtain ⟨A3,c3,e3,-⟩:=ag (show w.ownsRow _ _ _ _ _ _ from h.m);exact ⟨A1,c1,A2,c2,A3,c3,e1,e2,e3⟩
set_option maxHeartbeats 8000000 in
theorem DN (w:World) (hv:cd w):Calls Tryz.prog 19 #[] w λe w'=>e = .returned (.bool true)/\Below w.heap.size w w':=by
 have Gr:0<w.heap.size:=Nat.lt_of_lt_of_le (Nat.lt_of_le_of_lt (Nat.zero_le _) Ie) hv.low;have HV:=Lib.hid hv;clear hv
 go_enter Tryz.func19,Tryz.ntmps19
 go_wp2_with fail;refine (rW 0 w Gr).mono ?_;rintro e w1 ⟨g,rfl,hkn,hb1⟩;obtain ⟨A1,c1,A2,c2,hg,q0,q1,q2,q3,q4,hn⟩:=SZ hkn;have bH:=Lib.hid (And.intro hb1 hn);clear hkn hb1 hn Gr
 go_upto_region 2 with fail
 refine dN λW hW=>?_;have hrow:W.heap[w1.heap.size]?=some (.cells (Yj A1 c1 A2 c2) 44 (0,0)):=by rw[hW];exact heap_alloc_new w1 _
 have cJ:Below w1.heap.size w1 W:=by rw[hW];exact (Below.refl _ _).alloc (Nat.le_refl _) _
 have vK:Below w.heap.size w W:=bH.out.1.trans (cJ.mono bH.out.1.size);have HK:=Lib.hid (λ(W':World) (hb:Below W.heap.size W W')=>(aez (bH.out.2.later cJ) hrow).later hb);have KZ:=Lib.hid (λ(W':World) (hb:Below W.heap.size W W')=>HV.out.later (vK.trans (hb.mono vK.size)));have HW:=Lib.hid vK;have HNW:=Lib.hid (Ic (some ⟨w1.heap.size,0,none⟩) 1 1 _ [xK] W (HK.out W (Below.refl _ _)) (KZ.out W (Below.refl _ _)) Yk (λer wo h=>OV h) ⟨Nat.le_refl _,by decide⟩)
 clear hW hrow cJ vK q0 q1 q2 q3 q4 hg;go_wp2_with fail;refine HNW.out.mono ?_;rintro e w2 ⟨aL,nv,-,-,rfl,hsc⟩;obtain ⟨_,_,An,cn,_,_,-,rfl,-⟩:=hsc.forms;rw[show (List.replicate 1 0).length=1 from rfl]at hsc|-;rw[show List.replicate 1 0=[0] from rfl]at hsc;have H2:=Lib.hid (And.intro aL hsc);clear aL hsc
 go_upto_region 3 with fail
 refine dN λV0 Yl=>?_;have sJ:V0.heap[w2.heap.size]?=some (.cells #[.int .i64 0, .int .i64 0, .slice none 0 0, .slice An 1 cn, .slice none 0 0] 51 (0,0)):=by rw[Yl];exact heap_alloc_new w2 _
 have F7:Below w2.heap.size w2 V0:=by rw[Yl];exact (Below.refl _ _).alloc (Nat.le_refl _) _
 have F9:Below W.heap.size W V0:=H2.out.1.trans (F7.mono H2.out.1.size);have hWb:W.heap.size<=w2.heap.size:=H2.out.1.size;have vz:=Lib.hid (And.intro sJ (And.intro F7 (And.intro F9 hWb)));obtain ⟨c0,c1,c2,c3,c4⟩:=aJ sJ;have lb:=(Array.getElem?_eq_some_iff.1 sJ).1;clear Yl sJ F7 F9 hWb;have Wb:=Go.Joins.run_convert_bytes_const_at (P:=Tryz.prog) V0 28 5 #[.int .u8 116] 1 1 V0.heap.size rfl Tryz.underlying28 Tryz.underlying5;go_wp2_with fail;refine dx λV1 hV1=>?_;have kI:V1.heap[V0.heap.size]?=some (.cells #[.int .u8 116] 5 (1,2)):=by rw[hV1];exact heap_alloc_new V0 _
 have hb1:Below V0.heap.size V0 V1:=by rw[hV1];exact (Below.refl _ _).alloc (Nat.le_refl _) _
 have S0:=vz.out.2.2.1.trans (hb1.mono vz.out.2.2.1.size);have hF1:=DL (some ⟨w1.heap.size,0,none⟩) 1 _ [] [116] (.slice none 0 0) (.slice An 1 cn) (.slice none 0 0) _ V1 (HK.out V1 S0) (KZ.out V1 S0) ((H2.out.2.v.later vz.out.2.1).later hb1) (DM (l:=[116]) kI (λi hi=>by obtain rfl:i=0:=(by simp at hi;omega);rfl) (by decide)) (by decide)
 have lI:=Lib.hid (And.intro hF1 (And.intro hb1 S0));clear hV1 kI hb1 S0 hF1 Wb c0 c1 c2 c3 c4 lb;refine lI.out.1.mono ?_;rintro e w3 ⟨dc,kv3,nv3,mv3,rfl,Ym⟩;obtain ⟨B1,d1,B2,d2,B3,d3,rfl,rfl,rfl⟩:=Ym.forms;have aeC:Below V0.heap.size V0 w3:=lI.out.2.1.trans (dc.mono lI.out.2.1.size);have Iz:=(aeC.block _ (Array.getElem?_eq_some_iff.1 vz.out.1).1).trans vz.out.1;obtain ⟨c0,c1,c2,c3,c4⟩:=aJ Iz;obtain ⟨f0,f1,f2,f3,f4,lb⟩:=nD Iz;have Bi:=lI.out.2.2.trans (dc.mono lI.out.2.2.size);have aeD:w2.heap.size<V1.heap.size:=Nat.lt_of_lt_of_le (Array.getElem?_eq_some_iff.1 vz.out.1).1 lI.out.2.1.size;have H3:=Lib.hid (And.intro Ym (And.intro Iz (And.intro Bi aeD)));clear dc Ym aeC Iz Bi aeD;simp only[List.length_append,List.length_cons,List.length_nil,Nat.zero_add,Nat.reduceAdd]at *
 go_upto_region 4 with fail
 refine dN λV4 hV4=>?_;obtain ⟨S1,Ux,OX⟩:=nC H3.out.2.1 hV4;have OY:=H3.out.1.keep (w':=V4) λq h1 h2=>Ux q (by have:=H3.out.2.2.2;omega)
 have Yn:=OX _ _ vz.out.2.2.2 H3.out.2.2.1;have H4:=Lib.hid (And.intro OY (And.intro S1 Yn));clear hV4 Ux OX c0 c1 c2 c3 c4 f0 f1 f2 f3 f4 lb;obtain ⟨c0,c1,c2,c3,c4⟩:=aJ S1;have lb:=(Array.getElem?_eq_some_iff.1 S1).1;clear OY S1 Yn;have al7:=Go.Joins.run_convert_bytes_const_at (P:=Tryz.prog) V4 28 5 #[.int .u8 107, .int .u8 49, .int .u8 50] 3 3 V4.heap.size rfl Tryz.underlying28 Tryz.underlying5;go_wp2_with fail;refine dx λV5 hV5=>?_;have hr5:V5.heap[V4.heap.size]?=some (.cells #[.int .u8 107, .int .u8 49, .int .u8 50] 5 (3,4)):=by rw[hV5];exact heap_alloc_new V4 _
 have gH:Below V4.heap.size V4 V5:=by rw[hV5];exact (Below.refl _ _).alloc (Nat.le_refl _) _
 have S2:=H4.out.2.2.trans (gH.mono H4.out.2.2.size);have hF5:=DL (some ⟨w1.heap.size,0,none⟩) 1 _ ([]++[116]) [107,49,50] (.slice B1 1 d1) (.slice B2 1 d2) (.slice B3 0 d3) _ V5 (HK.out V5 S2) (KZ.out V5 S2) (H4.out.1.v.later gH) (DM (l:=[107,49,50]) hr5 (λi hi=>by
  match i,hi with
  | 0,_=>rfl
  | 1,_=>rfl
  | 2,_=>rfl) (by decide)) (by decide)
 have HF5:=Lib.hid (And.intro hF5 (And.intro gH S2));clear hV5 hr5 gH S2 hF5 al7 c0 c1 c2 c3 c4 lb;refine HF5.out.1.mono ?_;rintro e w6 ⟨rh,kv6,SJ,mv6,rfl,Kt⟩;obtain ⟨D1,k1,D2,k2,D3,k3,rfl,rfl,rfl⟩:=Kt.forms;have aeF:Below V4.heap.size V4 w6:=HF5.out.2.1.trans (rh.mono HF5.out.2.1.size);have AA:=(aeF.block _ (Array.getElem?_eq_some_iff.1 H4.out.2.1).1).trans H4.out.2.1;obtain ⟨c0,c1,c2,c3,c4⟩:=aJ AA;obtain ⟨f0,f1,f2,f3,f4,lb⟩:=nD AA;have sA:=HF5.out.2.2.trans (rh.mono HF5.out.2.2.size);have aeG:w2.heap.size<V5.heap.size:=Nat.lt_of_lt_of_le (Array.getElem?_eq_some_iff.1 H4.out.2.1).1 HF5.out.2.1.size;have H6:=Lib.hid (And.intro Kt (And.intro AA (And.intro sA aeG)));clear rh Kt aeF AA sA aeG;simp only[List.length_append,List.length_cons,List.length_nil,Nat.zero_add,Nat.reduceAdd]at *
 go_upto_region 5 with fail
 refine dN λV7 hV7=>?_;obtain ⟨sQ,Uy,DK⟩:=nC H6.out.2.1 hV7;have Ku:=H6.out.1.keep (w':=V7) λq h1 h2=>Uy q (by have:=H6.out.2.2.2;omega)
 have Lj:=DK _ _ vz.out.2.2.2 H6.out.2.2.1;have HFI:=Lib.hid (SY (some ⟨w1.heap.size,0,none⟩) 1 _ (.slice D1 4 k1) (.slice D2 1 k2) (.slice D3 0 k3) V7 (HK.out V7 Lj) (KZ.out V7 Lj) Ku.v);have HW7:=Lib.hid Lj;clear hV7 Uy DK c0 c1 c2 c3 c4 f0 f1 f2 f3 f4 lb;obtain ⟨c0,c1,c2,c3,c4⟩:=aJ sQ;have lb:=(Array.getElem?_eq_some_iff.1 sQ).1;clear Ku sQ Lj;go_wp2_with fail;refine HFI.out.mono ?_;rintro e w8 ⟨Bq,v,rfl,hm8⟩;obtain ⟨A8,k8,rfl,hk8,eA⟩:=hm8;obtain ⟨g8,f8,rfl,TJ,hc8⟩:=eA.resolve_left (by simp)
 have r0:=hc8 0 (by decide) 0 (by decide)
 have r1:=hc8 0 (by decide) 1 (by decide)
 have r2:=hc8 0 (by decide) 2 (by decide)
 rw[show ([⟨0,0,4⟩]:List Mt).length=1 from rfl];have HB8:=Lib.hid (HW.out.trans ((HW7.out.trans (Bq.mono HW7.out.size)).mono HW.out.size));clear Bq hc8 eA hk8 c0 c1 c2 c3 c4 lb;simp only[Nat.zero_mul,Nat.add_zero,cV,List.getElem_cons_zero,List.getElem?_cons_zero,List.getElem?_cons_succ]at r0 r1 r2;go_wp2_with fail;go_ret;exact ⟨rfl,HB8.out⟩
end
end Go.Proofs.YtdmoogjddmdmbaaGreatDoor
