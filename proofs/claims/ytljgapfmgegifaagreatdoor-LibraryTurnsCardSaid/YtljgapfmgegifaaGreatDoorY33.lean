/- Walks: slices.Equal at one list of ranges, at one list of strings, twice the same. · Walks: pattern.Same at one pattern, twice the same. · Walks: the reader of patterns at one text: a set of digits. · Walks: the reader of patterns at one text: an item. · Walks: the reader of patterns at one text: an item of one letter; whether a sequence goes on. · Walks: the reader of patterns: a list of some parts. · Walks: the reader of patterns at tk[0-9]{2}: the sequence, the choice. · Walk: pattern.writeSet at any ranges. -/
import Derived.Test.YtljgapfmgegifaaGreatDoorY20
import Derived.Test.YtljgapfmgegifaaGreatDoorY22
import Derived.Test.YtljgapfmgegifaaGreatDoorY15
import Derived.Test.YtljgapfmgegifaaGreatDoorY10
import Derived.Test.YtljgapfmgegifaaGreatDoorY13
import Derived.Test.YtljgapfmgegifaaGreatDoorY12
import Derived.Test.YtljgapfmgegifaaGreatDoorY07
import Derived.Deep.CutRange
namespace Go.Proofs.YtljgapfmgegifaaGreatDoor
set_option linter.unusedVariables false
set_option linter.unusedSimpArgs false
set_option maxRecDepth 100000
open Go.RowKit
set_option maxHeartbeats 2000000 in
theorem sleqR_self (v:Value) (l:List (Nat×Nat)) (w:World) (h:RgIn w v l) :
  Calls Tryz.prog 82 #[v,v] w λe w'=>e = .returned (.bool true)/\Below w.heap.size w w':=by
 obtain ⟨A,c,rfl,hc,hcs⟩:=h;obtain ⟨n,hn⟩:∃n,l.length=n:=⟨_,rfl⟩;have HN:=Lib.hid hn;have HC:=Lib.hid hcs;rw[hn]at hc|-;clear hn hcs
 go_enter Tryz.func82,Tryz.ntmps82
 go_wp2_with fail
 go_loopw [13] (λv wr=>∃k:Nat,k<=n/\v = .int .i64 (k:Int)/\Hid (Below w.heap.size w wr)) (λv _=>n - (intOf v).toNat)
 case atStart=>exact ⟨0,by omega,rfl,Below.refl _ _⟩
 case round=>
  obtain ⟨k,hk,rfl,HB⟩:=hrel;by_cases hlt:k<n
  .have hd:decide ((k:Int)<(n:Int))=true:=decide_eq_true (by omega)
   have hdn:decide (k<n)=true:=decide_eq_true hlt;have hk1:k<l.length:=by rw[HN.out];exact hlt
   obtain ⟨g,f,rfl,hg,hq⟩:=HC.out.resolve_left (by intro e;rw[e]at hk1;simp at hk1)
   obtain ⟨⟨a0,a1⟩,-,-⟩:=hq k hk1;obtain ⟨⟨lo,hi⟩,hx⟩:∃x,l[k]=x:=⟨_,rfl⟩;rw[hx]at a0 a1;simp only at a0 a1;have hbd:=λd:BelT wr.heap.size wr=>HB.out.trans (d.property.mono HB.out.size);have y0:∀d:BelT wr.heap.size wr,d.val.cell? ⟨g,f+k*2,none⟩=some (.int .u8 (lo:Int)):=λd=>((hbd d).cell (p:=⟨g,f+k*2,none⟩) hg).trans a0;have y1:∀d:BelT wr.heap.size wr,d.val.cell? ⟨g,f+k*2+1,none⟩=some (.int .u8 (hi:Int)):=λd=>((hbd d).cell (p:=⟨g,f+k*2+1,none⟩) hg).trans a1;have y6:∀d:BelT wr.heap.size wr,g<d.val.heap.size:=λd=>by have:=(hbd d).size;omega
   clear a0 a1 hx hq hbd;go_wp2_with fail;refine wp_region_below (Below.refl wr.heap.size wr) (by kernel_rfl) (by kernel_rfl) ?_
   repeat (go_big_quiet_step (fail))
   refine wpQuiet_nil ?_;intro w2 hw';have hw2:Below wr.heap.size wr w2:=by obtain ⟨d9,rfl⟩:=hw';exact d9.property
   have HB3:=Lib.hid (HB.out.trans (hw2.mono HB.out.size));clear hw' y0 y1 y6 hw2;go_wp2_with fail;go_roundw
   case rel=>exact ⟨k+1,by omega,by go_num,HB3.out⟩
   case measure=>simp[intOf];omega
  .obtain rfl:k=n:=by omega
   have hd:decide ((k:Int)<(k:Int))=false:=decide_eq_false (by omega)
   have hdn:decide (k<k)=false:=decide_eq_false (by omega)
   go_wp2_with fail;go_ret;exact ⟨rfl,HB.out⟩
set_option maxHeartbeats 2000000 in
theorem sleqS_self (v:Value) (l:List ByteArray) (w:World) (h:StIn w v l) :
  Calls Tryz.prog 46 #[v,v] w λe w'=>e = .returned (.bool true)/\Below w.heap.size w w':=by
 obtain ⟨A,c,rfl,hc,hcs⟩:=h;obtain ⟨n,hn⟩:∃n,l.length=n:=⟨_,rfl⟩;have HN:=Lib.hid hn;have HC:=Lib.hid hcs;rw[hn]at hc|-;clear hn hcs
 go_enter Tryz.func46,Tryz.ntmps46
 go_wp2_with fail
 go_loopw [13] (λv wr=>∃k:Nat,k<=n/\v = .int .i64 (k:Int)/\Hid (Below w.heap.size w wr)) (λv _=>n - (intOf v).toNat)
 case atStart=>exact ⟨0,by omega,rfl,Below.refl _ _⟩
 case round=>
  obtain ⟨k,hk,rfl,HB⟩:=hrel;by_cases hlt:k<n
  .have hd:decide ((k:Int)<(n:Int))=true:=decide_eq_true (by omega)
   have hdn:decide (k<n)=true:=decide_eq_true hlt;have hk1:k<l.length:=by rw[HN.out];exact hlt
   obtain ⟨g,f,rfl,hg,hq⟩:=HC.out.resolve_left (by intro e;rw[e]at hk1;simp at hk1)
   have a0:=hq k hk1;obtain ⟨s,hx⟩:∃x,l[k]=x:=⟨_,rfl⟩;rw[hx]at a0;have hbd:=λd:BelT wr.heap.size wr=>HB.out.trans (d.property.mono HB.out.size);have y0:∀d:BelT wr.heap.size wr,d.val.cell? ⟨g,f+k,none⟩=some (.string s):=λd=>((hbd d).cell (p:=⟨g,f+k,none⟩) hg).trans a0;have y6:∀d:BelT wr.heap.size wr,g<d.val.heap.size:=λd=>by have:=(hbd d).size;omega
   clear a0 hx hq hbd;go_wp2_with fail;refine wp_region_below (Below.refl wr.heap.size wr) (by kernel_rfl) (by kernel_rfl) ?_
   repeat (go_big_quiet_step (fail))
   refine wpQuiet_nil ?_;intro w2 hw';have hw2:Below wr.heap.size wr w2:=by obtain ⟨d9,rfl⟩:=hw';exact d9.property
   have HB3:=Lib.hid (HB.out.trans (hw2.mono HB.out.size));clear hw' y0 y6 hw2;go_wp2_with fail;go_roundw
   case rel=>exact ⟨k+1,by omega,by go_num,HB3.out⟩
   case measure=>simp[intOf];omega
  .obtain rfl:k=n:=by omega
   have hd:decide ((k:Int)<(k:Int))=false:=decide_eq_false (by omega)
   have hdn:decide (k<k)=false:=decide_eq_false (by omega)
   go_wp2_with fail;go_ret;exact ⟨rfl,HB.out⟩
theorem calls_nmS {P:Program} {f:FuncId} {args:Array Value} {Q:Ending->World->Prop} {w:World} (h:∀W,W=w->Calls P f args W Q):Calls P f args w Q:=h w rfl
set_option maxHeartbeats 2000000 in
theorem eqfN_self (A:Option Addr) (c:Nat) (l:List Nd) (w:World) (hc:l.length<=c/\c<=9223372036854775807) (hk:l=[]\/∃g f,A=some ⟨g,f,none⟩/\g<w.heap.size/\KdsIn w l g f)
  (IH:∀i (hi:i<l.length) (us:List Value) (W:World),NdIn W l[i] us->Calls Tryz.prog 45 #[.agg us.toArray, .agg us.toArray] W λe w'=>e = .returned (.bool true)/\Below W.heap.size W w') :
  Calls Tryz.prog 83 #[.slice A l.length c, .slice A l.length c, .func (.func 45) #[] #[]] w λe w'=>e = .returned (.bool true)/\Below w.heap.size w w':=by
 obtain ⟨n,hn⟩:∃n,l.length=n:=⟨_,rfl⟩;have HN:=Lib.hid hn;have HC:=Lib.hid hk;have HI:=Lib.hid IH;rw[hn]at hc|-;clear hn hk IH
 go_enter Tryz.func83,Tryz.ntmps83
 go_wp2_with fail
 go_loopw [17] (λv wr=>∃k:Nat,k<=n/\v = .int .i64 (k:Int)/\Hid (Below w.heap.size w wr)) (λv _=>n - (intOf v).toNat)
 case atStart=>exact ⟨0,by omega,rfl,Below.refl _ _⟩
 case round=>
  obtain ⟨k,hkn,rfl,HB⟩:=hrel;by_cases hlt:k<n
  .have hd:decide ((k:Int)<(n:Int))=true:=decide_eq_true (by omega)
   have hdn:decide (k<n)=true:=decide_eq_true hlt;have hk1:k<l.length:=by rw[HN.out];exact hlt
   obtain ⟨g,f,rfl,hg,hkd⟩:=HC.out.resolve_left (by intro e;rw[e]at hk1;simp at hk1)
   obtain ⟨us,hcl,hnd⟩:=hkd.at k hk1;have CI:=Lib.hid (λW (hb:Below w.heap.size w W)=>HI.out k hk1 us W (hnd.later hb));obtain ⟨A1,c1,A2,c2,rfl,-⟩:=hnd.form;have hbr:=HB.out;have y0:=(hbr.cell (p:=⟨g,f+k*5,none⟩) hg).trans (hcl 0 (by decide))
   have y1:=(hbr.cell (p:=⟨g,f+k*5+1,none⟩) hg).trans (hcl 1 (by decide))
   have y2:=(hbr.cell (p:=⟨g,f+k*5+2,none⟩) hg).trans (hcl 2 (by decide))
   have y3:=(hbr.cell (p:=⟨g,f+k*5+3,none⟩) hg).trans (hcl 3 (by decide))
   have y4:=(hbr.cell (p:=⟨g,f+k*5+4,none⟩) hg).trans (hcl 4 (by decide))
   simp only[List.getElem?_cons_zero,List.getElem?_cons_succ]at y0 y1 y2 y3 y4;have hz:=hbr.size;have l0:g<wr.heap.size:=by omega
   have l1:g<wr.heap.size+1:=by omega
   clear hcl hnd hkd hbr;go_wp2_with fail;refine calls_nmS λW0 hW0=>?_;have hb0:Below wr.heap.size wr W0:=by rw[hW0];exact ((Below.refl _ _).alloc (Nat.le_refl _) _).alloc (by simp) _
   have hb1:Below w.heap.size w W0:=HB.out.trans (hb0.mono hz);clear hW0 hb0 y0 y1 y2 y3 y4;refine (CI.out W0 hb1).mono ?_;rintro e w2 ⟨rfl,hb2⟩;have HB3:=Lib.hid (hb1.trans (hb2.mono hb1.size));clear hb1 hb2;go_wp2_with fail;go_roundw
   case rel=>exact ⟨k+1,by omega,by go_num,HB3.out⟩
   case measure=>simp[intOf];omega
  .obtain rfl:k=n:=by omega
   have hd:decide ((k:Int)<(k:Int))=false:=decide_eq_false (by omega)
   have hdn:decide (k<k)=false:=decide_eq_false (by omega)
   go_wp2_with fail;go_ret;exact ⟨rfl,HB.out⟩
set_option maxHeartbeats 2000000 in
theorem psame_self:∀(m:Nat) (nd:Nd) (vs:List Value) (w:World),nodesT nd<=m->NdIn w nd vs->Calls Tryz.prog 45 #[.agg vs.toArray, .agg vs.toArray] w λe w'=>e = .returned (.bool true)/\Below w.heap.size w w'
 | 0,nd,vs,w,hm,h=>by cases nd;simp[nodesT]at hm
 | m+1,nd,vs,w,hm,h=>by
  obtain ⟨A1,c1,A2,c2,rfl,hr,hc,hk⟩:=h.form;have HR:=Lib.hid (λW (hb:Below w.heap.size w W)=>sleqR_self _ _ W (hr.later hb));have hkl:∀i (hi:i<nd.kids.length),nodesT nd.kids[i]<=m:=λi hi=>by
   have h1:nodesT nd=1+nodesTs nd.kids:=by cases nd;rw[nodesT];rfl
   have h2:=nodesT_kid (List.getElem_mem hi);omega
  have HK:=Lib.hid (λW (hb:Below w.heap.size w W)=>eqfN_self A2 c2 nd.kids W hc (hk.imp id λ⟨g,f,e,hg,hkd⟩=>⟨g,f,e,Nat.lt_of_lt_of_le hg hb.size,(NdIn_later hb _).2 nd.kids g f (Nat.le_refl _) hg hkd⟩) (λi hi us W' hn=>psame_self m _ us W' (hkl i hi) hn));obtain ⟨n1,hn1⟩:∃n,nd.rs.length=n:=⟨_,rfl⟩;obtain ⟨n2,hn2⟩:∃n,nd.kids.length=n:=⟨_,rfl⟩;rw[hn1]at HR|-;rw[hn2]at HK|-;clear hr hc hk hkl h hm
  go_enter Tryz.func45,Tryz.ntmps45
  go_wp2_with fail;refine calls_nmS λW0 hW0=>?_;have hb0:Below w.heap.size w W0:=by rw[hW0];exact ((Below.refl _ _).alloc (Nat.le_refl _) _).alloc (by simp) _
  have hX:W0.heap[w.heap.size]?=some (.cells #[.int .i64 nd.op, .slice A1 n1 c1, .slice A2 n2 c2, .int .i64 nd.mn, .int .i64 nd.mx] 31 (0,0)):=by rw[hW0,old_alloc _ _ _ (by simp)];exact heap_alloc_new w _
  have hY:W0.heap[w.heap.size+1]?=some (.cells #[.int .i64 nd.op, .slice A1 n1 c1, .slice A2 n2 c2, .int .i64 nd.mn, .int .i64 nd.mx] 31 (0,0)):=by
   have h1:=heap_alloc_new (w.alloc (.cells #[.int .i64 nd.op, .slice A1 n1 c1, .slice A2 n2 c2, .int .i64 nd.mn, .int .i64 nd.mx] 31)) (.cells #[.int .i64 nd.op, .slice A1 n1 c1, .slice A2 n2 c2, .int .i64 nd.mn, .int .i64 nd.mx] 31);have h2:(w.alloc (.cells #[.int .i64 nd.op, .slice A1 n1 c1, .slice A2 n2 c2, .int .i64 nd.mn, .int .i64 nd.mx] 31)).heap.size=w.heap.size+1:=by simp
   rw[h2]at h1;rw[hW0];exact h1
  have H0:=Lib.hid (And.intro hb0 (And.intro hX hY));have hz0:W0.heap.size=w.heap.size+2:=by rw[hW0];simp
  clear hW0 hb0 hX hY;refine (HR.out W0 H0.out.1).mono ?_;rintro e w1 ⟨rfl,hb1⟩;have hz1:=hb1.size;have hX1:=(hb1.block w.heap.size (by omega)).trans H0.out.2.1
  have hY1:=(hb1.block (w.heap.size+1) (by omega)).trans H0.out.2.2
  have x2:w1.cell? ⟨w.heap.size,2,none⟩=some (.slice A2 n2 c2):=by rw[cell_of_row _ _ _ _ _ _ hX1];rfl
  have y2:w1.cell? ⟨w.heap.size+1,2,none⟩=some (.slice A2 n2 c2):=by rw[cell_of_row _ _ _ _ _ _ hY1];rfl
  have l1:w.heap.size<w1.heap.size:=by omega
  have l2:w.heap.size+1<w1.heap.size:=by omega
  have hw1:Below w.heap.size w w1:=H0.out.1.trans (hb1.mono H0.out.1.size);have HC:=Lib.hid (HK.out w1 hw1);have H1:=Lib.hid hw1;clear hb1 hX1 hY1 hw1;go_wp2_with fail;refine HC.out.mono ?_;rintro e w2 ⟨rfl,hb2⟩;have H2:=Lib.hid (H1.out.trans (hb2.mono H1.out.size));clear hb2;go_wp2_with fail;go_ret;exact ⟨rfl,H2.out⟩
set_option maxHeartbeats 4000000 in
theorem set_dg (rb:Nat) (d:Int) (w:World) (h:RdW rb ⟨#[48,45,57,93,123,50,125]⟩ false d w) :
  Calls Tryz.prog 199 #[.pointer (some ⟨rb,0,none⟩)] w λe w'=>∃v,e = .returned (.agg #[.int .i64 1,v, .slice none 0 0, .int .i64 0, .int .i64 0])/\OR 78 2 rgC w.heap.size v [(48,57)] w'/\RdW rb ⟨#[123,50,125]⟩ false d w'/\KfR rb w w':=by
 obtain ⟨⟨c0,c1,c2⟩,⟨f0,f1,f2⟩,hl⟩:=h.cells;obtain ⟨i3,hi3,hk0,hk1,hk2⟩:=info_parts info_rge;have HR:=Lib.hid h;clear h
 go_enter Tryz.func199,Tryz.ntmps199
 go_wp2_with fail;refine wp_loop_rounds 2 ?_;rw[rounds_succ];go_wp2_with fail;refine calls_named λW0 hW0=>?_;have hb0:Below w.heap.size w W0:=by rw[hW0];exact ((Below.refl _ _).alloc (Nat.le_refl _) _).alloc (by simp) _
 have hX:W0.heap[w.heap.size+1]?=some (.cells #[.int .i64 1, .slice none 0 0, .slice none 0 0, .int .i64 0, .int .i64 0] 31 (0,0)):=by rw[hW0];simpa using heap_alloc_new (w.alloc _) (.cells #[.int .i64 1, .slice none 0 0, .slice none 0 0, .int .i64 0, .int .i64 0] 31)
 have hY:W0.heap[w.heap.size]?=some (.cells #[.int .i64 0, .slice none 0 0, .slice none 0 0, .int .i64 0, .int .i64 0] 31 (0,0)):=by rw[hW0,old_alloc _ _ _ (by simp)];exact heap_alloc_new w _
 have hz0:W0.heap.size=w.heap.size+2:=by rw[hW0];simp
 have hT1:=take_any rb _ ⟨#[48,45,57,93,123,50,125]⟩ ⟨#[93]⟩ false false d W0 (HR.out.later hb0) rfl rfl;have HT1:=Lib.hid hT1;have H0:=Lib.hid (And.intro hb0 (And.intro hX hY));clear hW0 hb0 hX hY hT1 c0 c1 c2 f0 f1 f2;refine HT1.out.mono ?_;rintro e w1 ⟨rfl,hr1,hk1⟩;have hT2:=one_at rb _ ⟨#[45,57,93,123,50,125]⟩ 48 false d w1 hr1 rfl rfl (by decide) rfl (λ_=>by kernel_rfl) rfl
 have HT2:=Lib.hid hT2;have H1:=Lib.hid hk1;clear hr1 hk1 hT2;go_wp2_with fail;refine HT2.out.mono ?_;rintro e w2 ⟨rfl,hr2,hk2⟩;have H2:=Lib.hid (And.intro hr2 (H1.out.tr hk2));clear hr2 hk2;go_wp2_with fail;refine calls_named λW3 hW3=>?_;have hb3:Below w2.heap.size w2 W3:=by rw[hW3];exact (Below.refl _ _).alloc (Nat.le_refl _) _
 have hX3:W3.heap[w2.heap.size]?=some (.cells #[.int .u8 48, .int .u8 48] 78 (0,0)):=by rw[hW3];exact heap_alloc_new w2 _
 have hz2:=H2.out.2.size;have hT4:=take_any rb _ ⟨#[57,93,123,50,125]⟩ ⟨#[45]⟩ false true d W3 (H2.out.1.later hb3) rfl rfl;have HT4:=Lib.hid hT4;have H3:=Lib.hid (And.intro hX3 (H2.out.2.tr (kfr_below hb3)));have hz3:=hb3.size;have lX3:w2.heap.size<W3.heap.size:=(Array.getElem?_eq_some_iff.1 hX3).1;clear hW3 hb3 hX3 hT4;refine HT4.out.mono ?_;rintro e w4 ⟨rfl,hr4,hk4⟩;have hT5:=one_at rb _ ⟨#[93,123,50,125]⟩ 57 false d w4 hr4 rfl rfl (by decide) rfl (λ_=>by kernel_rfl) rfl
 have HT5:=Lib.hid hT5;have H4:=Lib.hid hk4;clear hr4 hk4 hT5;go_wp2_with fail;refine HT5.out.mono ?_;rintro e w5 ⟨rfl,hr5,hk5⟩;have hne:∀k,w.heap.size<=k->k∉[rb]:=λk hk hm=>by rw[List.mem_singleton]at hm;omega
 have hkk:=H4.out.tr hk5;have hX5:=(hkk.blk w2.heap.size lX3 (hne _ (by omega))).trans H3.out.1
 have hk05:=H3.out.2.tr hkk;have hN5:=(hk05.blk (w.heap.size+1) (by omega) (hne _ (by omega))).trans H0.out.2.1
 have hY5:=(hk05.blk w.heap.size (by omega) (hne _ (Nat.le_refl _))).trans H0.out.2.2
 obtain ⟨x0,x1⟩:w5.cell? ⟨w2.heap.size,0,none⟩=some (.int .u8 48)/\w5.cell? ⟨w2.heap.size,1,none⟩=some (.int .u8 48):=by constructor <;> (rw[cell_of_row _ _ _ _ _ _ hX5]; rfl)
 have fx1:w5.frozen? ⟨w2.heap.size,1,none⟩=false:=by simp[World.frozen?,hX5]
 obtain ⟨n0,n1,n2,n3,n4⟩:=cells5 hN5;have fn1:w5.frozen? ⟨w.heap.size+1,1,none⟩=false:=by simp[World.frozen?,hN5]
 have hz5:=hkk.size;have l2:w2.heap.size<w5.heap.size:=by omega
 have ln:w.heap.size+1<w5.heap.size:=by omega
 have ne1:¬w.heap.size+1=w2.heap.size:=by omega
 have ne2:¬w2.heap.size=w.heap.size+1:=by omega
 have H5:=Lib.hid (And.intro hr5 (And.intro hk05 (And.intro hN5 hY5)));have hown0:((w5.setCell ⟨w2.heap.size,1,none⟩ (.int .u8 57)).alloc (.cells #[.int .u8 48, .int .u8 57] 78)).ownsRow w.heap.size 78 2 (.slice none 0 0) 0 []:=World.ownsRow_nil _ _ _ _;have hcx:∀j u,([.int .u8 48, .int .u8 57]:List Value)[j]?=some u->((w5.setCell ⟨w2.heap.size,1,none⟩ (.int .u8 57)).alloc (.cells #[.int .u8 48, .int .u8 57] 78)).cell? ((⟨w5.heap.size,0,none⟩:Addr).add j)=some u:=λj u hj=>by
  have hrow:((w5.setCell ⟨w2.heap.size,1,none⟩ (.int .u8 57)).alloc (.cells #[.int .u8 48, .int .u8 57] 78)).heap[w5.heap.size]?=some (.cells #[.int .u8 48, .int .u8 57] 78 (0,0)):=by simpa [World.setCell] using heap_alloc_new (w5.setCell ⟨w2.heap.size,1,none⟩ (.int .u8 57)) (.cells #[.int .u8 48, .int .u8 57] 78)
  match j,hj with
  | 0,hj=>simp at hj;rw[<-hj,Addr.add_lit,cell_of_row _ _ _ _ _ _ hrow];rfl
  | 1,hj=>simp at hj;rw[<-hj,Addr.add_lit,cell_of_row _ _ _ _ _ _ hrow];rfl
 clear hr5 hk5 hkk hk05 hX5 hN5 hY5;go_wp2_with (at_builtin; refine appI_at rfl _ _ 28 rfl w.heap.size 78 i3 _ 2 2 Tryz.underlying28 hi3 hk0 hk1 hk2 rfl (by decide) _ 0 [] rfl hown0 ⟨w5.heap.size,0,none⟩ 1 1 [.int .u8 48, .int .u8 57] rfl rfl hcx (by intro u hu; simp at hu; rcases hu with rfl | rfl <;> rfl) (by decide) (by decide) (by simp[World.setCell]; omega) ?_)
 intro v' w6 hown6 hg6 hf6;obtain ⟨A6,c6,rfl,-,-⟩:=own_form hown6;have hzA:((w5.setCell ⟨w2.heap.size,1,none⟩ (.int .u8 57)).alloc (.cells #[.int .u8 48, .int .u8 57] 78)).heap.size=w5.heap.size+1:=by simp[World.setCell]
 have hz6:=hg6.size;rw[hzA]at hz6;have hf6':∀g,(Value.slice A6 1 c6).ownBlock=some g->w5.heap.size+1<=g:=λg hg=>by
  rcases hf6 with h | ⟨g',h,h2⟩
  .rw[h]at hg;cases hg
  .rw[h]at hg;injection hg with hg;first | omega | (simp[World.setCell]at h2;omega)
 have h56:∀k,k<w5.heap.size->k≠w2.heap.size->w6.heap[k]?=w5.heap[k]?:=λk hk hn=>(hg6.block k (by rw[hzA];omega) (by simp[Value.ownBlock])).trans ((old_alloc _ _ _ (by simp[World.setCell];exact hk)).trans (Below.heap_setCell w5 ⟨w2.heap.size,1,none⟩ (.int .u8 57) k hn))
 have hzz0:=H5.out.2.1.size;have hwr2:W0.heap.size<=w2.heap.size:=H2.out.2.size;have hk06:KfR rb W0 w6:=⟨hg6.os.trans H5.out.2.1.os,hg6.tape.trans H5.out.2.1.tape,hg6.output.trans H5.out.2.1.output,by omega,λk hk hn=>(h56 k (by omega) (by omega)).trans (H5.out.2.1.blk k hk hn),λk hk=>.inl hk⟩
 have hr6:=H5.out.1.keep (h56 rb (by omega) (by omega))
 have hN6:=(h56 (w.heap.size+1) ln ne1).trans H5.out.2.2.1;have hY6:=(h56 w.heap.size (by omega) (by omega)).trans H5.out.2.2.2
 have n61:w6.cell? ⟨w.heap.size+1,1,none⟩=some (.slice none 0 0):=by rw[cell_of_row _ _ _ _ _ _ hN6];rfl
 have fn6:w6.frozen? ⟨w.heap.size+1,1,none⟩=false:=by simp[World.frozen?,hN6]
 have ln6:w.heap.size+1<w6.heap.size:=by omega
 obtain ⟨⟨ra0,ra1,ra2⟩,-,lrb⟩:=hr6.cells;have nrb1:¬rb=w.heap.size+1:=by omega
 have nrb2:¬w.heap.size+1=rb:=by omega
 have H6:=Lib.hid (And.intro hown6 (And.intro hf6' (And.intro hk06 (And.intro hr6 (And.intro hN6 hY6)))));clear hown6 hg6 hf6 hf6' h56 hk06 hr6 hN6 hY6 hown0 hcx hzA x0 x1 fx1 n0 n1 n2 n3 n4 fn1;go_wp2_with fail;rw[rounds_succ];go_wp2_with fail;refine calls_named λW7 hW7=>?_;have hset:∀k,k≠w.heap.size+1->W7.heap[k]?=w6.heap[k]?:=λk hk=>by rw[hW7];exact Below.heap_setCell _ _ _ _ hk
 have hz7:W7.heap.size=w6.heap.size:=by rw[hW7];simp[World.setCell]
 have hN7:W7.heap[w.heap.size+1]?=some (.cells #[.int .i64 1, .slice A6 1 c6, .slice none 0 0, .int .i64 0, .int .i64 0] 31 (0,0)):=by
  rw[hW7];have:=set_row3 H6.out.2.2.2.2.1 1 (.slice A6 1 c6);simpa using this
 have hY7:=(hset w.heap.size (by omega)).trans H6.out.2.2.2.2.2
 have hr7:=H6.out.2.2.2.1.keep (hset rb (by omega))
 have ho7:W7.ownsRow w.heap.size 78 2 (.slice A6 1 c6) 1 [.int .u8 48, .int .u8 57]:=own_same H6.out.1 λg hg=>hset g (by have:=H6.out.2.1 g hg;omega)
 have hk7:KeepF [rb,w.heap.size+1] [] W0 W7:=by
  have h1:=H6.out.2.2.1;exact ⟨by rw[hW7];exact h1.os,by rw[hW7];exact h1.tape,by rw[hW7];exact h1.output,by rw[hz7];exact h1.size,λk hk hn=>(hset k (λe=>hn (by simp[e]))).trans (h1.blk k hk (λh=>hn (by simp at h|-;exact .inl h))),λk hk=>by cases hk⟩
 have hT8:=take_any rb _ ⟨#[123,50,125]⟩ ⟨#[93]⟩ false true d W7 hr7 rfl rfl;have HT8:=Lib.hid hT8;have H7:=Lib.hid (And.intro hN7 (And.intro hY7 (And.intro ho7 hk7)));clear hW7 hset hN7 hY7 hr7 ho7 hk7 hT8 n61 fn6;refine HT8.out.mono ?_;rintro e w8 ⟨rfl,hr8,hk8⟩;have hN8:=(hk8.blk (w.heap.size+1) (by omega) (hne _ (by omega))).trans H7.out.1
 have hY8:=(hk8.blk w.heap.size (by omega) (hne _ (Nat.le_refl _))).trans H7.out.2.1
 obtain ⟨n0,n1,n2,n3,n4⟩:=cells5 hN8;obtain ⟨y0,y1,y2,y3,y4⟩:=cells5 hY8;have fy0:w8.frozen? ⟨w.heap.size,0,none⟩=false:=by simp[World.frozen?,hY8]
 have fy1:w8.frozen? ⟨w.heap.size,1,none⟩=false:=by simp[World.frozen?,hY8]
 have fy2:w8.frozen? ⟨w.heap.size,2,none⟩=false:=by simp[World.frozen?,hY8]
 have fy3:w8.frozen? ⟨w.heap.size,3,none⟩=false:=by simp[World.frozen?,hY8]
 have fy4:w8.frozen? ⟨w.heap.size,4,none⟩=false:=by simp[World.frozen?,hY8]
 have hz8:=hk8.size;have l8:w.heap.size+1<w8.heap.size:=by omega
 have l80:w.heap.size<w8.heap.size:=by omega
 have H8:=Lib.hid (And.intro hr8 hk8);clear hr8 hk8 hN8 hY8;go_wp2_with fail;refine post_named λWf hWf=>?_;refine bodyPost_ret (v:=.agg #[.int .i64 1, .slice A6 1 c6, .slice none 0 0, .int .i64 0, .int .i64 0]) (by rw[hWf];simp[results,Tryz.results199,go_sem,y0,y1,y2,y3,y4,l80];try rfl) rfl ?_
 have hsetf:∀k,k≠w.heap.size->Wf.heap[k]?=w8.heap[k]?:=λk hk=>by
  rw[hWf];simp only[Below.heap_setCell _ _ _ _ (show k≠(⟨w.heap.size,0,none⟩:Addr).block from hk),Below.heap_setCell _ _ _ _ (show k≠(⟨w.heap.size,1,none⟩:Addr).block from hk),Below.heap_setCell _ _ _ _ (show k≠(⟨w.heap.size,2,none⟩:Addr).block from hk),Below.heap_setCell _ _ _ _ (show k≠(⟨w.heap.size,3,none⟩:Addr).block from hk),Below.heap_setCell _ _ _ _ (show k≠(⟨w.heap.size,4,none⟩:Addr).block from hk)]
 have hzf:Wf.heap.size=w8.heap.size:=by rw[hWf];simp[World.setCell]
 have hge:∀g,(Value.slice A6 1 c6).ownBlock=some g->w5.heap.size+1<=g:=H6.out.2.1;refine ⟨_,rfl,?_,H8.out.1.keep (hsetf rb (by omega)),?_⟩
 .have h1:=own_same H7.out.2.2.1 λg hg=>H8.out.2.blk g (H7.out.2.2.1.lt g hg).2 (hne _ (by have:=hge g hg;omega))
  exact own_same h1 λg hg=>hsetf g (by have:=hge g hg;omega)
 .have hk9:=H7.out.2.2.2;have h1:=H8.out.2;have hos:Wf.os=w8.os/\Wf.tape=w8.tape/\Wf.output=w8.output:=by rw[hWf];exact ⟨rfl,rfl,rfl⟩
  have hb:=H0.out.1;exact ⟨hos.1.trans (h1.os.trans (hk9.os.trans hb.os)),hos.2.1.trans (h1.tape.trans (hk9.tape.trans hb.tape)),hos.2.2.trans (h1.output.trans (hk9.output.trans hb.output)),by omega,λk hk hn=>by
   rw[hsetf k (by omega),h1.blk k (by omega) hn,hk9.blk k (by omega) (λhm=>by simp at hm;rcases hm with hm | hm;exact hn (by simp[hm]);omega),hb.block k hk],λk hk=>.inl hk⟩
def ItD (B:Nat) (x:Value) (w':World):Prop:=∃g v,x = .agg #[.int .i64 4, .slice none 0 0, .slice (some ⟨g,0,none⟩) 1 1, .int .i64 2, .int .i64 2]/\B<=g/\w'.heap[g]?=some (.cells #[.int .i64 1,v, .slice none 0 0, .int .i64 0, .int .i64 0] 31 (0,0))/\OR 78 2 rgC B v [(48,57)] w'
theorem ItD.keep {B:Nat} {x:Value} {w w':World} {L L':List Nat} (h:ItD B x w) (hk:KeepF L L' w w') (hL:∀k∈L,k<B):ItD B x w':=by
 obtain ⟨g,v,h1,h2,h3,h4⟩:=h;exact ⟨g,v,h1,h2,(hk.blk g (Array.getElem?_eq_some_iff.1 h3).1 λhm=>by have:=hL g hm;omega).trans h3,OR.keep h4 λq hq=>hk.blk q (World.ownsRow.lt h4 q hq).2 λhm=>by have:=hL q hm;have:=(World.ownsRow.lt h4 q hq).1;omega⟩
theorem ItD.mono {B B':Nat} {x:Value} {w:World} (h:ItD B x w) (hB:B'<=B):ItD B' x w:=by
 obtain ⟨g,v,h1,h2,h3,h4⟩:=h;exact ⟨g,v,h1,Nat.le_trans hB h2,h3,OR.mono h4 hB⟩
def StJ10 (rb:Nat) (d:Int) (W:World) (c:Nat) (w':World):Prop:=KfR rb W w'/\(c=0->RdW rb ⟨#[50,125]⟩ false d w')
def factJ10 (rb:Nat) (d:Int) (v1:Value) (W:World):Nat->Nat->Value->World->Prop
 | c,0,x,w=>x = .agg #[.int .i64 1,v1, .slice none 0 0, .int .i64 0, .int .i64 0]
 | c,1,x,w=>∃g,x = .slice (some ⟨g,0,none⟩) 1 1/\W.heap.size<=g/\g<w.heap.size/\w.heap[g]?=some (.cells #[.int .i64 1,v1, .slice none 0 0, .int .i64 0, .int .i64 0] 31 (0,0))
 | c,2,x,w=>x = .pointer (some ⟨rb,0,none⟩)
 | c,3,x,w=>c=1->x = .int .i64 2/\RdW rb ⟨#[125]⟩ false d w
 | _,_,_,_=>True
set_option maxHeartbeats 4000000 in
theorem item_dg (rb:Nat) (d:Int) (w:World) (h:RdW rb ⟨#[91,48,45,57,93,123,50,125]⟩ false d w) :
  Calls Tryz.prog 170 #[.pointer (some ⟨rb,0,none⟩)] w λe w'=>∃x,e = .returned x/\ItD w.heap.size x w'/\RdW rb ⟨#[]⟩ false d w'/\KfR rb w w':=by
 obtain ⟨-,-,hl⟩:=h.cells;have HR:=Lib.hid h;clear h;have hne:∀k,w.heap.size<=k->k∉[rb]:=λk hk hm=>by rw[List.mem_singleton]at hm;omega
 go_enter Tryz.func170,Tryz.ntmps170
 go_wp2_with fail;refine calls_named λW0 hW0=>?_;have hb0:Below w.heap.size w W0:=by rw[hW0];exact ((Below.refl _ _).alloc (Nat.le_refl _) _).alloc (by simp) _
 have hX:W0.heap[w.heap.size+1]?=some (.cells #[.int .i64 0, .slice none 0 0, .slice none 0 0, .int .i64 0, .int .i64 0] 31 (0,0)):=by rw[hW0];simpa using heap_alloc_new (w.alloc _) (.cells #[.int .i64 0, .slice none 0 0, .slice none 0 0, .int .i64 0, .int .i64 0] 31)
 have hY:W0.heap[w.heap.size]?=some (.cells #[.int .i64 0, .slice none 0 0, .slice none 0 0, .int .i64 0, .int .i64 0] 31 (0,0)):=by rw[hW0,old_alloc _ _ _ (by simp)];exact heap_alloc_new w _
 have hz0:W0.heap.size=w.heap.size+2:=by rw[hW0];simp
 have hT1:=take_any rb _ ⟨#[91,48,45,57,93,123,50,125]⟩ ⟨#[40]⟩ false false d W0 (HR.out.later hb0) rfl rfl;have HT1:=Lib.hid hT1;have H0:=Lib.hid (And.intro hb0 (And.intro hX hY));clear hW0 hb0 hX hY hT1;refine HT1.out.mono ?_;rintro e w1 ⟨rfl,hr1,hk1⟩;have HT2:=Lib.hid (take_any rb _ ⟨#[48,45,57,93,123,50,125]⟩ ⟨#[91]⟩ false true d w1 hr1 rfl rfl);have H1:=Lib.hid hk1;clear hr1 hk1;go_wp2_with fail;refine HT2.out.mono ?_;rintro e w2 ⟨rfl,hr2,hk2⟩;have HT3:=Lib.hid (set_dg rb d w2 hr2);have hk02:=H1.out.tr hk2;have H2:=Lib.hid hk02;have hz2:=hk02.size;clear hr2 hk2 hk02;go_wp2_with fail;refine HT3.out.mono ?_;rintro e w3 ⟨v1,rfl,ho3,hr3,hk3⟩;obtain ⟨A1,c1,rfl,-,-⟩:=own_form (show w3.ownsRow _ _ _ _ _ _ from ho3);obtain ⟨n1,hn1⟩:∃n,[((48:Nat),(57:Nat))].length=n:=⟨_,rfl⟩;rw[hn1]at ho3|-;have hk03:=H2.out.tr hk3;have hX3:=(hk03.blk (w.heap.size+1) (by omega) (hne _ (by omega))).trans H0.out.2.1
 have hY3:=(hk03.blk w.heap.size (by omega) (hne _ (Nat.le_refl _))).trans H0.out.2.2
 obtain ⟨x0,x1,x2,x3,x4⟩:=cells5 hX3;have fx:∀j,j<5->w3.frozen? ⟨w.heap.size+1,j,none⟩=false:=λj _=>by simp[World.frozen?,hX3]
 have fx0:=fx 0 (by decide)
 have fx1:=fx 1 (by decide)
 have fx2:=fx 2 (by decide)
 have fx3:=fx 3 (by decide)
 have fx4:=fx 4 (by decide)
 have hz3:=hk03.size;have lX3:w.heap.size+1<w3.heap.size:=by omega
 have H3:=Lib.hid (And.intro ho3 (And.intro hr3 (And.intro hk03 (And.intro hX3 hY3))));clear ho3 hr3 hk3 hk03 hX3 hY3 fx hn1;go_wp2_with fail;refine calls_named λW4 hW4=>?_;obtain ⟨s1,s2,s3,s4⟩:=set5 hW4;have hX4:=s4 H3.out.2.2.2.1;have hY4:=(s1 w.heap.size (by omega)).trans H3.out.2.2.2.2
 have hr4:=H3.out.2.1.keep (s1 rb (by omega))
 have ho4:W4.ownsRow w2.heap.size 78 2 (.slice A1 n1 c1) _ _:=own_same H3.out.1 λg hg=>s1 g (by have:=(World.ownsRow.lt H3.out.1 g hg).1;omega)
 have HT5:=Lib.hid (take_any rb _ ⟨#[50,125]⟩ ⟨#[123]⟩ false true d W4 hr4 rfl rfl);have H4:=Lib.hid (And.intro hX4 (And.intro hY4 (And.intro (show OR 78 2 rgC w2.heap.size (.slice A1 n1 c1) [(48,57)] W4 from ho4) (And.intro s1 (And.intro s2 s3)))));clear hW4 s1 s3 s4 hX4 hY4 hr4 ho4 x0 x1 x2 x3 x4 fx0 fx1 fx2 fx3 fx4;refine HT5.out.mono ?_;rintro e W ⟨rfl,hrW,hkW⟩;have hXW:=(hkW.blk (w.heap.size+1) (by omega) (hne _ (by omega))).trans H4.out.1
 obtain ⟨m0,m1,m2,m3,m4⟩:=cells5 hXW;have hzW:=hkW.size;have lX:w.heap.size+1<W.heap.size:=by omega
 have nX:=hne (w.heap.size+1) (by omega)
 have hS0:StJ10 rb d W 0 W.drew:=⟨⟨rfl,rfl,rfl,Nat.le_refl _,λ_ _ _=>rfl,λ_ h=>.inl h⟩,λ_=>hrW⟩;have H5:=Lib.hid (And.intro hkW hXW);clear hrW hkW hXW;go_wp2_with fail;refine wp_region_chain 4 [3] (factJ10 rb d (.slice A1 n1 c1) W) (λc w'=>StJ10 rb d W c w') (by kernel_rfl) (by kernel_rfl) (by kernel_rfl) (by kernel_rfl) (by kernel_rfl) (by kernel_rfl) (by decide) hS0 ?_ ?_
 .simp only[pq4,pq5];refine HSteps.pure (by decide) ?_ (HSteps.free (by decide) ?_ (HSteps.pure (by decide) ?_ (HSteps.eff 0 rfl ?_ (HSteps.nil))))
  all_goals first | (intro v wz c hlo hS hE K hK;simp only[putAll,Act.put,pq1,pq2,pq3,Nat.zero_add,Nat.reduceAdd,pq4,pq5]at hK|-) | (intro v wz hS hE K hK;simp only[putAll,Act.put,pq1,pq2,pq3,Nat.zero_add,Nat.reduceAdd,pq4,pq5]at hK|-)
  .have y0:=(World.cell?_of_block (a:=⟨w.heap.size+1,0,none⟩) (hS.1.blk _ lX nX)).trans m0;have y1:=(World.cell?_of_block (a:=⟨w.heap.size+1,1,none⟩) (hS.1.blk _ lX nX)).trans m1;have y2:=(World.cell?_of_block (a:=⟨w.heap.size+1,2,none⟩) (hS.1.blk _ lX nX)).trans m2;have y3:=(World.cell?_of_block (a:=⟨w.heap.size+1,3,none⟩) (hS.1.blk _ lX nX)).trans m3;have y4:=(World.cell?_of_block (a:=⟨w.heap.size+1,4,none⟩) (hS.1.blk _ lX nX)).trans m4;have l1:w.heap.size+1<wz.heap.size:=by have:=hS.1.size;omega
   have HX:=Lib.hid hS;clear hS hE hlo;go_wp2_with fail;exact hK.out _ rfl
  .have e0:v 0=_:=hE.1 rfl;rw[e0]at hK|-;have hbz:Below wz.heap.size wz (wz.alloc (.cells #[.int .i64 1, .slice A1 n1 c1, .slice none 0 0, .int .i64 0, .int .i64 0] 31)):=(Below.refl _ _).alloc (Nat.le_refl _) _;have hzW:=hS.1.size;have hk1:KfR rb W (wz.alloc (.cells #[.int .i64 1, .slice A1 n1 c1, .slice none 0 0, .int .i64 0, .int .i64 0] 31)):=hS.1.tr (kfr_below hbz);have hr1:c=0->RdW rb ⟨#[50,125]⟩ false d (wz.alloc (.cells #[.int .i64 1, .slice A1 n1 c1, .slice none 0 0, .int .i64 0, .int .i64 0] 31)):=λh=>(hS.2 h).later hbz;have HX:=Lib.hid (And.intro hk1 hr1);have HBZ:=Lib.hid hbz;clear hS hE hlo hbz hk1 hr1;go_wp2_with fail;refine hK.out _ _ (λj z hj h=>?_) HX.out ⟨wz.heap.size,rfl,hzW,by simp,by simpa using heap_alloc_new wz (.cells #[.int .i64 1, .slice A1 n1 c1, .slice none 0 0, .int .i64 0, .int .i64 0] 31)⟩
   match j with
   | 0 | 2=>exact h
   | 1=>exact absurd rfl hj
   | 3=>exact λhc=>⟨(h hc).1,(h hc).2.later HBZ.out⟩
   | _+4=>exact trivial
  .have HX:=Lib.hid hS;clear hS hE hlo;go_wp2_with fail;exact hK.out _ rfl
  .have e2:v 2=_:=hE.1 rfl;rw[e2]at hK|-;have hcall:=number_2 rb d wz (hS.2 rfl);have HC:=Lib.hid hcall;have HX:=Lib.hid hS;clear hS hE hcall;go_wp2_with fail;refine HC.out.mono ?_;rintro e wy ⟨rfl,hr,hk⟩;have HP:=Lib.hid (And.intro hr hk);clear hr hk;go_wp2_with fail;refine hK.out _ _ (λj z hj h=>?_) ⟨HX.out.1.tr HP.out.2,λh=>by cases h⟩ (λ_=>⟨rfl,HP.out.1⟩)
   match j with
   | 0 | 2=>exact h
   | 1=>
    obtain ⟨g,e,h1,h2,h3⟩:=h;have hrW:=HX.out.1.size;exact ⟨g,e,h1,Nat.lt_of_lt_of_le h2 HP.out.2.size,(HP.out.2.blk g h2 (by rw[List.mem_singleton];omega)).trans h3⟩
   | 3=>exact absurd rfl hj
   | _+4=>exact trivial
 .intro v wz hS hF;have e0:v 0=_:=hF 0 (by decide)
  have e2:v 2=_:=hF 2 (by decide)
  have E1:=hF 1 (by decide)
  have E3:=hF 3 (by decide)
  simp only[putAll,Act.put,pq1,pq2,pq3,Nat.zero_add,Nat.reduceAdd,pq4,pq5,List.drop_succ_cons,List.drop_zero,e0,e2];clear hF e0 e2;obtain ⟨g1,e1',hg1,hg2,hg3⟩:=E1;obtain ⟨e3',hrz⟩:=E3 rfl;rw[e1',e3'];have hkz:=hS.1;have hXz:=(hkz.blk (w.heap.size+1) lX nX).trans H5.out.2;have hYW:=(H5.out.1.blk w.heap.size (by omega) (hne _ (Nat.le_refl _))).trans H4.out.2.1
  have hYz:=(hkz.blk w.heap.size (by omega) (hne _ (Nat.le_refl _))).trans hYW
  obtain ⟨x0,x1,x2,x3,x4⟩:=cells5 hXz;have fx:∀j,j<5->wz.frozen? ⟨w.heap.size+1,j,none⟩=false:=λj _=>by simp[World.frozen?,hXz]
  have fx0:=fx 0 (by decide)
  have fx1:=fx 1 (by decide)
  have fx2:=fx 2 (by decide)
  have fx3:=fx 3 (by decide)
  have fx4:=fx 4 (by decide)
  have hzz:=hkz.size;have lXz:w.heap.size+1<wz.heap.size:=by omega
  have ho5:OR 78 2 rgC (w.heap.size+1) (.slice A1 n1 c1) [(48,57)] wz:=by
   have hoW:=H4.out.2.2.1;have h1:=OR.keep hoW (w1:=W) λq hq=>H5.out.1.blk q (World.ownsRow.lt hoW q hq).2 (hne _ (by have:=(World.ownsRow.lt hoW q hq).1;omega))
   have h2:=OR.keep h1 (w1:=wz) λq hq=>hkz.blk q (World.ownsRow.lt h1 q hq).2 (hne _ (by have:=(World.ownsRow.lt h1 q hq).1;omega))
   exact OR.mono h2 (by omega)
  have H6:=Lib.hid (And.intro hkz (And.intro hXz (And.intro hYz (And.intro ho5 (And.intro hrz hg3)))));clear hS hkz hXz hYW hYz fx ho5 hrz hg3 e1' e3' E3 m0 m1 m2 m3 m4;go_wp2_with fail;refine calls_named λW8 hW8=>?_;obtain ⟨W7,hW7⟩:∃W7,W7=((((wz.setCell ⟨w.heap.size+1,0,none⟩ (.int .i64 4)).setCell ⟨w.heap.size+1,1,none⟩ (.slice none 0 0)).setCell ⟨w.heap.size+1,2,none⟩ (.slice (some ⟨g1,0,none⟩) 1 1)).setCell ⟨w.heap.size+1,3,none⟩ (.int .i64 2)).setCell ⟨w.heap.size+1,4,none⟩ (.int .i64 0):=⟨_,rfl⟩;rw[<-hW7]at hW8;obtain ⟨s1,s7,s3,s4⟩:=set5 hW7;have hX7:=s4 H6.out.2.1;have hX8:W8.heap[w.heap.size+1]?=some (.cells #[.int .i64 4, .slice none 0 0, .slice (some ⟨g1,0,none⟩) 1 1, .int .i64 2, .int .i64 2] 31 (0,0)):=by
   rw[hW8];have:=set_row3 hX7 4 (.int .i64 2);simpa using this
  have t1:∀k,k≠w.heap.size+1->W8.heap[k]?=wz.heap[k]?:=λk hk=>by rw[hW8];exact (Below.heap_setCell _ ⟨w.heap.size+1,4,none⟩ _ k hk).trans (s1 k hk)
  have t2:W8.heap.size=wz.heap.size:=by rw[hW8];simp[World.setCell];exact s7
  have t3:W8.os=wz.os/\W8.tape=wz.tape/\W8.output=wz.output:=by rw[hW8];exact s3
  have hr8:=H6.out.2.2.2.2.1.keep (t1 rb (by omega))
  have hY8:=(t1 w.heap.size (by omega)).trans H6.out.2.2.1
  have ho8:=OR.keep H6.out.2.2.2.1 (w1:=W8) λq hq=>t1 q (by
   intro e;obtain ⟨cs,md,h1⟩:=own_type' (show wz.ownsRow _ _ _ _ _ _ from H6.out.2.2.2.1) q hq;rw[e,H6.out.2.1]at h1;injection h1 with h1;injection h1 with _ h1 _;exact absurd h1 (by decide))
  have hg8:=(t1 g1 (by omega)).trans H6.out.2.2.2.2.2
  have HT9:=Lib.hid (take_any rb _ ⟨#[125]⟩ ⟨#[44]⟩ false false d W8 hr8 rfl rfl);have H8:=Lib.hid (And.intro hX8 (And.intro hY8 (And.intro ho8 (And.intro hg8 (And.intro t1 t3)))));clear hW7 hW8 s1 s3 s4 hX7 hX8 t1 t3 hr8 hY8 ho8 hg8 x0 x1 x2 x3 x4 fx0 fx1 fx2 fx3 fx4;refine HT9.out.mono ?_;rintro e w9 ⟨rfl,hr9,hk9⟩;have HT10:=Lib.hid (need_yes rb _ ⟨#[]⟩ ⟨#[125]⟩ false d w9 hr9 rfl rfl);have H9:=Lib.hid hk9;clear hr9 hk9;go_wp2_with fail;refine HT10.out.mono ?_;rintro e w10 ⟨rfl,hr10,hk10⟩;have hk8:=H9.out.tr hk10;have hz8:=hk8.size;have hX10:=(hk8.blk (w.heap.size+1) (by omega) (hne _ (by omega))).trans H8.out.1
  have hY10:=(hk8.blk w.heap.size (by omega) (hne _ (Nat.le_refl _))).trans H8.out.2.1
  obtain ⟨x0,x1,x2,x3,x4⟩:=cells5 hX10;obtain ⟨y0,y1,y2,y3,y4⟩:=cells5 hY10;have fy:∀j,j<5->w10.frozen? ⟨w.heap.size,j,none⟩=false:=λj _=>by simp[World.frozen?,hY10]
  have fy0:=fy 0 (by decide)
  have fy1:=fy 1 (by decide)
  have fy2:=fy 2 (by decide)
  have fy3:=fy 3 (by decide)
  have fy4:=fy 4 (by decide)
  have l10:w.heap.size+1<w10.heap.size:=by omega
  have l100:w.heap.size<w10.heap.size:=by omega
  have H10:=Lib.hid (And.intro hr10 hk8);clear hr10 hk10 hk8 hX10 hY10 fy;go_wp2_with fail;refine post_named λWf hWf=>?_;obtain ⟨u1,u2,u3,-⟩:=set5 hWf;refine bodyPost_ret (v:=.agg #[.int .i64 4, .slice none 0 0, .slice (some ⟨g1,0,none⟩) 1 1, .int .i64 2, .int .i64 2]) (by rw[hWf];simp[results,Tryz.results170,go_sem,y0,y1,y2,y3,y4,l100];try rfl) rfl ?_
  have hkf:KeepF [rb,w.heap.size] [] w10 Wf:=⟨u3.1,u3.2.1,u3.2.2,by omega,λk _ hn=>u1 k (λe=>hn (by simp[e])),λk hk=>by cases hk⟩
  have hit8:ItD (w.heap.size+1) (.agg #[.int .i64 4, .slice none 0 0, .slice (some ⟨g1,0,none⟩) 1 1, .int .i64 2, .int .i64 2]) W8:=⟨g1, .slice A1 n1 c1,rfl,by omega,H8.out.2.2.2.1,H8.out.2.2.1⟩
  have hitf:=(hit8.keep H10.out.2 (λk hk=>by rw[List.mem_singleton]at hk;omega)).keep hkf (λk hk=>by simp at hk;omega)
  have hs1:=H4.out.2.2.2.1;have hs2:=H4.out.2.2.2.2.2;have ht1:=H8.out.2.2.2.2.1;have ht3:=H8.out.2.2.2.2.2;have k1:=H3.out.2.2.1;have k2:=H5.out.1;have k3:=H6.out.1;have k4:=H10.out.2;have kb:=H0.out.1;refine ⟨_,rfl,hitf.mono (by omega),H10.out.1.keep (u1 rb (by omega)),?_⟩
  refine ⟨?_,?_,?_,by omega,λk hk hn=>?_,λk hk=>.inl hk⟩
  .rw[u3.1,k4.os,ht3.1,k3.os,k2.os,hs2.1,k1.os,kb.os]
  .rw[u3.2.1,k4.tape,ht3.2.1,k3.tape,k2.tape,hs2.2.1,k1.tape,kb.tape]
  .rw[u3.2.2,k4.output,ht3.2.2,k3.output,k2.output,hs2.2.2,k1.output,kb.output]
  .rw[u1 k (by omega),k4.blk k (by omega) hn,ht1 k (by omega),k3.blk k (by omega) hn,k2.blk k (by omega) hn,hs1 k (by omega),k1.blk k (by omega) hn,kb.block k hk]
def ItN (B:Nat) (x:Value) (nd:Nd) (w:World):Prop:=∃u:N5,x = .agg #[.int .i64 u.op, .slice u.a1 u.n1 u.c1, .slice u.a2 u.n2 u.c2, .int .i64 u.mn, .int .i64 u.mx]/\NdUp B w u.cs nd
theorem ItN.keep {B:Nat} {x:Value} {nd:Nd} {w w':World} {L L':List Nat} (h:ItN B x nd w) (hk:KeepF L L' w w') (hL:∀k∈L,k<B):ItN B x nd w':=by
 obtain ⟨u,h1,h2⟩:=h;exact ⟨u,h1,h2.keep hk hL⟩
theorem ItN.mono {B B':Nat} {x:Value} {nd:Nd} {w:World} (h:ItN B x nd w) (hB:B'<=B):ItN B' x nd w:=by
 obtain ⟨u,h1,h2⟩:=h;exact ⟨u,h1,h2.mono hB⟩
theorem RgUp.of_OR' {w:World} {B:Nat} {v:Value} {l:List (Nat×Nat)} (h:OR 78 2 rgC B v l w) (hb:∀r∈l,r.1<256/\r.2<256):∀W,KeepF (List.range B) [] w W->RgIn W v l:=λW hk=>
 RgIn.of_OR (OR.keep h λq hq=>hk.blk q (World.ownsRow.lt h q hq).2 (λhm=>by have:=List.mem_range.1 hm;have:=(World.ownsRow.lt h q hq).1;omega)) hb
def chN (c:Nat):Nd:=.mk 1 [(c,c)] [] 0 0
theorem ItN.ch {B g c:Nat} {w:World} (hB:B<=g) (hc:c<256) (hg:w.heap[g]?=some (.cells #[.int .u8 (c:Int), .int .u8 (c:Int)] 78 (0,0))):ItN B (.agg #[.int .i64 1, .slice (some ⟨g,0,none⟩) 1 1, .slice none 0 0, .int .i64 0, .int .i64 0]) (chN c) w:=by
 have hlt:=(Array.getElem?_eq_some_iff.1 hg).1;refine ⟨⟨1,some ⟨g,0,none⟩,1,1,none,0,0,0,0⟩,rfl,NdUp.set λW hk=>?_⟩;have hW:W.heap[g]?=some (.cells #[.int .u8 (c:Int), .int .u8 (c:Int)] 78 (0,0)):=(hk.blk g hlt (λhm=>by have:=List.mem_range.1 hm;omega)).trans hg
 refine ⟨some ⟨g,0,none⟩,1,rfl,⟨Nat.le_refl _,by decide⟩, .inr ⟨g,0,rfl,Nat.lt_of_lt_of_le hlt hk.size,λi hi=>?_⟩⟩
 have hi0:i=0:=by simp at hi;omega
 subst hi0;exact ⟨⟨by rw[cell_of_row _ _ _ _ _ _ hW];rfl,by rw[cell_of_row _ _ _ _ _ _ hW];rfl⟩,hc,hc⟩
theorem more_yes (rb:Nat) (t:ByteArray) (c:Nat) (wr:Bool) (d:Int) (w:World) (h:RdW rb t wr d w) (hsz:1<=t.size) (hidx:∀w,(Instr.index 9 (.string t) (.int .i64 0)).run Tryz.prog w = .ok (.int .u8 (c:Int)) w) (h1:c≠124) (h2:c≠41) :
  Calls Tryz.prog 171 #[.pointer (some ⟨rb,0,none⟩)] w λe w'=>e = .returned (.bool true)/\RdW rb t wr d w'/\KfR rb w w':=by
 obtain ⟨⟨c0,c1,c2⟩,⟨f0,f1,f2⟩,hl⟩:=h.cells;have HR:=Lib.hid h;clear h;have hne:¬t.toList=[]:=λh=>by
  rw[ByteArray.toList_eq]at h;have h2:t.data.toList.length=0:=by rw[h];rfl
  have h3:t.size=t.data.toList.length:=by unfold ByteArray.size;exact Array.length_toList.symm
  omega
 have hsz2:(1:Int)<=(t.size:Int):=by omega
 have hne2:t.toList.isEmpty=false:=by simpa using hne
 have n1:¬(c:Int)=124:=by omega
 have n2:¬(c:Int)=41:=by omega
 go_enter Tryz.func171,Tryz.ntmps171
 go_wp2_with fail;refine post_named λWf hWf=>?_;subst hWf;refine bodyPost_ret (v:=.bool true) (by simp[results,Tryz.results171,go_sem];first | done | exact ⟨n1,n2⟩ | rfl) rfl ?_
 exact ⟨rfl,HR.out,kfr_refl _ _⟩
set_option maxHeartbeats 4000000 in
theorem item_ch (rb:Nat) (t t':ByteArray) (c:Nat) (d:Int) (w:World) (h:RdW rb t false d w) (hc:c<256)
  (p1:(⟨(Lib.trimPrefix t.data.toList [40]).toArray⟩:ByteArray)=t) (q1:Lib.hasPrefix t.data.toList [40]=false) (p2:(⟨(Lib.trimPrefix t.data.toList [91]).toArray⟩:ByteArray)=t) (q2:Lib.hasPrefix t.data.toList [91]=false)
  (h1:(⟨(Lib.trimPrefix t.data.toList [92,120]).toArray⟩:ByteArray)=t) (h2:Lib.hasPrefix t.data.toList [92,120]=false)
  (hsz:1<=t.size) (ht':t.extract 1 t.size=t') (hidx:∀w,(Instr.index 9 (.string t) (.int .i64 0)).run Tryz.prog w = .ok (.int .u8 (c:Int)) w) (hib:Lib.indexByte [92,91,93,40,41,123,125,124,45] c.toUInt8=-1)
  (p3:(⟨(Lib.trimPrefix t'.data.toList [123]).toArray⟩:ByteArray)=t') (q3:Lib.hasPrefix t'.data.toList [123]=false) :
  Calls Tryz.prog 170 #[.pointer (some ⟨rb,0,none⟩)] w λe w'=>∃x,e = .returned x/\ItN w.heap.size x (chN c) w'/\RdW rb t' false d w'/\KfR rb w w':=by
 obtain ⟨-,-,hl⟩:=h.cells;have HR:=Lib.hid h;clear h;have hne:∀k,w.heap.size<=k->k∉[rb]:=λk hk hm=>by rw[List.mem_singleton]at hm;omega
 go_enter Tryz.func170,Tryz.ntmps170
 go_wp2_with fail;refine calls_named λW0 hW0=>?_;have hb0:Below w.heap.size w W0:=by rw[hW0];exact ((Below.refl _ _).alloc (Nat.le_refl _) _).alloc (by simp) _
 have hX:W0.heap[w.heap.size+1]?=some (.cells #[.int .i64 0, .slice none 0 0, .slice none 0 0, .int .i64 0, .int .i64 0] 31 (0,0)):=by rw[hW0];simpa using heap_alloc_new (w.alloc _) (.cells #[.int .i64 0, .slice none 0 0, .slice none 0 0, .int .i64 0, .int .i64 0] 31)
 have hY:W0.heap[w.heap.size]?=some (.cells #[.int .i64 0, .slice none 0 0, .slice none 0 0, .int .i64 0, .int .i64 0] 31 (0,0)):=by rw[hW0,old_alloc _ _ _ (by simp)];exact heap_alloc_new w _
 have hz0:W0.heap.size=w.heap.size+2:=by rw[hW0];simp
 have hT1:=take_any rb t t ⟨#[40]⟩ false false d W0 (HR.out.later hb0) p1 q1;have HT1:=Lib.hid hT1;have H0:=Lib.hid (And.intro hb0 (And.intro hX hY));clear hW0 hb0 hX hY hT1;refine HT1.out.mono ?_;rintro e w1 ⟨rfl,hr1,hk1⟩;have HT2:=Lib.hid (take_any rb t t ⟨#[91]⟩ false false d w1 hr1 p2 q2);have H1:=Lib.hid hk1;clear hr1 hk1;go_wp2_with fail;refine HT2.out.mono ?_;rintro e w2 ⟨rfl,hr2,hk2⟩;have HT3:=Lib.hid (one_at rb t t' c false d w2 hr2 h1 h2 hsz ht' hidx hib);have hk02:=H1.out.tr hk2;have H2:=Lib.hid hk02;have hz2:=hk02.size;clear hr2 hk2 hk02;go_wp2_with fail;refine HT3.out.mono ?_;rintro e w3 ⟨rfl,hr3,hk3⟩;have hk03:=H2.out.tr hk3;have hX3:=(hk03.blk (w.heap.size+1) (by omega) (hne _ (by omega))).trans H0.out.2.1
 have hY3:=(hk03.blk w.heap.size (by omega) (hne _ (Nat.le_refl _))).trans H0.out.2.2
 obtain ⟨x0,x1,x2,x3,x4⟩:=cells5 hX3;have fx:∀j,j<5->w3.frozen? ⟨w.heap.size+1,j,none⟩=false:=λj _=>by simp[World.frozen?,hX3]
 have fx0:=fx 0 (by decide)
 have fx1:=fx 1 (by decide)
 have fx2:=fx 2 (by decide)
 have fx3:=fx 3 (by decide)
 have fx4:=fx 4 (by decide)
 have hz3:=hk03.size;have lX3:w.heap.size+1<w3.heap.size:=by omega
 have lX4:w.heap.size+1<w3.heap.size+1:=by omega
 have nX4:¬w3.heap.size=w.heap.size+1:=by omega
 have H3:=Lib.hid (And.intro hr3 (And.intro hk03 (And.intro hX3 hY3)));clear hr3 hk3 hk03 hX3 hY3 fx;go_wp2_with fail;refine calls_named λW5 hW5=>?_;obtain ⟨W4,hW4⟩:∃W,W=((((w3.setCell ⟨w.heap.size+1,0,none⟩ (.int .i64 1)).setCell ⟨w.heap.size+1,1,none⟩ (.slice (some ⟨w3.heap.size,0,none⟩) 1 1)).setCell ⟨w.heap.size+1,2,none⟩ (.slice none 0 0)).setCell ⟨w.heap.size+1,3,none⟩ (.int .i64 0)).setCell ⟨w.heap.size+1,4,none⟩ (.int .i64 0):=⟨_,rfl⟩;rw[<-hW4]at hW5;obtain ⟨s1,s2,s3,s4⟩:=set5 hW4;have hb5:Below W4.heap.size W4 W5:=by rw[hW5];exact (Below.refl _ _).alloc (Nat.le_refl _) _
 have hX5:=(hb5.block (w.heap.size+1) (by omega)).trans (s4 H3.out.2.2.1)
 have hY5:=(hb5.block w.heap.size (by omega)).trans ((s1 w.heap.size (by omega)).trans H3.out.2.2.2)
 have hg5:W5.heap[w3.heap.size]?=some (.cells #[.int .u8 (c:Int), .int .u8 (c:Int)] 78 (0,0)):=by
  rw[hW5,<-s2];exact heap_alloc_new W4 _
 have hz5:W5.heap.size=w3.heap.size+1:=by rw[hW5];simp[s2]
 have hr5:=(H3.out.1.keep (s1 rb (by omega))).later hb5
 have hit5:=ItN.ch (B:=w3.heap.size) (Nat.le_refl _) hc hg5;have hk35:∀k,k<w3.heap.size->k≠w.heap.size+1->W5.heap[k]?=w3.heap[k]?:=λk hk hn=>(hb5.block k (by omega)).trans (s1 k hn)
 have ho5:W5.os=w3.os/\W5.tape=w3.tape/\W5.output=w3.output:=⟨hb5.os.trans s3.1,hb5.tape.trans s3.2.1,hb5.output.trans s3.2.2⟩;have HT5:=Lib.hid (take_any rb t' t' ⟨#[123]⟩ false false d W5 hr5 p3 q3);have H5:=Lib.hid (And.intro hX5 (And.intro hY5 (And.intro hit5 (And.intro hk35 ho5))));clear hW4 hW5 s1 s3 s4 hb5 hX5 hY5 hg5 hr5 hit5 hk35 ho5 x0 x1 x2 x3 x4 fx0 fx1 fx2 fx3 fx4;refine HT5.out.mono ?_;rintro e w6 ⟨rfl,hr6,hk6⟩;have hz6:=hk6.size;have hX6:=(hk6.blk (w.heap.size+1) (by omega) (hne _ (by omega))).trans H5.out.1
 have hY6:=(hk6.blk w.heap.size (by omega) (hne _ (Nat.le_refl _))).trans H5.out.2.1
 obtain ⟨x0,x1,x2,x3,x4⟩:=cells5 hX6;obtain ⟨y0,y1,y2,y3,y4⟩:=cells5 hY6;have fy:∀j,j<5->w6.frozen? ⟨w.heap.size,j,none⟩=false:=λj _=>by simp[World.frozen?,hY6]
 have fy0:=fy 0 (by decide)
 have fy1:=fy 1 (by decide)
 have fy2:=fy 2 (by decide)
 have fy3:=fy 3 (by decide)
 have fy4:=fy 4 (by decide)
 have l6:w.heap.size+1<w6.heap.size:=by omega
 have l60:w.heap.size<w6.heap.size:=by omega
 have H6:=Lib.hid (And.intro hr6 hk6);clear hr6 hk6 hX6 hY6 fy;go_wp2_with fail;refine post_named λWf hWf=>?_;obtain ⟨u1,u2,u3,-⟩:=set5 hWf;refine bodyPost_ret (v:=.agg #[.int .i64 1, .slice (some ⟨w3.heap.size,0,none⟩) 1 1, .slice none 0 0, .int .i64 0, .int .i64 0]) (by rw[hWf];simp[results,Tryz.results170,go_sem,y0,y1,y2,y3,y4,l60];try rfl) rfl ?_
 have hkf:KeepF [rb,w.heap.size] [] w6 Wf:=⟨u3.1,u3.2.1,u3.2.2,by omega,λk _ hn=>u1 k (λe=>hn (by simp[e])),λk hk=>by cases hk⟩
 have hitf:=(H5.out.2.2.1.keep H6.out.2 (λk hk=>by rw[List.mem_singleton]at hk;omega)).keep hkf (λk hk=>by simp at hk;omega)
 have k1:=H3.out.2.1;have k2:=H5.out.2.2.2.1;have o2:=H5.out.2.2.2.2;have k4:=H6.out.2;have kb:=H0.out.1;refine ⟨_,rfl,hitf.mono (by omega),H6.out.1.keep (u1 rb (by omega)),?_⟩
 refine ⟨?_,?_,?_,by omega,λk hk hn=>?_,λk hk=>.inl hk⟩
 .rw[u3.1,k4.os,o2.1,k1.os,kb.os]
 .rw[u3.2.1,k4.tape,o2.2.1,k1.tape,kb.tape]
 .rw[u3.2.2,k4.output,o2.2.2,k1.output,kb.output]
 .rw[u1 k (by omega),k4.blk k (by omega) hn,k2 k (by omega) (by omega),k1.blk k (by omega) hn,kb.block k hk]
def dgN:Nd:=.mk 4 [] [.mk 1 [(48,57)] [] 0 0] 2 2
theorem ItD.nd {B:Nat} {x:Value} {w:World} (h:ItD B x w):ItN B x dgN w:=by
 obtain ⟨g,v,rfl,hB,hg,ho⟩:=h;have hlt:=(Array.getElem?_eq_some_iff.1 hg).1;refine ⟨⟨4,none,0,0,some ⟨g,0,none⟩,1,1,2,2⟩,rfl,λW hk=>?_⟩;have hW:=(hk.blk g hlt (λhm=>by have:=List.mem_range.1 hm;omega)).trans hg
 refine ⟨_,_,rfl,⟨none,0,rfl,⟨Nat.le_refl _,by decide⟩, .inl rfl⟩,some ⟨g,0,none⟩,1,rfl,⟨Nat.le_refl _,by decide⟩, .inr ⟨g,0,rfl,Nat.lt_of_lt_of_le hlt hk.size,kdsMk λi hi=>?_⟩⟩
 have hi0:i=0:=by simp at hi;omega
 subst hi0;refine ⟨[.int .i64 1,v, .slice none 0 0, .int .i64 0, .int .i64 0],λj hj=>?_,NdUp.set (B:=B) (w:=w) (RgUp.of_OR' ho (λr hr=>by simp at hr;subst hr;decide)) W hk⟩
 rw[cell_of_row _ _ _ _ _ _ hW]
 match j,hj with
 | 0,_ | 1,_ | 2,_ | 3,_ | 4,_=>rfl
def ListN (rb:Nat) (d:Int) (w:World) (nd:Nd) (e:Ending) (w':World):Prop:=∃x,e = .returned x/\ItN w.heap.size x nd w'/\RdW rb ⟨#[]⟩ false d w'/\KfR rb w w'
theorem KfR.kf0 {rb:Nat} {a b:World} (h:KfR rb a b):KeepF [rb] [] a b:=⟨h.os,h.tape,h.output,h.size,h.blk,λk hk=>by cases hk⟩
theorem KeepF.kf00 {L L':List Nat} {a b:World} (h:KeepF L L' a b):KeepF L [] a b:=⟨h.os,h.tape,h.output,h.size,h.blk,λk hk=>by cases hk⟩
def kidsAt (X:Nat) (w:World):Nat:=match w.cell? ⟨X,2,none⟩ with | some (.slice _ k _)=>k | _=>0
structure LsI (rb:Nat) (d:Int) (op:Int) (T:Nat->ByteArray) (N:Nat->Nd) (w:World) (B X i:Nat) (A:Option Addr) (c:Nat) (us:List N5) (wr:World):Prop where
 rd:RdW rb (T i) false d wr
 kf:KfR rb w wr
 hY:wr.heap[w.heap.size]?=some (.cells #[.int .i64 0, .slice none 0 0, .slice none 0 0, .int .i64 0, .int .i64 0] 31 (0,0))
 hX:wr.heap[X]?=some (.cells #[.int .i64 op, .slice none 0 0, .slice A i c, .int .i64 0, .int .i64 0] 31 (0,0))
 own:OR 31 5 N5.cs B (.slice A i c) us wr
 ne:∀g,(Value.slice A i c).ownBlock=some g->g≠X
 len:us.length=i
 kids:∀j (h:j<us.length),NdUL (List.range (w.heap.size+1)++[X]++blk (.slice A i c)) wr us[j].cs (N j)
theorem LsI.at_ {rb:Nat} {d op:Int} {T:Nat->ByteArray} {N:Nat->Nd} {w:World} {B X i:Nat} {A:Option Addr} {c:Nat} {us:List N5} {wr:World} (h:LsI rb d op T N w B X i A c us wr):kidsAt X wr=i:=by
 unfold kidsAt;rw[show wr.cell? ⟨X,2,none⟩=some (.slice A i c) from (cells5 h.hX).2.2.1]
theorem LsI.named {rb:Nat} {d op:Int} {T:Nat->ByteArray} {N:Nat->Nd} {w:World} {B X i:Nat} {A:Option Addr} {c:Nat} {us:List N5} {wr:World} (h:∀W,W=wr->LsI rb d op T N w B X i A c us W):LsI rb d op T N w B X i A c us wr:=h _ rfl
def ListStep (rb:Nat) (d:Int) (T:Nat->ByteArray) (X i:Nat) (bl:List Nat) (W:World) (c:Nat) (w':World):Prop:=KeepF (rb::bl) [] W w'/\(c<=1->KfR rb W w')/\(c=0->RdW rb (T i) false d w')/\(1<=c->RdW rb (T (i+1)) false d w')
def factLs (X i:Nat) (A:Option Addr) (cA:Nat) (B rb:Nat) (L:List Nat) (us:List N5) (nd:Nd) (W:World):Nat->Nat->Value->World->Prop
 | _,0,x,_=>x = .pointer (some ⟨X,2,none⟩)
 | _,1,x,_=>x = .slice A i cA
 | _,2,x,_=>x = .func (.func 170) #[.pointer (some ⟨rb,0,none⟩)] #[]
 | c,3,x,w=>c<=1->∃u:N5,x = .agg #[.int .i64 u.op, .slice u.a1 u.n1 u.c1, .slice u.a2 u.n2 u.c2, .int .i64 u.mn, .int .i64 u.mx]/\NdUL (L++blk (.slice A i cA)) w u.cs nd
 | c,4,x,w=>c<=1->∃(u:N5) (g:Nat),x = .slice (some ⟨g,0,none⟩) 1 1/\W.heap.size<=g/\w.heap[g]?=some (.cells #[.int .i64 u.op, .slice u.a1 u.n1 u.c1, .slice u.a2 u.n2 u.c2, .int .i64 u.mn, .int .i64 u.mx] 31 (0,0))/\NdUL (L++blk (.slice A i cA)) w u.cs nd
 | c,5,x,w=>2<=c->∃(u:N5) (A':Option Addr) (c':Nat),x = .slice A' (i+1) c'/\w.ownsRow B 31 5 x (i+1) (rowF N5.cs us++N5.cs u)/\(x.ownBlock=(Value.slice A i cA).ownBlock\/∃g,x.ownBlock=some g/\W.heap.size<=g)/\NdUL (L++blk x) w u.cs nd
 | _,6,x,_=>x = .pointer (some ⟨X,2,none⟩)
 | _,_,_,_=>True
theorem kf_setX {L:List Nat} {w w':World} {b j:Nat} {v:Value} (h:KeepF L [] w w') (hb:b∈L):KeepF L [] w (w'.setCell ⟨b,j,none⟩ v):=
 ⟨h.os,h.tape,h.output,by simpa [World.setCell] using h.size,λk hk hn=>(Below.heap_setCell _ ⟨b,j,none⟩ _ k (λe=>hn (e▸hb))).trans (h.blk k hk hn),λk hk=>by cases hk⟩
theorem ListStep.later {rb:Nat} {d:Int} {T:Nat->ByteArray} {X i:Nat} {bl:List Nat} {W:World} {c:Nat} {w1 w2:World} (h:ListStep rb d T X i bl W c w1) (hb:Below w1.heap.size w1 w2):ListStep rb d T X i bl W c w2:=
 ⟨h.1.tr ((KeepF.of_below (fp:=rb::bl) hb).kf00),λhc=>(h.2.1 hc).tr (kfr_below hb),λhc=>(h.2.2.1 hc).later hb,λhc=>(h.2.2.2 hc).later hb⟩
set_option maxHeartbeats 4000000 in
theorem list_many (rb n:Nat) (d:Int) (T:Nat->ByteArray) (N:Nat->Nd) (hT:T n=⟨#[]⟩) (hn:2<=n/\n<=100)
  (hit:∀i,i<n->∀w,RdW rb (T i) false d w->Calls Tryz.prog 170 #[.pointer (some ⟨rb,0,none⟩)] w λe w'=>∃x,e = .returned x/\ItN w.heap.size x (N i) w'/\RdW rb (T (i+1)) false d w'/\KfR rb w w')
  (hmo:∀i,0<i->i<n->∀w,RdW rb (T i) false d w->Calls Tryz.prog 171 #[.pointer (some ⟨rb,0,none⟩)] w λe w'=>e = .returned (.bool true)/\RdW rb (T i) false d w'/\KfR rb w w')
  (w:World) (h:RdW rb (T 0) false d w) :
  Calls Tryz.prog 137 #[.pointer (some ⟨rb,0,none⟩), .int .i64 2, .func (.func 170) #[.pointer (some ⟨rb,0,none⟩)] #[], .func (.func 171) #[.pointer (some ⟨rb,0,none⟩)] #[]] w (ListN rb d w (.mk 2 [] ((List.range n).map N) 0 0)):=by
 obtain ⟨-,-,hl⟩:=h.cells;have HR:=Lib.hid h;have HIT:=Lib.hid hit;have HMO:=Lib.hid hmo;have HTN:=Lib.hid hT;clear h hit hmo hT;have hne:∀k,w.heap.size<=k->k∉[rb]:=λk hk hm=>by rw[List.mem_singleton]at hm;omega
 go_enter Tryz.func137,Tryz.ntmps137
 go_wp2_with fail;refine calls_named λW0 hW0=>?_;have hb0:Below w.heap.size w W0:=by rw[hW0];exact (Below.refl _ _).alloc (Nat.le_refl _) _
 have hY:W0.heap[w.heap.size]?=some (.cells #[.int .i64 0, .slice none 0 0, .slice none 0 0, .int .i64 0, .int .i64 0] 31 (0,0)):=by rw[hW0];exact heap_alloc_new w _
 have hz0:W0.heap.size=w.heap.size+1:=by rw[hW0];simp
 have HT1:=Lib.hid (HIT.out 0 (by omega) W0 (HR.out.later hb0))
 have H0:=Lib.hid (And.intro hb0 hY);clear hW0 hb0 hY;refine HT1.out.mono ?_;rintro e w1 ⟨x,rfl,⟨u,rfl,hup⟩,hr1,hk1⟩;obtain ⟨u0,u1,u2,u3,u4,u5,u6,u7,u8⟩:=u;have hz1:=hk1.size;have hY1:=(hk1.blk w.heap.size (by omega) (hne _ (Nat.le_refl _))).trans H0.out.2
 have H1:=Lib.hid (And.intro hup (And.intro hr1 (And.intro hk1 hY1)));clear hup hr1 hk1 hY1;simp only;go_wp2_with fail
 go_loopw [] (λwr=>∃(i:Nat) (A:Option Addr) (c:Nat) (us:List N5),1<=i/\i<=n/\Hid (LsI rb d 2 T N w w1.heap.size (w1.heap.size+1) i A c us wr)) (λwr=>n-kidsAt (w1.heap.size+1) wr)
 case atStart=>
  refine ⟨1,some ⟨w1.heap.size,0,none⟩,1,[⟨u0,u1,u2,u3,u4,u5,u6,u7,u8⟩],Nat.le_refl _,by omega,Lib.hid ?_⟩
  refine LsI.named λW2 hW2=>?_;have hb2:Below w1.heap.size w1 W2:=by rw[hW2];exact ((Below.refl _ _).alloc (Nat.le_refl _) _).alloc (by simp) _
  have hK2:W2.heap[w1.heap.size]?=some (.cells #[.int .i64 u0, .slice u1 u2 u3, .slice u4 u5 u6, .int .i64 u7, .int .i64 u8] 31 (0,0)):=by rw[hW2,old_alloc _ _ _ (by simp)];exact heap_alloc_new w1 _
  have hL2:W2.heap[w1.heap.size+1]?=some (.cells #[.int .i64 2, .slice none 0 0, .slice (some ⟨w1.heap.size,0,none⟩) 1 1, .int .i64 0, .int .i64 0] 31 (0,0)):=by
   rw[hW2];simpa using heap_alloc_new (w1.alloc (.cells #[.int .i64 u0, .slice u1 u2 u3, .slice u4 u5 u6, .int .i64 u7, .int .i64 u8] 31)) (.cells #[.int .i64 2, .slice none 0 0, .slice (some ⟨w1.heap.size,0,none⟩) 1 1, .int .i64 0, .int .i64 0] 31)
  refine ⟨H1.out.2.1.later hb2,((kfr_below H0.out.1).tr H1.out.2.2.1).tr (kfr_below hb2),(hb2.block _ (by omega)).trans H1.out.2.2.2,hL2,⟨rfl, .inr ⟨w1.heap.size,1,_,rfl,Nat.le_refl _,hK2,Nat.le_refl _,by decide,rfl,rfl⟩⟩,λg e=>by simp[Value.ownBlock]at e;omega,rfl,λj hj=>?_⟩
  have hj0:j=0:=by simp at hj;omega
  subst hj0;refine NdUL.next (L:=List.range W0.heap.size) H1.out.1 (KeepF.of_below (fp:=List.range W0.heap.size) hb2).kf00 (λk hk=>?_);simp[blk,Value.ownBlock]at hk;rcases hk with hk | rfl | rfl
  .exact .inl (List.mem_range.2 (by omega))
  .exact .inr (by omega)
  .exact .inr (Nat.le_refl _)
 case round=>
  obtain ⟨i,A,c,us,hi1,hin,HS⟩:=hrel;obtain ⟨⟨c0,c1,c2⟩,-,lr1⟩:=HS.out.rd.cells;have hrs:=HS.out.rd;by_cases hlt:i<n
  .have HM:=Lib.hid (HMO.out i (by omega) hlt wr hrs)
   clear hrs;go_wp2_with fail;refine HM.out.mono ?_;rintro e W ⟨rfl,hrW,hkW⟩;have hXW:=(hkW.blk (w1.heap.size+1) (Array.getElem?_eq_some_iff.1 HS.out.hX).1 (hne _ (by have:=H0.out.1.size;omega))).trans HS.out.hX
   obtain ⟨x0,x1,x2,x3,x4⟩:=cells5 hXW;have lX:=(Array.getElem?_eq_some_iff.1 hXW).1;have hownW:OR 31 5 N5.cs w1.heap.size (.slice A i c) us W:=HS.out.own.keep λg hg=>hkW.blk g (World.ownsRow.lt HS.out.own g hg).2 (hne _ (by have:=(World.ownsRow.lt HS.out.own g hg).1;have:=H0.out.1.size;omega))
   have hS0:ListStep rb d T (w1.heap.size+1) i (blk (.slice A i c)) W 0 W.drew:=⟨⟨rfl,rfl,rfl,Nat.le_refl _,λ_ _ _=>rfl,λk hk=>by cases hk⟩,λ_=>⟨rfl,rfl,rfl,Nat.le_refl _,λ_ _ _=>rfl,λ_ h=>.inl h⟩,λ_=>hrW,λh=>by omega⟩
   have H2:=Lib.hid (And.intro hkW (And.intro hXW hownW));have hwz1:=H0.out.1.size;have hLB:∀k∈List.range (w.heap.size+1)++[w1.heap.size+1]++blk (.slice A i c),k<W.heap.size:=λk hk=>by
    rcases List.mem_append.1 hk with hk | hk
    .rcases List.mem_append.1 hk with hk | hk
     .have:=List.mem_range.1 hk;omega
     .rw[List.mem_singleton]at hk;omega
    .exact (World.ownsRow.lt hownW k (mem_blk.1 hk)).2
   have hnX:w1.heap.size+1∉rb::blk (.slice A i c):=λhm=>by
    rcases List.mem_cons.1 hm with e | hm
    .omega
    .exact HS.out.ne _ (mem_blk.1 hm) rfl
   have HLB:=Lib.hid hLB;have HNX:=Lib.hid hnX;have HRB:=Lib.hid (show rb∈List.range (w.heap.size+1)++[w1.heap.size+1]++blk (.slice A i c) from List.mem_append_left _ (List.mem_append_left _ (List.mem_range.2 (by omega))))
   clear hLB hnX;clear hrW hkW hXW hownW c0 c1 c2;go_wp2_with fail;refine wp_region_chain 7 [3,5] (factLs (w1.heap.size+1) i A c w1.heap.size rb (List.range (w.heap.size+1)++[w1.heap.size+1]) us (N i) W) (λc' w'=>ListStep rb d T (w1.heap.size+1) i (blk (.slice A i c)) W c' w') (by kernel_rfl) (by kernel_rfl) (by kernel_rfl) (by kernel_rfl) (by kernel_rfl) (by kernel_rfl) (by decide) hS0 ?_ ?_
   .simp only[pq4,pq5];refine HSteps.pure (by decide) ?_ (HSteps.pure (by decide) ?_ (HSteps.pure (by decide) ?_ (HSteps.eff 0 rfl ?_ (HSteps.free (by decide) ?_ (HSteps.eff 1 rfl ?_ (HSteps.pure (by decide) ?_ (HSteps.nil)))))))
    .intro v wz c' hlo hS hE K hK;simp only[putAll,Act.put,pq1,pq2,pq3,Nat.zero_add,Nat.reduceAdd,pq4,pq5]at hK|-;have HX:=Lib.hid hS;clear hS hE hlo;go_wp2_with fail;exact hK.out _ rfl
    .intro v wz c' hlo hS hE K hK;simp only[putAll,Act.put,pq1,pq2,pq3,Nat.zero_add,Nat.reduceAdd,pq4,pq5]at hK|-;have e0:v 0=_:=hE.1 rfl;rw[e0]at hK|-;have y2:=(World.cell?_of_block (a:=⟨w1.heap.size+1,2,none⟩) (hS.1.blk _ lX HNX.out)).trans x2;have l1:w1.heap.size+1<wz.heap.size:=by have:=hS.1.size;omega
     have HX:=Lib.hid hS;clear hS hE hlo;go_wp2_with fail;exact hK.out _ rfl
    .intro v wz c' hlo hS hE K hK;simp only[putAll,Act.put,pq1,pq2,pq3,Nat.zero_add,Nat.reduceAdd,pq4,pq5]at hK|-;have HX:=Lib.hid hS;clear hS hE hlo;go_wp2_with fail;exact hK.out _ rfl
    .intro v wz hS hE K hK;simp only[putAll,Act.put,pq1,pq2,pq3,Nat.zero_add,Nat.reduceAdd,pq4,pq5]at hK|-;have e2:v 2=_:=hE.1 rfl;rw[e2]at hK|-;have HC:=Lib.hid (HIT.out i hlt wz (hS.2.2.1 rfl));have hzW:=hS.1.size;have HX:=Lib.hid hS;clear hS hE;go_wp2_with fail;refine HC.out.mono ?_;rintro e wy ⟨x,rfl,⟨u,rfl,hup⟩,hr,hk⟩;have HP:=Lib.hid (And.intro hup (And.intro hr hk));clear hup hr hk;go_wp2_with fail;refine hK.out _ _ (λj z hj h=>?_) ⟨HX.out.1.tr (kf_sub HP.out.2.2.kf0 (λk hk=>by rw[List.mem_singleton]at hk;simp[hk])),λ_=>(HX.out.2.1 (by omega)).tr HP.out.2.2,λh=>absurd h (by decide),λ_=>HP.out.2.1⟩ (λ_=>⟨u,rfl,NdUL.next (L:=List.range wz.heap.size) HP.out.1 (KeepF.refl _ _).kf00 (λk hk=>.inl (List.mem_range.2 (Nat.lt_of_lt_of_le (HLB.out k hk) hzW)))⟩)
     match j with
     | 0 | 1 | 2 | 6=>exact h
     | 3=>exact absurd rfl hj
     | 4=>
      intro _;obtain ⟨u',g,h1,h2,h3,h4⟩:=h (by omega)
      exact ⟨u',g,h1,h2,(HP.out.2.2.blk g (Array.getElem?_eq_some_iff.1 h3).1 (by rw[List.mem_singleton];omega)).trans h3,h4.next (kf_sub HP.out.2.2.kf0 (λk hk=>by rw[List.mem_singleton]at hk;subst hk;exact HRB.out)) (λk hk=>.inl hk)⟩
     | 5=>exact λhc=>by omega
     | _+7=>exact trivial
    .intro v wz c' hlo hS hE K hK;simp only[putAll,Act.put,pq1,pq2,pq3,Nat.zero_add,Nat.reduceAdd,pq4,pq5]at hK|-;have hc1:=hlo 1 (by kernel_rfl)
     obtain ⟨⟨u0',u1',u2',u3',u4',u5',u6',u7',u8'⟩,e3,hnu⟩:=hE.1 rfl hc1;simp only at e3;rw[e3]at hK|-;have hbz:Below wz.heap.size wz (wz.alloc (.cells #[.int .i64 u0', .slice u1' u2' u3', .slice u4' u5' u6', .int .i64 u7', .int .i64 u8'] 31)):=(Below.refl _ _).alloc (Nat.le_refl _) _;have hzW:=hS.1.size;have HX:=Lib.hid (And.intro (hS.later hbz) (And.intro hnu hbz));clear hS hE hlo hbz hnu;go_wp2_with fail;refine hK.out _ _ (λj z hj h=>?_) HX.out.1 (λ_=>⟨⟨u0',u1',u2',u3',u4',u5',u6',u7',u8'⟩,wz.heap.size,rfl,hzW,heap_alloc_new wz _,HX.out.2.1.next (KeepF.of_below (fp:=List.range (w.heap.size+1)++[w1.heap.size+1]++blk (.slice A i c)) HX.out.2.2).kf00 (λk hk=>.inl hk)⟩)
     match j with
     | 0 | 1 | 2 | 6=>exact h
     | 3=>
      intro _;obtain ⟨u',h1,h4⟩:=h hc1;exact ⟨u',h1,h4.next (KeepF.of_below (fp:=List.range (w.heap.size+1)++[w1.heap.size+1]++blk (.slice A i c)) HX.out.2.2).kf00 (λk hk=>.inl hk)⟩
     | 4=>exact absurd rfl hj
     | 5=>exact λhc=>by omega
     | _+7=>exact trivial
    .intro v wz hS hE K hK;simp only[putAll,Act.put,pq1,pq2,pq3,Nat.zero_add,Nat.reduceAdd,pq4,pq5]at hK|-;have e1:v 1=_:=hE.1 rfl;rw[e1]at hK|-;obtain ⟨⟨u0',u1',u2',u3',u4',u5',u6',u7',u8'⟩,g,e4,hgW,hg,hnu⟩:=hE.2.1 rfl (Nat.le_refl _);rw[e4]at hK|-;simp only at hg;have hkz:=hS.2.1 (Nat.le_refl _);have hownz:wz.ownsRow w1.heap.size 31 5 (.slice A i c) us.length (rowF N5.cs us):=H2.out.2.2.keep λg' hg'=>hkz.blk g' (World.ownsRow.lt H2.out.2.2 g' hg').2 (hne _ (by have:=(World.ownsRow.lt H2.out.2.2 g' hg').1;omega))
     rw[HS.out.len]at hownz;have hcx:∀j u,([.int .i64 u0', .slice u1' u2' u3', .slice u4' u5' u6', .int .i64 u7', .int .i64 u8']:List Value)[j]?=some u->wz.cell? ((⟨g,0,none⟩:Addr).add j)=some u:=by
      intro j u hj;rw[Addr.add_lit,Nat.zero_add,cell_of_row _ _ _ _ _ _ hg];simpa using hj
     obtain ⟨i5,hi5,hk0',hk1',hk2'⟩:=info_parts info_n5;have hzz:=hkz.size;have hbz:w1.heap.size<=wz.heap.size:=by omega
     have HX:=Lib.hid (And.intro hS (And.intro hkz (And.intro hownz hnu)));clear hS hE hkz hg hnu;go_wp2_with (at_builtin; refine appI_at rfl _ _ 29 rfl w1.heap.size 31 i5 _ 5 72 Tryz.underlying29 hi5 hk0' hk1' hk2' rfl (by decide) _ i (rowF N5.cs us) rfl hownz ⟨g,0,none⟩ 1 1 [.int .i64 u0', .slice u1' u2' u3', .slice u4' u5' u6', .int .i64 u7', .int .i64 u8'] rfl rfl hcx (by intro u hu; simp at hu; rcases hu with rfl | rfl | rfl | rfl | rfl <;> rfl) (by unfold maxLen; omega) (by omega) hbz ?_)
     intro v' wx hownX hgX hfX;obtain ⟨A',c',rfl,-,-⟩:=own_form hownX;have hkX:KeepF (blk (.slice A i c)) [] wz wx:=⟨hgX.os,hgX.tape,hgX.output,hgX.size,λk h1 hn=>hgX.block k h1 (λe=>hn (mem_blk.2 e.symm)),λk hk=>by cases hk⟩
     have hrX:=(HX.out.1.2.2.2 (Nat.le_refl _)).keep (hkX.blk rb (by omega) (λhm=>by have:=(World.ownsRow.lt HX.out.2.2.1 rb (mem_blk.1 hm)).1;omega))
     refine hK.out _ _ (λj z hj h=>?_) ⟨HX.out.1.1.tr (kf_sub hkX (λk hk=>List.mem_cons_of_mem _ hk)),λh=>by omega,λh=>by omega,λ_=>hrX⟩ (λ_=>⟨⟨u0',u1',u2',u3',u4',u5',u6',u7',u8'⟩,A',c',rfl,hownX,hfX.imp id (λ⟨g,h1,h2⟩=>⟨g,h1,Nat.le_trans hzz h2⟩),HX.out.2.2.2.next (kf_sub hkX (λk hk=>List.mem_append_right _ hk)) (λk hk=>?_)⟩)
     .match j with
      | 0 | 1 | 2 | 6=>exact h
      | 3 | 4=>exact λhc=>by omega
      | 5=>exact absurd rfl hj
      | _+7=>exact trivial
     .rcases List.mem_append.1 hk with hk | hk
      .exact .inl (List.mem_append_left _ hk)
      .rcases hfX with e | ⟨g',e,hg'⟩
       .exact .inl (List.mem_append_right _ (mem_blk.2 (by rw[<-e];exact mem_blk.1 hk)))
       .have h1:=mem_blk.1 hk;rw[e]at h1;injection h1 with h1;subst h1;exact .inr hg'
    .intro v wz c' hlo hS hE K hK;simp only[putAll,Act.put,pq1,pq2,pq3,Nat.zero_add,Nat.reduceAdd,pq4,pq5]at hK|-;have HX:=Lib.hid hS;clear hS hE hlo;go_wp2_with fail;exact hK.out _ rfl
   .intro v wz hS hF;have e6:v 6=_:=hF 6 (by decide)
    obtain ⟨⟨u0',u1',u2',u3',u4',u5',u6',u7',u8'⟩,A',c',e5,hown,hfr,hnu⟩:=hF 5 (by decide) (Nat.le_refl _)
    rw[e5]at hown hfr hnu;simp only[putAll,Act.put,pq1,pq2,pq3,Nat.zero_add,Nat.reduceAdd,pq4,pq5,List.drop_succ_cons,List.drop_zero,e5,e6];have hXz:=(hS.1.blk _ lX HNX.out).trans H2.out.2.1;obtain ⟨z0,z1,z2,z3,z4⟩:=cells5 hXz;have fz:wz.frozen? ⟨w1.heap.size+1,2,none⟩=false:=by simp[World.frozen?,hXz]
    have lXz:w1.heap.size+1<wz.heap.size:=(Array.getElem?_eq_some_iff.1 hXz).1;have hnx:∀g,(Value.slice A' (i+1) c').ownBlock=some g->g≠w1.heap.size+1:=λg hg=>by
     rcases hfr with e | ⟨g',e,hg'⟩
     .exact HS.out.ne g (by rw[<-e];exact hg)
     .rw[e]at hg;injection hg with hg;omega
    have H3:=Lib.hid (And.intro hS (And.intro hXz (And.intro hown (And.intro hfr (And.intro hnu hnx)))));have hXf:=set_row3 hXz 2 (.slice A' (i+1) c');simp only[List.setIfInBounds_toArray,List.set_cons_zero,List.set_cons_succ]at hXf;have hat:kidsAt (w1.heap.size+1) (wz.setCell ⟨w1.heap.size+1,2,none⟩ (.slice A' (i+1) c'))=i+1:=by
     unfold kidsAt;rw[show (wz.setCell ⟨w1.heap.size+1,2,none⟩ (.slice A' (i+1) c')).cell? ⟨w1.heap.size+1,2,none⟩=some (.slice A' (i+1) c') from (cells5 hXf).2.2.1]
    have HAT:=Lib.hid (And.intro hat hXf);clear hF e5 e6 hS hXz hown hfr hnu hnx x0 x1 x2 x3 x4 hat hXf;go_wp2_with fail;go_roundw
    case rel=>
     refine ⟨i+1,A',c',us++[⟨u0',u1',u2',u3',u4',u5',u6',u7',u8'⟩],by omega,by omega,Lib.hid (LsI.named λWf hWf=>?_)⟩
     have hXf:Wf.heap[w1.heap.size+1]?=some (.cells #[.int .i64 2, .slice none 0 0, .slice A' (i+1) c', .int .i64 0, .int .i64 0] 31 (0,0)):=by rw[hWf];exact HAT.out.2
     have hkf:KeepF [w1.heap.size+1] [] wz Wf:=by rw[hWf];exact kf_setX (kf_self _ _) (List.mem_singleton.2 rfl)
     have hS3:=H3.out.1;have hzWz:=hS3.1.size;have hkW:=H2.out.1;have hzr:=hkW.size;have hblk:∀k∈blk (.slice A i c),w1.heap.size<=k:=λk hk=>(World.ownsRow.lt HS.out.own k (mem_blk.1 hk)).1;have hold:∀k,k<w1.heap.size->k≠rb->Wf.heap[k]?=wr.heap[k]?:=λk hk hn=>by
      have h1:=HS.out.own;have h2:=(Array.getElem?_eq_some_iff.1 HS.out.hX).1;exact (hkf.blk k (by omega) (by rw[List.mem_singleton];omega)).trans ((hS3.1.blk k (by omega) (λhm=>by rcases List.mem_cons.1 hm with e | hm;exact hn e;have:=hblk k hm;omega)).trans (hkW.blk k (by omega) (by rw[List.mem_singleton];exact hn)))
     have hnew:∀k∈List.range (w.heap.size+1)++[w1.heap.size+1]++blk (.slice A' (i+1) c'),k∈List.range (w.heap.size+1)++[w1.heap.size+1]++blk (.slice A i c)\/W.heap.size<=k:=λk hk=>by
      rcases List.mem_append.1 hk with hk | hk
      .exact .inl (List.mem_append_left _ hk)
      .rcases H3.out.2.2.2.1 with e | ⟨g,e,hg⟩
       .exact .inl (List.mem_append_right _ (mem_blk.2 (by rw[<-e];exact mem_blk.1 hk)))
       .have h1:=mem_blk.1 hk;rw[e]at h1;injection h1 with h1;subst h1;exact .inr hg
     have hlast:∀{vs:List Value} {nd:Nd},NdUL (List.range (w.heap.size+1)++[w1.heap.size+1]++blk (.slice A' (i+1) c')) wz vs nd->NdUL (List.range (w.heap.size+1)++[w1.heap.size+1]++blk (.slice A' (i+1) c')) Wf vs nd:=λh=>h.next (kf_sub hkf (λk hk=>by rw[List.mem_singleton]at hk;simp[hk])) (λk hk=>.inl hk)
     refine ⟨(hS3.2.2.2 (by decide)).keep (hkf.blk rb (by omega) (by rw[List.mem_singleton];omega)),⟨?_,?_,?_,?_,λk hk hn=>?_,λk hk=>.inl hk⟩,?_,hXf,?_,H3.out.2.2.2.2.2,by rw[List.length_append,HS.out.len];rfl,λj hj=>?_⟩
     .rw[hkf.os,hS3.1.os,hkW.os,HS.out.kf.os]
     .rw[hkf.tape,hS3.1.tape,hkW.tape,HS.out.kf.tape]
     .rw[hkf.output,hS3.1.output,hkW.output,HS.out.kf.output]
     .have:=HS.out.kf.size;have:=hkf.size;omega
     .exact (hold k (by omega) (λe=>hn (by simp[e]))).trans (HS.out.kf.blk k hk hn)
     .exact (hold w.heap.size (by omega) (by omega)).trans HS.out.hY
     .show World.ownsRow _ _ _ _ _ (us++[_]).length (rowF N5.cs (us++[_]));rw[List.length_append,HS.out.len,rowF_app,rowF_single];exact own_same H3.out.2.2.1 λg hg=>hkf.blk g (World.ownsRow.lt H3.out.2.2.1 g hg).2 (by rw[List.mem_singleton];exact H3.out.2.2.2.2.2 g hg)
     .by_cases hju:j<us.length
      .rw[List.getElem_append_left hju];have h0:=HS.out.kids j hju;have h1:=h0.next (kf_sub hkW.kf0 (λk hk=>by rw[List.mem_singleton]at hk;subst hk;exact HRB.out)) (L':=List.range (w.heap.size+1)++[w1.heap.size+1]++blk (.slice A i c)) (λk hk=>.inl hk)
       exact hlast (h1.next (kf_sub hS3.1 (λk hk=>by rcases List.mem_cons.1 hk with rfl | hk;exact HRB.out;exact List.mem_append_right _ hk)) hnew)
      .have hie:j=us.length:=by rw[List.length_append]at hj;simp at hj;omega
       subst hie;rw[List.getElem_append_right (Nat.le_refl _)];simp only[Nat.sub_self,List.getElem_cons_zero];rw[HS.out.len];exact hlast H3.out.2.2.2.2.1
    case measure=>
     rw[HAT.out.1,HS.out.at_];omega
  .have hie:i=n:=by omega
   subst hie;rw[HTN.out]at hrs c0;have HM:=Lib.hid (more_nil rb false d wr hrs);clear hrs;go_wp2_with fail;refine HM.out.mono ?_;rintro e W ⟨rfl,hrW,hkW⟩;have hwz1:=H0.out.1.size;have hXr:=HS.out.hX;have lXr:=(Array.getElem?_eq_some_iff.1 hXr).1;have hXW:=(hkW.blk (w1.heap.size+1) lXr (hne _ (by omega))).trans hXr
   have hYW:=(hkW.blk w.heap.size (by omega) (hne _ (Nat.le_refl _))).trans HS.out.hY
   have hownW:OR 31 5 N5.cs w1.heap.size (.slice A i c) us W:=HS.out.own.keep λg hg=>hkW.blk g (World.ownsRow.lt HS.out.own g hg).2 (hne _ (by have:=(World.ownsRow.lt HS.out.own g hg).1;omega))
   obtain ⟨x0,x1,x2,x3,x4⟩:=cells5 hXW;obtain ⟨y0,y1,y2,y3,y4⟩:=cells5 hYW;have fy:∀j,j<5->W.frozen? ⟨w.heap.size,j,none⟩=false:=λj _=>by simp[World.frozen?,hYW]
   have fy0:=fy 0 (by decide)
   have fy1:=fy 1 (by decide)
   have fy2:=fy 2 (by decide)
   have fy3:=fy 3 (by decide)
   have fy4:=fy 4 (by decide)
   have hzW:=hkW.size;have m1:w1.heap.size+1<W.heap.size:=by omega
   have m3:w.heap.size<W.heap.size:=by omega
   have hi1':¬(i:Int)=1:=by omega
   have H3:=Lib.hid (And.intro hrW (And.intro hkW hownW));clear hrW hkW hXW hYW fy hownW hXr c0 c1 c2;go_wp2_with fail;refine post_named λWf hWf=>?_;obtain ⟨s1,s2,s3,-⟩:=set5 hWf;refine bodyPost_ret (v:=.agg #[.int .i64 2, .slice none 0 0, .slice A i c, .int .i64 0, .int .i64 0]) (by rw[hWf];simp[results,Tryz.results137,go_sem,y0,y1,y2,y3,y4,m3];try rfl) rfl ?_
   have hkf:KeepF [w.heap.size] [] W Wf:=⟨s3.1,s3.2.1,s3.2.2,by omega,λk _ hn=>s1 k (λe=>hn (by simp[e])),λk hk=>by cases hk⟩
   have hown:OR 31 5 N5.cs w.heap.size (.slice A i c) us Wf:=OR.mono (H3.out.2.2.keep λg hg=>s1 g (by have:=(World.ownsRow.lt H3.out.2.2 g hg).1;omega)) (by omega)
   have k1:=HS.out.kf;have k2:=H3.out.2.1;refine ⟨_,rfl,⟨⟨2,none,0,0,A,i,c,0,0⟩,rfl,NdUp.kids hown (by simp[HS.out.len]) (λj h1 h2=>?_) 2 0 0⟩,H3.out.1.keep (s1 rb (by omega)),?_,?_,?_,by have:=k1.size;omega,λk hk hn=>?_,λk hk=>.inl hk⟩
   .have h0:=HS.out.kids j h1;have hrb:rb∈List.range (w.heap.size+1)++[w1.heap.size+1]++blk (.slice A i c):=List.mem_append_left _ (List.mem_append_left _ (List.mem_range.2 (by omega)))
    have hy:w.heap.size∈List.range (w.heap.size+1)++[w1.heap.size+1]++blk (.slice A i c):=List.mem_append_left _ (List.mem_append_left _ (List.mem_range.2 (by omega)))
    have h3:=h0.next (kf_sub k2.kf0 (λk hk=>by rw[List.mem_singleton]at hk;subst hk;exact hrb)) (L':=List.range (w.heap.size+1)++[w1.heap.size+1]++blk (.slice A i c)) (λk hk=>.inl hk)
    have h4:=h3.next (kf_sub hkf (λk hk=>by rw[List.mem_singleton]at hk;subst hk;exact hy)) (L':=List.range w.heap.size) (λk hk=>.inl (List.mem_append_left _ (List.mem_append_left _ (List.mem_range.2 (by have:=List.mem_range.1 hk;omega)))))
    rw[List.getElem_map,List.getElem_range];exact h4
   .rw[s3.1,k2.os,k1.os]
   .rw[s3.2.1,k2.tape,k1.tape]
   .rw[s3.2.2,k2.output,k1.output]
   .rw[s1 k (by omega),k2.blk k (by have:=k1.size;omega) hn,k1.blk k hk hn]
theorem ItN.form {B:Nat} {x:Value} {nd:Nd} {w:World} (h:ItN B x nd w):∃u0 u1 u2 u3 u4 u5 u6 u7 u8,x = .agg #[.int .i64 u0, .slice u1 u2 u3, .slice u4 u5 u6, .int .i64 u7, .int .i64 u8]:=by
 obtain ⟨u,rfl,-⟩:=h;exact ⟨_,_,_,_,_,_,_,_,_,rfl⟩
def tokN:Nd:=.mk 2 [] [chN 116,chN 107,dgN] 0 0
def tkT:Nat->ByteArray
 | 0=>⟨#[116,107,91,48,45,57,93,123,50,125]⟩
 | 1=>⟨#[107,91,48,45,57,93,123,50,125]⟩
 | 2=>⟨#[91,48,45,57,93,123,50,125]⟩
 | _=>⟨#[]⟩
def tkNd:Nat->Nd
 | 0=>chN 116
 | 1=>chN 107
 | _=>dgN
theorem list_tk (rb:Nat) (d:Int) (w:World) (h:RdW rb ⟨#[116,107,91,48,45,57,93,123,50,125]⟩ false d w) :
  Calls Tryz.prog 137 #[.pointer (some ⟨rb,0,none⟩), .int .i64 2, .func (.func 170) #[.pointer (some ⟨rb,0,none⟩)] #[], .func (.func 171) #[.pointer (some ⟨rb,0,none⟩)] #[]] w (ListN rb d w tokN):=by
 refine list_many rb 3 d tkT tkNd rfl (by decide) (λi hi w h=>?_) (λi h0 hi w h=>?_) w h
 .match i,hi with
  | 0,_=>exact item_ch rb _ _ 116 d w h (by decide) rfl rfl rfl rfl rfl rfl (by decide) rfl (λ_=>rfl) rfl rfl rfl
  | 1,_=>exact item_ch rb _ _ 107 d w h (by decide) rfl rfl rfl rfl rfl rfl (by decide) rfl (λ_=>rfl) rfl rfl rfl
  | 2,_=>exact (item_dg rb d w h).mono λe w' ⟨x,e1,h1,h2,h3⟩=>⟨x,e1,h1.nd,h2,h3⟩
 .match i,h0,hi with
  | 1,_,_=>exact more_yes rb _ 107 false d w h (by decide) (λ_=>rfl) (by decide) (by decide)
  | 2,_,_=>exact more_yes rb _ 91 false d w h (by decide) (λ_=>rfl) (by decide) (by decide)
set_option maxHeartbeats 4000000 in
theorem seq_tk (rb:Nat) (d:Int) (w:World) (h:RdW rb ⟨#[116,107,91,48,45,57,93,123,50,125]⟩ false d w):Calls Tryz.prog 138 #[.pointer (some ⟨rb,0,none⟩)] w (ListN rb d w tokN):=by
 obtain ⟨-,-,hl⟩:=h.cells;have HR:=Lib.hid h;clear h;have hne:∀k,w.heap.size<=k->k∉[rb]:=λk hk hm=>by rw[List.mem_singleton]at hm;omega
 go_enter Tryz.func138,Tryz.ntmps138
 go_wp2_with fail;refine calls_named λW0 hW0=>?_;have hb0:Below w.heap.size w W0:=by rw[hW0];exact (Below.refl _ _).alloc (Nat.le_refl _) _
 have hY:W0.heap[w.heap.size]?=some (.cells #[.int .i64 0, .slice none 0 0, .slice none 0 0, .int .i64 0, .int .i64 0] 31 (0,0)):=by rw[hW0];exact heap_alloc_new w _
 have hz0:W0.heap.size=w.heap.size+1:=by rw[hW0];simp
 have HT1:=Lib.hid (list_tk rb d W0 (HR.out.later hb0));have H0:=Lib.hid (And.intro hb0 hY);clear hW0 hb0 hY;refine HT1.out.mono ?_;rintro e w1 ⟨x,rfl,hit,hr1,hk1⟩;obtain ⟨p0,p1,p2,p3,p4,p5,p6,p7,p8,rfl⟩:=hit.form;have hz1:=hk1.size;have hY3:=(hk1.blk w.heap.size (by omega) (hne _ (Nat.le_refl _))).trans H0.out.2
 obtain ⟨y0,y1,y2,y3,y4⟩:=cells5 hY3;have fy:∀j,j<5->w1.frozen? ⟨w.heap.size,j,none⟩=false:=λj _=>by simp[World.frozen?,hY3]
 have fy0:=fy 0 (by decide)
 have fy1:=fy 1 (by decide)
 have fy2:=fy 2 (by decide)
 have fy3:=fy 3 (by decide)
 have fy4:=fy 4 (by decide)
 have m3:w.heap.size<w1.heap.size:=by omega
 have H1:=Lib.hid (And.intro hit (And.intro hr1 hk1));clear hit hr1 hk1 hY3 fy;go_wp2_with fail;refine post_named λWf hWf=>?_;obtain ⟨u1,u2,u3,-⟩:=set5 hWf;refine bodyPost_ret (v:=.agg #[.int .i64 p0, .slice p1 p2 p3, .slice p4 p5 p6, .int .i64 p7, .int .i64 p8]) (by rw[hWf];simp[results,Tryz.results138,go_sem,y0,y1,y2,y3,y4,m3];try rfl) rfl ?_
 have hkf:KeepF [w.heap.size] [] w1 Wf:=⟨u3.1,u3.2.1,u3.2.2,by omega,λk _ hn=>u1 k (λe=>hn (by simp[e])),λk hk=>by cases hk⟩
 have hit:=(H1.out.1.keep hkf (λk hk=>by simp at hk;omega)).mono (show w.heap.size<=W0.heap.size by omega)
 have k1':=H1.out.2.2;have kb:=H0.out.1;refine ⟨_,rfl,hit,H1.out.2.1.keep (u1 rb (by omega)),?_,?_,?_,by omega,λk hk hn=>?_,λk hk=>.inl hk⟩
 .rw[u3.1,k1'.os,kb.os]
 .rw[u3.2.1,k1'.tape,kb.tape]
 .rw[u3.2.2,k1'.output,kb.output]
 .rw[u1 k (by omega),k1'.blk k (by omega) hn,kb.block k hk]
set_option maxHeartbeats 4000000 in
theorem listc_tk (rb:Nat) (d:Int) (w:World) (bx:Nat) (hbx:bx<w.heap.size) (hb:w.cell? ⟨bx,0,none⟩=some (.pointer (some ⟨rb,0,none⟩))) (hbn:bx≠rb) (h:RdW rb ⟨#[116,107,91,48,45,57,93,123,50,125]⟩ false d w) :
  Calls Tryz.prog 137 #[.pointer (some ⟨rb,0,none⟩), .int .i64 3, .func (.func 138) #[.pointer (some ⟨rb,0,none⟩)] #[], .func (.func 139) #[] #[.pointer (some ⟨bx,0,none⟩)]] w (ListN rb d w tokN):=by
 obtain ⟨-,-,hl⟩:=h.cells;have HR:=Lib.hid h;have HBX:=Lib.hid (And.intro hbx (And.intro hb hbn));clear h hb hbn hbx;have hne:∀k,w.heap.size<=k->k∉[rb]:=λk hk hm=>by rw[List.mem_singleton]at hm;omega
 go_enter Tryz.func137,Tryz.ntmps137
 go_wp2_with fail;refine calls_named λW0 hW0=>?_;have hb0:Below w.heap.size w W0:=by rw[hW0];exact (Below.refl _ _).alloc (Nat.le_refl _) _
 have hY:W0.heap[w.heap.size]?=some (.cells #[.int .i64 0, .slice none 0 0, .slice none 0 0, .int .i64 0, .int .i64 0] 31 (0,0)):=by rw[hW0];exact heap_alloc_new w _
 have hz0:W0.heap.size=w.heap.size+1:=by rw[hW0];simp
 have HT1:=Lib.hid (seq_tk rb d W0 (HR.out.later hb0));have H0:=Lib.hid (And.intro hb0 hY);clear hW0 hb0 hY;refine HT1.out.mono ?_;rintro e w1 ⟨x,rfl,hit,hr1,hk1⟩;obtain ⟨p0,p1,p2,p3,p4,p5,p6,p7,p8,rfl⟩:=hit.form;have hz1:=hk1.size;have hY1:=(hk1.blk w.heap.size (by omega) (hne _ (Nat.le_refl _))).trans H0.out.2
 have hbA:Below w1.heap.size w1 (w1.alloc (.cells #[.int .i64 p0, .slice p1 p2 p3, .slice p4 p5 p6, .int .i64 p7, .int .i64 p8] 31)):=(Below.refl _ _).alloc (Nat.le_refl _) _;obtain ⟨⟨c0,c1,c2⟩,-,lr1⟩:=hr1.cells;have H1:=Lib.hid (And.intro hit (And.intro hr1 (And.intro hk1 hY1)));clear hit hr1 hk1 hY1 hbA;have lr2:rb<w1.heap.size+1:=by omega
 go_wp2_with fail;refine wp_loop_rounds 1 ?_;rw[rounds_succ];go_wp2_with fail;refine calls_named λW2 hW2=>?_;have hb2:Below w1.heap.size w1 W2:=by rw[hW2];exact ((Below.refl _ _).alloc (Nat.le_refl _) _).alloc (by simp) _
 have hK2:W2.heap[w1.heap.size]?=some (.cells #[.int .i64 p0, .slice p1 p2 p3, .slice p4 p5 p6, .int .i64 p7, .int .i64 p8] 31 (0,0)):=by rw[hW2,old_alloc _ _ _ (by simp)];exact heap_alloc_new w1 _
 have hL2:W2.heap[w1.heap.size+1]?=some (.cells #[.int .i64 3, .slice none 0 0, .slice (some ⟨w1.heap.size,0,none⟩) 1 1, .int .i64 0, .int .i64 0] 31 (0,0)):=by
  rw[hW2];simpa using heap_alloc_new (w1.alloc (.cells #[.int .i64 p0, .slice p1 p2 p3, .slice p4 p5 p6, .int .i64 p7, .int .i64 p8] 31)) (.cells #[.int .i64 3, .slice none 0 0, .slice (some ⟨w1.heap.size,0,none⟩) 1 1, .int .i64 0, .int .i64 0] 31)
 have hz2:W2.heap.size=w1.heap.size+2:=by rw[hW2];simp
 have HT2:=Lib.hid (choice1_any rb bx ⟨#[]⟩ false d W2 (H1.out.2.1.later hb2) ((hb2.cell (p:=⟨bx,0,none⟩) (by have:=HBX.out.1;show bx<w1.heap.size;omega)).trans ((World.cell?_of_block (a:=⟨bx,0,none⟩) (H1.out.2.2.1.blk bx (by have:=HBX.out.1;omega) (λhm=>HBX.out.2.2 (List.mem_singleton.1 hm)))).trans ((H0.out.1.cell (p:=⟨bx,0,none⟩) HBX.out.1).trans HBX.out.2.1))) rfl rfl)
 have H2:=Lib.hid (And.intro hb2 (And.intro hK2 hL2));clear hW2 hb2 hK2 hL2 c0 c1 c2;refine HT2.out.mono ?_;rintro e w3 ⟨rfl,hr3,hk3⟩;have hz3:=hk3.size;have hK3:=(hk3.blk w1.heap.size (by omega) (hne _ (by omega))).trans H2.out.2.1
 have hL3:=(hk3.blk (w1.heap.size+1) (by omega) (hne _ (by omega))).trans H2.out.2.2
 have hY3:=(hk3.blk w.heap.size (by omega) (hne _ (Nat.le_refl _))).trans ((H2.out.1.block w.heap.size (by omega)).trans H1.out.2.2.2)
 obtain ⟨k0,k1,k2,k3,k4⟩:=cells5 hK3;obtain ⟨l0,l1,l2,l3,l4⟩:=cells5 hL3;obtain ⟨y0,y1,y2,y3,y4⟩:=cells5 hY3;have fy:∀j,j<5->w3.frozen? ⟨w.heap.size,j,none⟩=false:=λj _=>by simp[World.frozen?,hY3]
 have fy0:=fy 0 (by decide)
 have fy1:=fy 1 (by decide)
 have fy2:=fy 2 (by decide)
 have fy3:=fy 3 (by decide)
 have fy4:=fy 4 (by decide)
 have m1:w1.heap.size+1<w3.heap.size:=by omega
 have m2:w1.heap.size<w3.heap.size:=by omega
 have m3:w.heap.size<w3.heap.size:=by omega
 have H3:=Lib.hid (And.intro hr3 hk3);clear hr3 hk3 hK3 hL3 hY3 fy;go_wp2_with fail;refine post_named λWf hWf=>?_;obtain ⟨u1,u2,u3,-⟩:=set5 hWf;refine bodyPost_ret (v:=.agg #[.int .i64 p0, .slice p1 p2 p3, .slice p4 p5 p6, .int .i64 p7, .int .i64 p8]) (by rw[hWf];simp[results,Tryz.results137,go_sem,y0,y1,y2,y3,y4,m3];try rfl) rfl ?_
 have hkf:KeepF [w.heap.size] [] w3 Wf:=⟨u3.1,u3.2.1,u3.2.2,by omega,λk _ hn=>u1 k (λe=>hn (by simp[e])),λk hk=>by cases hk⟩
 have hit:=(((H1.out.1.keep (KeepF.of_below (fp:=[]) H2.out.1) (λk hk=>by cases hk)).keep H3.out.2 (λk hk=>by rw[List.mem_singleton]at hk;omega)).keep hkf (λk hk=>by simp at hk;omega)).mono (show w.heap.size<=W0.heap.size by omega)
 have k1':=H1.out.2.2.1;have k2':=H2.out.1;have k3':=H3.out.2;have kb:=H0.out.1;refine ⟨_,rfl,hit,H3.out.1.keep (u1 rb (by omega)),?_,?_,?_,by omega,λk hk hn=>?_,λk hk=>.inl hk⟩
 .rw[u3.1,k3'.os,k2'.os,k1'.os,kb.os]
 .rw[u3.2.1,k3'.tape,k2'.tape,k1'.tape,kb.tape]
 .rw[u3.2.2,k3'.output,k2'.output,k1'.output,kb.output]
 .rw[u1 k (by omega),k3'.blk k (by omega) hn,k2'.block k (by omega),k1'.blk k (by omega) hn,kb.block k hk]
set_option maxHeartbeats 4000000 in
theorem choice_tk (rb:Nat) (w:World) (h:RdW rb ⟨#[116,107,91,48,45,57,93,123,50,125]⟩ false 0 w):Calls Tryz.prog 102 #[.pointer (some ⟨rb,0,none⟩)] w (ListN rb 0 w tokN):=by
 obtain ⟨⟨c0,c1,c2⟩,⟨f0,f1,f2⟩,hl⟩:=h.cells;have HR:=Lib.hid h;clear h;have hne:∀k,w.heap.size<=k->k∉[rb]:=λk hk hm=>by rw[List.mem_singleton]at hm;omega
 have l1:rb<w.heap.size+1:=by omega
 have l2:rb<w.heap.size+1+1:=by omega
 have n1:¬w.heap.size=rb:=by omega
 have n2:¬rb=w.heap.size:=by omega
 go_enter Tryz.func102,Tryz.ntmps102
 go_wp2_with fail;refine calls_named λW0 hW0=>?_;obtain ⟨Wd,hWd⟩:∃W,W=w.setCell ⟨rb,2,none⟩ (.int .i64 1):=⟨_,rfl⟩;rw[<-hWd]at hW0;have hzd:Wd.heap.size=w.heap.size:=by rw[hWd];simp[World.setCell]
 have hrd:RdW rb ⟨#[116,107,91,48,45,57,93,123,50,125]⟩ false 1 Wd:=by
  rw[hWd];have:=set_row3 HR.out 2 (.int .i64 1);simpa [RdW] using this
 have hkd:KfR rb w Wd:=by rw[hWd];exact kfr_set
 have hbd:Below Wd.heap.size Wd W0:=by rw[hW0];exact ((Below.refl _ _).alloc (Nat.le_refl _) _).alloc (by simp) _
 have hz0:W0.heap.size=w.heap.size+2:=by rw[hW0];simp[hzd]
 have hX:W0.heap[w.heap.size]?=some (.cells #[.pointer (some ⟨rb,0,none⟩)] 132 (0,0)):=by
  rw[hW0,old_alloc _ _ _ (by simp[hzd])]
  have:=heap_alloc_new Wd (.cells #[.pointer (some ⟨rb,0,none⟩)] 132);rwa [hzd]at this
 have hY:W0.heap[w.heap.size+1]?=some (.cells #[.int .i64 0, .slice none 0 0, .slice none 0 0, .int .i64 0, .int .i64 0] 31 (0,0)):=by
  rw[hW0];have:=heap_alloc_new (Wd.alloc (.cells #[.pointer (some ⟨rb,0,none⟩)] 132)) (.cells #[.int .i64 0, .slice none 0 0, .slice none 0 0, .int .i64 0, .int .i64 0] 31);simpa [hzd] using this
 have HT1:=Lib.hid (listc_tk rb 1 W0 w.heap.size (by omega) (by rw[cell_of_row _ _ _ _ _ _ hX];rfl) (by omega) (hrd.later hbd))
 have H0:=Lib.hid (And.intro hkd (And.intro hbd (And.intro hX hY)));clear hW0 hWd hrd hkd hbd hX hY c0 c1 c2 f0 f1 f2;refine HT1.out.mono ?_;rintro e w1 ⟨x,rfl,hit,hr1,hk1⟩;obtain ⟨p0,p1,p2,p3,p4,p5,p6,p7,p8,rfl⟩:=hit.form;have hz1:=hk1.size;have hX1:=(hk1.blk w.heap.size (by omega) (hne _ (Nat.le_refl _))).trans H0.out.2.2.1
 have hY1:=(hk1.blk (w.heap.size+1) (by omega) (hne _ (by omega))).trans H0.out.2.2.2
 obtain ⟨⟨c0,c1,c2⟩,⟨f0,f1,f2⟩,lr1⟩:=hr1.cells;have x0:w1.cell? ⟨w.heap.size,0,none⟩=some (.pointer (some ⟨rb,0,none⟩)):=by rw[cell_of_row _ _ _ _ _ _ hX1];rfl
 obtain ⟨y0,y1,y2,y3,y4⟩:=cells5 hY1;have fy:∀j,j<5->w1.frozen? ⟨w.heap.size+1,j,none⟩=false:=λj _=>by simp[World.frozen?,hY1]
 have fy0:=fy 0 (by decide)
 have fy1:=fy 1 (by decide)
 have fy2:=fy 2 (by decide)
 have fy3:=fy 3 (by decide)
 have fy4:=fy 4 (by decide)
 have m1:w.heap.size<w1.heap.size:=by omega
 have m2:w.heap.size+1<w1.heap.size:=by omega
 have m3:w.heap.size<w1.heap.size+1:=by omega
 have m4:w.heap.size+1<w1.heap.size+1:=by omega
 have m5:rb<w1.heap.size+1:=by omega
 have n3:¬w.heap.size+1=rb:=by omega
 have n4:¬rb=w.heap.size+1:=by omega
 have n5:¬w1.heap.size=rb:=by omega
 have n6:¬w1.heap.size=w.heap.size+1:=by omega
 have H1:=Lib.hid (And.intro hit (And.intro hr1 hk1));clear hit hr1 hk1 hX1 hY1 fy;go_wp2_with fail;refine post_named λWf hWf=>?_;obtain ⟨Wr,hWr⟩:∃W,W=w1.setCell ⟨rb,2,none⟩ (.int .i64 0):=⟨_,rfl⟩;rw[<-hWr]at hWf;obtain ⟨W5,hW5⟩:∃W,W=((((Wr.setCell ⟨w.heap.size+1,0,none⟩ (.int .i64 p0)).setCell ⟨w.heap.size+1,1,none⟩ (.slice p1 p2 p3)).setCell ⟨w.heap.size+1,2,none⟩ (.slice p4 p5 p6)).setCell ⟨w.heap.size+1,3,none⟩ (.int .i64 p7)).setCell ⟨w.heap.size+1,4,none⟩ (.int .i64 p8):=⟨_,rfl⟩;rw[<-hW5]at hWf;obtain ⟨u1,u2,u3,u4⟩:=set5 hW5;have hzr:Wr.heap.size=w1.heap.size:=by rw[hWr];simp[World.setCell]
 have hsr:∀k,k≠rb->Wr.heap[k]?=w1.heap[k]?:=λk hk=>by rw[hWr];exact Below.heap_setCell _ _ _ _ hk
 have hb5:Below W5.heap.size W5 Wf:=by rw[hWf];exact (Below.refl _ _).alloc (Nat.le_refl _) _
 have hrf:RdW rb ⟨#[]⟩ false 0 Wf:=by
  have h1:RdW rb ⟨#[]⟩ false 0 Wr:=by
   rw[hWr];have:=set_row3 H1.out.2.1 2 (.int .i64 0);simpa [RdW] using this
  exact (h1.keep (u1 rb (by omega))).later hb5
 have hY1:w1.heap[w.heap.size+1]?=some (.cells #[.int .i64 0, .slice none 0 0, .slice none 0 0, .int .i64 0, .int .i64 0] 31 (0,0)):=(H1.out.2.2.blk (w.heap.size+1) (by omega) (hne _ (by omega))).trans H0.out.2.2.2
 have hYf:Wf.heap[w.heap.size+1]?=some (.cells #[.int .i64 p0, .slice p1 p2 p3, .slice p4 p5 p6, .int .i64 p7, .int .i64 p8] 31 (0,0)):=(hb5.block _ (by omega)).trans (u4 ((hsr (w.heap.size+1) (by omega)).trans hY1))
 have hzf:=hb5.size;have l9:w.heap.size+1<Wf.heap.size:=by omega
 obtain ⟨q0,q1,q2,q3,q4⟩:=cells5 hYf;refine bodyPost_ret (v:=.agg #[.int .i64 p0, .slice p1 p2 p3, .slice p4 p5 p6, .int .i64 p7, .int .i64 p8]) (by simp[results,Tryz.results102,go_sem,q0,q1,q2,q3,q4,l9];try rfl) rfl ?_
 have hkf:KeepF [rb,w.heap.size+1] [] w1 Wf:=by
  have hos:Wr.os=w1.os/\Wr.tape=w1.tape/\Wr.output=w1.output:=by rw[hWr];exact ⟨rfl,rfl,rfl⟩
  exact ⟨hb5.os.trans (u3.1.trans hos.1),hb5.tape.trans (u3.2.1.trans hos.2.1),hb5.output.trans (u3.2.2.trans hos.2.2),by omega,λk hk hn=>(hb5.block k (by omega)).trans ((u1 k (λe=>hn (by simp[e]))).trans (hsr k (λe=>hn (by simp[e])))),λk hk=>by cases hk⟩
 have hit:=(H1.out.1.keep hkf (λk hk=>by simp at hk;omega)).mono (show w.heap.size<=W0.heap.size by omega)
 have k1':=H1.out.2.2;have kd:=H0.out.1;have kb:=H0.out.2.1;refine ⟨_,rfl,hit,hrf,?_,?_,?_,by omega,λk hk hn=>?_,λk hk=>.inl hk⟩
 .rw[hkf.os,k1'.os,kb.os,kd.os]
 .rw[hkf.tape,k1'.tape,kb.tape,kd.tape]
 .rw[hkf.output,k1'.output,kb.output,kd.output]
 .rw[hkf.blk k (by omega) (λhm=>by simp at hm;rcases hm with hm | hm;exact hn (by simp[hm]);omega),k1'.blk k (by omega) hn,kb.block k (by omega),kd.blk k hk hn]
def SgnH (ok:Nat->Prop):Prop:=∀(c:Nat) (W:World),ok c->c<256->Calls Tryz.prog 189 #[.int .u8 (c:Int)] W λe w'=>e = .returned (.string (bs (sgnT c)))/\w'=W
def WtP (b:Nat) (l:List UInt8) (fp:List Nat) (w:World) (e:Ending) (w':World):Prop:=e = .returned (.tuple #[])/\∃fp',BuK b l fp' w'/\KeepF fp fp' w w'
theorem KeepF.non {fp fp':List Nat} {w w':World} (h:KeepF fp fp' w w'):KeepF fp [] w w':=⟨h.os,h.tape,h.output,h.size,h.blk,λk hk=>by cases hk⟩
theorem KeepF.then {fp:List Nat} {a b c:World} (h:KeepF fp [] a b) {fp':List Nat} (k:KeepF fp' [] b c) (hs:∀x∈fp',x∈fp\/a.heap.size<=x):KeepF fp [] a c:=
 ⟨k.os.trans h.os,k.tape.trans h.tape,k.output.trans h.output,Nat.le_trans h.size k.size,λx hx hn=>(k.blk x (Nat.lt_of_lt_of_le hx h.size) λhm=>(hs x hm).elim hn λh2=>by omega).trans (h.blk x hx hn),λx hx=>by cases hx⟩
def RgUL (L:List Nat) (w:World) (v:Value) (rs:List (Nat×Nat)):Prop:=∀W,KeepF L [] w W->RgIn W v rs
theorem RgUL.next {L L':List Nat} {w w':World} {v:Value} {rs:List (Nat×Nat)} (h:RgUL L w v rs) (hk:KeepF L L' w w'):RgUL L' w' v rs:=λW hW=>h W (hk.non.then hW λx hx=>hk.new x hx)
theorem wpX_nm {P:Program} {c:Code} {Q:Exit->Act->World->Prop} {a:Act} {w:World} (h:∀W,W=w->c.wp P Q a W):c.wp P Q a w:=h w rfl
theorem bs_size (l:List UInt8):(bs l).size=l.length:=by rw[<-size_list,bl_bs]
set_option maxHeartbeats 8000000 in
theorem wset_any {ok:Nat->Prop} (HSG:SgnH ok) (b:Nat) (l:List UInt8) (fp:List Nat) (A:Option Addr) (n c:Nat) (rs:List (Nat×Nat)) (w:World) (h:BuK b l fp w) (hr:RgUL fp w (.slice A n c) rs) (hn:rs.length=n) (hok:∀r∈rs,ok r.1/\ok r.2) (hl:l.length+(setT rs).length<=900000000) :
  Calls Tryz.prog 161 #[.pointer (some ⟨b,0,none⟩), .slice A n c] w (WtP b (l++setT rs) fp w):=by
 obtain ⟨z,hz⟩:∃z,oneR rs=z:=⟨_,rfl⟩;have hrw:∀W,KeepF fp [] w W->∀i (hi:i<rs.length),∃g f,A=some ⟨g,f,none⟩/\g<W.heap.size/\(W.cell? ⟨g,f+i*2,none⟩=some (.int .u8 (rs[i].1:Int))/\W.cell? ⟨g,f+i*2+1,none⟩=some (.int .u8 (rs[i].2:Int)))/\rs[i].1<256/\rs[i].2<256:=λW hW i hi=>by
  obtain ⟨A',c',e,hc,hor⟩:=hr W hW;injection e with e1 e2 e3;obtain ⟨g,f,h1,h2,h3⟩:=hor.resolve_left (by rintro rfl;cases hi)
  exact ⟨g,f,e1.trans h1,h2,(h3 i hi).1,(h3 i hi).2⟩
 have HR:=Lib.hid (And.intro hrw (And.intro hn (And.intro hok hz)));have HB:=Lib.hid h;have hn63:(n:Int)<=9223372036854775807:=by
  obtain ⟨A',c',e,hc,-⟩:=hr w (kf_self _ _);injection e with _ e2 e3;omega
 clear h hr hn hok hrw
 go_enter Tryz.func161,Tryz.ntmps161
 go_upto_region 0 with fail
 go_cut [19] from 6 to 19 (λv wx=>v = .bool z/\∃W,W=wx/\Hid (Below w.heap.size w W))
 case first=>
  by_cases h1:n=1
  .subst h1;have hl1:0<rs.length:=by rw[HR.out.2.1];decide
   obtain ⟨g,f,rfl,hg,⟨c0,c1⟩,hb1,hb2⟩:=HR.out.1 w (kf_self _ _) 0 hl1;have hrs:rs=[rs[0]]:=by
    have:=HR.out.2.1
    match rs,this with
    | [r],_=>rfl
   obtain ⟨x,hx⟩:∃x,rs[0].1=x:=⟨_,rfl⟩;obtain ⟨y,hy⟩:∃y,rs[0].2=y:=⟨_,rfl⟩;rw[hx]at c0;rw[hy]at c1;rw[Nat.zero_mul,Nat.add_zero]at c0 c1;have hzz:decide (x=y)=z:=by rw[<-hz,hrs,<-hx,<-hy];rfl
   have hzi:((x:Int) == (y:Int))=z:=by rw[<-hzz,Bool.eq_iff_iff,beq_iff_eq,decide_eq_true_eq];omega
   clear hx hy hrs hb1 hb2 hz
   cases z with
   | true=>
    go_quiet (fail)
    go_wp2_with fail
    go_meet
    exact ⟨rfl,_,rfl,below_drewN (Below.refl _ _) _⟩
   | false=>
    go_quiet (fail)
    go_wp2_with fail
    go_meet
    exact ⟨rfl,_,rfl,below_drewN (Below.refl _ _) _⟩
  .have hz0:z=false:=by
    rw[<-hz];have:=HR.out.2.1
    match rs,this with
    | [],_=>rfl
    | [r],e=>exact absurd e.symm h1
    | _::_::_,_=>rfl
   have h1i:((n:Int) == 1)=false:=by simp;omega
   clear h1 hz;subst hz0
   go_quiet (fail)
   go_wp2_with fail
   go_meet
   exact ⟨rfl,_,rfl,below_drewN (Below.refl _ _) _⟩
 case rest=>
  obtain ⟨rfl,W1,rfl,HW⟩:=hcut;have HB1:=Lib.hid (HB.out.below HW.out)
  cases z with
  | true=>
   obtain ⟨x,hx⟩:∃x,rs=[(x,x)]:=by
    have:=HR.out.2.2.2
    match rs,this with
    | [r],h=>
     have h2:r.1=r.2:=of_decide_eq_true h;exact ⟨r.1,by rw[show r=(r.1,r.1) from Prod.ext rfl h2.symm]⟩
   have hn1:n=1:=by rw[<-HR.out.2.1,hx];rfl
   subst hn1;obtain ⟨g,f,rfl,hg,⟨c0,-⟩,hb1,-⟩:=HR.out.1 W1 (KeepF.of_below HW.out).non 0 (by rw[hx];simp)
   have hx0:(rs[0]'(by rw[hx];simp)).1=x:=by simp only[hx,List.getElem_cons_zero]
   rw[hx0]at c0 hb1;rw[Nat.zero_mul,Nat.add_zero]at c0;have hokx:ok x:=by have:=(HR.out.2.2.1 (x,x) (by rw[hx];simp)).1;exact this
   have HS:=Lib.hid (HSG x W1 hokx hb1);have HT:=Lib.hid (show setT rs=sgnT x by rw[hx];unfold setT oneR hdR;simp)
   have H2:=Lib.hid (str_K b l fp (bs (sgnT x)) W1 HB1.out (by omega) (by rw[bs_size];have:=sgnT_len x;omega))
   clear hx0 hokx hb1 hx;go_wp2_with fail;refine HS.out.mono ?_;rintro e w2 ⟨rfl,hw2⟩;subst hw2;go_wp2_with fail;refine H2.out.mono ?_;rintro e w3 ⟨rfl,fp3,hk3,kf3⟩;have H3:=Lib.hid (And.intro hk3 kf3);clear hk3 kf3;go_wp2_with fail
   go_end0
   refine ⟨rfl,fp3,?_,(KeepF.of_below HW.out).trans H3.out.2⟩;rw[HT.out,<-bl_bs (sgnT x)];exact H3.out.1
  | false=>
   have HT:=Lib.hid (show setT rs=91::(rngsT rs++[93]) by unfold setT;rw[HR.out.2.2.2];rfl)
   have HLB:=Lib.hid (show l.length+1+(rngsT rs).length<=900000000 by have h9:=HT.out;rw[h9,List.length_cons,List.length_append]at hl;simp at hl;omega)
   have H2:=Lib.hid (byte_K b l fp 91 91 rfl W1 HB1.out (by omega))
   go_wp2_with fail;refine H2.out.mono ?_;rintro e w2 ⟨rfl,fp2,hk2,kf2⟩;have H3:=Lib.hid (And.intro hk2 ((KeepF.of_below (fp:=fp) HW.out).trans kf2));clear hk2 kf2;go_wp2_with fail
   go_loopw [31] (λiv wr=>∃(i:Nat) (li:List UInt8) (fpi:List Nat),i<=n/\iv = .int .i64 (i:Int)/\Hid (li++rngsT (rs.drop i)=l++91::rngsT rs)/\Hid (BuK b li fpi wr/\KeepF fp fpi w wr)) (λiv _=>n - (intOf iv).toNat)
   case atStart=>exact ⟨0,_,fp2,Nat.zero_le _,rfl,by show (l++[91])++rngsT (rs.drop 0)=_;rw[List.drop_zero,List.append_assoc];rfl,H3.out⟩
   case round=>
    obtain ⟨i,li,fpi,hi,rfl,HL,HK⟩:=hrel;by_cases hlt:i<n
    .have hd:decide ((i:Int)<(n:Int))=true:=decide_eq_true (by omega)
     have hdn:decide (i<n)=true:=decide_eq_true hlt;have hil:i<rs.length:=by rw[HR.out.2.1];exact hlt
     obtain ⟨g,f,rfl,hg,⟨c0,c1⟩,hb1,hb2⟩:=HR.out.1 wr HK.out.2.non i hil;have hdr:rngsT (rs.drop i)=rngT rs[i]++rngsT (rs.drop (i+1)):=by rw[List.drop_eq_getElem_cons hil,rngsT]
     have hokr:=HR.out.2.2.1 _ (List.getElem_mem hil);obtain ⟨x,hx⟩:∃x,rs[i].1=x:=⟨_,rfl⟩;obtain ⟨y,hy⟩:∃y,rs[i].2=y:=⟨_,rfl⟩;have hrg:rngT rs[i]=sgnT x++if y=x then [] else 45::sgnT y:=by unfold rngT;rw[hx,hy]
     rw[hx]at c0 hb1 hokr;rw[hy]at c1 hb2 hokr;rw[hrg]at hdr;have hll:li.length<=900000000:=by
      have h1:=congrArg List.length HL.out;have h2:=HLB.out;rw[List.length_append,List.length_append,List.length_cons]at h1;omega
     have HD:=Lib.hid hdr;have HS1:=Lib.hid λW=>HSG x W hokr.1 hb1;have HS2:=Lib.hid λW=>HSG y W hokr.2 hb2;have hi63:(i:Int)<(n:Int):=by omega
     clear hx hy hrg hdr hokr hil
     go_upto_region 6 with fail
     refine wpX_nm λW2 hW2=>?_;have hb:Below wr.heap.size wr W2:=by rw[hW2];exact (Below.refl _ _).alloc (Nat.le_refl _) _
     have hX2:W2.heap[wr.heap.size]?=some (.cells #[.int .u8 (x:Int), .int .u8 (y:Int)] 78 (0,0)):=by rw[hW2];exact heap_alloc_new wr _
     have hnx:wr.heap.size∉fpi:=λhm=>by have:=HK.out.1.lt _ hm;omega
     have HW2:=Lib.hid (And.intro hb (And.intro hX2 hnx));have H4:=Lib.hid (str_K b li fpi (bs (sgnT x)) W2 (HK.out.1.below hb) (by omega) (by rw[bs_size];have:=sgnT_len x;omega))
     obtain ⟨x0,x1⟩:W2.cell? ⟨wr.heap.size,0,none⟩=some (.int .u8 (x:Int))/\W2.cell? ⟨wr.heap.size,1,none⟩=some (.int .u8 (y:Int)):=by constructor <;> (rw[cell_of_row _ _ _ _ _ _ hX2]; rfl)
     have lx:wr.heap.size<W2.heap.size:=(Array.getElem?_eq_some_iff.1 hX2).1;clear hW2 hb hX2 hnx c0 c1;go_wp2_with fail;refine (HS1.out W2).mono ?_;rintro e w3 ⟨rfl,hw3⟩;subst hw3;go_wp2_with fail;refine H4.out.mono ?_;rintro e w4 ⟨rfl,fp4,hk4,kf4⟩;obtain ⟨n4,e4⟩:=bufKeep hk4 kf4 HW2.out.2.2 lx;have hX4:=e4.trans HW2.out.2.1;clear x0 x1 lx;obtain ⟨x0,x1⟩:w4.cell? ⟨wr.heap.size,0,none⟩=some (.int .u8 (x:Int))/\w4.cell? ⟨wr.heap.size,1,none⟩=some (.int .u8 (y:Int)):=by constructor <;> (rw[cell_of_row _ _ _ _ _ _ hX4]; rfl)
     have lx:wr.heap.size<w4.heap.size:=(Array.getElem?_eq_some_iff.1 hX4).1;have H5:=Lib.hid (And.intro hk4 ((HK.out.2.trans (KeepF.of_below (fp:=fpi) HW2.out.1)).trans kf4));clear hk4 kf4 n4 e4 hX4;by_cases hxy:y=x
     .have hne:((y:Int) != (x:Int))=false:=by simp[hxy]
      have HE:=Lib.hid (show (li++bl (bs (sgnT x)))++rngsT (rs.drop (i+1))=l++91::rngsT rs by
       rw[<-HL.out,HD.out,if_pos hxy,bl_bs,List.append_nil,List.append_assoc])
      clear hxy;go_wp2_with fail;go_roundw
      case rel=>exact ⟨i+1,_,fp4,by omega,by go_num,HE,H5.out⟩
      case measure=>simp[intOf];omega
     .have hne:((y:Int) != (x:Int))=true:=by simp;omega
      have HXY:=Lib.hid hxy;clear hxy;go_wp2_with fail;refine (HS2.out w4).mono ?_;rintro e w5 ⟨rfl,hw5⟩;subst hw5;have H6:=Lib.hid (str_K b (li++bl (bs (sgnT x))) fp4 ((⟨#[45]⟩:ByteArray)++bs (sgnT y)) w5 H5.out.1 (by rw[List.length_append,bl_bs];have:=sgnT_len x;omega) (by rw[ByteArray.size_append,bs_size];have:=sgnT_len y;show 1+_<=_;omega))
      clear x0 x1 lx;have hbig:¬9223372036854775807<(⟨#[45]⟩:ByteArray).size+(bs (sgnT y)).size:=by rw[bs_size];have:=sgnT_len y;show ¬_<1+_;omega
      have hbig2:¬9223372036854775807<1+(bs (sgnT y)).size:=hbig;go_wp2_with fail;refine H6.out.mono ?_;rintro e w6 ⟨rfl,fp6,hk6,kf6⟩;have H7:=Lib.hid (And.intro hk6 (H5.out.2.trans kf6));have HE:=Lib.hid (show (li++bl (bs (sgnT x))++bl ((⟨#[45]⟩:ByteArray)++bs (sgnT y)))++rngsT (rs.drop (i+1))=l++91::rngsT rs by
       rw[<-HL.out,HD.out,if_neg HXY.out,show ∀s t:ByteArray,bl (s++t)=bl s++bl t from λs t=>by unfold bl;simp,bl_bs,bl_bs]
       simp
       rfl)
      clear hk6 kf6;go_wp2_with fail;go_roundw
      case rel=>exact ⟨i+1,_,fp6,by omega,by go_num,HE,H7.out⟩
      case measure=>simp[intOf];omega
    .obtain rfl:i=n:=by omega
     have hd:decide ((i:Int)<(i:Int))=false:=decide_eq_false (by omega)
     have hdn:decide (i<i)=false:=decide_eq_false (by omega)
     have hll:li.length<=900000000:=by
      have h1:=congrArg List.length HL.out;have h2:=HLB.out;rw[List.length_append,List.length_append,List.length_cons]at h1;omega
     have H4:=Lib.hid (byte_K b li fpi 93 93 rfl wr HK.out.1 (by omega))
     go_wp2_with fail;refine H4.out.mono ?_;rintro e w4 ⟨rfl,fp4,hk4,kf4⟩;have H5:=Lib.hid (And.intro hk4 (HK.out.2.trans kf4));clear hk4 kf4;go_wp2_with fail
     go_end0
     refine ⟨rfl,fp4,?_,H5.out.2⟩;have h1:=HL.out;rw[List.drop_of_length_le (by rw[HR.out.2.1];exact Nat.le_refl _),rngsT,List.append_nil]at h1
     have h2:=H5.out.1;rw[h1]at h2;rw[HT.out];simpa using h2
end Go.Proofs.YtljgapfmgegifaaGreatDoor
