/- ref05: Valid and Text at the node of a{1,2}. · ref05.size where the least is asked for; ref05.Shortest. -/
import Derived.Test.YtadjdkickjjieaaGreatDoorY18
import Derived.Test.YtadjdkickjjieaaGreatDoorY05
namespace Go.Proofs.YtadjdkickjjieaaGreatDoor
set_option linter.unusedVariables false
set_option linter.unusedSimpArgs false
set_option maxRecDepth 100000
open Go.RowKit
def bxL (q b:Nat) (w:World):Prop:=w.heap[b]?=some (.cells #[.int .i64 1, .slice (some ⟨q,0,none⟩) 1 1, .slice none 0 0, .int .i64 0, .int .i64 0] 29 (0,0))
def bxR (g b:Nat) (w:World):Prop:=w.heap[b]?=some (.cells #[.int .i64 4, .slice none 0 0, .slice (some ⟨g,0,none⟩) 1 1, .int .i64 1, .int .i64 2] 29 (0,0))
set_option maxHeartbeats 4000000 in
theorem zKG (q:Nat) (n n1:Int) (w:World) (hn:IntKind.i64.wrap (n+1)=n1):Calls Tryz.prog 88 #[(.agg #[.int .i64 1, .slice (some ⟨q,0,none⟩) 1 1, .slice none 0 0, .int .i64 0, .int .i64 0]), .int .i64 n] w λe w'=>e = .returned (.int .i64 n1)/\Below w.heap.size w w':=by
 go_enter Tryz.func88,Tryz.ntmps88
 go_wp2_with fail;refine zBl λW0 hW0=>?_;have hb0:Below w.heap.size w W0:=by rw[hW0];exact (Below.refl _ _).alloc (Nat.le_refl _) _
 have hX:bxL q w.heap.size W0:=by rw[hW0];exact heap_alloc_new w _
 have HB:=Lib.hid hb0;obtain ⟨b0,b1,b2,b3,b4⟩:=zAB hX;have lb:w.heap.size<W0.heap.size:=(Array.getElem?_eq_some_iff.1 hX).1;have HX:=Lib.hid hX;clear hW0 hb0 hX;refine wp_loop_rounds 1 ?_;rw[rounds_succ];go_wp2_with fail;go_ret;exact ⟨rfl,HB.out⟩
set_option maxHeartbeats 4000000 in
theorem zKd (g q:Nat) (w:World) (h:LfA g q w):Calls Tryz.prog 88 #[(.agg #[.int .i64 4, .slice none 0 0, .slice (some ⟨g,0,none⟩) 1 1, .int .i64 1, .int .i64 2]), .int .i64 0] w λe w'=>e = .returned (.int .i64 2)/\Below w.heap.size w w':=by
 have HLF:=Lib.hid h;clear h
 go_enter Tryz.func88,Tryz.ntmps88
 go_wp2_with fail;refine zBl λW0 hW0=>?_;have hb0:Below w.heap.size w W0:=by rw[hW0];exact (Below.refl _ _).alloc (Nat.le_refl _) _
 have hX:bxR g w.heap.size W0:=by rw[hW0];exact heap_alloc_new w _
 have HB:=Lib.hid hb0;obtain ⟨b0,b1,b2,b3,b4⟩:=zAB hX;have lb:w.heap.size<W0.heap.size:=(Array.getElem?_eq_some_iff.1 hX).1;have HX:=Lib.hid hX;clear hW0 hb0 hX;have hlf:=HLF.out.later HB.out;obtain ⟨k0,k1,k2,k3,k4⟩:=zAB hlf.1;have lg:g<W0.heap.size:=(Array.getElem?_eq_some_iff.1 hlf.1).1;clear hlf;refine wp_loop_rounds 2 ?_;rw[rounds_succ];go_wp2_with fail;refine (zKG q 1 2 W0 rfl).mono ?_;rintro e w1 ⟨rfl,hb1⟩;have HB1:=Lib.hid (HB.out.trans (hb1.mono HB.out.size));obtain ⟨c0,c1,c2,c3,c4⟩:=zAB ((hb1.block w.heap.size lb).trans HX.out);have lb1:w.heap.size<w1.heap.size:=Nat.lt_of_lt_of_le lb hb1.size;clear hb1 b0 b1 b2 b3 b4 k0 k1 k2 k3 k4;go_wp2_with fail;rw[rounds_succ];go_wp2_with fail;go_ret;exact ⟨rfl,HB1.out⟩
set_option maxHeartbeats 4000000 in
theorem zJk (g q:Nat) (w:World) (h:LfA g q w):Calls Tryz.prog 57 #[(.agg #[.int .i64 4, .slice none 0 0, .slice (some ⟨g,0,none⟩) 1 1, .int .i64 1, .int .i64 2])] w λe w'=>e = .returned (.int .i64 2)/\Below w.heap.size w w':=by
 have HLF:=Lib.hid h;clear h
 go_enter Tryz.func57,Tryz.ntmps57
 go_wp2_with fail;refine zAM λW0 hW0=>?_;have hb0:Below w.heap.size w W0:=by rw[hW0];exact (Below.refl _ _).alloc (Nat.le_refl _) _
 have HB:=Lib.hid hb0;clear hW0 hb0;refine (zKd g q W0 (HLF.out.later HB.out)).mono ?_;rintro e w1 ⟨rfl,hb1⟩;have HB1:=Lib.hid (HB.out.trans (hb1.mono HB.out.size));clear hb1;go_wp2_with fail;go_ret;exact ⟨rfl,HB1.out⟩
set_option maxHeartbeats 4000000 in
theorem zKO (q:Nat) (w:World):Calls Tryz.prog 58 #[(.agg #[.int .i64 1, .slice (some ⟨q,0,none⟩) 1 1, .slice none 0 0, .int .i64 0, .int .i64 0])] w λe w'=>e = .returned (.int .i64 1)/\Below w.heap.size w w':=by
 go_enter Tryz.func58,Tryz.ntmps58
 go_wp2_with fail;refine zBl λW0 hW0=>?_;have hb0:Below w.heap.size w W0:=by rw[hW0];exact (Below.refl _ _).alloc (Nat.le_refl _) _
 have hX:bxL q w.heap.size W0:=by rw[hW0];exact heap_alloc_new w _
 have HB:=Lib.hid hb0;obtain ⟨b0,b1,b2,b3,b4⟩:=zAB hX;have lb:w.heap.size<W0.heap.size:=(Array.getElem?_eq_some_iff.1 hX).1;have HX:=Lib.hid hX;clear hW0 hb0 hX;refine wp_loop_rounds 1 ?_;rw[rounds_succ];go_wp2_with fail;go_ret;exact ⟨rfl,HB.out⟩
set_option maxHeartbeats 4000000 in
theorem zKH (g q:Nat) (w:World) (h:LfA g q w):Calls Tryz.prog 58 #[(.agg #[.int .i64 4, .slice none 0 0, .slice (some ⟨g,0,none⟩) 1 1, .int .i64 1, .int .i64 2])] w λe w'=>e = .returned (.int .i64 2)/\Below w.heap.size w w':=by
 have HLF:=Lib.hid h;clear h
 go_enter Tryz.func58,Tryz.ntmps58
 go_wp2_with fail;refine zBl λW0 hW0=>?_;have hb0:Below w.heap.size w W0:=by rw[hW0];exact (Below.refl _ _).alloc (Nat.le_refl _) _
 have hX:bxR g w.heap.size W0:=by rw[hW0];exact heap_alloc_new w _
 have HB:=Lib.hid hb0;obtain ⟨b0,b1,b2,b3,b4⟩:=zAB hX;have lb:w.heap.size<W0.heap.size:=(Array.getElem?_eq_some_iff.1 hX).1;have HX:=Lib.hid hX;clear hW0 hb0 hX;have hlf:=HLF.out.later HB.out;obtain ⟨k0,k1,k2,k3,k4⟩:=zAB hlf.1;have lg:g<W0.heap.size:=(Array.getElem?_eq_some_iff.1 hlf.1).1;clear hlf;refine wp_loop_rounds 2 ?_;rw[rounds_succ];go_wp2_with fail;refine (zKO q W0).mono ?_;rintro e w1 ⟨rfl,hb1⟩;have HB1:=Lib.hid (HB.out.trans (hb1.mono HB.out.size));obtain ⟨c0,c1,c2,c3,c4⟩:=zAB ((hb1.block w.heap.size lb).trans HX.out);have lb1:w.heap.size<w1.heap.size:=Nat.lt_of_lt_of_le lb hb1.size;clear hb1 b0 b1 b2 b3 b4 k0 k1 k2 k3 k4;go_wp2_with fail;rw[rounds_succ];go_wp2_with fail;go_ret;exact ⟨rfl,HB1.out⟩
set_option maxHeartbeats 4000000 in
theorem zJS (q:Nat) (w:World) (h:RgA q w):Calls Tryz.prog 89 #[.slice (some ⟨q,0,none⟩) 1 1] w λe w'=>e = .returned (.bool true)/\Below w.heap.size w w':=by
 have d0:∀d:BelT w.heap.size w,d.val.cell? ⟨q,0,none⟩=some (.int .u8 97):=λd=>by rw[cell_of_row _ _ _ _ _ _ ((d.property.block q (Array.getElem?_eq_some_iff.1 h).1).trans h)];rfl
 have d1:∀d:BelT w.heap.size w,d.val.cell? ⟨q,1,none⟩=some (.int .u8 97):=λd=>by rw[cell_of_row _ _ _ _ _ _ ((d.property.block q (Array.getElem?_eq_some_iff.1 h).1).trans h)];rfl
 have d2:∀d:BelT w.heap.size w,q<d.val.heap.size:=λd=>Nat.lt_of_lt_of_le (Array.getElem?_eq_some_iff.1 h).1 d.property.size;clear h
 go_enter Tryz.func89,Tryz.ntmps89
 go_wp2_with fail;refine wp_loop_rounds 2 ?_;rw[rounds_succ];go_wp2_with fail;refine zAH (Below.refl w.heap.size w) (by kernel_rfl) (by kernel_rfl) ?_
 repeat (go_big_quiet_step (fail))
 refine wpQuiet_nil ?_;intro w1 hw';have hw1:Below w.heap.size w w1:=by obtain ⟨d9,rfl⟩:=hw';exact d9.property
 have HB1:=Lib.hid hw1;clear hw' hw1 d0 d1 d2;go_wp2_with fail;rw[rounds_succ];go_wp2_with fail;go_ret;exact ⟨rfl,HB1.out⟩
set_option maxHeartbeats 4000000 in
theorem zJc (q:Nat) (w:World) (h:RgA q w):Calls Tryz.prog 59 #[(.agg #[.int .i64 1, .slice (some ⟨q,0,none⟩) 1 1, .slice none 0 0, .int .i64 0, .int .i64 0])] w λe w'=>e = .returned (.bool true)/\Below w.heap.size w w':=by
 have HR:=Lib.hid h;clear h
 go_enter Tryz.func59,Tryz.ntmps59
 go_wp2_with fail;refine zAM λW0 hW0=>?_;have hb0:Below w.heap.size w W0:=by rw[hW0];exact (Below.refl _ _).alloc (Nat.le_refl _) _
 have hX:bxL q w.heap.size W0:=by rw[hW0];exact heap_alloc_new w _
 have HB:=Lib.hid hb0;have HX:=Lib.hid hX;have lb:w.heap.size<W0.heap.size:=(Array.getElem?_eq_some_iff.1 hX).1;clear hW0 hb0 hX;refine (zJS q W0 ((HB.out.block q (Array.getElem?_eq_some_iff.1 HR.out).1).trans HR.out)).mono ?_;rintro e w1 ⟨rfl,hb1⟩;have HB1:=Lib.hid (HB.out.trans (hb1.mono HB.out.size));obtain ⟨c0,c1,c2,c3,c4⟩:=zAB ((hb1.block w.heap.size lb).trans HX.out);have lb1:w.heap.size<w1.heap.size:=Nat.lt_of_lt_of_le lb hb1.size;clear hb1;go_wp2_with fail;refine wp_loop_rounds 1 ?_;rw[rounds_succ];go_wp2_with fail;go_ret;exact ⟨rfl,HB1.out⟩
set_option maxHeartbeats 4000000 in
theorem zKL (g q:Nat) (w:World) (h:LfA g q w):Calls Tryz.prog 59 #[(.agg #[.int .i64 4, .slice none 0 0, .slice (some ⟨g,0,none⟩) 1 1, .int .i64 1, .int .i64 2])] w λe w'=>e = .returned (.bool true)/\Below w.heap.size w w':=by
 have HLF:=Lib.hid h;clear h
 go_enter Tryz.func59,Tryz.ntmps59
 go_wp2_with fail;refine zBl λW0 hW0=>?_;have hb0:Below w.heap.size w W0:=by rw[hW0];exact (Below.refl _ _).alloc (Nat.le_refl _) _
 have hX:bxR g w.heap.size W0:=by rw[hW0];exact heap_alloc_new w _
 have HB:=Lib.hid hb0;obtain ⟨b0,b1,b2,b3,b4⟩:=zAB hX;have lb:w.heap.size<W0.heap.size:=(Array.getElem?_eq_some_iff.1 hX).1;have HX:=Lib.hid hX;clear hW0 hb0 hX;have hlf:=HLF.out.later HB.out;obtain ⟨k0,k1,k2,k3,k4⟩:=zAB hlf.1;have lg:g<W0.heap.size:=(Array.getElem?_eq_some_iff.1 hlf.1).1;clear hlf;refine wp_loop_rounds 2 ?_;rw[rounds_succ];go_wp2_with fail;refine (zJc q W0 (HLF.out.later HB.out).2).mono ?_;rintro e w1 ⟨rfl,hb1⟩;have HB1:=Lib.hid (HB.out.trans (hb1.mono HB.out.size));obtain ⟨c0,c1,c2,c3,c4⟩:=zAB ((hb1.block w.heap.size lb).trans HX.out);have lb1:w.heap.size<w1.heap.size:=Nat.lt_of_lt_of_le lb hb1.size;clear hb1 b0 b1 b2 b3 b4 k0 k1 k2 k3 k4;go_wp2_with fail;rw[rounds_succ];go_wp2_with fail;go_ret;exact ⟨rfl,HB1.out⟩
set_option maxHeartbeats 4000000 in
theorem zLE (q:Nat) (b:Bool) (w:World):Calls Tryz.prog 30 #[(.agg #[.int .i64 1, .slice (some ⟨q,0,none⟩) 1 1, .slice none 0 0, .int .i64 0, .int .i64 0]), .bool b] w λe w'=>e = .returned (.int .i64 1)/\Below w.heap.size w w':=by
 go_enter Tryz.func30,Tryz.ntmps30
 go_wp2_with fail;go_ret;exact ⟨rfl,(Below.refl _ _).alloc (Nat.le_refl _) _⟩
set_option maxHeartbeats 4000000 in
theorem zLP (g q:Nat) (w:World) (h:LfA g q w):Calls Tryz.prog 30 #[(.agg #[.int .i64 4, .slice none 0 0, .slice (some ⟨g,0,none⟩) 1 1, .int .i64 1, .int .i64 2]), .bool true] w λe w'=>e = .returned (.int .i64 2)/\Below w.heap.size w w':=by
 have k:=zAB h.1;obtain ⟨k0,k1,k2,k3,k4⟩:=k;have lg:g<w.heap.size:=(Array.getElem?_eq_some_iff.1 h.1).1;have lg2:g<w.heap.size+1:=by omega
 have ng:g≠w.heap.size:=by omega
 clear h
 go_enter Tryz.func30,Tryz.ntmps30
 go_wp2_with fail;refine zAM λW0 hW0=>?_;have hb0:Below w.heap.size w W0:=by rw[hW0];exact (Below.refl _ _).alloc (Nat.le_refl _) _
 have HB:=Lib.hid hb0;clear hW0 hb0;refine (zLE q true W0).mono ?_;rintro e w1 ⟨rfl,hb1⟩;have HB1:=Lib.hid (HB.out.trans (hb1.mono HB.out.size));clear hb1;go_wp2_with fail;go_ret;exact ⟨rfl,HB1.out⟩
set_option maxHeartbeats 16000000 in
theorem zG2:∀(m:Nat) (nd:Nd) (vs:List Value) (w:World),zAE nd<=m->zAE nd<=200->zAF nd=true->zAY nd<=1024->NdIn w nd vs->Calls Tryz.prog 30 #[.agg vs.toArray, .bool false] w λe w'=>e = .returned (.int .i64 ((zAT nd:Nat):Int))/\Below w.heap.size w w':=by
 intro m
 induction m with
 | zero=>intro nd vs w h;cases nd;rw[zAE]at h;omega
 | succ m ih=>
  rintro ⟨op,rs,kids,mn,mx⟩ vs w h h200 hrt hl1 hn;obtain ⟨v1,v2,rfl,hr,A,c,rfl,hc,hk⟩:=hn;obtain ⟨A1,c1,rfl,hc1,-⟩:=hr;have hT:zAE (.mk op rs kids mn mx)=1+zAS kids:=by rw[zAE]
  rw[hT]at h h200;have HM:=Lib.hid (And.intro h h200);obtain ⟨hop,hrs⟩:=zAp hrt;have HRS:=Lib.hid hrs;obtain ⟨rl,hrl⟩:∃n,rs.length=n:=⟨_,rfl⟩;obtain ⟨kl,hkl⟩:∃n,kids.length=n:=⟨_,rfl⟩;have hk2:op=3->1<=kl:=λe=>by
   have h1:=hrt;rw[zAF,Bool.and_eq_true]at h1;have h2:=h1.1;rw[zCb (nd:=.mk op rs kids mn mx) (.inr e)]at h2;have h3:(decide (2<=kids.length) && _)=true:=h2;rw[Bool.and_eq_true,decide_eq_true_eq]at h3;omega
  have HK:=Lib.hid hk;have HL:=Lib.hid (And.intro hrl hkl);have HLF:=Lib.hid (show zAT (.mk op rs kids mn mx)=min (if op=1 then 1 else if op=2 then zAn kids else if op=3 then zAg kids else mn.toNat*zC4 kids) 1025 by
   have h9:=zAz _ hrt hl1;rw[zAT]at h9|-;rw[Nat.min_eq_left (Nat.le_trans h9 (by decide))])
  have HKL:=Lib.hid (zDu hrt hl1);have hle:=zGD hrt;have HSS:=Lib.hid (show op=2->zAn kids<=1024 from λe=>by
   have h9:=zAz _ hrt hl1;rw[zAT,if_neg (by omega),if_pos e]at h9
   exact h9)
  clear hl1;rw[hkl]at hop;rw[hrl]at hc1|-;rw[hkl]at hc|-;clear hrl hkl hk hT h h200 hrt hrs
  go_enter Tryz.func30,Tryz.ntmps30
  rcases hop with o1 | o2 | o3 | ⟨o4,k1,m0,m1,m64⟩
  .subst o1;go_wp2_with fail;go_ret;exact ⟨zAO (by rw[HLF.out];rfl),(Below.refl _ _).alloc (Nat.le_refl _) _⟩
  .subst o2;rw[if_neg (by decide),if_pos rfl]at HLF
   go_wp2_with fail;refine zBl λW0 hW0=>?_;have hb0:Below w.heap.size w W0:=by rw[hW0];exact (Below.refl _ _).alloc (Nat.le_refl _) _
   have hX0:W0.heap[w.heap.size]?=some (.cells #[.int .i64 2, .slice A1 rl c1, .slice A kl c, .int .i64 mn, .int .i64 mx] 29 (0,0)):=by rw[hW0];exact heap_alloc_new w _
   have HB0:=Lib.hid (And.intro hb0 hX0);clear hW0 hb0 hX0;have hsb:zAn kids<=1024:=by first | exact HSS.out rfl | exact HSS.out trivial
   have hkb:kl<=200:=by have h1:=zBc kids;have h2:=HM.out;have h3:=HL.out.2;omega
   go_loopw [6,5] (λiv ov wr=>∃(k o:Nat),k<=kl/\iv = .int .i64 (k:Int)/\ov = .int .i64 (o:Int)/\o<=205000/\Hid (o+zAn (kids.drop k)=zAn kids)/\Hid (Below w.heap.size w wr/\wr.heap[w.heap.size]?=some (.cells #[.int .i64 2, .slice A1 rl c1, .slice A kl c, .int .i64 mn, .int .i64 mx] 29 (0,0)))) (λiv _ _=>kl - (intOf iv).toNat)
   case atStart=>exact ⟨0,0,by omega,rfl,rfl,by omega,by show 0+zAn (kids.drop 0)=_;rw[List.drop_zero];omega,HB0.out⟩
   case round=>
    obtain ⟨k,o,hkk,rfl,rfl,ho,HO,HB⟩:=hrel;obtain ⟨b0,b1,b2,b3,b4⟩:=zAB HB.out.2;have lb:w.heap.size<wr.heap.size:=(Array.getElem?_eq_some_iff.1 HB.out.2).1;by_cases hlt:k<kl
    .have hd:decide ((k:Int)<(kl:Int))=true:=decide_eq_true (by omega)
     have hdn:decide (k<kl)=true:=decide_eq_true hlt;have hkl:k<kids.length:=by rw[HL.out.2];omega
     obtain ⟨g,f,hA,hg,hkd⟩:=HK.out.resolve_left (by intro e;rw[e]at hkl;simp at hkl)
     subst hA;obtain ⟨vs,hcv,hnd⟩:=hkd.at k hkl;have hmem:=zAG (List.getElem_mem hkl);have hrk:=zAK HRS.out (List.getElem_mem hkl);have hlk:=HKL.out _ (List.getElem_mem hkl);have hdr:zAn (kids.drop k)=zAT kids[k]+zAn (kids.drop (k+1)):=by rw[List.drop_eq_getElem_cons hkl,zAn]
     obtain ⟨kd,hkd2⟩:∃kd,kids[k]=kd:=⟨_,rfl⟩;rw[hkd2]at hnd hmem hdr hrk hlk;obtain ⟨B1,e1,B2,e2,rfl,-,-,-⟩:=hnd.form;have q:∀j,j<5->wr.cell? ⟨g,f+k*5+j,none⟩=([.int .i64 kd.op, .slice B1 kd.rs.length e1, .slice B2 kd.kids.length e2, .int .i64 kd.mn, .int .i64 kd.mx]:List Value)[j]?:=λj hj=>(HB.out.1.cell (p:=⟨g,f+k*5+j,none⟩) hg).trans (hcv j hj);have q0:=q 0 (by omega);have q1:=q 1 (by omega);have q2:=q 2 (by omega);have q3:=q 3 (by omega);have q4:=q 4 (by omega)
     simp only[Nat.zero_mul,Nat.add_zero,List.getElem?_cons_zero,List.getElem?_cons_succ]at q0 q1 q2 q3 q4;have lg:g<wr.heap.size:=Nat.lt_of_lt_of_le hg HB.out.1.size;have HI:=Lib.hid (ih kd _ wr (by have:=HM.out.1;omega) (by have:=HM.out.2;omega) hrk hlk (hnd.later HB.out.1))
     have HD:=Lib.hid hdr;have hx0:zAT kd<=1025:=by have h9:=zAz kd hrk hlk;omega
     clear q hcv hnd hkd2 hkd hdr hrk hlk;go_wp2_with fail;refine HI.out.mono ?_;rintro e w7 ⟨rfl,hb7⟩;obtain ⟨x,hx⟩:∃x,zAT kd=x:=⟨_,rfl⟩;rw[hx]at hx0|-;have HX:=Lib.hid hx;have HB7:=Lib.hid (And.intro (HB.out.1.trans (hb7.mono HB.out.1.size)) ((hb7.block _ lb).trans HB.out.2));clear hb7 hx hmem q0 q1 q2 q3 q4 b0 b1 b2 b3 b4;have hox:o+x<=205000:=by have h1:=HO.out;have h2:=HD.out;have h3:=HX.out;omega
     go_wp2_with fail;go_roundw
     case rel=>exact ⟨k+1,o+x,by omega,by go_num,by go_num,hox,by have h1:=HO.out;have h2:=HD.out;have h3:=HX.out;show o+x+zAn (kids.drop (k+1))=zAn kids;omega,HB7⟩
     case measure=>simp[intOf];omega
    .obtain rfl:k=kl:=by omega
     have hd:decide ((k:Int)<(k:Int))=false:=decide_eq_false (by omega)
     have hdn:decide (k<k)=false:=decide_eq_false (by omega)
     have HE:=Lib.hid (show o=zAn kids by have h1:=HO.out;rw[List.drop_of_length_le (by have:=HL.out.2;omega),zAn]at h1;omega)
     obtain ⟨z,hz⟩:∃z:Nat,z=min o 1025:=⟨_,rfl⟩;have hz2:min (o:Int) 1025=(z:Int):=by omega
     have HZ:=Lib.hid hz;clear hz;go_wp2_with fail;go_ret;exact ⟨zAO (by rw[HLF.out,HZ.out,HE.out]),HB.out.1⟩
  .subst o3;rw[if_neg (by decide),if_neg (by decide),if_pos rfl]at HLF
   have hk1:=hk2 rfl;clear hk2;have hkb:kl<=200:=by have h1:=zBc kids;have h2:=HM.out;have h3:=HL.out.2;omega
   have hkl:0<kids.length:=by rw[HL.out.2];omega
   obtain ⟨g,f,hA,hg,hkd⟩:=HK.out.resolve_left (by intro e;rw[e]at hkl;simp at hkl)
   subst hA;obtain ⟨vs,hcv,hnd⟩:=hkd.at 0 hkl;have hmem:=zAG (List.getElem_mem hkl);have hrk:=zAK HRS.out (List.getElem_mem hkl);have hlk:=HKL.out _ (List.getElem_mem hkl);have hdr:zAg kids=min (zAT kids[0]) (zAg (kids.drop 1)):=by
    have e9:=List.drop_eq_getElem_cons hkl;rw[List.drop_zero]at e9
    conv=>lhs;rw[e9]
    rw[zAg]
   obtain ⟨kd,hkd2⟩:∃kd,kids[0]=kd:=⟨_,rfl⟩;rw[hkd2]at hnd hmem hdr hrk hlk;obtain ⟨B1,e1,B2,e2,rfl,-,-,-⟩:=hnd.form;have q0:w.cell? ⟨g,f,none⟩=some (.int .i64 kd.op):=hcv 0 (by omega)
   have q1:w.cell? ⟨g,f+1,none⟩=some (.slice B1 kd.rs.length e1):=hcv 1 (by omega)
   have q2:w.cell? ⟨g,f+2,none⟩=some (.slice B2 kd.kids.length e2):=hcv 2 (by omega)
   have q3:w.cell? ⟨g,f+3,none⟩=some (.int .i64 kd.mn):=hcv 3 (by omega)
   have q4:w.cell? ⟨g,f+4,none⟩=some (.int .i64 kd.mx):=hcv 4 (by omega)
   have lg2:g<w.heap.size+1:=by omega
   have ng:g≠w.heap.size:=by omega
   have HI:=Lib.hid λW (hb:Below w.heap.size w W)=>ih kd _ W (by have:=HM.out.1;omega) (by have:=HM.out.2;omega) hrk hlk (hnd.later hb)
   have HD:=Lib.hid hdr;have HK0:=Lib.hid hkd;have hx0:zAT kd<=1025:=by have h9:=zAz kd hrk hlk;omega
   clear hcv hnd hkd2 hkd hdr hrk hlk hkl;go_wp2_with fail;refine zAM λW0 hW0=>?_;have hb0:Below w.heap.size w W0:=by rw[hW0];exact (Below.refl _ _).alloc (Nat.le_refl _) _
   have hX0:W0.heap[w.heap.size]?=some (.cells #[.int .i64 3, .slice A1 rl c1, .slice (some ⟨g,f,none⟩) kl c, .int .i64 mn, .int .i64 mx] 29 (0,0)):=by rw[hW0];exact heap_alloc_new w _
   have HB:=Lib.hid (And.intro hb0 hX0);have lb:w.heap.size<W0.heap.size:=(Array.getElem?_eq_some_iff.1 hX0).1;clear hW0 hb0 hX0;refine (HI.out W0 HB.out.1).mono ?_;rintro e w7 ⟨rfl,hb7⟩;obtain ⟨x,hx⟩:∃x,zAT kd=x:=⟨_,rfl⟩;rw[hx]at hx0|-;have HX:=Lib.hid hx;have HB7:=Lib.hid (And.intro (HB.out.1.trans (hb7.mono HB.out.1.size)) ((hb7.block _ lb).trans HB.out.2));clear hb7 hx hmem q0 q1 q2 q3 q4 lg2 ng HB lb;have HB0:=HB7;go_wp2_with fail
   go_loopw [7,5] (λiv ov wr=>∃(k o:Nat),1<=k/\k<=kl/\iv = .int .i64 (k:Int)/\ov = .int .i64 (o:Int)/\o<=1025/\Hid (min o (zAg (kids.drop k))=zAg kids)/\Hid (Below w.heap.size w wr/\wr.heap[w.heap.size]?=some (.cells #[.int .i64 3, .slice A1 rl c1, .slice (some ⟨g,f,none⟩) kl c, .int .i64 mn, .int .i64 mx] 29 (0,0)))) (λiv _ _=>kl - (intOf iv).toNat)
   case atStart=>exact ⟨1,x,by omega,by omega,rfl,rfl,hx0,by have h1:=HD.out;have h2:=HX.out;rw[h2]at h1;exact h1.symm,HB0.out⟩
   case round=>
    obtain ⟨k,o,hk1,hkk,rfl,rfl,ho,HO,HB⟩:=hrel;obtain ⟨b0,b1,b2,b3,b4⟩:=zAB HB.out.2;have lb:w.heap.size<wr.heap.size:=(Array.getElem?_eq_some_iff.1 HB.out.2).1;by_cases hlt:k<kl
    .have hd:decide ((k:Int)<(kl:Int))=true:=decide_eq_true (by omega)
     have hdn:decide (k<kl)=true:=decide_eq_true hlt;have hkl:k<kids.length:=by rw[HL.out.2];omega
     have hkd:=HK0.out;obtain ⟨vs,hcv,hnd⟩:=hkd.at k hkl;have hmem:=zAG (List.getElem_mem hkl);have hrk:=zAK HRS.out (List.getElem_mem hkl);have hlk:=HKL.out _ (List.getElem_mem hkl);have hdr:zAg (kids.drop k)=min (zAT kids[k]) (zAg (kids.drop (k+1))):=by rw[List.drop_eq_getElem_cons hkl,zAg]
     clear HI HD HX hx0;obtain ⟨kd,hkd2⟩:∃kd,kids[k]=kd:=⟨_,rfl⟩;rw[hkd2]at hnd hmem hdr hrk hlk;obtain ⟨B1,e1,B2,e2,rfl,-,-,-⟩:=hnd.form;have q:∀j,j<5->wr.cell? ⟨g,f+k*5+j,none⟩=([.int .i64 kd.op, .slice B1 kd.rs.length e1, .slice B2 kd.kids.length e2, .int .i64 kd.mn, .int .i64 kd.mx]:List Value)[j]?:=λj hj=>(HB.out.1.cell (p:=⟨g,f+k*5+j,none⟩) hg).trans (hcv j hj);have q0:=q 0 (by omega);have q1:=q 1 (by omega);have q2:=q 2 (by omega);have q3:=q 3 (by omega);have q4:=q 4 (by omega)
     simp only[Nat.zero_mul,Nat.add_zero,List.getElem?_cons_zero,List.getElem?_cons_succ]at q0 q1 q2 q3 q4;have lg:g<wr.heap.size:=Nat.lt_of_lt_of_le hg HB.out.1.size;have HI:=Lib.hid (ih kd _ wr (by have:=HM.out.1;omega) (by have:=HM.out.2;omega) hrk hlk (hnd.later HB.out.1))
     have HD:=Lib.hid hdr;have hx0:zAT kd<=1025:=by have h9:=zAz kd hrk hlk;omega
     clear q hcv hnd hkd2 hkd hdr hrk hlk;go_wp2_with fail;refine HI.out.mono ?_;rintro e w7 ⟨rfl,hb7⟩;obtain ⟨x,hx⟩:∃x,zAT kd=x:=⟨_,rfl⟩;rw[hx]at hx0|-;have HX:=Lib.hid hx;have HB7:=Lib.hid (And.intro (HB.out.1.trans (hb7.mono HB.out.1.size)) ((hb7.block _ lb).trans HB.out.2));clear hb7 hx hmem q0 q1 q2 q3 q4 b0 b1 b2 b3 b4;by_cases hox:x<o
     .have t1:decide ((x:Int)<(o:Int))=true:=decide_eq_true (by omega)
      have t1n:decide (x<o)=true:=decide_eq_true hox;go_wp2_with fail;go_roundw
      case rel=>exact ⟨k+1,x,by omega,by omega,by go_num,rfl,hx0,by have h1:=HO.out;have h2:=HD.out;have h3:=HX.out;show min x (zAg (kids.drop (k+1)))=zAg kids;omega,HB7⟩
      case measure=>simp[intOf];omega
     .have t1:decide ((x:Int)<(o:Int))=false:=decide_eq_false (by omega)
      have t1n:decide (x<o)=false:=decide_eq_false hox;go_wp2_with fail;go_roundw
      case rel=>exact ⟨k+1,o,by omega,by omega,by go_num,rfl,ho,by have h1:=HO.out;have h2:=HD.out;have h3:=HX.out;show min o (zAg (kids.drop (k+1)))=zAg kids;omega,HB7⟩
      case measure=>simp[intOf];omega
    .obtain rfl:k=kl:=by omega
     have hd:decide ((k:Int)<(k:Int))=false:=decide_eq_false (by omega)
     have hdn:decide (k<k)=false:=decide_eq_false (by omega)
     have HE:=Lib.hid (show o=zAg kids by have h1:=HO.out;rw[List.drop_of_length_le (by have:=HL.out.2;omega),zAg]at h1;omega)
     obtain ⟨z,hz⟩:∃z:Nat,z=min o 1025:=⟨_,rfl⟩;have hz2:min (o:Int) 1025=(z:Int):=by omega
     have HZ:=Lib.hid hz;clear hz;go_wp2_with fail;go_ret;exact ⟨zAO (by rw[HLF.out,HZ.out,HE.out]),HB.out.1⟩
  .subst o4;have hle:=hle rfl;have HK1:=Lib.hid k1;clear k1;rw[if_neg (by decide),if_neg (by decide),if_neg (by decide)]at HLF
   clear hk2;have hkl:0<kids.length:=by have:=HL.out.2;have:=HK1.out;omega
   obtain ⟨g,f,hA,hg,hkd⟩:=HK.out.resolve_left (by intro e;rw[e]at hkl;simp at hkl)
   subst hA;obtain ⟨vs,hcv,hnd⟩:=hkd.at 0 hkl;have hmem:=zAG (List.getElem_mem hkl);have hrk:=zAK HRS.out (List.getElem_mem hkl);have hlk:=HKL.out _ (List.getElem_mem hkl);have hdr:zC4 kids=zAT kids[0]:=by
    have e9:=List.drop_eq_getElem_cons hkl;rw[List.drop_zero]at e9
    conv=>lhs;rw[e9]
    rw[zC4]
   obtain ⟨kd,hkd2⟩:∃kd,kids[0]=kd:=⟨_,rfl⟩;rw[hkd2]at hnd hmem hdr hrk hlk;obtain ⟨B1,e1,B2,e2,rfl,-,-,-⟩:=hnd.form;have q0:w.cell? ⟨g,f,none⟩=some (.int .i64 kd.op):=hcv 0 (by omega)
   have q1:w.cell? ⟨g,f+1,none⟩=some (.slice B1 kd.rs.length e1):=hcv 1 (by omega)
   have q2:w.cell? ⟨g,f+2,none⟩=some (.slice B2 kd.kids.length e2):=hcv 2 (by omega)
   have q3:w.cell? ⟨g,f+3,none⟩=some (.int .i64 kd.mn):=hcv 3 (by omega)
   have q4:w.cell? ⟨g,f+4,none⟩=some (.int .i64 kd.mx):=hcv 4 (by omega)
   have lg2:g<w.heap.size+1:=by omega
   have ng:g≠w.heap.size:=by omega
   have HI:=Lib.hid λW (hb:Below w.heap.size w W)=>ih kd _ W (by have:=HM.out.1;omega) (by have:=HM.out.2;omega) hrk hlk (hnd.later hb)
   have HD:=Lib.hid hdr;have HK0:=Lib.hid hkd;have hx0:zAT kd<=1025:=by have h9:=zAz kd hrk hlk;omega
   clear hcv hnd hkd2 hkd hdr hrk hlk hkl;have hkl1:0<kl:=by have:=HK1.out;omega
   go_wp2_with fail;refine zAM λW0 hW0=>?_;have hb0:Below w.heap.size w W0:=by rw[hW0];exact (Below.refl _ _).alloc (Nat.le_refl _) _
   have hX0:W0.heap[w.heap.size]?=some (.cells #[.int .i64 4, .slice A1 rl c1, .slice (some ⟨g,f,none⟩) kl c, .int .i64 mn, .int .i64 mx] 29 (0,0)):=by rw[hW0];exact heap_alloc_new w _
   have HB:=Lib.hid (And.intro hb0 hX0);have lb:w.heap.size<W0.heap.size:=(Array.getElem?_eq_some_iff.1 hX0).1;clear hW0 hb0 hX0;refine (HI.out W0 HB.out.1).mono ?_;rintro e w7 ⟨rfl,hb7⟩;obtain ⟨x,hx⟩:∃x,zAT kd=x:=⟨_,rfl⟩;rw[hx]at hx0|-;have HX:=Lib.hid hx;have HB7:=Lib.hid (And.intro (HB.out.1.trans (hb7.mono HB.out.1.size)) ((hb7.block _ lb).trans HB.out.2));clear hb7 hx hmem q0 q1 q2 q3 q4 lg2 ng HB lb;obtain ⟨t,ht⟩:∃t:Nat,(t:Int)=mn:=⟨mn.toNat,by omega⟩
   subst ht;have htx:t*x<=64*1025:=Nat.mul_le_mul (by omega) hx0
   obtain ⟨o,hop⟩:∃o,t*x=o:=⟨_,rfl⟩;have hmul:(t:Int)*(x:Int)=(o:Int):=by rw[<-hop];exact (Int.natCast_mul t x).symm
   have HE:=Lib.hid (show o=(t:Int).toNat*zC4 kids by rw[HD.out,HX.out,<-hop];rfl)
   rw[hop]at htx;have HB:=HB7;clear hop;obtain ⟨z,hz⟩:∃z:Nat,z=min o 1025:=⟨_,rfl⟩;have hz2:min (o:Int) 1025=(z:Int):=by omega
   have HZ:=Lib.hid hz;clear hz;go_wp2_with fail;go_ret;exact ⟨zAO (by rw[HLF.out,HZ.out,HE.out]),HB.out.1⟩
set_option maxHeartbeats 4000000 in
theorem zHc (nd:Nd) (vs:List Value) (w:World) (hn:NdIn w nd vs) (hv:zAV nd=0):Calls Tryz.prog 9 #[.agg vs.toArray] w λe w'=>e = .returned (.int .i64 ((zAT nd:Nat):Int))/\Below w.heap.size w w':=by
 obtain ⟨v1,-,v3,v4⟩:=zBE hv;have HV:=Lib.hid λW (hb:Below w.heap.size w W)=>zDS nd vs W (hn.later hb);rw[hv]at HV;have HS:=Lib.hid λW (hb:Below w.heap.size w W)=>zG2 _ nd vs W (Nat.le_refl _) v1 v3 v4 (hn.later hb);obtain ⟨A1,c1,A2,c2,rfl,-⟩:=hn.form;clear hn hv v1 v3 v4
 go_enter Tryz.func9,Tryz.ntmps9
 go_wp2_with fail;refine zAM λW0 hW0=>?_;have hb0:Below w.heap.size w W0:=by rw[hW0];exact (Below.refl _ _).alloc (Nat.le_refl _) _
 have hX0:W0.heap[w.heap.size]?=some (.cells #[.int .i64 nd.op, .slice A1 nd.rs.length c1, .slice A2 nd.kids.length c2, .int .i64 nd.mn, .int .i64 nd.mx] 29 (0,0)):=by rw[hW0];exact heap_alloc_new w _
 have HB0:=Lib.hid (And.intro hb0 hX0);clear hW0 hb0 hX0;refine (HV.out W0 HB0.out.1).mono ?_;rintro e w1 ⟨rfl,hb1⟩;have HB1:=Lib.hid (And.intro (HB0.out.1.trans (hb1.mono HB0.out.1.size)) ((hb1.block _ (Array.getElem?_eq_some_iff.1 HB0.out.2).1).trans HB0.out.2));clear hb1;obtain ⟨b0,b1,b2,b3,b4⟩:=zAB HB1.out.2;have lb:w.heap.size<w1.heap.size:=(Array.getElem?_eq_some_iff.1 HB1.out.2).1;go_wp2_with fail;clear b0 b1 b2 b3 b4 lb;refine (HS.out w1 HB1.out.1).mono ?_;rintro e w2 ⟨rfl,hb2⟩;have HB2:=Lib.hid (HB1.out.1.trans (hb2.mono HB1.out.1.size));clear hb2;go_wp2_with fail;go_ret;exact ⟨rfl,HB2.out⟩
end Go.Proofs.YtadjdkickjjieaaGreatDoor
