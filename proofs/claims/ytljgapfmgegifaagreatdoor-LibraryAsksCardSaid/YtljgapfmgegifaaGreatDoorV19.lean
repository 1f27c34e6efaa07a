/- Walks: the reader of patterns at one text: its number. -/
import Derived.Test.YtljgapfmgegifaaGreatDoorV12
import Derived.LoopN
import Derived.Lib.AsciiSet
import Derived.Test.YtljgapfmgegifaaGreatDoorV18
import Derived.Deep.WholeRow
namespace Go.Proofs.YtljgapfmgegifaaGreatDoor
set_option linter.unusedVariables false
set_option linter.unusedSimpArgs false
set_option maxRecDepth 100000
open Go.RowKit
def digT:ByteArray:=⟨#[48,49,50,51,52,53,54,55,56,57]⟩
theorem setCells_at:(Lib.setCells digT.data.toList)[50]?=some (.bool true)/\(Lib.setCells digT.data.toList)[125]?=some (.bool false)/\(Lib.setCells digT.data.toList).size=256:=⟨by rfl,by rfl,by rfl⟩
theorem foldOne:∀(l:List UInt8) (a:Array Value),(∀(i:Nat) (v:Value),a[i]?=some v->v.oneCell'=true)->∀(i:Nat) (v:Value),(l.foldl (λa c=>a.setIfInBounds c.toNat (.bool true)) a)[i]?=some v->v.oneCell'=true
 | [],_,h=>h
 | c::r,a,h=>foldOne r _ λi v hv=>by
  rw[Array.getElem?_setIfInBounds]at hv
  split at hv
  .split at hv
   .injection hv with hv;rw[<-hv];rfl
   .cases hv
  .exact h i v hv
theorem setOne (l:List UInt8):(Lib.setCells l).all (·.oneCell')=true:=by
 rw[Array.all_eq_true];intro i hi;refine foldOne l (Array.replicate 256 (.bool false)) (λj v hj=>?_) i _ (Array.getElem?_eq_getElem hi);rw[Array.getElem?_replicate]at hj
 split at hj
 .injection hj with hj;rw[<-hj];rfl
 .cases hj
theorem trimA_2 (b:Nat) (w:World) (h0:w.cell? ⟨b,50,none⟩=some (.bool true)) (h1:w.cell? ⟨b,125,none⟩=some (.bool false)) :
  Calls Tryz.prog 248 #[.string ⟨#[50,125]⟩, .pointer (some ⟨b,0,none⟩)] w λe w'=>e = .returned (.string ⟨#[125]⟩)/\w'=w:=by
 have H0:=Lib.hid (Tryz.asciiSet_contains b 50 true w h0);have H1:=Lib.hid (Tryz.asciiSet_contains b 125 false w h1);clear h0 h1
 go_enter Tryz.func248,Tryz.ntmps248
 go_wp2_with fail;refine wp_loop_rounds 2 ?_;rw[rounds_succ];go_wp2_with fail;refine H0.out.mono ?_;rintro e w1 ⟨rfl,hw1⟩;subst hw1;go_wp2_with fail;rw[rounds_succ];go_wp2_with fail;refine H1.out.mono ?_;rintro e w2 ⟨rfl,hw2⟩;subst hw2;go_wp2_with fail;go_ret;exact ⟨rfl,rfl⟩
theorem trim_2 (w:World):Calls Tryz.prog 232 #[.string ⟨#[50,125]⟩, .string digT] w λe w'=>e = .returned (.string ⟨#[125]⟩)/\Below w.heap.size w w':=by
 have hz:∀w,(zeroValue 225).run Tryz.prog w = .ok (.agg (Array.replicate 256 (.bool false))) w:=λ_=>by kernel_rfl
 have hm:=Tryz.strings_makeASCIISet hz digT;have HM:=Lib.hid (λw=>hm w (by decide) (λj b hj=>(show ∀b∈digT.data.toList,b.toNat<128 by decide) b (List.mem_of_getElem? hj)))
 clear hm;have hsc:=setCells_at;unfold digT at HM hsc|-
 go_enter Tryz.func232,Tryz.ntmps232
 go_wp2_with fail;refine (HM.out _).mono ?_;rintro e w1 ⟨rfl,hw1⟩;subst hw1;obtain ⟨SC,hSC⟩:∃c,Lib.setCells (⟨#[48,49,50,51,52,53,54,55,56,57]⟩:ByteArray).data.toList=c:=⟨_,rfl⟩;rw[hSC]at hsc|-;obtain ⟨s1,s2,s3⟩:=hsc;have hinf:(Tryz.prog.info? 225).map (·.size)=some 256:=by kernel_rfl
 have hone:SC.all (·.oneCell')=true:=by rw[<-hSC];exact setOne _
 have hst:=run_storeCells_new (P:=Tryz.prog) (w.alloc (.cells SC 225)) 225 (Array.replicate 256 (.bool false)) SC (by rw[s3];exact hinf) (by rw[s3];simp) hone
 simp only[World.size_alloc]at hst;have HS:=Lib.hid (And.intro s1 s2);clear hSC hinf hone s1 s2;go_wp2_with fail;clear hst;obtain ⟨W,hW⟩:∃W,W=(w.alloc (.cells SC 225)).alloc (.cells SC 225):=⟨_,rfl⟩;rw[<-hW];have hrow:W.heap[w.heap.size+1]?=some (.cells SC 225 (0,0)):=by rw[hW];simpa using heap_alloc_new (w.alloc (.cells SC 225)) (.cells SC 225)
 have hT:=trimA_2 (w.heap.size+1) W (by rw[cell_of_row _ _ _ _ _ _ hrow];exact HS.out.1) (by rw[cell_of_row _ _ _ _ _ _ hrow];exact HS.out.2)
 have HT:=Lib.hid hT;have HB:=Lib.hid (show Below w.heap.size w W by rw[hW];exact ((Below.refl _ _).alloc (Nat.le_refl _) _).alloc (by simp) _)
 clear hrow hT hW;refine HT.out.mono ?_;rintro e w3 ⟨rfl,hw3⟩;subst hw3;go_wp2_with fail;go_ret;exact ⟨rfl,HB.out⟩
theorem atoi_2 (w:World):Calls Tryz.prog 73 #[.string ⟨#[50]⟩] w λe w'=>e = .returned (.tuple #[.int .i64 2, .nilIface])/\Below w.heap.size w w':=by
 refine (Tryz.strconv_Atoi_ok ⟨#[50]⟩ (by decide) 2 (by rfl) w).mono ?_
 rintro e w' ⟨rfl,hw⟩;refine ⟨rfl,?_⟩;rcases hw with rfl | ⟨t,rfl⟩
 .exact Below.refl _ _
 .exact bw_below _ _ _
theorem number_2 (rb:Nat) (d:Int) (w:World) (h:RdW rb ⟨#[50,125]⟩ false d w) :
  Calls Tryz.prog 201 #[.pointer (some ⟨rb,0,none⟩)] w λe w'=>e = .returned (.int .i64 2)/\RdW rb ⟨#[125]⟩ false d w'/\KfR rb w w':=by
 have HT:=Lib.hid trim_2;unfold digT at HT;obtain ⟨⟨c0,c1,c2⟩,⟨f0,f1,f2⟩,hl⟩:=h.cells;have HR:=Lib.hid h;clear h
 go_enter Tryz.func201,Tryz.ntmps201
 go_wp2_with fail;refine (HT.out w).mono ?_;rintro e w1 ⟨rfl,hb1⟩;have hr1:=HR.out.later hb1;have H1:=Lib.hid (And.intro hr1 hb1);have hd0:∀d':BelT w1.heap.size w1,d'.val.cell? ⟨rb,0,none⟩=some (.string ⟨#[50,125]⟩):=λd'=>(hr1.later d'.property).cells.1.1;have hd1:∀d':BelT w1.heap.size w1,rb<d'.val.heap.size:=λd'=>(hr1.later d'.property).cells.2.2;clear c0 c1 c2 f0 f1 f2 hl hb1 hr1;go_wp2_with fail;refine wp_region_below (Below.refl w1.heap.size w1) (by kernel_rfl) (by kernel_rfl) ?_
 repeat (go_big_quiet_step ((go_at_call 73;exact Calls.below_of (Nat.le_refl _) (atoi_2 _))))
 refine wpQuiet_nil ?_;intro w2 hw';have hw2:Below w1.heap.size w1 w2:=by obtain ⟨d9,rfl⟩:=hw';exact d9.property
 clear hw';have hr2:=H1.out.1.later hw2;obtain ⟨⟨c0,c1,c2⟩,⟨f0,f1,f2⟩,hl⟩:=hr2.cells;have H2:=Lib.hid (And.intro hr2 (show KfR rb w w2 from (kfr_below H1.out.2).tr (kfr_below hw2)));clear hd0 hd1 hr2 hw2;go_wp2_with fail;refine post_named λWf hWf=>?_;subst hWf;refine bodyPost_ret (v:=.int .i64 2) (by simp[results,Tryz.results201,go_sem];try rfl) rfl ?_
 refine ⟨rfl,?_,(H2.out.2.tr kfr_set).tr kfr_set⟩;have h1:=set_row3 (set_row3 H2.out.1 1 (.bool false)) 0 (.string ⟨#[125]⟩);simpa [RdW] using h1
end Go.Proofs.YtljgapfmgegifaaGreatDoor
