/- Walks: library.Valid; library.line, library.text and library.Text at the token's kind; law07.token. -/
import Derived.Test.YtljgapfmgegifaaGreatDoorY25
import Derived.Test.YtljgapfmgegifaaGreatDoorY35
namespace Go.Proofs.YtljgapfmgegifaaGreatDoor
set_option linter.unusedVariables false
set_option linter.unusedSimpArgs false
set_option maxRecDepth 100000
open Go.RowKit
theorem lvalid_any (A:Option Addr) (n c:Nat) (us:List KC) (ks:List Kn) (w:World) (h:KnsIn w (.slice A n c) us ks) (hvr:VrOK w) (hnm:∀k∈ks,k.nm.size<=140737488355328):Calls Tryz.prog 8 #[.slice A n c] w λe w'=>Below w.heap.size w w'/\∃er ms,LaA ks er ms/\e = .returned (.int .i64 er):=by
 have HL:=Lib.hid (lall_any A n c us ks w h hvr hnm);clear h hvr hnm
 go_enter Tryz.func8,Tryz.ntmps8
 go_wp2_with fail;refine HL.out.mono ?_;rintro e w' ⟨hb,er,ms,hla,hp⟩;have HB:=Lib.hid (And.intro hb hla);clear hb hla;rcases hp with ⟨h1,rfl⟩ | ⟨rfl,v,os,rfl,-⟩
 .go_wp2_with fail;go_ret;exact ⟨HB.out.1,er,ms,HB.out.2,rfl⟩
 .go_wp2_with fail;go_ret;exact ⟨HB.out.1,0,ms,HB.out.2,rfl⟩
def tokK:Kn:=⟨⟨#[116,111,107,101,110]⟩,tokN,true,0,0,[],0⟩
theorem tokK_good:GoodK tokK:=by
 refine ⟨by kernel_rfl,by decide,by decide,by kernel_rfl⟩
set_option maxHeartbeats 4000000 in
theorem line_tok (B:Nat) (p0:Int) (p1:Option Addr) (p2 p3:Nat) (p4:Option Addr) (p5 p6:Nat) (p7 p8:Int) (w:World) (h:ItN B (.agg #[.int .i64 p0, .slice p1 p2 p3, .slice p4 p5 p6, .int .i64 p7, .int .i64 p8]) tokN w) (hvr:VrOK w) :
  Calls Tryz.prog 66 #[.agg #[.string ⟨#[116,111,107,101,110]⟩, .int .i64 p0, .slice p1 p2 p3, .slice p4 p5 p6, .int .i64 p7, .int .i64 p8, .bool true, .int .i64 0, .int .i64 0, .slice none 0 0, .int .i64 0]] w λe w'=>e = .returned (.string ⟨#[116,111,107,101,110,32,116,107,91,48,45,57,93,123,50,125,32,119,104,111,108,101,10]⟩)/\Below w.heap.size w w':=by
 have HI:=Lib.hid (And.intro h hvr);clear h hvr
 go_enter Tryz.func66,Tryz.ntmps66
 go_wp2_with fail;refine calls_named λW0 hW0=>?_;have hb0:Below w.heap.size w W0:=by rw[hW0];exact (Below.refl _ _).alloc (Nat.le_refl _) _
 have hY:W0.heap[w.heap.size]?=some (.cells #[.string ⟨#[116,111,107,101,110]⟩, .int .i64 p0, .slice p1 p2 p3, .slice p4 p5 p6, .int .i64 p7, .int .i64 p8, .bool true, .int .i64 0, .int .i64 0, .slice none 0 0, .int .i64 0] 34 (0,0)):=by rw[hW0];exact heap_alloc_new w _
 have HT:=Lib.hid (text_tk B _ W0 (HI.out.1.keep (KeepF.of_below (fp:=[]) hb0) (λk hk=>by cases hk)) (HI.out.2.later hb0))
 have H0:=Lib.hid (And.intro hb0 hY);clear hW0 hb0 hY;refine HT.out.mono ?_;rintro e w1 ⟨rfl,hb1⟩;have hz0:=H0.out.1.size;have hlt:=(Array.getElem?_eq_some_iff.1 H0.out.2).1;have hY1:=(hb1.block w.heap.size hlt).trans H0.out.2;have y0:w1.cell? ⟨w.heap.size,0,none⟩=some (.string ⟨#[116,111,107,101,110]⟩):=by rw[cell_of_row _ _ _ _ _ _ hY1];rfl
 have y6:w1.cell? ⟨w.heap.size,6,none⟩=some (.bool true):=by rw[cell_of_row _ _ _ _ _ _ hY1];rfl
 have y7:w1.cell? ⟨w.heap.size,7,none⟩=some (.int .i64 0):=by rw[cell_of_row _ _ _ _ _ _ hY1];rfl
 have y8:w1.cell? ⟨w.heap.size,8,none⟩=some (.int .i64 0):=by rw[cell_of_row _ _ _ _ _ _ hY1];rfl
 have y9:w1.cell? ⟨w.heap.size,9,none⟩=some (.slice none 0 0):=by rw[cell_of_row _ _ _ _ _ _ hY1];rfl
 have y10:w1.cell? ⟨w.heap.size,10,none⟩=some (.int .i64 0):=by rw[cell_of_row _ _ _ _ _ _ hY1];rfl
 have l1:w.heap.size<w1.heap.size:=Nat.lt_of_lt_of_le hlt hb1.size;have l2:w.heap.size<w1.heap.size+1:=by omega
 have l3:w.heap.size<w1.heap.size+1+1:=by omega
 have l4:w.heap.size<w1.heap.size+1+1+1:=by omega
 have l5:w.heap.size<w1.heap.size+1+1+1+1:=by omega
 have H1:=Lib.hid hb1;clear hb1 hY1;go_wp2_with fail;refine wp_loop_rounds 4 ?_;rw[rounds_succ];go_wp2_with fail;rw[rounds_succ];go_wp2_with fail;rw[rounds_succ];go_wp2_with fail;rw[rounds_succ];go_wp2_with fail;refine wp_loop_rounds 1 ?_;rw[rounds_succ];go_wp2_with fail;go_ret;refine ⟨by rfl,(H0.out.1.trans (H1.out.mono hz0)).trans ?_⟩
 refine Below.mono (B:=w1.heap.size) ?_ (by have:=H1.out.size;omega)
 exact ((((Below.refl _ _).alloc (by simp) _).alloc (by simp) _).alloc (by simp;try omega) _).alloc (by simp;try omega) _
def tokC (p0:Int) (p1:Option Addr) (p2 p3:Nat) (p4:Option Addr) (p5 p6:Nat) (p7 p8:Int):Array Value:=#[.string ⟨#[116,111,107,101,110]⟩, .int .i64 p0, .slice p1 p2 p3, .slice p4 p5 p6, .int .i64 p7, .int .i64 p8, .bool true, .int .i64 0, .int .i64 0, .slice none 0 0, .int .i64 0]
theorem tokC_kns {B g:Nat} {p0:Int} {p1:Option Addr} {p2 p3:Nat} {p4:Option Addr} {p5 p6:Nat} {p7 p8:Int} {w:World} (h:ItN B (.agg #[.int .i64 p0, .slice p1 p2 p3, .slice p4 p5 p6, .int .i64 p7, .int .i64 p8]) tokN w) (hg:w.heap[g]?=some (.cells (tokC p0 p1 p2 p3 p4 p5 p6 p7 p8) 34 (0,0))) :
  KnsIn w (.slice (some ⟨g,0,none⟩) 1 1) [⟨⟨#[116,111,107,101,110]⟩,p0,p1,p2,p3,p4,p5,p6,p7,p8,true,0,0,none,0,0,0⟩] [tokK]:=by
 obtain ⟨u,e,hu⟩:=h;have hn:=hu.in_;unfold N5.cs at hn;injection e with e;injection e with e;injection e with e1 e;injection e with e2 e;injection e with e3 e;injection e with e4 e;injection e with e5 e;rw[<-e1,<-e2,<-e3,<-e4,<-e5]at hn;refine ⟨rfl,_,1,rfl,⟨Nat.le_refl _,by decide⟩, .inr ⟨g,0,rfl,(Array.getElem?_eq_some_iff.1 hg).1,λi hi j hj=>?_⟩,λi h1 h2=>?_⟩
 .have hi0:i=0:=by simp at hi;omega
  subst hi0;rw[cell_of_row _ _ _ _ _ _ hg]
  first | rfl | simp[tokC,KC.cs]
 .have hi0:i=0:=by simp at h1;omega
  subst hi0;exact ⟨rfl,hn,rfl,rfl,rfl,⟨none,0,rfl,⟨Nat.le_refl _,by decide⟩, .inl rfl⟩,rfl⟩
set_option maxHeartbeats 4000000 in
theorem text_tok (B g:Nat) (p0:Int) (p1:Option Addr) (p2 p3:Nat) (p4:Option Addr) (p5 p6:Nat) (p7 p8:Int) (w:World) (h:ItN B (.agg #[.int .i64 p0, .slice p1 p2 p3, .slice p4 p5 p6, .int .i64 p7, .int .i64 p8]) tokN w) (hvr:VrOK w) (hg:w.heap[g]?=some (.cells (tokC p0 p1 p2 p3 p4 p5 p6 p7 p8) 34 (0,0))) :
  Calls Tryz.prog 34 #[.slice (some ⟨g,0,none⟩) 1 1] w λe w'=>e = .returned (.string ⟨#[116,111,107,101,110,32,116,107,91,48,45,57,93,123,50,125,32,119,104,111,108,101,10]⟩)/\Below w.heap.size w w':=by
 have HI:=Lib.hid (And.intro h hvr);have lg:=(Array.getElem?_eq_some_iff.1 hg).1;have lg1:g<w.heap.size+1:=by omega
 have hc:∀j,j<11->w.cell? ⟨g,j,none⟩=(tokC p0 p1 p2 p3 p4 p5 p6 p7 p8)[j]?:=λj hj=>cell_of_row _ _ _ _ _ _ hg;have q0:=hc 0 (by decide)
 have q1:=hc 1 (by decide)
 have q2:=hc 2 (by decide)
 have q3:=hc 3 (by decide)
 have q4:=hc 4 (by decide)
 have q5:=hc 5 (by decide)
 have q6:=hc 6 (by decide)
 have q7:=hc 7 (by decide)
 have q8:=hc 8 (by decide)
 have q9:=hc 9 (by decide)
 have q10:=hc 10 (by decide)
 simp only[tokC,List.getElem?_toArray,List.getElem?_cons_zero,List.getElem?_cons_succ]at q0 q1 q2 q3 q4 q5 q6 q7 q8 q9 q10;clear h hvr hc
 go_enter Tryz.func34,Tryz.ntmps34
 go_wp2_with fail;refine wp_loop_rounds 2 ?_;rw[rounds_succ];go_wp2_with fail;refine calls_named λW0 hW0=>?_;have hb0:Below w.heap.size w W0:=by rw[hW0];exact ((Below.refl _ _).alloc (Nat.le_refl _) _).alloc (by simp) _
 have hB0:W0.heap[w.heap.size]?=some (.cells #[.pointer none, .slice none 0 0] 105 (0,0)):=by rw[hW0,old_alloc _ _ _ (by simp)];exact heap_alloc_new w _
 have HT:=Lib.hid (line_tok B p0 p1 p2 p3 p4 p5 p6 p7 p8 W0 (HI.out.1.keep (KeepF.of_below (fp:=[]) hb0) (λk hk=>by cases hk)) (HI.out.2.later hb0))
 have H0:=Lib.hid (And.intro hb0 hB0);have hz0:=hb0.size;clear hW0 hb0 hB0 q0 q1 q2 q3 q4 q5 q6 q7 q8 q9 q10;refine HT.out.mono ?_;rintro e w1 ⟨rfl,hb1⟩;have lB0:=(Array.getElem?_eq_some_iff.1 H0.out.2).1;have hB1:=(hb1.block w.heap.size lB0).trans H0.out.2;have HS:=Lib.hid (str_K w.heap.size [] [w.heap.size] ⟨#[116,111,107,101,110,32,116,107,91,48,45,57,93,123,50,125,32,119,104,111,108,101,10]⟩ w1 (BuK.fresh hB1) (by decide) (by decide))
 have H1:=Lib.hid (H0.out.1.trans (hb1.mono hz0));clear hb1 hB1 lB0;go_wp2_with fail;refine HS.out.mono ?_;rintro e w2 ⟨rfl,fp2,hk2,kf2⟩;have hz1:=H1.out.size;have hbw2:Below w.heap.size w w2:=H1.out.trans (kf2.below (λk hk=>by have:=List.mem_singleton.1 hk;omega) hz1)
 have HS2:=Lib.hid (string_K w.heap.size _ _ fp2 w2 hk2 (λk hk=>by
  rcases kf2.new k hk with h | h
  .have:=List.mem_singleton.1 h;omega
  .omega) hbw2.size)
 have H2:=Lib.hid hbw2;clear hk2 kf2 hbw2;go_wp2_with fail;rw[rounds_succ];go_wp2_with fail;refine HS2.out.mono ?_;rintro e w3 ⟨rfl,hb3⟩;have H3:=Lib.hid hb3;clear hb3;go_wp2_with fail;go_ret;exact ⟨by rfl,H2.out.trans H3.out⟩
set_option maxHeartbeats 4000000 in
theorem Text_tok (B g:Nat) (p0:Int) (p1:Option Addr) (p2 p3:Nat) (p4:Option Addr) (p5 p6:Nat) (p7 p8:Int) (w:World) (h:ItN B (.agg #[.int .i64 p0, .slice p1 p2 p3, .slice p4 p5 p6, .int .i64 p7, .int .i64 p8]) tokN w) (hvr:VrOK w) (hg:w.heap[g]?=some (.cells (tokC p0 p1 p2 p3 p4 p5 p6 p7 p8) 34 (0,0))) :
  Calls Tryz.prog 15 #[.slice (some ⟨g,0,none⟩) 1 1] w λe w'=>e = .returned (.tuple #[.string ⟨#[116,111,107,101,110,32,116,107,91,48,45,57,93,123,50,125,32,119,104,111,108,101,10]⟩, .int .i64 0])/\Below w.heap.size w w':=by
 have HV:=Lib.hid (lvalid_any _ 1 1 _ _ w (tokC_kns h hg) hvr (λk hk=>by rw[List.mem_singleton]at hk;subst hk;decide))
 have HI:=Lib.hid (And.intro h (And.intro hvr hg));clear h hvr hg
 go_enter Tryz.func15,Tryz.ntmps15
 go_wp2_with fail;refine HV.out.mono ?_;rintro e w1 ⟨hb1,er,ms,hla,rfl⟩;have her:er=0:=hla.ok (by decide) (by decide) (λk hk=>by rw[List.mem_singleton]at hk;subst hk;exact tokK_good) (by decide)
 subst her;have HT:=Lib.hid (text_tok B g p0 p1 p2 p3 p4 p5 p6 p7 p8 w1 (HI.out.1.keep (KeepF.of_below (fp:=[]) hb1) (λk hk=>by cases hk)) (HI.out.2.1.later hb1) ((hb1.block g (Array.getElem?_eq_some_iff.1 HI.out.2.2).1).trans HI.out.2.2))
 have H1:=Lib.hid hb1;clear hb1 hla;go_wp2_with fail;refine HT.out.mono ?_;rintro e w2 ⟨rfl,hb2⟩;have H2:=Lib.hid hb2;clear hb2;go_wp2_with fail
 go_ret2
 exact ⟨by rfl,H1.out.trans (H2.out.mono H1.out.size)⟩
set_option maxHeartbeats 4000000 in
theorem token_any (w:World) (hvr:VrOK w):Calls Tryz.prog 23 #[] w λe w'=>∃g p0 p1 p2 p3 p4 p5 p6 p7 p8,e = .returned (.slice (some ⟨g,0,none⟩) 1 1)/\ItN w.heap.size (.agg #[.int .i64 p0, .slice p1 p2 p3, .slice p4 p5 p6, .int .i64 p7, .int .i64 p8]) tokN w'/\w'.heap[g]?=some (.cells (tokC p0 p1 p2 p3 p4 p5 p6 p7 p8) 34 (0,0))/\Below w.heap.size w w':=by
 have HP:=Lib.hid (parse_tk w hvr);clear hvr
 go_enter Tryz.func23,Tryz.ntmps23
 go_wp2_with fail;refine HP.out.mono ?_;rintro e w1 ⟨x,rfl,hit,hb1⟩;obtain ⟨p0,p1,p2,p3,p4,p5,p6,p7,p8,rfl⟩:=hit.form;have H1:=Lib.hid (And.intro hit hb1);clear hit hb1;go_wp2_with fail;refine post_named λWf hWf=>?_;have hbf:Below w1.heap.size w1 Wf:=by rw[hWf];exact ((Below.refl _ _).alloc (Nat.le_refl _) _).alloc (by simp) _
 have hg:Wf.heap[w1.heap.size+1]?=some (.cells (tokC p0 p1 p2 p3 p4 p5 p6 p7 p8) 34 (0,0)):=by
  rw[hWf];have h1:=heap_alloc_new (w1.alloc (.cells #[.int .i64 p0, .slice p1 p2 p3, .slice p4 p5 p6, .int .i64 p7, .int .i64 p8] 31)) (.cells (tokC p0 p1 p2 p3 p4 p5 p6 p7 p8) 34);have h2:(w1.alloc (.cells #[.int .i64 p0, .slice p1 p2 p3, .slice p4 p5 p6, .int .i64 p7, .int .i64 p8] 31)).heap.size=w1.heap.size+1:=by simp
  rw[h2]at h1;exact h1
 clear hWf;refine bodyPost_ret (v:=.slice (some ⟨w1.heap.size+1,0,none⟩) 1 1) (by simp[results,Tryz.results23,go_sem];try rfl) rfl ?_
 exact ⟨_,p0,p1,p2,p3,p4,p5,p6,p7,p8,rfl,H1.out.1.keep (KeepF.of_below (fp:=[]) hbf) (λk hk=>by cases hk),hg,H1.out.2.trans (hbf.mono H1.out.2.size)⟩
set_option maxHeartbeats 4000000 in
theorem awake7_any (w:World) (hvr:VrOK w):Calls Tryz.prog 10 #[] w λe w'=>e = .returned (.bool true)/\Below w.heap.size w w':=by
 have HT:=Lib.hid (token_any w hvr);have HVR:=Lib.hid hvr;clear hvr
 go_enter Tryz.func10,Tryz.ntmps10
 go_wp2_with fail;refine HT.out.mono ?_;rintro e w1 ⟨g,p0,p1,p2,p3,p4,p5,p6,p7,p8,rfl,hit,hg,hb1⟩;have HX:=Lib.hid (Text_tok _ g p0 p1 p2 p3 p4 p5 p6 p7 p8 w1 hit (HVR.out.later hb1) hg);have H1:=Lib.hid hb1;clear hit hg hb1;go_wp2_with fail;refine HX.out.mono ?_;rintro e w2 ⟨rfl,hb2⟩;have H2:=Lib.hid hb2;clear hb2;go_wp2_with fail;go_ret;exact ⟨by rfl,H1.out.trans (H2.out.mono H1.out.size)⟩
end Go.Proofs.YtljgapfmgegifaaGreatDoor
