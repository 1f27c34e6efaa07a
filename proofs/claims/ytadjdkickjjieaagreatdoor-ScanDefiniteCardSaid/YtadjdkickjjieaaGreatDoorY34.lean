/- ref05: Valid and Text at the node of a{1,2}: the text. · ref05: Text, Read and Parse at a{1,2}. · ref05: Read and Parse at a{1,2}. -/
import Derived.Test.YtadjdkickjjieaaGreatDoorY32
import Derived.Test.YtadjdkickjjieaaGreatDoorY33
namespace Go.Proofs.YtadjdkickjjieaaGreatDoor
set_option linter.unusedVariables false
set_option linter.unusedSimpArgs false
set_option maxRecDepth 100000
open Go.RowKit
set_option maxHeartbeats 4000000 in
theorem zIu (g q:Nat) (w:World) (h:LfA g q w):Calls Tryz.prog 29 #[(.agg #[.int .i64 4, .slice none 0 0, .slice (some ⟨g,0,none⟩) 1 1, .int .i64 1, .int .i64 2])] w λe w'=>e = .returned (.int .i64 0)/\Below w.heap.size w w':=by
 have HLF:=Lib.hid h;clear h
 go_enter Tryz.func29,Tryz.ntmps29
 go_wp2_with fail;refine zAM λW0 hW0=>?_;have hb0:Below w.heap.size w W0:=by rw[hW0];exact (Below.refl _ _).alloc (Nat.le_refl _) _
 have hX:bxR g w.heap.size W0:=by rw[hW0];exact heap_alloc_new w _
 have HB0:=Lib.hid hb0;have HX:=Lib.hid hX;clear hW0 hb0 hX;refine (zJk g q W0 (HLF.out.later HB0.out)).mono ?_;rintro e w1 ⟨rfl,hb1⟩;have HB1:=Lib.hid (HB0.out.trans (hb1.mono HB0.out.size));have hX1:=(hb1.block w.heap.size (Array.getElem?_eq_some_iff.1 HX.out).1).trans HX.out;obtain ⟨c0,c1,c2,c3,c4⟩:=zAB hX1;have lb:w.heap.size<w1.heap.size:=(Array.getElem?_eq_some_iff.1 hX1).1;have HX1:=Lib.hid hX1;clear hb1 hX1;go_wp2_with fail;clear c0 c1 c2 c3 c4 lb;refine (zKH g q w1 (HLF.out.later HB1.out)).mono ?_;rintro e w2 ⟨rfl,hb2⟩;have HB2:=Lib.hid (HB1.out.trans (hb2.mono HB1.out.size));have hX2:=(hb2.block w.heap.size (Array.getElem?_eq_some_iff.1 HX1.out).1).trans HX1.out;obtain ⟨c0,c1,c2,c3,c4⟩:=zAB hX2;have lb:w.heap.size<w2.heap.size:=(Array.getElem?_eq_some_iff.1 hX2).1;have HX2:=Lib.hid hX2;clear hb2 hX2;go_wp2_with fail;clear c0 c1 c2 c3 c4 lb;refine (zKL g q w2 (HLF.out.later HB2.out)).mono ?_;rintro e w3 ⟨rfl,hb3⟩;have HB3:=Lib.hid (HB2.out.trans (hb3.mono HB2.out.size));have hX3:=(hb3.block w.heap.size (Array.getElem?_eq_some_iff.1 HX2.out).1).trans HX2.out;obtain ⟨c0,c1,c2,c3,c4⟩:=zAB hX3;have lb:w.heap.size<w3.heap.size:=(Array.getElem?_eq_some_iff.1 hX3).1;have HX3:=Lib.hid hX3;clear hb3 hX3;go_wp2_with fail;clear c0 c1 c2 c3 c4 lb;refine (zLP g q w3 (HLF.out.later HB3.out)).mono ?_;rintro e w4 ⟨rfl,hb4⟩;have HB4:=Lib.hid (HB3.out.trans (hb4.mono HB3.out.size));clear hb4;go_wp2_with fail;go_ret;exact ⟨rfl,HB4.out⟩
def spA:ByteArray:=⟨#[92,91,93,40,41,123,125,124,45]⟩
theorem zNc (w:World):(Instr.index 9 (.string ⟨#[92,91,93,40,41,123,125,124,45]⟩) (.int .i64 0)).run Tryz.prog w = .ok (.int .u8 92) w:=by kernel_rfl
theorem zNI (w:World):(Instr.index 9 (.string ⟨#[92,91,93,40,41,123,125,124,45]⟩) (.int .i64 1)).run Tryz.prog w = .ok (.int .u8 91) w:=by kernel_rfl
theorem zNW (w:World):(Instr.index 9 (.string ⟨#[92,91,93,40,41,123,125,124,45]⟩) (.int .i64 2)).run Tryz.prog w = .ok (.int .u8 93) w:=by kernel_rfl
theorem zNX (w:World):(Instr.index 9 (.string ⟨#[92,91,93,40,41,123,125,124,45]⟩) (.int .i64 3)).run Tryz.prog w = .ok (.int .u8 40) w:=by kernel_rfl
theorem zNT (w:World):(Instr.index 9 (.string ⟨#[92,91,93,40,41,123,125,124,45]⟩) (.int .i64 4)).run Tryz.prog w = .ok (.int .u8 41) w:=by kernel_rfl
theorem zNY (w:World):(Instr.index 9 (.string ⟨#[92,91,93,40,41,123,125,124,45]⟩) (.int .i64 5)).run Tryz.prog w = .ok (.int .u8 123) w:=by kernel_rfl
theorem zNG (w:World):(Instr.index 9 (.string ⟨#[92,91,93,40,41,123,125,124,45]⟩) (.int .i64 6)).run Tryz.prog w = .ok (.int .u8 125) w:=by kernel_rfl
theorem zNV (w:World):(Instr.index 9 (.string ⟨#[92,91,93,40,41,123,125,124,45]⟩) (.int .i64 7)).run Tryz.prog w = .ok (.int .u8 124) w:=by kernel_rfl
theorem zNH (w:World):(Instr.index 9 (.string ⟨#[92,91,93,40,41,123,125,124,45]⟩) (.int .i64 8)).run Tryz.prog w = .ok (.int .u8 45) w:=by kernel_rfl
set_option maxHeartbeats 4000000 in
theorem zIT (w:World):Calls Tryz.prog 163 #[.int .u8 97] w λe w'=>e = .returned (.string ⟨#[97]⟩)/\Below w.heap.size w w':=by
 have s0:=zNc;have s1:=zNI;have s2:=zNW;have s3:=zNX;have s4:=zNT;have s5:=zNY;have s6:=zNG;have s7:=zNV;have s8:=zNH;have hcr:=λw=>zBi (P:=Tryz.prog) (T:=41) (e:=5) (d:=9) Tryz.underlying41 Tryz.underlying5 Tryz.underlying9 [97] [.int .u8 97] rfl 1 1 rfl w
 go_enter Tryz.func163,Tryz.ntmps163
 go_wp2_with fail;refine wp_loop_rounds 10 ?_;rw[rounds_succ];go_wp2_with fail;rw[rounds_succ];go_wp2_with fail;rw[rounds_succ];go_wp2_with fail;rw[rounds_succ];go_wp2_with fail;rw[rounds_succ];go_wp2_with fail;rw[rounds_succ];go_wp2_with fail;rw[rounds_succ];go_wp2_with fail;rw[rounds_succ];go_wp2_with fail;rw[rounds_succ];go_wp2_with fail;rw[rounds_succ];go_wp2_with fail;go_ret;exact ⟨rfl,(Below.refl _ _).alloc (Nat.le_refl _) _⟩
set_option maxHeartbeats 4000000 in
theorem zMG (w:World):Calls Tryz.prog 164 #[.int .i64 1] w λe w'=>e = .returned (.string ⟨#[49]⟩)/\Below w.heap.size w w':=by
 have hcr:=λw=>zBi (P:=Tryz.prog) (T:=41) (e:=5) (d:=9) Tryz.underlying41 Tryz.underlying5 Tryz.underlying9 [49] [.int .u8 49] rfl 1 1 rfl w
 go_enter Tryz.func164,Tryz.ntmps164
 go_wp2_with fail;go_ret;exact ⟨rfl,(Below.refl _ _).alloc (Nat.le_refl _) _⟩
set_option maxHeartbeats 4000000 in
theorem zMH (w:World):Calls Tryz.prog 164 #[.int .i64 2] w λe w'=>e = .returned (.string ⟨#[50]⟩)/\Below w.heap.size w w':=by
 have hcr:=λw=>zBi (P:=Tryz.prog) (T:=41) (e:=5) (d:=9) Tryz.underlying41 Tryz.underlying5 Tryz.underlying9 [50] [.int .u8 50] rfl 1 1 rfl w
 go_enter Tryz.func164,Tryz.ntmps164
 go_wp2_with fail;go_ret;exact ⟨rfl,(Below.refl _ _).alloc (Nat.le_refl _) _⟩
set_option maxHeartbeats 4000000 in
theorem zJd (q:Nat) (w:World) (h:RgA q w):Calls Tryz.prog 134 #[(.agg #[.int .i64 1, .slice (some ⟨q,0,none⟩) 1 1, .slice none 0 0, .int .i64 0, .int .i64 0])] w λe w'=>e = .returned (.string ⟨#[97]⟩)/\Below w.heap.size w w':=by
 have HR:=Lib.hid h;clear h
 go_enter Tryz.func134,Tryz.ntmps134
 go_wp2_with fail;refine zBl λW0 hW0=>?_;have hb0:Below w.heap.size w W0:=by rw[hW0];exact (Below.refl _ _).alloc (Nat.le_refl _) _
 have hX:bxL q w.heap.size W0:=by rw[hW0];exact heap_alloc_new w _
 have hq0:RgA q W0:=(hb0.block q (Array.getElem?_eq_some_iff.1 HR.out).1).trans HR.out;have d0:∀d:BelT W0.heap.size W0,d.val.cell? ⟨q,0,none⟩=some (.int .u8 97):=λd=>by rw[cell_of_row _ _ _ _ _ _ ((d.property.block q (Array.getElem?_eq_some_iff.1 hq0).1).trans hq0)];rfl
 have d1:∀d:BelT W0.heap.size W0,d.val.cell? ⟨q,1,none⟩=some (.int .u8 97):=λd=>by rw[cell_of_row _ _ _ _ _ _ ((d.property.block q (Array.getElem?_eq_some_iff.1 hq0).1).trans hq0)];rfl
 have d2:∀d:BelT W0.heap.size W0,q<d.val.heap.size:=λd=>Nat.lt_of_lt_of_le (Array.getElem?_eq_some_iff.1 hq0).1 d.property.size;have d3:∀d:BelT W0.heap.size W0,d.val.cell? ⟨w.heap.size,1,none⟩=some (.slice (some ⟨q,0,none⟩) 1 1):=λd=>(zAB ((d.property.block _ (Array.getElem?_eq_some_iff.1 hX).1).trans hX)).2.1;have d4:∀d:BelT W0.heap.size W0,w.heap.size<d.val.heap.size:=λd=>Nat.lt_of_lt_of_le (Array.getElem?_eq_some_iff.1 hX).1 d.property.size;have HB0:=Lib.hid (And.intro hb0 (And.intro hX hq0));obtain ⟨b0,b1,b2,b3,b4⟩:=zAB hX;have lb:w.heap.size<W0.heap.size:=(Array.getElem?_eq_some_iff.1 hX).1;clear hW0 hb0 hX hq0;go_wp2_with fail;refine zAH (Below.refl W0.heap.size W0) (by kernel_rfl) (by kernel_rfl) ?_
 repeat (go_big_quiet_step (fail))
 refine wpQuiet_nil ?_;intro w1 hw';have hw1:Below W0.heap.size W0 w1:=by obtain ⟨d9,rfl⟩:=hw';exact d9.property
 have hX1:=(hw1.block _ lb).trans HB0.out.2.1;have hq1:RgA q w1:=(hw1.block q (Array.getElem?_eq_some_iff.1 HB0.out.2.2).1).trans HB0.out.2.2;have HB1:=Lib.hid (HB0.out.1.trans (hw1.mono HB0.out.1.size));clear hw' hw1 d0 d1 d2 d3 d4 b0 b1 b2 b3 b4 lb;obtain ⟨b0,b1,b2,b3,b4⟩:=zAB hX1;have lb:w.heap.size<w1.heap.size:=(Array.getElem?_eq_some_iff.1 hX1).1;have q0:w1.cell? ⟨q,0,none⟩=some (.int .u8 97):=by rw[cell_of_row _ _ _ _ _ _ hq1];rfl
 have lq:q<w1.heap.size:=(Array.getElem?_eq_some_iff.1 hq1).1;clear hX1 hq1;go_wp2_with fail;refine (zIT w1).mono ?_;rintro e w2 ⟨rfl,hb2⟩;have HB2:=Lib.hid (HB1.out.trans (hb2.mono HB1.out.size));clear hb2 b0 b1 b2 b3 b4 lb q0 lq;go_wp2_with fail;go_ret;exact ⟨rfl,HB2.out⟩
set_option maxHeartbeats 4000000 in
theorem zJl (g q:Nat) (w:World) (h:LfA g q w):Calls Tryz.prog 134 #[(.agg #[.int .i64 4, .slice none 0 0, .slice (some ⟨g,0,none⟩) 1 1, .int .i64 1, .int .i64 2])] w λe w'=>e = .returned (.string tA)/\Below w.heap.size w w':=by
 have HLF:=Lib.hid h;obtain ⟨k0,k1,k2,k3,k4⟩:=zAB h.1;have lg:g<w.heap.size:=(Array.getElem?_eq_some_iff.1 h.1).1;have lg2:g<w.heap.size+1:=by omega
 have ng:g≠w.heap.size:=by omega
 clear h
 go_enter Tryz.func134,Tryz.ntmps134
 go_wp2_with fail;refine zAM λW0 hW0=>?_;clear k0 k1 k2 k3 k4 lg lg2 ng;have hB0:Below w.heap.size w W0:=by rw[hW0];exact (Below.refl _ _).alloc (Nat.le_refl _) _
 have hX0:bxR g w.heap.size W0:=by rw[hW0];exact heap_alloc_new w _
 have hL0:LfA g q W0:=HLF.out.later hB0;clear hW0;obtain ⟨b0,b1,b2,b3,b4⟩:=zAB hX0;have lb:w.heap.size<W0.heap.size:=(Array.getElem?_eq_some_iff.1 hX0).1;obtain ⟨k0,k1,k2,k3,k4⟩:=zAB hL0.1;have lg:g<W0.heap.size:=(Array.getElem?_eq_some_iff.1 hL0.1).1;have HS0:=Lib.hid (And.intro hX0 (And.intro hL0 hB0));clear hX0 hL0 hB0;refine (zJd q W0 HS0.out.2.1.2).mono ?_;rintro e w1 ⟨rfl,hb1⟩;have hX1:=(hb1.block _ (Array.getElem?_eq_some_iff.1 HS0.out.1).1).trans HS0.out.1;have hL1:=HS0.out.2.1.later hb1;have hB1:=HS0.out.2.2.trans (hb1.mono HS0.out.2.2.size);clear hb1;clear b0 b1 b2 b3 b4 lb k0 k1 k2 k3 k4 lg;obtain ⟨b0,b1,b2,b3,b4⟩:=zAB hX1;have lb:w.heap.size<w1.heap.size:=(Array.getElem?_eq_some_iff.1 hX1).1;obtain ⟨k0,k1,k2,k3,k4⟩:=zAB hL1.1;have lg:g<w1.heap.size:=(Array.getElem?_eq_some_iff.1 hL1.1).1;have HS1:=Lib.hid (And.intro hX1 (And.intro hL1 hB1));clear hX1 hL1 hB1;go_wp2_with fail;refine (zMG w1).mono ?_;rintro e w2 ⟨rfl,hb2⟩;have hX2:=(hb2.block _ (Array.getElem?_eq_some_iff.1 HS1.out.1).1).trans HS1.out.1;have hL2:=HS1.out.2.1.later hb2;have hB2:=HS1.out.2.2.trans (hb2.mono HS1.out.2.2.size);clear hb2;clear b0 b1 b2 b3 b4 lb k0 k1 k2 k3 k4 lg;obtain ⟨b0,b1,b2,b3,b4⟩:=zAB hX2;have lb:w.heap.size<w2.heap.size:=(Array.getElem?_eq_some_iff.1 hX2).1;obtain ⟨k0,k1,k2,k3,k4⟩:=zAB hL2.1;have lg:g<w2.heap.size:=(Array.getElem?_eq_some_iff.1 hL2.1).1;have HS2:=Lib.hid (And.intro hX2 (And.intro hL2 hB2));clear hX2 hL2 hB2;go_wp2_with fail;refine (zMH w2).mono ?_;rintro e w3 ⟨rfl,hb3⟩;have hX3:=(hb3.block _ (Array.getElem?_eq_some_iff.1 HS2.out.1).1).trans HS2.out.1;have hL3:=HS2.out.2.1.later hb3;have hB3:=HS2.out.2.2.trans (hb3.mono HS2.out.2.2.size);clear hb3;clear b0 b1 b2 b3 b4 lb k0 k1 k2 k3 k4 lg;obtain ⟨b0,b1,b2,b3,b4⟩:=zAB hX3;have lb:w.heap.size<w3.heap.size:=(Array.getElem?_eq_some_iff.1 hX3).1;obtain ⟨k0,k1,k2,k3,k4⟩:=zAB hL3.1;have lg:g<w3.heap.size:=(Array.getElem?_eq_some_iff.1 hL3.1).1;have HS3:=Lib.hid (And.intro hX3 (And.intro hL3 hB3));clear hX3 hL3 hB3;go_wp2_with fail;go_ret;exact ⟨rfl,HS3.out.2.2⟩
set_option maxHeartbeats 4000000 in
theorem zLr (g q:Nat) (w:World) (h:LfA g q w):Calls Tryz.prog 101 #[(.agg #[.int .i64 4, .slice none 0 0, .slice (some ⟨g,0,none⟩) 1 1, .int .i64 1, .int .i64 2])] w λe w'=>e = .returned (.tuple #[.string tA, .int .i64 0])/\Below w.heap.size w w':=by
 have HLF:=Lib.hid h;clear h
 go_enter Tryz.func101,Tryz.ntmps101
 go_wp2_with fail;refine zAM λW0 hW0=>?_;have hB0:Below w.heap.size w W0:=by rw[hW0];exact (Below.refl _ _).alloc (Nat.le_refl _) _
 have hX0:bxR g w.heap.size W0:=by rw[hW0];exact heap_alloc_new w _
 have hL0:LfA g q W0:=HLF.out.later hB0;have HS0:=Lib.hid (And.intro hX0 (And.intro hL0 hB0));clear hW0 hB0 hX0 hL0;refine (zIu g q W0 HS0.out.2.1).mono ?_;rintro e w1 ⟨rfl,hb1⟩;have hX1:=(hb1.block _ (Array.getElem?_eq_some_iff.1 HS0.out.1).1).trans HS0.out.1;have hL1:=HS0.out.2.1.later hb1;have hB1:=HS0.out.2.2.trans (hb1.mono HS0.out.2.2.size);clear hb1;obtain ⟨b0,b1,b2,b3,b4⟩:=zAB hX1;have lb:w.heap.size<w1.heap.size:=(Array.getElem?_eq_some_iff.1 hX1).1;obtain ⟨k0,k1,k2,k3,k4⟩:=zAB hL1.1;have lg:g<w1.heap.size:=(Array.getElem?_eq_some_iff.1 hL1.1).1;have HS1:=Lib.hid (And.intro hX1 (And.intro hL1 hB1));clear hX1 hL1 hB1;go_wp2_with fail;refine (zJl g q w1 HS1.out.2.1).mono ?_;rintro e w2 ⟨rfl,hb2⟩;have hX2:=(hb2.block _ (Array.getElem?_eq_some_iff.1 HS1.out.1).1).trans HS1.out.1;have hL2:=HS1.out.2.1.later hb2;have hB2:=HS1.out.2.2.trans (hb2.mono HS1.out.2.2.size);clear hb2;clear b0 b1 b2 b3 b4 lb k0 k1 k2 k3 k4 lg;obtain ⟨b0,b1,b2,b3,b4⟩:=zAB hX2;have lb:w.heap.size<w2.heap.size:=(Array.getElem?_eq_some_iff.1 hX2).1;obtain ⟨k0,k1,k2,k3,k4⟩:=zAB hL2.1;have lg:g<w2.heap.size:=(Array.getElem?_eq_some_iff.1 hL2.1).1;have HS2:=Lib.hid (And.intro hX2 (And.intro hL2 hB2));clear hX2 hL2 hB2;go_wp2_with fail
 go_ret2
 exact ⟨rfl,HS2.out.2.2⟩
set_option maxHeartbeats 4000000 in
theorem zMI (w:World):Calls Tryz.prog 62 #[.string tA] w λe w'=>∃g q,e = .returned (.tuple #[(.agg #[.int .i64 4, .slice none 0 0, .slice (some ⟨g,0,none⟩) 1 1, .int .i64 1, .int .i64 2]), .bool true])/\(w.heap.size<=g/\w.heap.size<=q)/\LfA g q w'/\Below w.heap.size w w':=by
 go_enter Tryz.func62,Tryz.ntmps62
 go_wp2_with fail;refine zAM λW1 hW1=>?_;have hb1:Below w.heap.size w W1:=by rw[hW1];exact ((Below.refl _ _).alloc (Nat.le_refl _) _).alloc (by simp) _
 have hX:W1.heap[w.heap.size]?=some (.cells #[.int .i64 0, .slice none 0 0, .slice none 0 0, .int .i64 0, .int .i64 0] 29 (0,0)):=by rw[hW1,zAI _ _ _ (by simp)];exact heap_alloc_new w _
 have hP:PaW (w.heap.size+1) tA 0 false W1:=by
  rw[hW1];have h9:=heap_alloc_new (w.alloc (.cells #[.int .i64 0, .slice none 0 0, .slice none 0 0, .int .i64 0, .int .i64 0] 29)) (.cells #[.string tA, .int .i64 0, .bool false] 152);simpa [PaW] using h9
 have H1:=Lib.hid (And.intro hb1 (And.intro hX hP));clear hW1 hb1 hX hP;refine (zJs (w.heap.size+1) W1 H1.out.2.2).mono ?_;rintro e w2 ⟨g,q,rfl,⟨hg,hq⟩,hlf,hp2,hk2⟩;have hz1:=H1.out.1.size;have hX1:=(Array.getElem?_eq_some_iff.1 H1.out.2.1).1;have hz2:=hk2.size;have hX2:=zDx hk2 (by omega) H1.out.2.1
 have hb2:Below w.heap.size w w2:=H1.out.1.trans (hk2.below (λk hk=>by rw[List.mem_singleton]at hk;omega) hz1)
 have H2:=Lib.hid (And.intro hb2 (And.intro hX2 (And.intro hlf hp2)));obtain ⟨⟨c0,c1,c2⟩,⟨f1,f2⟩,lp⟩:=hp2.cells;have lp2:w.heap.size+1<w2.heap.size+1:=by omega
 have np:w.heap.size+1≠w2.heap.size:=by omega
 have hsz:((6:Int) != (tA.size:Int))=false:=by decide
 clear hlf hp2 hk2 hX2 hb2;go_wp2_with fail;refine zAM λW3 hW3=>?_;have hb3:Below w2.heap.size w2 W3:=by rw[hW3];exact (Below.refl _ _).alloc (Nat.le_refl _) _
 have hY3:W3.heap[w2.heap.size]?=some (.cells #[.int .i64 4, .slice none 0 0, .slice (some ⟨g,0,none⟩) 1 1, .int .i64 1, .int .i64 2] 29 (0,0)):=by rw[hW3];exact heap_alloc_new w2 _
 have H3:=Lib.hid (And.intro (H2.out.1.trans (hb3.mono H2.out.1.size)) (And.intro ((hb3.block _ (Array.getElem?_eq_some_iff.1 H2.out.2.1).1).trans H2.out.2.1) (And.intro (H2.out.2.2.1.later hb3) hY3)));clear hW3 hb3 hY3 c0 c1 c2 f1 f2 lp lp2 np hsz;refine (zLr g q W3 H3.out.2.2.1).mono ?_;rintro e w4 ⟨rfl,hb4⟩;have hX4:=(hb4.block _ (Array.getElem?_eq_some_iff.1 H3.out.2.1).1).trans H3.out.2.1;have hY4:=(hb4.block _ (Array.getElem?_eq_some_iff.1 H3.out.2.2.2).1).trans H3.out.2.2.2;obtain ⟨y0,y1,y2,y3,y4⟩:=zAB hY4;obtain ⟨x0,x1,x2,x3,x4⟩:=zAB hX4;obtain ⟨z0,z1,z2,z3,z4⟩:=frz5 hX4;have lx:w.heap.size<w4.heap.size:=(Array.getElem?_eq_some_iff.1 hX4).1;have ly:w2.heap.size<w4.heap.size:=(Array.getElem?_eq_some_iff.1 hY4).1;have H4:=Lib.hid (And.intro (H3.out.1.trans (hb4.mono H3.out.1.size)) (H3.out.2.2.1.later hb4));clear hb4 hX4 hY4;go_wp2_with fail;refine zAD λWf hWf=>?_;refine bodyPost_ret (v:=.tuple #[(.agg #[.int .i64 4, .slice none 0 0, .slice (some ⟨g,0,none⟩) 1 1, .int .i64 1, .int .i64 2]), .bool true]) (by rw[hWf];simp[results,Tryz.results62,go_sem,x0,x1,x2,x3,x4,lx];try rfl) rfl ?_
 obtain ⟨s1,s2,s3,-⟩:=st5 hWf;exact ⟨g,q,rfl,⟨by omega,by omega⟩,⟨(s1 g (by omega)).trans H4.out.2.1,(s1 q (by omega)).trans H4.out.2.2⟩,⟨s3.1.trans H4.out.1.os,s3.2.1.trans H4.out.1.tape,s3.2.2.trans H4.out.1.output,by rw[s2];exact H4.out.1.size,λk hk=>(s1 k (by omega)).trans (H4.out.1.block k hk)⟩⟩
set_option maxHeartbeats 4000000 in
theorem zKS (w:World):Calls Tryz.prog 34 #[.string tA] w λe w'=>∃g q,e = .returned (.tuple #[(.agg #[.int .i64 4, .slice none 0 0, .slice (some ⟨g,0,none⟩) 1 1, .int .i64 1, .int .i64 2]), .int .i64 0])/\(w.heap.size<=g/\w.heap.size<=q)/\LfA g q w'/\Below w.heap.size w w':=by
 have hsz:decide ((4000:Int)<(tA.size:Int))=false:=by decide
 have hszn:decide (4000<tA.size)=false:=by decide
 go_enter Tryz.func34,Tryz.ntmps34
 go_wp2_with fail;refine zAM λW1 hW1=>?_;have hb1:Below w.heap.size w W1:=by rw[hW1];exact (Below.refl _ _).alloc (Nat.le_refl _) _
 have hX:W1.heap[w.heap.size]?=some (.cells #[.int .i64 0, .slice none 0 0, .slice none 0 0, .int .i64 0, .int .i64 0] 29 (0,0)):=by rw[hW1];exact heap_alloc_new w _
 have H1:=Lib.hid (And.intro hb1 hX);clear hW1 hb1 hX hsz hszn;refine (zMI W1).mono ?_;rintro e w4 ⟨g,q,rfl,⟨hg,hq⟩,hlf,hb4⟩;have hz1:=H1.out.1.size;have hX1:=(Array.getElem?_eq_some_iff.1 H1.out.2).1;have hX4:=(hb4.block _ (Array.getElem?_eq_some_iff.1 H1.out.2).1).trans H1.out.2;obtain ⟨x0,x1,x2,x3,x4⟩:=zAB hX4;obtain ⟨z0,z1,z2,z3,z4⟩:=frz5 hX4;have lx:w.heap.size<w4.heap.size:=(Array.getElem?_eq_some_iff.1 hX4).1;have H4:=Lib.hid (And.intro (H1.out.1.trans (hb4.mono H1.out.1.size)) hlf);clear hb4 hX4 hlf;go_wp2_with fail;refine zAD λWf hWf=>?_;refine bodyPost_ret (v:=.tuple #[(.agg #[.int .i64 4, .slice none 0 0, .slice (some ⟨g,0,none⟩) 1 1, .int .i64 1, .int .i64 2]), .int .i64 0]) (by rw[hWf];simp[results,Tryz.results34,go_sem,x0,x1,x2,x3,x4,lx];try rfl) rfl ?_
 obtain ⟨W9,hW9⟩:∃W,W=((((w4.setCell ⟨w.heap.size,0,none⟩ (.int .i64 4)).setCell ⟨w.heap.size,1,none⟩ (.slice none 0 0)).setCell ⟨w.heap.size,2,none⟩ (.slice (some ⟨g,0,none⟩) 1 1)).setCell ⟨w.heap.size,3,none⟩ (.int .i64 1)).setCell ⟨w.heap.size,4,none⟩ (.int .i64 2):=⟨_,rfl⟩;rw[<-hW9]at hWf;obtain ⟨s1,s2,s3,-⟩:=st5 hW9;have hb9:Below W9.heap.size W9 Wf:=by rw[hWf];exact (Below.refl _ _).alloc (Nat.le_refl _) _
 have hB9:Below w.heap.size w W9:=⟨s3.1.trans H4.out.1.os,s3.2.1.trans H4.out.1.tape,s3.2.2.trans H4.out.1.output,by rw[s2];exact H4.out.1.size,λk hk=>(s1 k (by omega)).trans (H4.out.1.block k hk)⟩
 have hL9:LfA g q W9:=⟨(s1 g (by omega)).trans H4.out.2.1,(s1 q (by omega)).trans H4.out.2.2⟩
 exact ⟨g,q,rfl,⟨by omega,by omega⟩,hL9.later hb9,hB9.trans (hb9.mono hB9.size)⟩
end Go.Proofs.YtadjdkickjjieaaGreatDoor
