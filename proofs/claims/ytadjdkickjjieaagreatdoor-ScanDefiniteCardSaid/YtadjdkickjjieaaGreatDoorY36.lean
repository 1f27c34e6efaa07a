/- library.Compile at the kind of chapter 8's example. -/
import Derived.Test.YtadjdkickjjieaaGreatDoorY34
import Derived.Test.YtadjdkickjjieaaGreatDoorY35
import Derived.Lib.SmallJoins
namespace Go.Proofs.YtadjdkickjjieaaGreatDoor
set_option linter.unusedVariables false
set_option linter.unusedSimpArgs false
set_option maxRecDepth 100000
open Go.RowKit
def vsA (g:Nat):List Value:=[.int .i64 4, .slice none 0 0, .slice (some ⟨g,0,none⟩) 1 1, .int .i64 1, .int .i64 2]
theorem LfA.nd {g q:Nat} {w:World} (h:LfA g q w):NdIn w ndAA (vsA g):=by
 have hg:=(Array.getElem?_eq_some_iff.1 h.1).1;have hq:=(Array.getElem?_eq_some_iff.1 h.2).1;have q0:w.cell? ⟨q,0,none⟩=some (.int .u8 97):=by rw[cell_of_row _ _ _ _ _ _ h.2];rfl
 have q1:w.cell? ⟨q,1,none⟩=some (.int .u8 97):=by rw[cell_of_row _ _ _ _ _ _ h.2];rfl
 unfold ndAA;have h1:RgIn w (.slice none 0 0) []:=⟨none,0,rfl,⟨by simp,by simp⟩, .inl rfl⟩
 have h2:RgIn w (.slice (some ⟨q,0,none⟩) 1 1) [(97,97)]:=⟨some ⟨q,0,none⟩,1,rfl,⟨by simp,by simp⟩, .inr ⟨q,0,rfl,hq,λi hi=>by
  have:i=0:=by simp at hi;omega
  subst this;exact ⟨⟨q0,q1⟩,(by show 97<256;decide),(by show 97<256;decide)⟩⟩⟩
 have hk:NdIn w (.mk 1 [(97,97)] [] 0 0) [.int .i64 1, .slice (some ⟨q,0,none⟩) 1 1, .slice none 0 0, .int .i64 0, .int .i64 0]:=⟨_,_,rfl,h2,none,0,rfl,⟨by simp,by simp⟩, .inl rfl⟩
 refine ⟨_,_,rfl,h1,_,1,rfl,⟨by simp,by simp⟩, .inr ⟨g,0,rfl,hg,⟨_,λj hj=>?_,hk⟩,trivial⟩⟩
 obtain ⟨k0,k1,k2,k3,k4⟩:=zAB h.1
 match j,hj with
 | 0,_=>exact k0
 | 1,_=>exact k1
 | 2,_=>exact k2
 | 3,_=>exact k3
 | 4,_=>exact k4
set_option maxHeartbeats 4000000 in
theorem zKV (g q:Nat) (w:World) (h:LfA g q w):Calls Tryz.prog 94 #[.agg #[.int .i64 4, .slice none 0 0, .slice (some ⟨g,0,none⟩) 1 1, .int .i64 1, .int .i64 2]] w λe w'=>e = .returned (.int .i64 1)/\Below w.heap.size w w':=by
 have HV:=Lib.hid λW (hb:Below w.heap.size w W)=>zBx ndAA (vsA g) W (h.later hb).nd;have HS:=Lib.hid λW (hb:Below w.heap.size w W)=>zCz _ ndAA (vsA g) W (Nat.le_refl _) (by decide) (by decide) (by decide) (h.later hb).nd
 rw[zEg]at HV;clear h
 go_enter Tryz.func94,Tryz.ntmps94
 go_wp2_with fail;refine zAM λW0 hW0=>?_;have hb0:Below w.heap.size w W0:=by rw[hW0];exact (Below.refl _ _).alloc (Nat.le_refl _) _
 have hX:bxR g w.heap.size W0:=by rw[hW0];exact heap_alloc_new w _
 have H0:=Lib.hid (And.intro hb0 hX);clear hW0 hb0 hX;refine (HV.out W0 H0.out.1).mono ?_;rintro e w1 ⟨rfl,hb1⟩;obtain ⟨c0,c1,c2,c3,c4⟩:=zAB ((hb1.block _ (Array.getElem?_eq_some_iff.1 H0.out.2).1).trans H0.out.2);have lb:w.heap.size<w1.heap.size:=Nat.lt_of_lt_of_le (Array.getElem?_eq_some_iff.1 H0.out.2).1 hb1.size;have HB1:=Lib.hid (H0.out.1.trans (hb1.mono H0.out.1.size));clear hb1;go_wp2_with fail;refine (HS.out w1 HB1.out).mono ?_;rintro e w2 ⟨rfl,hb2⟩;have HB2:=Lib.hid (HB1.out.trans (hb2.mono HB1.out.size));clear hb2 c0 c1 c2 c3 c4 lb;go_wp2_with fail;go_ret;exact ⟨rfl,HB2.out⟩
set_option maxHeartbeats 4000000 in
theorem zL0 (g q:Nat) (w:World) (h:LfA g q w):Calls Tryz.prog 82 #[.agg #[.int .i64 4, .slice none 0 0, .slice (some ⟨g,0,none⟩) 1 1, .int .i64 1, .int .i64 2]] w λe w'=>e = .returned (.int .i64 2)/\Below w.heap.size w w':=by
 have HV:=Lib.hid λW (hb:Below w.heap.size w W)=>zBx ndAA (vsA g) W (h.later hb).nd;have HS:=Lib.hid λW (hb:Below w.heap.size w W)=>zCE _ ndAA (vsA g) W (Nat.le_refl _) (by decide) (by decide) (h.later hb).nd
 rw[zEg]at HV;clear h
 go_enter Tryz.func82,Tryz.ntmps82
 go_wp2_with fail;refine zAM λW0 hW0=>?_;have hb0:Below w.heap.size w W0:=by rw[hW0];exact (Below.refl _ _).alloc (Nat.le_refl _) _
 have hX:bxR g w.heap.size W0:=by rw[hW0];exact heap_alloc_new w _
 have H0:=Lib.hid (And.intro hb0 hX);clear hW0 hb0 hX;refine (HV.out W0 H0.out.1).mono ?_;rintro e w1 ⟨rfl,hb1⟩;obtain ⟨c0,c1,c2,c3,c4⟩:=zAB ((hb1.block _ (Array.getElem?_eq_some_iff.1 H0.out.2).1).trans H0.out.2);have lb:w.heap.size<w1.heap.size:=Nat.lt_of_lt_of_le (Array.getElem?_eq_some_iff.1 H0.out.2).1 hb1.size;have HB1:=Lib.hid (H0.out.1.trans (hb1.mono H0.out.1.size));clear hb1;go_wp2_with fail;refine (HS.out w1 HB1.out).mono ?_;rintro e w2 ⟨rfl,hb2⟩;have HB2:=Lib.hid (HB1.out.trans (hb2.mono HB1.out.size));clear hb2 c0 c1 c2 c3 c4 lb;go_wp2_with fail;go_ret;exact ⟨rfl,HB2.out⟩
theorem zHD (w:World):Calls Tryz.prog 95 #[.int .i64 0] w λe w'=>e = .returned (.bool true)/\w'=w:=by
 go_enter Tryz.func95,Tryz.ntmps95
 go_wp2_with fail;go_ret;exact ⟨rfl,rfl⟩
theorem zKR (A:Option Addr) (c:Nat) (f:Value) (w:World):Calls Tryz.prog 127 #[.slice A 0 c,f] w λe w'=>e = .returned (.int .i64 (-1))/\w'=w:=by
 go_enter Tryz.func127,Tryz.ntmps127
 go_wp2
 refine wp_loop_rounds 1 ?_;rw[rounds_succ]
 go_wp2
 go_ret;exact ⟨rfl,rfl⟩
theorem zJf (A:Option Addr) (c:Nat) (f:Value) (w:World):Calls Tryz.prog 96 #[.slice A 0 c,f] w λe w'=>e = .returned (.bool false)/\w'=w:=by
 go_enter Tryz.func96,Tryz.ntmps96
 go_wp2_with fail;refine (zKR A c f w).mono ?_;rintro e w1 ⟨rfl,rfl⟩
 go_wp2
 go_ret;exact ⟨rfl,rfl⟩
def nmX:ByteArray:=⟨#[120]⟩
set_option maxHeartbeats 4000000 in
theorem zLY (w:World):Calls Tryz.prog 91 #[.string nmX] w λe w'=>e = .returned (.bool true)/\Below w.heap.size w w':=by
 have hcv:=λw=>Lib.run_convert_string_bytes (P:=Tryz.prog) w 9 41 5 nmX Tryz.underlying9 Tryz.underlying41 Tryz.underlying5;obtain ⟨W,C,B,hW,hC,hB,hcell,hbel,hszW⟩:=zD7 w 5 nmX
 go_enter Tryz.func91,Tryz.ntmps91
 go_wp2_with fail;rw[<-hW,<-hC,<-hB];clear hcv hW hC;have hs1:nmX.size=1:=rfl;rw[hs1];have hc0:W.cell? ⟨B,0,none⟩=some (.int .u8 120):=hcell 0 (by rw[hs1];decide)
 have lB:B<W.heap.size:=World.block_lt_of_cell? W _ hc0;have HBe:=Lib.hid (hB▸hbel);clear hcell hbel hB hszW;refine wp_loop_rounds 2 ?_;rw[rounds_succ];go_wp2_with fail;rw[rounds_succ];go_wp2_with fail;go_ret;exact ⟨rfl,HBe.out⟩
end Go.Proofs.YtadjdkickjjieaaGreatDoor
