/- Walks. -/
import Derived.Test.YtdmoogjddmdmbaaGreatDoorX36
import Derived.Test.YtdmoogjddmdmbaaGreatDoorX23
import Derived.Lib.SmallJoins
set_option maxRecDepth 100000
set_option maxHeartbeats 16000000
set_option linter.unusedVariables false
set_option linter.unusedSimpArgs false
namespace Go.Proofs.YtdmoogjddmdmbaaGreatDoor
open Go.RowKit
def ZY(g:Nat):List Value:=[.int .i64 4,.slice none 0 0,.slice (some ⟨g,0,none⟩) 1 1,.int .i64 1,.int .i64 2]
theorem om.nd{g q:Nat}{w:World}(h:om g q w):bT w oI (ZY g):=by
 have hg:=(γ h.1).1;have hq:=(γ h.2).1;have q0:w.cell? ⟨q,0,none⟩=some (.int .u8 97):=by rw[cell_of_row _ _ _ _ _ _ h.2];rfl
 have q1:w.cell? ⟨q,1,none⟩=some (.int .u8 97):=by rw[cell_of_row _ _ _ _ _ _ h.2];rfl
 unfold oI;have h1:jK w (.slice none 0 0) []:=⟨none,0,rfl,⟨ξ,ξ⟩,.inl rfl⟩;have h2:jK w (.slice (some ⟨q,0,none⟩) 1 1) [(97,97)]:=⟨some ⟨q,0,none⟩,1,rfl,⟨ξ,ξ⟩,.inr ⟨q,0,rfl,hq,λi hi=>by
  have:i=0:=by simp at hi;omega
  subst this;exact ⟨⟨q0,q1⟩,(by show 97<256;decide),(by show 97<256;decide)⟩⟩⟩
 have hk:bT w (.mk 1 [(97,97)] [] 0 0) [.int .i64 1,.slice (some ⟨q,0,none⟩) 1 1,.slice none 0 0,.int .i64 0,.int .i64 0]:=⟨_,_,rfl,h2,none,0,rfl,⟨ξ,ξ⟩,.inl rfl⟩;refine ⟨_,_,rfl,h1,_,1,rfl,⟨ξ,ξ⟩,.inr ⟨g,0,rfl,hg,⟨_,λj hj=>?_,hk⟩,trivial⟩⟩;obtain ⟨k0,k1,k2,k3,k4⟩:=aw h.1
 match j,hj with
 |0,_=>exact k0
 |1,_=>exact k1
 |2,_=>exact k2
 |3,_=>exact k3
 |4,_=>exact k4
theorem Nq(g q:Nat)(w:World)(h:om g q w):Calls Tryz.prog 111 #[.agg #[.int .i64 4,.slice none 0 0,.slice (some ⟨g,0,none⟩) 1 1,.int .i64 1,.int .i64 2]] w λe w'=>e=.returned (.int .i64 1)/\Below w.heap.size w w':=by
 have HV:=Z λW (hb:Below w.heap.size w W)=>jS oI (ZY g) W (h.later hb).nd;have HS:=Z λW (hb:Below w.heap.size w W)=>qi _ oI (ZY g) W I O O O (h.later hb).nd;rw[tL]at HV;clear h
 go_enter Tryz.func111,Tryz.ntmps111
 go_wp2_with fail;refine aH λW0 aP=>?_;have hb0:Below w.heap.size w W0:=by rw[aP];exact υ.alloc I _
 have hX:Ue g w.heap.size W0:=by rw[aP];exact heap_alloc_new w _
 have H0:=Z (H hb0 hX);clear aP hb0 hX;refine (HV.out W0 H0.out.1).mono ?_;rintro e w1 ⟨rfl,hb1⟩;obtain ⟨c0,c1,c2,c3,c4⟩:=aw ((hb1.block _ (γ H0.out.2).1).trans H0.out.2);have lb:w.heap.size<w1.heap.size:=Nat.lt_of_lt_of_le (γ H0.out.2).1 hb1.size;have aX:=Z (H0.out.1.trans (hb1.mono H0.out.1.size));clear hb1;go_wp2_with fail;refine (HS.out w1 aX.out).mono ?_;rintro e w2 ⟨rfl,aJ⟩;have dr:=Z (aX.out.trans (aJ.mono aX.out.size));clear aJ c0 c1 c2 c3 c4 lb;go_wp2_with fail;go_ret;exact ⟨rfl,dr.out⟩
theorem RJ(g q:Nat)(w:World)(h:om g q w):Calls Tryz.prog 74 #[.agg #[.int .i64 4,.slice none 0 0,.slice (some ⟨g,0,none⟩) 1 1,.int .i64 1,.int .i64 2]] w λe w'=>e=.returned (.int .i64 2)/\Below w.heap.size w w':=by
 have HV:=Z λW (hb:Below w.heap.size w W)=>jS oI (ZY g) W (h.later hb).nd;have HS:=Z λW (hb:Below w.heap.size w W)=>mD _ oI (ZY g) W I O O (h.later hb).nd;rw[tL]at HV;clear h
 go_enter Tryz.func74,Tryz.ntmps74
 go_wp2_with fail;refine aH λW0 aP=>?_;have hb0:Below w.heap.size w W0:=by rw[aP];exact υ.alloc I _
 have hX:Ue g w.heap.size W0:=by rw[aP];exact heap_alloc_new w _
 have H0:=Z (H hb0 hX);clear aP hb0 hX;refine (HV.out W0 H0.out.1).mono ?_;rintro e w1 ⟨rfl,hb1⟩;obtain ⟨c0,c1,c2,c3,c4⟩:=aw ((hb1.block _ (γ H0.out.2).1).trans H0.out.2);have lb:w.heap.size<w1.heap.size:=Nat.lt_of_lt_of_le (γ H0.out.2).1 hb1.size;have aX:=Z (H0.out.1.trans (hb1.mono H0.out.1.size));clear hb1;go_wp2_with fail;refine (HS.out w1 aX.out).mono ?_;rintro e w2 ⟨rfl,aJ⟩;have dr:=Z (aX.out.trans (aJ.mono aX.out.size));clear aJ c0 c1 c2 c3 c4 lb;go_wp2_with fail;go_ret;exact ⟨rfl,dr.out⟩
theorem E0(w:World):Calls Tryz.prog 112 #[.int .i64 0] w λe w'=>e=.returned (.bool true)/\w'=w:=by
 go_enter Tryz.func112,Tryz.ntmps112
 go_wp2_with fail;go_ret;exact ⟨rfl,rfl⟩
theorem Nr(A:Option Addr)(c:Nat)(f:Value)(w:World):Calls Tryz.prog 141 #[.slice A 0 c,f] w λe w'=>e=.returned (.int .i64 (-1))/\w'=w:=by
 go_enter Tryz.func141,Tryz.ntmps141
 go_wp2
 refine wp_loop_rounds 1 ?_;rw[rounds_succ]
 go_wp2
 go_ret;exact ⟨rfl,rfl⟩
theorem Ns(A:Option Addr)(c:Nat)(f:Value)(w:World):Calls Tryz.prog 113 #[.slice A 0 c,f] w λe w'=>e=.returned (.bool false)/\w'=w:=by
 go_enter Tryz.func113,Tryz.ntmps113
 go_wp2_with fail;refine (Nr A c f w).mono ?_;rintro e w1 ⟨rfl,rfl⟩
 go_wp2
 go_ret;exact ⟨rfl,rfl⟩
def qC:ByteArray:=⟨#[120]⟩
theorem RL(w:World):Calls Tryz.prog 108 #[.string qC] w λe w'=>e=.returned (.bool true)/\Below w.heap.size w w':=by
 have hcv:=λw=>Lib.run_convert_string_bytes (P:=Tryz.prog) w 9 28 5 qC Tryz.underlying9 Tryz.underlying28 Tryz.underlying5;obtain ⟨W,C,B,hW,hC,hB,hcell,aT,Xo⟩:=dt w 5 qC
 go_enter Tryz.func108,Tryz.ntmps108
 go_wp2_with fail;rw[<-hW,<-hC,<-hB];clear hcv hW hC;have qM:qC.size=1:=rfl;rw[qM];have lW:W.cell? ⟨B,0,none⟩=some (.int .u8 120):=hcell 0 (by rw[qM];decide)
 have lB:B<W.heap.size:=World.block_lt_of_cell? W _ lW;have HBe:=Z (hB▸aT);clear hcell aT hB Xo;refine wp_loop_rounds 2 ?_;rw[rounds_succ];go_wp2_with fail;rw[rounds_succ];go_wp2_with fail;go_ret;exact ⟨rfl,HBe.out⟩
end Go.Proofs.YtdmoogjddmdmbaaGreatDoor
