/- Walks. -/
import Derived.Test.YthamegenljmgmaaGreatDoorY36
import Derived.Test.YthamegenljmgmaaGreatDoorY24
import Derived.Lib.SmallJoins
set_option maxRecDepth 100000
set_option maxHeartbeats 16000000
set_option linter.unusedVariables false
set_option linter.unusedSimpArgs false
namespace Go.Proofs.YthamegenljmgmaaGreatDoor
open Go.RowKit
theorem PG(w:World)(pD:eU w):Calls Tryz.prog 12 #[] w λe w'=>e=.returned (.bool true)/\Below w w w':=by
 have qD:=Y pD;clear pD
 go_enter Tryz.func12,Tryz.ntmps12
 go_wp2_with fail;refine (KM w qD.o).mono ?_;rintro e w1 ⟨x,rfl,hit,aM⟩;obtain ⟨g1,v1,rfl,bg,dZ,iF⟩:=id hit;have H1:=Y (I hit aM);clear hit aM bg dZ iF;go_wp2_with fail;refine aJ λW1 xb=>?_;have du:Below w1 w1 W1:=by rw[xb];exact D.alloc V _
 have bT:Below w w W1:=H1.2.t (du.mono H1.2.size);have Zv:=H1.1.keep (ab.aj (fp:=[]) du) (λk hk=>by cases hk)
 obtain ⟨vs,Zw,aY⟩:=Zv.nd;have He:=sP tx vs W1 aY (qD.later bT);rw[<-Zw]at He;have PH:=Y He;have HB:=Y bT;clear xb du bT Zv Zw aY He;refine PH.mono ?_;rintro e w2 uD;obtain ⟨aS,rv,rfl,fB⟩:=Zm uD;clear uD;obtain ⟨ve,va,rfl,he,ha⟩:=id fB.mc;obtain ⟨Ae,ce,rfl,kG,tz⟩:=he.form;obtain ⟨Aa,ca,rfl,pT,yQ⟩:=ha.form;have H2:=Y (I fB.mc (HB.t (aS.mono HB.size)));have l1:ja.ed.length=3:=rfl;have l2:ja.ac.length=3:=rfl;rw[l1,l2]at H2;rw[l1,l2];have Zx:jB ja:=⟨qz.len,qz.kE,qz.to⟩;have eg:iE ja:=⟨O,O,O⟩;have HA:=Y λ(W:World) (vb:Value) (bs:List Nat) (h:Below w2 w2 W) (hb:yP W vb bs) (h1:bs.length<=900000) (h2:∀b∈bs,b<256)=>AX _ vb ja bs W (H2.1.later h) Zx eg O O hb h1 h2;clear aS fB he ha kG pT l1 l2 Zx eg;have dx:=Go.Joins.run_convert_bytes_const_at (P:=Tryz.prog) (w2.alloc (.cells #[.slice Ae 3 ce,.slice Aa 3 ca] 35)) 78 5 #[.int .u8 98,.int .u8 97] 2 2 (w2+1) H Tryz.underlying78 Tryz.underlying5;go_wp2_with fail;refine aJ λW3 pg=>?_;have Um:Below w2 w2 W3:=by rw[pg];exact (D.alloc V _).alloc H _
 have qE:W3.heap[w2.heap.size]?=some (.cells #[.slice Ae 3 ce,.slice Aa 3 ca] 35):=by rw[pg,az _ _ _ H];exact heap_alloc_new w2 _
 have sQ:W3.heap.size=w2+2:=by rw[pg];simp
 have jl:yP W3 (.slice (Z (w2+1) 0) 2 2) [98,97]:=by
  have hr:W3.heap[w2.heap.size+1]?=some (.cells #[.int .u8 98,.int .u8 97] 5 (2,3)):=by rw[pg];simpa using heap_alloc_new (w2.alloc (.cells #[.slice Ae 3 ce,.slice Aa 3 ca] 35)) (.cells #[.int .u8 98,.int .u8 97] 5 (2,3))
  refine ⟨_,2,rfl,H,.inr ⟨w2.heap.size+1,0,rfl,U,λi hi=>?_⟩⟩;rw[Φ hr]
  match i,hi with
  |0,_=>rfl
  |1,_=>rfl
 have ej:=HA W3 _ [98,97] Um jl O O;rw[show eM ja [98,97] 0=true by decide]at ej
 have Yc:=Y ej;have H3:=Y (I Um qE);clear pg Um qE jl ej dx;refine Yc.mono ?_;rintro e w4 ⟨rfl,pE⟩;have hz4:=pE.size;have qE:=(pE.block w2 U).t H3.2;obtain ⟨x0,x1⟩:w4.cell? (Z w2 0)=some (.slice Ae 3 ce)/\w4.cell? (Z w2 1)=some (.slice Aa 3 ca):=by
  constructor <;> (rw[Φ qE]; rfl)
 have Ps:w2.heap.size<w4:=U;have H4:=Y (H3.1.t (pE.mono U));clear pE qE;have dx:=Go.Joins.run_convert_bytes_const_at (P:=Tryz.prog) w4 78 5 #[.int .u8 98] 1 1 w4 rfl Tryz.underlying78 Tryz.underlying5;go_wp2_with fail;refine aJ λW5 FN=>?_;have Zy:Below w4 w4 W5:=by rw[FN];exact D.alloc V _
 have jl:yP W5 (.slice (Z w4 0) 1 1) [98]:=by
  have hr:W5.heap[w4.heap.size]?=some (.cells #[.int .u8 98] 5 (1,2)):=by rw[FN];exact heap_alloc_new w4 _
  refine ⟨_,1,rfl,H,.inr ⟨w4.heap.size,0,rfl,by rw[FN];simp,λi hi=>?_⟩⟩
  rw[Φ hr]
  match i,hi with
  |0,_=>rfl
 have Hp:=H4.t (Zy.mono H4.size);have ej:=HA W5 _ [98] Hp jl O O;rw[show eM ja [98] 0=false by decide]at ej
 have af8:=Y ej;have H5:=Y (H2.2.t (Hp.mono H2.2.size));clear FN Zy jl ej Hp dx x0 x1;refine af8.mono ?_;rintro e w6 ⟨rfl,xc⟩;have H6:=Y (H5.t (xc.mono H5.size));clear xc;go_wp2_with fail;go_ret;exact ⟨rfl,H6.o⟩
end Go.Proofs.YthamegenljmgmaaGreatDoor
