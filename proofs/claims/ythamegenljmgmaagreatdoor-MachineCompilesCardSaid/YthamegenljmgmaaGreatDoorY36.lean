/- Walks. -/
import Derived.Test.YthamegenljmgmaaGreatDoorY28
import Derived.Test.YthamegenljmgmaaGreatDoorY23
import Derived.Test.YthamegenljmgmaaGreatDoorY10
import Derived.Test.YthamegenljmgmaaGreatDoorY18
import Derived.Test.YthamegenljmgmaaGreatDoorY05
import Derived.Test.YthamegenljmgmaaGreatDoorY26
set_option maxRecDepth 100000
set_option maxHeartbeats 16000000
set_option linter.unusedVariables false
set_option linter.unusedSimpArgs false
namespace Go.Proofs.YthamegenljmgmaaGreatDoor
open Go.RowKit
theorem GR(c:Nat)(t:ByteArray)(w:World)(h1:33<=c)(h2:c<=126)(pe:Lib.indexByte [92,91,93,40,41,123,125,124,45] c.toUInt8=-1)(dx:∀w,(convert 21 9 (.int .i32 (c:Int))).run Tryz.prog w=.ok (.string t) w):
  Calls Tryz.prog 138 #[.int .u8 (c:Int)] w λe w'=>e=.returned (.string t)/\w'=w:=by
 have HI:=Y (Tryz.strings_IndexByte ⟨#[92,91,93,40,41,123,125,124,45]⟩ (c:Int) w);have d1:decide ((c:Int)<33)=false:=θ;have d2:decide ((126:Int)<(c:Int))=false:=θ;have zk:decide (c<33)=false:=θ;have J4:decide (126<c)=false:=θ
 go_enter Tryz.func138,Tryz.ntmps138
 go_wp2_with fail;refine HI.mono ?_;rintro e w2 ⟨rfl,eh⟩;subst eh;have WJ:Lib.indexByte [92,91,93,40,41,123,125,124,45] ((c:Int).toNat.toUInt8)=-1:=pe;rw[show Lib.indexByte (⟨#[92,91,93,40,41,123,125,124,45]⟩:ByteArray).data.toList ((c:Int).toNat.toUInt8)=-1 from WJ];have hd:decide ((0:Int)<=-1)=false:=O;go_wp2_with fail;go_ret;exact ⟨rfl,rfl⟩
theorem uo{b:Nat}{l':List UInt8}{fp fp':List Nat}{w w':World}(h:rW b l' fp' w')(hk:ab fp fp' w w'){k:Nat}(hn:k∉fp)(hl:k<w):k∉fp'/\w'.heap[k]?=w.heap[k]?:=
 ⟨λhm=>(hk.new k hm).elim hn (λh=>U),hk.aq k hl hn⟩
theorem Rv(b:Nat)(l:List UInt8)(fp:List Nat)(q c:Nat)(w:World)(h:rW b l fp w)(hl:l.length<=1000000)(hq:w.cell? (Z q 0)=some (.int .u8 97)/\w.cell? (Z q 1)=some (.int .u8 98))(rU:q∉fp)(Na:q<w):
  Calls Tryz.prog 123 #[.pointer (Z b 0),.slice (Z q 0) 1 c] w λe w'=>e=.returned (.tuple #[])/\∃fp',rW b (l++[91,97,45,98,93]) fp' w'/\ab fp fp' w w':=by
 have S97:=Y (λw=>GR 97 ⟨#[97]⟩ w O O rfl (λ_=>R));have S98:=Y (λw=>GR 98 ⟨#[98]⟩ w O O rfl (λ_=>R));obtain ⟨q0,q1⟩:=hq;have HB:=Y h;have HQ:=Y (I q0 (I q1 (I rU Na)));have H1:=Y (yX b l fp 91 91 rfl w h U);clear h rU
 go_enter Tryz.func123,Tryz.ntmps123
 go_wp2_with fail
 go_quiet (fail)
 go_wp2_with fail;refine aJ λW0 cG=>?_;have hb0:Below w w W0:=by rw[cG];exact below_drewN D _
 have H1:=Y (yX b l fp 91 91 rfl W0 (HB.below hb0) U);have dA:=Y hb0;clear cG hb0 q0 q1 Na;refine H1.mono ?_;rintro e w1 ⟨rfl,Pg,bQ,EL⟩;have ajq:q<W0:=by have:=dA.size;have:=HQ.2.2.2;omega
 obtain ⟨n1,e1⟩:=uo bQ EL HQ.2.2.1 ajq;have q0:=(χ q 0 e1).t ((dA.cl q 0 HQ.2.2.2).t HQ.1);have q1:=(χ q 1 e1).t ((dA.cl q 1 HQ.2.2.2).t HQ.2.1);have dh:=EL.size;have ql:q<w1:=U;have H2:=Y (I bQ EL);clear bQ EL n1 e1;go_wp2_with fail;refine wp_loop_rounds 2 ?_;rw[rounds_succ];go_wp2_with fail;refine aJ λW1 xb=>?_;have du:Below w1 w1 W1:=by rw[xb];exact D.alloc V _
 have uk:W1.heap[w1.heap.size]?=some (.cells #[.int .u8 97,.int .u8 98] 72):=by rw[xb];exact heap_alloc_new w1 _
 have jc:W1.heap.size=w1+1:=by rw[xb];simp
 clear xb q0 q1;refine (S97 W1).mono ?_;rintro e w2 ⟨rfl,eh⟩;rw[eh];clear eh;have acE:=H2.1.below du;have H3:=Y (K3 b (l++[91]) Pg ⟨#[97]⟩ W1 acE (by rw[List.length_append,List.length_singleton];omega) O)
 have Ph:w1.heap.size∉Pg:=λhm=>by have:=H2.1.lt _ hm;omega
 have HW:=Y (I du (I uk Ph));obtain ⟨x0,x1⟩:W1.cell? (Z w1 0)=some (.int .u8 97)/\W1.cell? (Z w1 1)=some (.int .u8 98):=by constructor <;> (rw[Φ uk]; rfl)
 clear du uk acE Ph;go_wp2_with fail;refine H3.mono ?_;rintro e w3 ⟨rfl,fp3,oy,GS⟩;obtain ⟨n3,e3⟩:=uo oy GS HW.2.2 U;have M1:=e3.t HW.2.1;have sQ:=GS.size;clear x0 x1;obtain ⟨x0,x1⟩:w3.cell? (Z w1 0)=some (.int .u8 97)/\w3.cell? (Z w1 1)=some (.int .u8 98):=by constructor <;> (rw[Φ M1]; rfl)
 have xl:w1.heap.size<w3:=U;have H4:=Y (I oy ((H2.2.t (ab.aj HW.1)).t GS));clear oy GS n3 e3 M1;go_wp2_with fail;refine (S98 w3).mono ?_;rintro e w4 ⟨rfl,hw4⟩;rw[hw4];clear hw4;go_wp2_with fail;have H5:=Y (K3 b (l++[91]++bl ⟨#[97]⟩) fp3 (({ data:=#[45] }:ByteArray)++{ data:=#[98] }) w3 H4.1 (by rw[List.length_append,List.length_append,List.length_singleton,show (bl ⟨#[97]⟩).length=1 from rfl];omega) O)
 refine H5.mono ?_;rintro e w5 ⟨rfl,UW,IG,Y9⟩;have hz5:=Y9.size;have H6:=Y (I IG (H4.2.t Y9));clear IG Y9 x0 x1;go_wp2_with fail;rw[rounds_succ];go_wp2_with fail;have H7:=Y (yX b _ UW 93 93 rfl w5 H6.1 (by rw[List.length_append,List.length_append,List.length_append,List.length_singleton,show (bl ⟨#[97]⟩).length=1 from rfl,show (bl (({ data:=#[45] }:ByteArray)++{ data:=#[98] })).length=2 from rfl];omega))
 refine H7.mono ?_;rintro e w7 ⟨rfl,fp7,hk7,kf7⟩;have H8:=Y (I hk7 (H6.2.t kf7));clear hk7 kf7;go_wp2_with fail
 go_end0
 refine ⟨rfl,fp7,?_,(ab.aj dA.o).t H8.2⟩;have:=H8.1;rw[show l++[91]++bl ⟨#[97]⟩++bl (({ data:=#[45] }:ByteArray)++{ data:=#[98] })++[93]=l++[91,97,45,98,93] by
  rw[List.append_assoc,List.append_assoc,List.append_assoc];rfl]at this
 exact this
def WK(b N g1 q cp:Nat):Nat->Nat->Value->World->Prop
 |c,0,x,w=>x=.pointer (Z b 0)
 |c,1,x,w=>x=.pointer (Z N 2)
 |c,2,x,w=>x=.slice (Z g1 0) 1 1
 |c,3,x,w=>x=.pointer (Z g1 0)
 |c,4,x,w=>x=.agg #[(1:Int),.slice (Z q 0) 1 cp,(),(0:Int),(0:Int)]
 |c,5,x,w=>x=.pointer (Z N 2)
 |c,6,x,w=>x=.slice (Z g1 0) 1 1
 |c,7,x,w=>x=.pointer (Z g1 0)
 |c,8,x,w=>x=.pointer (Z g1 0)
 |c,9,x,w=>x=.int .i64 1
 |c,10,x,w=>x=.bool false
 |_,_,_,_=>True
def asu(q c:Nat):Value:=.agg #[(1:Int),.slice (Z q 0) 1 c,(),(0:Int),(0:Int)]
theorem zV(b:Nat)(l:List UInt8)(fp:List Nat)(q c:Nat)(w:World)(h:rW b l fp w)(hl:l.length<=1000000)(hq:w.cell? (Z q 0)=some (.int .u8 97)/\w.cell? (Z q 1)=some (.int .u8 98))(rU:q∉fp)(Na:q<w):
  Calls Tryz.prog 106 #[.pointer (Z b 0),.agg #[(1:Int),.slice (Z q 0) 1 c,(),(0:Int),(0:Int)]] w λe w'=>e=.returned (.tuple #[])/\∃fp',rW b (l++[91,97,45,98,93]) fp' w'/\ab fp fp' w w':=by
 have HB:=Y h;have HQ:=Y (I hq (I rU Na));clear h hq rU Na
 go_enter Tryz.func106,Tryz.ntmps106
 go_wp2_with fail;refine aJ λW0 cG=>?_;have hb0:Below w w W0:=by rw[cG];exact D.alloc V _
 have H1:=Y (Rv b l fp q c W0 (HB.below hb0) hl ⟨(hb0.cl q 0 HQ.2.2).t HQ.1.1,(hb0.cl q 1 HQ.2.2).t HQ.1.2⟩ HQ.2.1 (Nat.lt_of_lt_of_le HQ.2.2 hb0.size));have dA:=Y hb0;clear cG hb0;refine H1.mono ?_;rintro e w1 ⟨rfl,Pg,bQ,EL⟩;have H2:=Y (I bQ EL);clear bQ EL;go_wp2_with fail
 go_end0
 exact ⟨rfl,Pg,H2.1,(ab.aj dA.o).t H2.2⟩
theorem WL(b:Nat)(l:List UInt8)(fp:List Nat)(q c:Nat)(w:World)(h:rW b l fp w)(hl:l.length<=1000000)(hq:w.cell? (Z q 0)=some (.int .u8 97)/\w.cell? (Z q 1)=some (.int .u8 98))(rU:q∉fp)(Na:q<w):
  Calls Tryz.prog 124 #[.pointer (Z b 0),.agg #[(1:Int),.slice (Z q 0) 1 c,(),(0:Int),(0:Int)],.bool false] w λe w'=>e=.returned (.tuple #[])/\∃fp',rW b (l++[91,97,45,98,93]) fp' w'/\ab fp fp' w w':=by
 have HB:=Y h;have HQ:=Y (I hq (I rU Na));clear h hq rU Na
 go_enter Tryz.func124,Tryz.ntmps124
 go_wp2_with fail;refine aJ λW0 cG=>?_;have hb0:Below w w W0:=by rw[cG];exact D.alloc V _
 have H1:=Y (zV b l fp q c W0 (HB.below hb0) hl ⟨(hb0.cl q 0 HQ.2.2).t HQ.1.1,(hb0.cl q 1 HQ.2.2).t HQ.1.2⟩ HQ.2.1 (Nat.lt_of_lt_of_le HQ.2.2 hb0.size));have dA:=Y hb0;clear cG hb0;refine H1.mono ?_;rintro e w1 ⟨rfl,Pg,bQ,EL⟩;have H2:=Y (I bQ EL);clear bQ EL;go_wp2_with fail
 go_end0
 exact ⟨rfl,Pg,H2.1,(ab.aj dA.o).t H2.2⟩
theorem zW(b:Nat)(l:List UInt8)(fp:List Nat)(g1 q cp:Nat)(w:World)(h:rW b l fp w)(hl:l.length<=100000)(hq:w.cell? (Z q 0)=some (.int .u8 97)/\w.cell? (Z q 1)=some (.int .u8 98))(rU:q∉fp)(Na:q<w)
  (hg:w.heap[g1]?=some (.cells #[(1:Int),.slice (Z q 0) 1 cp,(),(0:Int),(0:Int)] 26)) (Ia:g1∉fp) (pD:eU w) (bX:∀k∈fp,nG<=k) :
  Calls Tryz.prog 106 #[.pointer (Z b 0),.agg #[(4:Int),(),.slice (Z g1 0) 1 1,(2:Int),(2:Int)]] w λe w'=>e=.returned (.tuple #[])/\∃fp',rW b (l++[91,97,45,98,93,123,50,125]) fp' w'/\ab fp fp' w w':=by
 have lgw:g1<w:=(γ hg).1;have HB:=Y h;have HQ:=Y (I hq (I rU Na));have HG:=Y (I hg Ia);have HV:=Y (I pD bX);clear h hq rU Na hg Ia pD bX
 go_enter Tryz.func106,Tryz.ntmps106
 go_wp2_with fail;refine br λW hW=>?_;have du:Below w w W:=by rw[hW];exact D.alloc V _
 have hN:W.heap[w.heap.size]?=some (.cells #[(4:Int),(),.slice (Z g1 0) 1 1,(2:Int),(2:Int)] 26):=by rw[hW];exact heap_alloc_new w _
 have zo:=(du.block g1 lgw).t HG.1;obtain ⟨b0,b1,b2,b3,b4⟩:=aD hN;obtain ⟨k0,k1,k2,k3,k4⟩:=aD zo;have jc:=du.size;have lb:w.heap.size<W:=(γ hN).1;have lg:g1<W:=U;have dN:Below W W W.drew:=D.drew;have HW:=Y (I du hN);clear hW du hN zo;refine ay 11 [] (WK b w g1 q cp) (λ_ w'=>Below W W w') R R R R R R O dN ?_ ?_
 .simp only[ck,ct];refine aa.pure O ?_ (aa.pure O ?_ (aa.pure O ?_ (aa.pure O ?_ (aa.pure O ?_ (aa.pure O ?_ (aa.pure O ?_ (aa.pure O ?_ (aa.pure O ?_ (aa.pure O ?_ (aa.pure O ?_ (aa.nil)))))))))))
  all_goals first | (intro v wz c bX hS hE K hK;simp only[ah,Act.put,dk,dm,dn,Nat.zero_add,Nat.reduceAdd,ck,ct]at hK|-) | (intro v wz hS hE K hK;simp only[ah,Act.put,dk,dm,dn,Nat.zero_add,Nat.reduceAdd,ck,ct]at hK|-)
  .exact ζ
  .exact ζ
  .have e1:v 1=_:=hE.1 rfl;rw[e1]at hK|-;have b2z:=(hS.cl w 2 lb).t b2;have lbz:w.heap.size<wz:=by have:=hS.size;omega
   exact ζ
  .have e2:v 2=_:=hE.1 rfl;rw[e2]at hK|-;exact ζ
  .have e3:v 3=_:=hE.1 rfl;rw[e3]at hK|-;have y0:=(hS.cl g1 0 lg).t k0;have y1:=(hS.cl g1 1 lg).t k1;have y2:=(hS.cl g1 2 lg).t k2;have y3:=(hS.cl g1 3 lg).t k3;have y4:=(hS.cl g1 4 lg).t k4;have lgz:g1<wz:=by have:=hS.size;omega
   exact ζ
  .exact ζ
  .have e5:v 5=_:=hE.1 rfl;rw[e5]at hK|-;have b2z:=(hS.cl w 2 lb).t b2;have lbz:w.heap.size<wz:=by have:=hS.size;omega
   exact ζ
  .have e6:v 6=_:=hE.1 rfl;rw[e6]at hK|-;exact ζ
  .have e7:v 7=_:=hE.1 rfl;rw[e7]at hK|-;exact ζ
  .have e8:v 8=_:=hE.1 rfl;rw[e8]at hK|-;have y0:=(hS.cl g1 0 lg).t k0;have lgz:g1<wz:=by have:=hS.size;omega
   exact ζ
  .have e9:v 9=_:=hE.1 rfl;rw[e9]at hK|-;exact ζ
 .intro v wz hS hF;have e0:v 0=_:=hF 0 O;have e1:v 1=_:=hF 1 O;have e2:v 2=_:=hF 2 O;have e3:v 3=_:=hF 3 O;have e4:v 4=_:=hF 4 O;have e5:v 5=_:=hF 5 O;have e6:v 6=_:=hF 6 O;have e7:v 7=_:=hF 7 O;have e8:v 8=_:=hF 8 O;have e9:v 9=_:=hF 9 O;have eR:v 10=_:=hF 10 O;simp only[ah,Act.put,dk,dm,dn,Nat.zero_add,Nat.reduceAdd,ck,ct,List.drop_succ_cons,List.drop_zero,e0,e1,e2,e3,e4,e5,e6,e7,e8,e9,eR];clear hF e0 e1 e2 e3 e4 e5 e6 e7 e8 e9 eR;have Za:=HW.1.t (hS.mono jc);have H1:=Y (WL b l fp q cp wz (HB.below Za) U ⟨(Za.cl q 0 HQ.2.2).t HQ.1.1,(Za.cl q 1 HQ.2.2).t HQ.1.2⟩ HQ.2.1 (Nat.lt_of_lt_of_le HQ.2.2 Za.size));have AJ:=Y (I Za hS);clear hS Za;go_wp2_with fail;refine H1.mono ?_;rintro e w1 ⟨rfl,Pg,bQ,EL⟩;have hnN:w.heap.size∉fp:=λhm=>by have:=HB.lt _ hm;omega
  have iM:=AJ.2.size;obtain ⟨n1,e1⟩:=uo bQ EL hnN (show w.heap.size<wz by omega)
  have FL:=e1.t ((AJ.2.block w lb).t HW.2);clear b0 b1 b2 b3 b4;obtain ⟨b0,b1,b2,b3,b4⟩:=aD FL;have dh:=EL.size;have WM:w.heap.size<w1:=U;have H2:=Y (I bQ (I ((ab.aj AJ.1).t EL) (I n1 FL)));clear bQ EL n1 e1 FL k0 k1 k2 k3 k4;have hv1:eU w1:=HV.1.Ec U λk hk=>H2.2.1.aq k (by have:=HV.1.low;omega) λhm=>by have:=HV.2 k hm;omega
  have HI:=Y (oC 2 O w1 hv1);clear hv1;go_wp2_with fail;refine HI.mono ?_;rintro e w2 ⟨rfl,aS⟩;have acH:=H2.1.below aS;have aY:bs (Lib.decDigits 2)=⟨#[50]⟩:=by rw[Lib.decDigits];rfl
  rw[aY];have H3:=Y (K3 b (l++[91,97,45,98,93]) Pg (({ data:=#[123] }:ByteArray)++{ data:=#[50] }) w2 acH (by rw[List.length_append];simp;omega) O)
  have Yd:=(aS.block w WM).t H2.2.2.2;have cT:=aS.size;have fS:=Y aS;clear acH aS b0 b1 b2 b3 b4;go_wp2_with fail;refine H3.mono ?_;rintro e w3 ⟨rfl,fp3,oy,GS⟩;obtain ⟨n3,e3⟩:=uo oy GS H2.2.2.1 (show w.heap.size<w2 by omega)
  have hN3:=e3.t Yd;obtain ⟨b0,b1,b2,b3,b4⟩:=aD hN3;have sQ:=GS.size;have lb3:w.heap.size<w3:=U;have H4:=Y (I oy ((H2.2.1.t (ab.aj fS.o)).t GS));clear oy GS n3 e3 hN3 Yd;go_wp2_with fail;have H5:=Y (yX b _ fp3 125 125 rfl w3 H4.1 (by rw[List.length_append,List.length_append,show (bl (({ data:=#[123] }:ByteArray)++{ data:=#[50] })).length=2 from rfl];simp;omega))
  refine H5.mono ?_;rintro e w5 ⟨rfl,UW,IG,Y9⟩;have H6:=Y (I IG (H4.2.t Y9));clear IG Y9;go_wp2_with fail
  go_end0
  refine ⟨rfl,UW,?_,H6.2⟩;have:=H6.1;rw[show l++[91,97,45,98,93]++bl (({ data:=#[123] }:ByteArray)++{ data:=#[50] })++[125]=l++[91,97,45,98,93,123,50,125] by
   rw[List.append_assoc,List.append_assoc];rfl]at this
  exact this
def tx:Nd:=.mk 4 [] [.mk 1 [(97,98)] [] 0 0] 2 2
theorem AU:bz tx=0:=O
theorem EK.lie{B:Nat}{x:Value}{w:World}(h:EK B x w):∃g q c,x=.agg #[(4:Int),(),.slice (Z g 0) 1 1,(2:Int),(2:Int)]/\(B<=g/\B<=q)/\(g<w.heap.size/\q<w.heap.size)/\
  w.heap[g]?=some (.cells #[(1:Int),.slice (Z q 0) 1 c,(),(0:Int),(0:Int)] 26)/\(w.cell? (Z q 0)=some (.int .u8 97)/\w.cell? (Z q 1)=some (.int .u8 98))/\(1<=c/\c<=9223372036854775807):=by
 obtain ⟨g,v,h1,h2,h3,h4⟩:=h;obtain ⟨A,c,e,hc,dt⟩:=h4.cells acq;obtain ⟨q,hA,hq,hql,ak⟩:=dt.resolve_left H;have tY:c<=9223372036854775807:=by
  obtain ⟨A',c',e',-,h'⟩:=ae (show w.ownsRow _ _ _ _ _ _ from h4);rw[e]at e';injection e' with _ _ e3;rw[e3];exact h'
 subst hA;subst e;have q0:=(ak 0 O 0 O).1;have q1:=(ak 0 O 1 O).1;exact ⟨g,q,c,h1,⟨h2,hq⟩,⟨(γ h3).1,hql⟩,h3,⟨q0,q1⟩,⟨hc,tY⟩⟩
theorem EK.nd{B:Nat}{x:Value}{w:World}(h:EK B x w):∃vs:List Value,x=.agg vs.toArray/\bY w tx vs:=by
 obtain ⟨g,q,c,rfl,-,⟨hg,hq⟩,aC,⟨q0,q1⟩,kr,jD⟩:=h.lie;refine ⟨[.int .i64 4,.slice none 0 0,.slice (Z g 0) 1 1,.int .i64 2,.int .i64 2],rfl,?_⟩;unfold tx;have h1:gD w () []:=⟨none,0,rfl,⟨H,H⟩,.inl rfl⟩;have h2:gD w (.slice (Z q 0) 1 c) [(97,98)]:=⟨some ⟨q,0,none⟩,c,rfl,⟨kr,jD⟩,.inr ⟨q,0,rfl,hq,λi hi=>by
  have:i=0:=by simp at hi;omega
  subst this;exact ⟨⟨q0,q1⟩,(by show 97<256;decide),(by show 98<256;decide)⟩⟩⟩
 have hk:bY w (.mk 1 [(97,98)] [] 0 0) [.int .i64 1,.slice (Z q 0) 1 c,.slice none 0 0,.int .i64 0,.int .i64 0]:=⟨_,_,rfl,h2,none,0,rfl,⟨H,H⟩,.inl rfl⟩;refine ⟨_,_,rfl,h1,_,1,rfl,⟨H,H⟩,.inr ⟨g,0,rfl,hg,⟨_,λj hj=>?_,hk⟩,trivial⟩⟩;obtain ⟨k0,k1,k2,k3,k4⟩:=aD aC
 match j,hj with
 |0,_=>exact k0
 |1,_=>exact k1
 |2,_=>exact k2
 |3,_=>exact k3
 |4,_=>exact k4
theorem Nb(B b:Nat)(l:List UInt8)(fp:List Nat)(w:World)(h:rW b l fp w)(hB:∀k∈fp,B<=k)(UC:B<=w):Calls Tryz.prog 40 #[.pointer (Z b 0)] w λe w'=>e=.returned (.string (bs l))/\Below B w w':=by
 obtain ⟨p,v,hp,rfl,hn,hb,ho⟩:=h;have ho':w.ownsRow B 5 1 v (Lib.byteCells l).length (Lib.byteCells l):=by
  rw[Lib.byteCells_length];refine ⟨ho.1,?_⟩;rcases ho.2 with h3|⟨g,cap,cur,h3,h4,rest⟩
  .exact .inl h3
  .exact .inr ⟨g,cap,cur,h3,hB g (by simp[h3,aq,Value.ownBlock]),rest⟩
 refine uL B b l w ?_ UC;rcases hp with rfl|rfl
 .exact .inl ⟨hB b H,v,hb,ho',hn⟩
 .exact .inr ⟨hB b H,v,hb,ho',hn⟩
theorem Rw(B:Nat)(x:Value)(w:World)(hit:EK B x w)(pD:eU w):Calls Tryz.prog 78 #[x] w λe w'=>e=.returned (.tuple #[.string ⟨#[91,97,45,98,93,123,50,125]⟩,(0:Int)])/\Below w w w':=by
 obtain ⟨vs,hx,aY⟩:=hit.nd;have HV:=Y (λW (hb:Below w w W)=>rZ tx vs W (aY.later hb));obtain ⟨g,q,c,gO,-,⟨hg,hq⟩,aC,JV,hc⟩:=hit.lie;have Zw:Value.agg vs.toArray=.agg #[(4:Int),(),.slice (Z g 0) 1 1,(2:Int),(2:Int)]:=hx.symm.t gO;rw[Zw]at HV;subst gO;have H0:=Y (I aC (I JV (I hg hq)));have qD:=Y pD;clear hx Zw aY aC JV hit pD;rw[AU]at HV
 go_enter Tryz.func78,Tryz.ntmps78
 go_wp2_with fail;refine aJ λW0 cG=>?_;have hb0:Below w w W0:=by rw[cG];exact D.alloc V _
 have hN:W0.heap[w.heap.size]?=some (.cells #[(4:Int),(),.slice (Z g 0) 1 1,(2:Int),(2:Int)] 26):=by rw[cG];exact heap_alloc_new w _
 have dY:W0.heap.size=w+1:=by rw[cG];simp
 refine (HV W0 hb0).mono ?_;rintro e w1 ⟨rfl,aM⟩;have FL:=(aM.block w U).t hN;obtain ⟨b0,b1,b2,b3,b4⟩:=aD FL;have dh:=aM.size;have WM:w.heap.size<w1:=U;have lb2:w.heap.size<w1+1:=U;have H1:=Y (I (hb0.t (aM.mono hb0.size)) FL);clear cG hb0 hN aM FL;go_wp2_with fail;refine aJ λW2 ke=>?_;have aS:Below w1 w1 W2:=by rw[ke];exact D.alloc V _
 have hB2:W2.heap[w1.heap.size]?=some (.cells #[.pointer none,()] 84):=by rw[ke];exact heap_alloc_new w1 _
 have eh:Below w w W2:=H1.1.t (aS.mono H1.1.size);have H2:=Y (zW w1 [] [w1.heap.size] g q c W2 (rW.fresh hB2) H ⟨(eh.cl q 0 H0.2.2.2).t H0.2.1.1,(eh.cl q 1 H0.2.2.2).t H0.2.1.2⟩ (λhm=>by have:=List.mem_singleton.1 hm;omega) (Nat.lt_of_lt_of_le hq eh.size) ((eh.block g hg).t H0.1) (λhm=>by have:=List.mem_singleton.1 hm;omega) (qD.later eh) (λk hk=>by have:=List.mem_singleton.1 hk;have:=qD.low;omega))
 have nA:=Y eh;clear ke aS hB2 eh b0 b1 b2 b3 b4;refine H2.mono ?_;rintro e w3 ⟨rfl,fp3,oy,GS⟩;have ajr:=nA.size;have HS:=Y (Nb w _ _ fp3 w3 oy (λk hk=>by
  rcases GS.new k hk with h|h
  .have:=List.mem_singleton.1 h;omega
  .omega) (Nat.le_trans ajr GS.size))
 have Ih:Below w w w3:=nA.t (GS.below (λk hk=>by have:=List.mem_singleton.1 hk;omega) nA.size)
 have oq:=Y Ih;clear oy GS Ih;go_wp2_with fail;refine HS.mono ?_;rintro e w4 ⟨rfl,pE⟩;have sk:=Y (oq.t pE);clear pE;go_wp2_with fail;refine au λWf bG=>?_;subst bG;refine bodyPost_ret (v:=.tuple #[.string (bs ([]++[91,97,45,98,93,123,50,125])),(0:Int)]) (by simp[results,Tryz.results78,go_sem];try rfl) rfl ?_
 exact ⟨rfl,sk.o⟩
def ja:Mc:=⟨[[⟨97,98,1⟩],[⟨97,98,2⟩],[]],[false,false,true]⟩
theorem abT(c t:Nat):bA [⟨97,98,t⟩] c=if 97<=c/\c<=98 then some t else none:=rfl
theorem zz9q:∀w,eM ja w 2=true↔w=[]
 | []=>O
 |c::w=>by
  rw[cJ];show (match bA [] c with|none=>false|some t=>eM ja w t)=true↔_
  simp[bA]
theorem ab1:∀w,eM ja w 1=true↔∃d,w=[d]/\97<=d/\d<=98
 | []=>by
  constructor
  .intro h;exact absurd h O
  .rintro ⟨d,h,-⟩;cases h
 |c::w=>by
  rw[cJ];show (match bA [⟨97,98,2⟩] c with|none=>false|some t=>eM ja w t)=true↔_
  rw[abT];by_cases h:97<=c/\c<=98
  .rw[if_pos h];show eM ja w 2=true↔_;rw[zz9q];constructor
   .rintro rfl;exact ⟨c,rfl,h⟩
   .rintro ⟨d,h1,-⟩;injection h1
  .rw[if_neg h];constructor
   .intro h1;cases h1
   .rintro ⟨d,h1,h2⟩;injection h1 with h1 _;subst h1;exact absurd h2 h
theorem ab0:∀w,eM ja w 0=true↔∃c d,w=[c,d]/\(97<=c/\c<=98)/\97<=d/\d<=98
 | []=>by
  constructor
  .intro h;exact absurd h O
  .rintro ⟨c,d,h,-⟩;cases h
 |c::w=>by
  rw[cJ];show (match bA [⟨97,98,1⟩] c with|none=>false|some t=>eM ja w t)=true↔_
  rw[abT];by_cases h:97<=c/\c<=98
  .rw[if_pos h];show eM ja w 1=true↔_;rw[ab1];constructor
   .rintro ⟨d,rfl,h1⟩;exact ⟨c,d,rfl,h,h1⟩
   .rintro ⟨c',d,h1,-,h2⟩;injection h1 with _ h1;exact ⟨d,h1,h2⟩
  .rw[if_neg h];constructor
   .intro h1;cases h1
   .rintro ⟨c',d,h1,h2,-⟩;injection h1 with h1 _;subst h1;exact absurd h2 h
theorem qz:ld ja where
 len:=rfl
 kE:=by
  intro r hr;simp only[ja,List.mem_cons,List.not_mem_nil,or_false]at hr;rcases hr with rfl|rfl|rfl <;> simp[bK]
 mx:=by
  intro r hr;simp only[ja,List.mem_cons,List.not_mem_nil,or_false]at hr;rcases hr with rfl|rfl|rfl <;> simp[lh]
 to:=O
 live:=by
  intro s hs
  match s,hs with
  |0,_=>exact ⟨[97,97],O⟩
  |1,_=>exact ⟨[97],O⟩
  |2,_=>exact ⟨[],O⟩
  |s+3,hs=>exact absurd hs (by show ¬s+3<3;omega)
 Ha:=by
  intro s t hs ht h;have SA:s<3:=hs;have AD:t<3:=ht;have h1:=h [];have h2:=h [97];have h3:∀s,s<3->∀t,t<3->eM ja [] s=eM ja [] t->eM ja [97] s=eM ja [97] t->s=t:=O;exact h3 s SA t AD h1 h2
 meet:=by simp[ja,lj,mZ,lp]
theorem Pp(w:List Nat):dT tx w↔∃c d,w=[c,d]/\(97<=c/\c<=98)/\97<=d/\d<=98:=by
 have hk:∀u,dT (.mk 1 [(97,98)] [] 0 0) u↔∃c,u=[c]/\97<=c/\c<=98:=λu=>by
  rw[dT];show (if 1=1 then _ else _)↔_;rw[if_pos rfl];simp[qq]
 have h0:dT tx w↔∃j:Nat,(2:Int)<=(j:Int)/\(j:Int)<=2/\yN (dT (.mk 1 [(97,98)] [] 0 0)) j w:=by
  unfold tx;rw[dT];exact Iff.rfl
 rw[h0];constructor
 .rintro ⟨j,h1,h2,h⟩;obtain rfl:j=2:=U;obtain ⟨u,v,rfl,⟨u1,v1,rfl,h3,h4⟩,h5⟩:=h;obtain ⟨c,rfl,hc⟩:=(hk _).1 h4;obtain ⟨d,rfl,hd⟩:=(hk _).1 h5;have h3:u1=[]:=h3;subst h3;exact ⟨c,d,rfl,hc,hd⟩
 .rintro ⟨c,d,rfl,hc,hd⟩;exact ⟨2,O,O,[c],[d],rfl,⟨[],[c],rfl,rfl,(hk _).2 ⟨c,rfl,hc⟩⟩,(hk _).2 ⟨d,rfl,hd⟩⟩
theorem KA:aL tx=2:=O
theorem Zm{w w':World}{e:Ending}(h:Dq tx w e w'):Below w w w'/\∃rv,e=.returned (.tuple #[rv,.int .i64 0])/\nI w w' rv ja:=by
 obtain ⟨hb,h⟩:=h;refine ⟨hb,?_⟩;rcases h with ⟨h1,-⟩|⟨-,h1,-⟩|⟨-,-,b,x,gs,rows,aN,i,hw,hf,hs,hc,h⟩
 .exact absurd AU h1
 .rw[KA]at h1;omega
 .have hct:=hc.count;rw[hw.len,hf,KA]at hct;rcases h with ⟨h1,-⟩|⟨rfl,-,rv,m',rfl,fB,hle⟩
  .omega
  .have hd:=(hc.done hs).2.2;have hl:∀u,eM ⟨rows,aN⟩ u 0=eM ja u 0:=λu=>by
    rw[Bool.eq_iff_iff,hd,hw.jk,show (gN tx).l u↔dT tx u from Iff.rfl,Pp,ab0]
   have yO:aW ⟨rows,aN⟩ 0:=⟨[97,97],by rw[hl];decide⟩
   rcases hle.1 with ⟨-,afV,SB⟩|⟨h1,-⟩
   .have:=ld.unique afV qz λu=>by rw[SB,hl]
    subst this;exact ⟨rv,rfl,fB⟩
   .exact absurd yO h1
def RdP(w:World)(e:Ending)(w':World):Prop:=∃x,e=.returned (.tuple #[x,.int .i64 0])/\EK w x w'/\Below w w w'
theorem Rx(w:World)(pD:eU w):Calls Tryz.prog 57 #[.string ⟨#[91,97,45,98,93,123,50,125]⟩] w (RdP w):=by
 have qD:=Y pD;clear pD
 go_enter Tryz.func57,Tryz.ntmps57
 go_wp2_with fail;refine aJ λW0 cG=>?_;have hb0:Below w w W0:=by rw[cG];exact (D.alloc V _).alloc H _
 have hY:W0.heap[w.heap.size]?=some (.cells #[(0:Int),(),(),(0:Int),(0:Int)] 26):=by rw[cG,az _ _ _ H];exact heap_alloc_new w _
 have hR:k9 (w+1) ⟨#[91,97,45,98,93,123,50,125]⟩ false 0 W0:=by rw[cG];simpa [k9] using heap_alloc_new (w.alloc (.cells #[(0:Int),(),(),(0:Int),(0:Int)] 26)) (.cells #[.string ⟨#[91,97,45,98,93,123,50,125]⟩,.bool false,(0:Int)] 124)
 have dY:W0.heap.size=w+2:=by rw[cG];simp
 have H1:=Y (I7 (w+1) W0 hR);have H0:=Y (I hb0 hY);clear cG hb0 hY hR;refine H1.mono ?_;rintro e w1 ⟨x,rfl,hit,fD,bQ⟩;obtain ⟨g1,v1,rfl,bg,dZ,iF⟩:=id hit;have dh:=bQ.size;have nz:Below w1 w1 (w1.alloc (.cells #[(4:Int),(),.slice (Z g1 0) 1 1,(2:Int),(2:Int)] 26)):=D.alloc V _;have po:Below w w w1:=H0.1.t (bQ.below (λk hk=>by rw[List.mem_singleton]at hk;omega) H0.1.size)
 have WN:=po.t (nz.mono po.size);have H2:=Y (Rw _ _ _ (hit.keep (ab.aj (fp:=[]) nz) (λk hk=>by cases hk)) (qD.later WN))
 have hYA:=(nz.block w U).t ((bQ.aq w U H).t H0.2);have hNA:=heap_alloc_new w1 (.cells #[(4:Int),(),.slice (Z g1 0) 1 1,(2:Int),(2:Int)] 26);have hrA:=fD.later nz;have B4:=hit.keep (ab.aj (fp:=[]) nz) (λk hk=>by cases hk)
 have HA:=Y (I WN (I hYA (I hNA (I hrA B4))));clear hit fD bQ nz po WN hYA hNA hrA B4 bg dZ iF;go_wp2_with fail;refine H2.mono ?_;rintro e w2 ⟨rfl,aS⟩;have OZ:(w1.alloc (.cells #[(4:Int),(),.slice (Z g1 0) 1 1,(2:Int),(2:Int)] 26)).heap.size=w1.heap.size+1:=H;have cT:=aS.size;rw[OZ]at cT;have WQ:=(aS.block w (by rw[OZ];omega)).t HA.2.1
 have Yd:=(aS.block w1 (by rw[OZ];omega)).t HA.2.2.1
 have iX:=HA.2.2.2.1.later aS;have acJ:=HA.2.2.2.2.keep (ab.aj (fp:=[]) aS) (λk hk=>by cases hk)
 have yV:=HA.1.t (aS.mono (by rw[OZ];omega))
 obtain ⟨⟨c0,c1,c2⟩,-,lr2⟩:=iX.cells;obtain ⟨k0,k1,k2,k3,k4⟩:=aD Yd;obtain ⟨y0,y1,y2,y3,y4⟩:=aD WQ;have fy:∀j,j<5->w2.frozen? (Z w j)=false:=λj _=>by simp[World.frozen?,WQ]
 have vl:=fy 0 O;have ug:=fy 1 O;have xp:=fy 2 O;have Kr:=fy 3 O;have Ks:=fy 4 O;have m1:w1.heap.size<w2:=U;have m3:w.heap.size<w2:=U;have H3:=Y (I acJ yV);clear WQ Yd iX acJ yV aS OZ fy;go_wp2_with fail;refine au λWf bG=>?_;obtain ⟨u1,u2,u3,-⟩:=zT bG;refine bodyPost_ret (v:=.tuple #[.agg #[(4:Int),(),.slice (Z g1 0) 1 1,(2:Int),(2:Int)],(0:Int)]) (by rw[bG];simp[results,Tryz.results57,go_sem,y0,y1,y2,y3,y4,m3];try rfl) rfl ?_
 have jr:ab [w.heap.size] [] w2 Wf:=⟨u3.1,u3.2.1,u3.2.2,U,λk _ hn=>u1 k (λe=>hn (by simp[e])),λk hk=>by cases hk⟩
 exact ⟨_,rfl,(H3.1.keep jr (λk hk=>by simp at hk;omega)).mono (show w.heap.size<=W0 by omega),H3.2.t (jr.below (λk hk=>by simp at hk;omega) H3.2.size)⟩
theorem KM(w:World)(pD:eU w):Calls Tryz.prog 29 #[.string ⟨#[91,97,45,98,93,123,50,125]⟩] w (RdP w):=by
 have qD:=Y pD;clear pD
 go_enter Tryz.func29,Tryz.ntmps29
 go_wp2_with fail;refine aJ λW0 cG=>?_;have hb0:Below w w W0:=by rw[cG];exact D.alloc V _
 have hY:W0.heap[w.heap.size]?=some (.cells #[(0:Int),(),(),(0:Int),(0:Int)] 26):=by rw[cG];exact heap_alloc_new w _
 have dY:W0.heap.size=w+1:=by rw[cG];simp
 have H1:=Y (Rx W0 (qD.later hb0));have H0:=Y (I hb0 hY);clear cG hb0 hY;refine H1.mono ?_;rintro e w2 ⟨x,rfl,hit,aS⟩;obtain ⟨g1,v1,rfl,bg,dZ,iF⟩:=id hit;have cT:=aS.size;have WQ:=(aS.block w U).t H0.2;have yV:=H0.1.t (aS.mono U);obtain ⟨y0,y1,y2,y3,y4⟩:=aD WQ;have fy:∀j,j<5->w2.frozen? (Z w j)=false:=λj _=>by simp[World.frozen?,WQ]
 have vl:=fy 0 O;have ug:=fy 1 O;have xp:=fy 2 O;have Kr:=fy 3 O;have Ks:=fy 4 O;have m3:w.heap.size<w2:=U;have H3:=Y (I hit yV);clear WQ hit yV aS fy bg dZ iF;go_wp2_with fail;refine au λWf bG=>?_;obtain ⟨u1,u2,u3,-⟩:=zT bG;refine bodyPost_ret (v:=.tuple #[.agg #[(4:Int),(),.slice (Z g1 0) 1 1,(2:Int),(2:Int)],(0:Int)]) (by rw[bG];simp[results,Tryz.results29,go_sem,y0,y1,y2,y3,y4,m3];try rfl) rfl ?_
 have jr:ab [w.heap.size] [] w2 Wf:=⟨u3.1,u3.2.1,u3.2.2,U,λk _ hn=>u1 k (λe=>hn (by simp[e])),λk hk=>by cases hk⟩
 exact ⟨_,rfl,(H3.1.keep jr (λk hk=>by simp at hk;omega)).mono (show w.heap.size<=W0 by omega),H3.2.t (jr.below (λk hk=>by simp at hk;omega) H3.2.size)⟩
end Go.Proofs.YthamegenljmgmaaGreatDoor
