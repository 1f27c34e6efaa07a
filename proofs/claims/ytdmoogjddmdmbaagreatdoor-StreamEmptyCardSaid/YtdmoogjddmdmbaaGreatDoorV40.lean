/- Walks. -/
import Derived.Test.YtdmoogjddmdmbaaGreatDoorV25
import Derived.Test.YtdmoogjddmdmbaaGreatDoorV26
import Derived.Test.YtdmoogjddmdmbaaGreatDoorV02
import Derived.Deep.RegionHeld3
import Derived.Test.YtdmoogjddmdmbaaGreatDoorV27
import Derived.BigRegion
import Derived.Test.YtdmoogjddmdmbaaGreatDoorV18
import Derived.Test.YtdmoogjddmdmbaaGreatDoorV09
import Derived.Test.YtdmoogjddmdmbaaGreatDoorV17
set_option maxRecDepth 100000
set_option maxHeartbeats 16000000
set_option linter.unusedVariables false
set_option linter.unusedSimpArgs false
namespace Go.Proofs.YtdmoogjddmdmbaaGreatDoor
open Go.RowKit
section
set_option linter.unusedVariables false
set_option linter.unusedSimpArgs false
open Go.RowKit
def xe (l:List Nat) (s:ByteArray):Bool:=Lib.contains (l.map UInt8.ofNat) s.data.toList
def Uf (w:World) (A:Option Addr) (l:List Nat):Prop:=l=[]\/∃g f,A=some ⟨g,f,none⟩/\g<w.heap.size/\∀i (h:i<l.length),w.cell? ⟨g,f+i,none⟩=some (.int .u8 (l[i]:Int))
theorem Uf.later {w w':World} {A:Option Addr} {l:List Nat} (h:Uf w A l) (hb:Below w.heap.size w w'):Uf w' A l:=by
 rcases h with h | ⟨g,f,h1,h2,h3⟩
 .exact .inl h
 .exact .inr ⟨g,f,h1,Nat.lt_of_lt_of_le h2 hb.size,λi hi=>(hb.cell (p:=⟨g,f+i,none⟩) h2).trans (h3 i hi)⟩
theorem Oi (s:ByteArray):xe [] s=decide (s.size=0):=by
 have hsz:s.data.toList.length=s.size:=by simp
 unfold xe Lib.contains;rw[<-hsz]
 cases s.data.toList with
 | nil=>rfl
 | cons c t=>rfl
theorem qA (A:Option Addr) (n c1 g c2:Nat) (l:List Nat) (s:ByteArray) (w:World) (hl:l.length=n) (qe:∀b∈l,b<256) (h1:Uf w A l) (h0:A=none->c1=0) (hn:n<=c1) (hs:n<=900000) (hk:s.size<=1000000000000) (h2:∀j (h:j<s.size),w.cell? ⟨g,j,none⟩=some (.int .u8 s[j].toNat)) (hv:cd w) :
  Calls Tryz.prog 128 #[.slice A n c1, .slice (some ⟨g,0,none⟩) s.size c2] w λe w'=>e = .returned (.bool (xe l s))/\Below w.heap.size w w':=by
 cases A with
 | none=>
  have hc:=h0 rfl;subst hc;have XF:n=0:=by omega
  subst XF;have hl0:l=[]:=List.length_eq_zero_iff.1 hl;subst hl0;rw[Oi];refine (Tryz.bytes_Contains_nil (some ⟨g,0,none⟩) s.size c2 w (by omega) λh=>⟨g,0,_,rfl,h2 0 (by omega)⟩).mono ?_
  rintro e w' ⟨rfl,rfl⟩;exact ⟨rfl,Below.refl _ _⟩
 | some ad=>
 obtain ⟨m,hm⟩:=hv.Sh;have hsz:s.data.toList.length=s.size:=by simp
 have h:=Tryz.bytes_Contains_at ad ⟨g,0,none⟩ n c1 s.size c2 (l.map λx:Nat=>(x:Int)) (s.data.toList.map λc:UInt8=>(c.toNat:Int)) m w (by rw[List.length_map,hl]) (by rw[List.length_map,hsz])
  (λx hx=>by obtain ⟨y,hy,rfl⟩:=List.mem_map.1 hx;have:=qe y hy;omega)
  (λx hx=>by obtain ⟨y,hy,rfl⟩:=List.mem_map.1 hx;have:=y.toNat_lt;omega)
  (λi hi=>by
   rcases h1 with rfl | ⟨g1,f1,h3,-,h1⟩
   .simp at hl;omega
   injection h3 with h3;subst h3;rw[Addr.add_lit,h1 i (by omega)]
   simp only[List.getD_eq_getElem?_getD,List.getElem?_map,List.getElem?_eq_getElem (show i<l.length by omega),Option.map_some,Option.getD_some])
  (λi hi=>by
   rw[Addr.add_lit,Nat.zero_add,h2 i hi];have ez:i<s.data.toList.length:=by omega
   simp only[List.getD_eq_getElem?_getD,List.getElem?_map,List.getElem?_eq_getElem ez,Option.map_some,Option.getD_some]
   rfl)
  hn (by omega) (by omega) hm
 refine h.mono ?_;rintro e w' ⟨rfl,q,rfl⟩;refine ⟨aj ?_,⟨rfl,rfl,rfl,Nat.le_refl _,λ_ _=>rfl⟩⟩;unfold xe Lib.bytesOf;rw[List.map_map,List.map_map];have e1:(l.map ((λn:Int=>UInt8.ofNat n.toNat) ∘ λx:Nat=>(x:Int)))=l.map UInt8.ofNat:=List.map_congr_left λx _=>by simp
 have e2:(s.data.toList.map ((λn:Int=>UInt8.ofNat n.toNat) ∘ λc:UInt8=>(c.toNat:Int)))=s.data.toList:=by
  conv=>rhs;rw[<-List.map_id s.data.toList]
  exact List.map_congr_left λx _=>by simp
 rw[e1,e2]
def PwB (w:World) (b b':Nat) (A1 A2:Option Addr) (n1 c1 n2 c2:Nat):Prop:=w.heap[b]?=some (.cells #[.slice A1 n1 c1] 28 (0,0))/\w.heap[b']?=some (.cells #[.slice A2 n2 c2] 28 (0,0))
theorem PwB.later {w w':World} {b b':Nat} {A1 A2:Option Addr} {n1 c1 n2 c2:Nat} (h:PwB w b b' A1 A2 n1 c1 n2 c2) (hb:Below w.heap.size w w'):PwB w' b b' A1 A2 n1 c1 n2 c2:=⟨(hb.block _ (Array.getElem?_eq_some_iff.1 h.1).1).trans h.1,(hb.block _ (Array.getElem?_eq_some_iff.1 h.2).1).trans h.2⟩
set_option maxHeartbeats 4000000 in
theorem Kb (b b':Nat) (A1 A2:Option Addr) (n1 c1 n2 c2:Nat) (l1 l2:List Nat) (s:ByteArray) (w:World) (hb:PwB w b b' A1 A2 n1 c1 n2 c2) (D6:l1.length=n1) (kA:l2.length=n2) (h1:∀x∈l1,x<256) (h2:∀x∈l2,x<256) (UX:Uf w A1 l1) (UY:Uf w A2 l2) (hg:(A1=none->c1=0)/\(A2=none->c2=0)) (hc:n1<=c1/\n2<=c2) (hn:n1<=900000/\n2<=900000) (hs:s.size<=1000000) (hv:cd w) :
  Calls Tryz.prog 127 #[.string s, .pointer (some ⟨b,0,none⟩), .pointer (some ⟨b',0,none⟩)] w λe w'=>e = .returned (.bool (xe l1 s || xe l2 s))/\Below w.heap.size w w':=by
 have hcv:=λw=>Lib.run_convert_string_bytes (P:=Tryz.prog) w 9 28 5 s Tryz.underlying9 Tryz.underlying28 Tryz.underlying5;obtain ⟨W,C,B,hW,hC,hB,hcell,aI,ako⟩:=dM w 5 s;have yy:Below w.heap.size w W:=hB▸aI;have L7:=Lib.hid (qA A1 n1 c1 B C l1 s W D6 h1 (UX.later yy) hg.1 hc.1 hn.1 (by omega) (λj hj=>hcell j hj) (hv.later yy))
 obtain ⟨z1,hz1⟩:∃z,xe l1 s=z:=⟨_,rfl⟩;rw[hz1]at L7;obtain ⟨z2,hz2⟩:∃z,xe l2 s=z:=⟨_,rfl⟩;rw[hz1,hz2];have HZ2:=Lib.hid hz2;have b0:w.cell? ⟨b,0,none⟩=some (.slice A1 n1 c1):=by rw[cell_of_row _ _ _ _ _ _ hb.1];rfl
 have lb:b<w.heap.size:=(Array.getElem?_eq_some_iff.1 hb.1).1;have HB:=Lib.hid hb;have HH:=Lib.hid (And.intro kA (And.intro h2 (And.intro (UY.later yy) (And.intro hg.2 (And.intro hc.2 (And.intro hn.2 (And.intro hs (hv.later yy))))))));have bI:=Lib.hid yy;clear D6 kA h1 h2 UX UY hg hc hn hs hv hcell aI ako hz1 hz2 hb yy
 go_enter Tryz.func127,Tryz.ntmps127
 go_wp2_with fail;rw[<-hW,<-hC,<-hB];clear hW hC;refine L7.out.mono ?_;rintro e w1 ⟨rfl,hb1⟩;have bH:=Lib.hid (bI.out.trans (hb1.mono bI.out.size));have adP:=Lib.hid hb1;clear hb1 b0 lb hB
 cases z1 with
 | true=>
  go_wp2_with fail;go_ret;exact ⟨rfl,bH.out⟩
 | false=>
  obtain ⟨W2,C2,B2,iU,Tx,ZN,lX,Ug,adQ⟩:=dM w1 5 s;have zV:Below w1.heap.size w1 W2:=ZN▸Ug;have hv1:cd w1:=HH.out.2.2.2.2.2.2.2.later adP.out;have Ex:=Lib.hid (qA A2 n2 c2 B2 C2 l2 s W2 HH.out.1 HH.out.2.1 ((HH.out.2.2.1.later adP.out).later zV) HH.out.2.2.2.1 HH.out.2.2.2.2.1 HH.out.2.2.2.2.2.1 (by have:=HH.out.2.2.2.2.2.2.1;omega) (λj hj=>lX j hj) (hv1.later zV))
  rw[HZ2.out]at Ex;have aL:=(bH.out.block _ (Array.getElem?_eq_some_iff.1 HB.out.2).1).trans HB.out.2;have b1:w1.cell? ⟨b',0,none⟩=some (.slice A2 n2 c2):=by rw[cell_of_row _ _ _ _ _ _ aL];rfl
  have lb1:b'<w1.heap.size:=(Array.getElem?_eq_some_iff.1 aL).1;have adR:=Lib.hid zV;clear lX Ug adQ zV hv1 aL;go_wp2_with fail;rw[<-iU,<-Tx,<-ZN];clear iU Tx;refine Ex.out.mono ?_;rintro e w3 ⟨rfl,dc⟩;have y7:=Lib.hid (bH.out.trans ((adR.out.trans (dc.mono adR.out.size)).mono bH.out.size));clear dc b1 lb1 ZN;go_wp2_with fail;go_ret;exact ⟨rfl,y7.out⟩
theorem tv (w:World) (o1 o2:Obj):((w.alloc o1).alloc o2).drew.heap[w.heap.size]?=some o1/\((w.alloc o1).alloc o2).drew.heap[w.heap.size+1]?=some o2:=by
 have h:=heap_alloc_new (w.alloc o1) o2;have e:(w.alloc o1).heap.size=w.heap.size+1:=by simp
 rw[e]at h;exact ⟨(au (w.alloc o1) o2 w.heap.size (by simp)).trans (heap_alloc_new w o1),h⟩
def XN (bs:List Nat) (a z nr:Nat) (s:ByteArray):Bool:=xe ((bs.drop (a-min nr bs.length)).take (min a (min nr bs.length))) s || xe ((bs.drop z).take (min (bs.length-z) (min nr bs.length))) s
def Lz (bs:List Nat) (a z:Nat) (hb:Bool) (en:Int) (ws:List ByteArray) (nr:Nat):Bool:=hb && (decide (en<=((Rf ((bs.drop a).take (z-a)):Nat):Int)) && (ws.isEmpty || ws.any (XN bs a z nr)))
def Ef:Option Addr->Nat->Nat->Option Addr
 | some ⟨g,f,none⟩,c,k=>some ⟨g,if c-k=0 then f else f+k,none⟩
 | x,_,_=>x
theorem zW {A:Option Addr} {n c k z:Nat} {l:List Nat} {w:World} (h:lU w (.slice A n c) l) (hn:l.length=n) (hz:z<=n):Uf w (Ef A c k) ((l.drop k).take (z-k)):=by
 by_cases hk:k<z
 .obtain ⟨A',c',e0,hc,eA⟩:=h;injection e0 with e1 _ e3;subst e1 e3;obtain ⟨g,f,rfl,hg,bD⟩:=eA.resolve_left (by rintro rfl;simp at hn;omega)
  refine .inr ⟨g,f+k,by unfold Ef;simp only;rw[if_neg (by omega)],hg,λi hi=>?_⟩
  rw[List.length_take,List.length_drop]at hi;rw[Nat.add_assoc,bD (k+i) (by omega)]
  simp
 .rw[show z-k=0 by omega,List.take_zero]
  exact .inl rfl
theorem Si {A:Option Addr} {n c:Nat} {l:List Nat} {w:World} (h:Uf w A l) (hn:l.length=n) (qe:∀b∈l,b<256) :
  (convert 28 9 (.slice A n c)).run Tryz.prog w = .ok (.string (bs (l.map UInt8.ofNat))) w:=by
 subst hn;rcases h with rfl | ⟨g,f,rfl,-,hc⟩
 .cases A with
  | none=>exact run_convert_bytes_nil w 28 5 Tryz.underlying28 Tryz.underlying5 _ _ 9 Tryz.underlying9
  | some ad=>exact run_convert_bytes_back w 28 9 5 ad c [] Tryz.underlying28 Tryz.underlying5 Tryz.underlying9 λj hj=>absurd hj (Nat.not_lt_zero j)
 .have h:=run_convert_bytes_back (P:=Tryz.prog) w 28 9 5 ⟨g,f,none⟩ c (l.map UInt8.ofNat) Tryz.underlying28 Tryz.underlying5 Tryz.underlying9 (λj hj=>by
   have pS:j<l.length:=by simpa using hj
   rw[Addr.add_lit,hc j pS];simp only[List.getElem_map];have:=qe _ (List.getElem_mem pS)
   congr 2
   rw[UInt8.toNat_ofNat'];omega)
  rwa [List.length_map]at h
theorem XO (args:Array Value) (w:World):(callFunc 127 args).run Tryz.prog w = .ok (.enter 127 args) w:=by rfl
set_option maxHeartbeats 8000000 in
theorem Ej (u:KC) (ws:List ByteArray) (nr:Nat) (A:Option Addr) (n c a z:Nat) (l:List Nat) (hb:Bool) (w:World) (fO:lU w (.slice A n c) l) (hA:(A=none/\c=0)\/∃g f,A=some ⟨g,f,none⟩) (hn:l.length=n) (lZ:n<=900000) (qe:∀b∈l,b<256) (h1:a<=z) (h2:z<=n) (hw:pK w (.slice u.a3 u.n3 u.c3) ws) (nZ:u.nr=(nr:Int)) (akp:nr<=64) (hws:∀s∈ws,s.size<=1000000) (hv:cd w)
  (HH:∀W,Below w.heap.size w W->Calls Tryz.prog 125 #[.int .i64 u.ck, .string (tE l a z)] W λe w'=>e = .returned (.bool hb)/\Below W.heap.size W w') :
  Calls Tryz.prog 96 #[.agg #[.string u.nm, .int .i64 u.op, .slice u.a1 u.n1 u.c1, .slice u.a2 u.n2 u.c2, .int .i64 u.mn, .int .i64 u.mx, .bool u.wh, .int .i64 u.ck, .int .i64 u.en, .slice u.a3 u.n3 u.c3, .int .i64 u.nr], .slice A n c, .int .i64 (a:Int), .int .i64 (z:Int)] w λe w'=>e = .returned (.bool (Lz l a z hb u.en ws nr))/\Below w.heap.size w w':=by
 have Uh:u.n3=ws.length:=by obtain ⟨A3,c3,e,-⟩:=hw;injection e
 obtain ⟨em,KQ⟩:∃b,ws.isEmpty=b:=⟨_,rfl⟩;obtain ⟨an,han⟩:∃b,ws.any (XN l a z nr)=b:=⟨_,rfl⟩;unfold Lz;rw[KQ,han];have PY:=Lib.hid (And.intro Uh (And.intro KQ (And.intro han (And.intro hw (And.intro nZ (And.intro hws (And.intro hv (And.intro fO (And.intro hn qe)))))))));obtain ⟨A',c',e0,hc,-⟩:=id fO;injection e0 with e1 e2 e3;subst e1 e3;obtain ⟨p,hp,Hq⟩:∃p,(l.drop a).take (z-a)=p/\p.length=z-a:=⟨_,rfl,by rw[List.length_take,List.length_drop];omega⟩
 have sF:tE l a z=bs (p.map UInt8.ofNat):=by unfold tE;rw[hp]
 obtain ⟨AP,hAP⟩:∃AP,Ef A c a=AP:=⟨_,rfl⟩;have PZ:=zW (k:=a) fO hn h2;rw[hp,hAP]at PZ;rw[hp];have Oj:∀b∈p,b<256:=λb hb=>qe b (by rw[<-hp]at hb;exact List.mem_of_mem_drop (List.mem_of_mem_take hb))
 obtain ⟨CP,hCP⟩:∃CP,c-a=CP:=⟨_,rfl⟩;have HM:=Lib.hid λW (hW:Below w.heap.size w W)=>Cx AP (z-a) CP p W ⟨_,_,by rw[Hq],by omega,PZ.later hW⟩ Hq Oj (by omega)
 rw[sF]at HH;obtain ⟨S,hS⟩:∃S,bs (p.map UInt8.ofNat)=S:=⟨_,rfl⟩;have hcv:∀W,Below w.heap.size w W->(convert 28 9 (.slice AP (z-a) CP)).run Tryz.prog W = .ok (.string S) W:=λW hW=>hS▸Si (PZ.later hW) Hq Oj;obtain ⟨M,hMe⟩:∃M,Rf p=M:=⟨_,rfl⟩;rw[hS]at HH;rw[hMe]at HM;rw[hMe];have HHH:=Lib.hid HH;have HCV:=Lib.hid hcv;have HWI:=Lib.hid λW=>Ce A n c a z W;have d1:decide (a<=z)=true:=decide_eq_true h1;have d2:decide (z<=n)=true:=decide_eq_true h2;rw[d1,d2]at HWI;have vX:(a:Int)<=(z:Int):=by omega
 have hzc:(z:Int)<=(c:Int):=by omega
 have Y3:c<=9223372036854775807:=hc.2;have XP:a<=z:=h1;have XQ:z<=n:=h2;have bD:l.length<=c:=hc.1;obtain ⟨x,hx⟩:∃x,decide ((M:Int)<u.en)=x:=⟨_,rfl⟩;have Z3:decide (u.en<=(M:Int))=!x:=by rw[<-hx,Bool.eq_iff_iff];simp
 rw[Z3];have hA3:(A=none/\c-a=0/\AP=none/\CP=0/\c=0)\/(∃g f,A=some ⟨g,f,none⟩/\c-a=0/\AP=some ⟨g,f,none⟩/\CP=0)\/∃g f,A=some ⟨g,f,none⟩/\¬c-a=0/\AP=some ⟨g,f+a,none⟩/\CP=c-a:=by
  rcases hA with ⟨rfl,h0⟩ | ⟨g,f,rfl⟩
  .exact .inl ⟨rfl,by omega,hAP.symm,by omega,h0⟩
  .by_cases h:c-a=0
   .exact .inr (.inl ⟨g,f,rfl,h,by rw[<-hAP];simp only[Ef,h,if_true],by omega⟩)
   .exact .inr (.inr ⟨g,f,rfl,h,by rw[<-hAP];simp only[Ef,h,if_false],hCP.symm⟩)
 clear HH hcv fO PZ hp Oj Hq sF hS hMe d1 d2 Z3 qe hc e2 h1 h2 hAP hA hCP;have HAZ:=Lib.hid (And.intro XP (And.intro XQ (And.intro bD hn)));have HA3:=Lib.hid hA3;obtain ⟨SU,hSU⟩:∃SU:Nat->Option Addr,(λk=>Ef A c k)=SU:=⟨_,rfl⟩;have G8:∀k,SU k=none->c-k=0:=λk hk=>by
  rw[<-hSU]at hk;rcases hA3 with ⟨-,-,-,-,h0⟩ | ⟨g,f,h,-⟩ | ⟨g,f,h,-⟩
  .omega
  .rw[h]at hk;cases hk
  .rw[h]at hk;cases hk
 have HSU:=Lib.hid (And.intro hSU G8);clear hSU G8;clear hw Uh KQ han nZ hws hv XP XQ bD hn;rcases hA3 with ⟨rfl,lK,rfl,rfl,-⟩ | ⟨g,f,rfl,lK,rfl,rfl⟩ | ⟨g,f,rfl,lK,rfl,rfl⟩
 all_goals
  go_enter Tryz.func96,Tryz.ntmps96
  go_wp2_with fail;refine dx λW0 ik=>?_;have hb0:Below w.heap.size w W0:=by rw[ik];exact (Below.refl _ _).alloc (Nat.le_refl _) _
  have tl:RI u w.heap.size W0:=by rw[ik];exact heap_alloc_new w _
  have H0:=Lib.hid (And.intro hb0 tl);clear ik hb0 tl;refine (HWI.out W0).mono ?_;rintro e w1 ⟨rfl,rfl⟩
  go_upto_region 4 with fail
  have ui:=λd:aM w1.heap.size w1=>(H0.out.2.later d.ay).cells;have hd0:∀d:aM w1.heap.size w1,d.val.cell? ⟨w.heap.size,7,none⟩=some (.int .i64 u.ck):=λd=>(ui d).2.1.2.1;have hd1:∀d:aM w1.heap.size w1,d.val.cell? ⟨w.heap.size,8,none⟩=some (.int .i64 u.en):=λd=>(ui d).2.1.2.2.1;have jO:∀d:aM w1.heap.size w1,w.heap.size<d.val.heap.size:=λd=>(ui d).2.2;have Ju:=λd:aM w1.heap.size w1=>HCV.out d.val (H0.out.1.trans (d.ay.mono H0.out.1.size));have YY:=Lib.hid λd:aM w1.heap.size w1=>HHH.out d.val (H0.out.1.trans (d.ay.mono H0.out.1.size));have HA2:=Lib.hid λd:aM w1.heap.size w1=>HM.out d.val (H0.out.1.trans (d.ay.mono H0.out.1.size));clear ui
  cases hb with
  | false=>
   refine aO (Below.refl w1.heap.size w1) (by kernel_rfl) (by kernel_rfl) ?_
   repeat (go_big_quiet_step (fail))
   go_big_quiet_step ((go_at_call 125;exact Calls.cM (Nat.le_refl _) (YY.out _)))
   repeat (go_big_quiet_step (fail))
   refine wpQuiet_nil ?_;intro w9 hw';have FM:Below w1.heap.size w1 w9:=by obtain ⟨d9,rfl⟩:=hw';exact d9.ay
   have zy:=Lib.hid (H0.out.1.trans (FM.mono H0.out.1.size));clear hw' hd0 hd1 jO Ju FM;go_wp2_with fail;go_ret;exact ⟨rfl,zy.out⟩
  | true=>
   refine aO (Below.refl w1.heap.size w1) (by kernel_rfl) (by kernel_rfl) ?_
   repeat (go_big_quiet_step (fail))
   go_big_quiet_step ((go_at_call 125;exact Calls.cM (Nat.le_refl _) (YY.out _)))
   repeat (go_big_quiet_step (fail))
   go_big_quiet_step ((go_at_call 126;exact Calls.cM (Nat.le_refl _) (HA2.out _)))
   repeat (go_big_quiet_step (fail))
   refine wpQuiet_nil ?_;intro w9 hw';have FM:Below w1.heap.size w1 w9:=by obtain ⟨d9,rfl⟩:=hw';exact d9.ay
   have zy:=Lib.hid (And.intro (H0.out.1.trans (FM.mono H0.out.1.size)) (H0.out.2.later FM));clear hw' hd0 hd1 jO Ju FM;obtain ⟨⟨c0,c1,c2,c3,c4,c5⟩,⟨c6,c7,c8,c9,tX⟩,lb⟩:=zy.out.2.cells
   cases x with
   | true=>
    go_wp2_with fail;go_ret;exact ⟨rfl,zy.out.1⟩
   | false=>
   cases em with
   | true=>
    have K8:u.n3=0:=by rw[PY.out.1,List.isEmpty_iff.1 PY.out.2.1];rfl
    have ht:((u.n3:Int) == 0)=true:=by rw[K8];rfl
    have HN3:=Lib.hid K8;clear K8;go_wp2_with fail;go_ret;exact ⟨rfl,zy.out.1⟩
   | false=>
    have ht:((u.n3:Int) == 0)=false:=by
     rw[PY.out.1];have hne:ws≠[]:=by intro e;have:=PY.out.2.1;rw[e]at this;cases this
     have:=List.length_pos_iff.2 hne;simp;omega
    rw[PY.out.2.2.2.2.1]at tX;obtain ⟨XP,XQ,NL,rk⟩:=HAZ.out;obtain ⟨N,hN⟩:∃N,min nr n=N:=⟨_,rfl⟩;have hNb:N<=64/\N<=n:=by omega
    have hmn:min (nr:Int) (n:Int)=(N:Int):=by omega
    have HN:=Lib.hid hN;clear hN
    go_upto_region 9 with fail
    obtain ⟨F0,hF0⟩:∃F0,a-N=F0:=⟨_,rfl⟩;obtain ⟨Z2,hZ2⟩:∃Z2,min (z+N) n=Z2:=⟨_,rfl⟩;have hmx:max ((a:Int) - (N:Int)) 0=(F0:Int):=by omega
    have PD:min ((z:Int)+(N:Int)) (n:Int)=(Z2:Int):=by omega
    have vS:(F0:Int)<=(a:Int):=by omega
    have xu:(a:Int)<=(c:Int):=by omega
    have hs3:(z:Int)<=(Z2:Int):=by omega
    have hs4:(Z2:Int)<=(c:Int):=by omega
    have HFZ:=Lib.hid (And.intro hF0 hZ2);obtain ⟨AF,Z4⟩:∃AF,SU F0=AF:=⟨_,rfl⟩;obtain ⟨AZ,Z5⟩:∃AZ,SU z=AZ:=⟨_,rfl⟩;have G8:(AF=none->c-F0=0)/\(AZ=none->c-z=0):=⟨λh=>HSU.out.2 F0 (Z4.trans h),λh=>HSU.out.2 z (Z5.trans h)⟩;rw[<-HSU.out.1]at Z4 Z5
    dsimp only at Z4 Z5
    have hFa:=Z4▸zW (k:=F0) (z:=a) PY.out.2.2.2.2.2.2.2.1 PY.out.2.2.2.2.2.2.2.2.1 (by omega)
    have hZa:=Z5▸zW (k:=z) (z:=Z2) PY.out.2.2.2.2.2.2.2.1 PY.out.2.2.2.2.2.2.2.2.1 (by omega)
    have Tk:=Lib.hid (show ∀(W:World) (x y:Nat),Below w9.heap.size w9 W->PwB W x y AF AZ (a-F0) (c-F0) (Z2-z) (c-z)->Calls Tryz.prog 113 #[.slice u.a3 u.n3 u.c3, .func (.func 127) #[] #[.pointer (some ⟨x,0,none⟩), .pointer (some ⟨y,0,none⟩)]] W λe w'=>e = .returned (.bool an)/\Below W.heap.size W w' from λW x y hW hp=>by
     obtain ⟨-,-,han,bT,-,hsz,hvv,-,rk,qe⟩:=PY.out;have aP:=zy.out.1.trans (hW.mono zy.out.1.size);rw[<-han];refine containsS 127 _ ws (XN l a z nr) _ W (bT.later aP) ⟨XO,λs hs W2 iU=>?_⟩;unfold XN;have oG:=aP.trans (iU.mono aP.size);have hNe:min nr l.length=N:=by rw[rk];exact HN.out
     rw[hNe];have e1:(l.drop (a-N)).take (min a N)=(l.drop F0).take (a-F0):=by rw[hF0,show min a N=a-F0 by omega]
     have e2:(l.drop z).take (min (l.length-z) N)=(l.drop z).take (Z2-z):=by rw[show min (l.length-z) N=Z2-z by omega]
     rw[e1,e2];exact Kb x y AF AZ (a-F0) (c-F0) (Z2-z) (c-z) _ _ s W2 (hp.later iU) (by rw[List.length_take,List.length_drop];omega) (by rw[List.length_take,List.length_drop];omega) (λb hb=>qe b (List.mem_of_mem_drop (List.mem_of_mem_take hb))) (λb hb=>qe b (List.mem_of_mem_drop (List.mem_of_mem_take hb))) (hFa.later oG) (hZa.later oG) G8 ⟨by omega,by omega⟩ ⟨by omega,by omega⟩ (hsz s hs) (hvv.later oG))
    clear hF0 hZ2 hFa hZa G8 NL rk;by_cases MF:c-F0=0
    all_goals
     by_cases hcz:c-z=0
     all_goals try (exfalso;omega)
     all_goals
      simp only[Ef,MF,hcz,if_true,if_false]at Z4 Z5
      try simp only[MF]at Tk
      try simp only[hcz]at Tk
      subst Z4 Z5
      go_region
      all_goals
       go_wp2_with fail;refine dx λW3 Bi=>?_;have dc:Below w9.heap.size w9 W3:=by rw[Bi];exact (((Below.refl _ _).alloc (Nat.le_refl _) _).alloc (by simp) _).drew
       have y7:=Lib.hid (zy.out.1.trans (dc.mono zy.out.1.size));refine (Tk.out W3 _ _ dc ⟨?h1,?h2⟩).mono ?_
       case h1=>rw[Bi];first | exact (tv w9 _ _).1 | exact (tv w9 _ _).2
       case h2=>rw[Bi];first | exact (tv w9 _ _).1 | exact (tv w9 _ _).2
       rintro e w5 ⟨rfl,gH⟩;have Vy:=Lib.hid (y7.out.trans (gH.mono y7.out.size));clear dc gH Bi;go_wp2_with fail;go_ret;exact ⟨rfl,Vy.out⟩
end
section
set_option linter.unusedVariables false
set_option linter.unusedSimpArgs false
open Go.RowKit
structure Ask where
 ck:Int
 en:Int
 ws:List ByteArray
 nr:Nat
def Bt (l:List Nat) (k:Ask) (a z:Nat):Bool:=Lz l a z (Qd k.ck (bl (tE l a z))) k.en k.ws k.nr
def amK (k k':Ask):Prop:=(k'.ck=0\/k'.ck=k.ck)/\(k'.en<=k.en\/k'.en<=0)/\(k'.ws=[]\/(k'.nr=k.nr/\k.ws≠[]/\∃t,k'.ws=k.ws++t))
structure PsK (w:World) (u:KC) (k:Ask):Prop where
 ck:u.ck=k.ck
 en:u.en=k.en
 ws:pK w (.slice u.a3 u.n3 u.c3) k.ws
 nr:u.nr=(k.nr:Int)
 Qe:k.nr<=64
 wl:∀s∈k.ws,s.size<=1000000
structure Th (w:World) (A:Option Addr) (n c:Nat) (l:List Nat):Prop where
 ku:lU w (.slice A n c) l
 ad:(A=none/\c=0)\/∃g f,A=some ⟨g,f,none⟩
 len:l.length=n
 small:n<=900000
 bt:∀b∈l,b<256
theorem Th.later {w w':World} {A:Option Addr} {n c:Nat} {l:List Nat} (h:Th w A n c l) (hb:Below w.heap.size w w'):Th w' A n c l:=⟨h.ku.later hb,h.ad,h.len,h.small,h.bt⟩
theorem Gd (u:KC) (k:Ask) (A:Option Addr) (n c a z:Nat) (l:List Nat) (w:World) (ht:Th w A n c l) (h1:a<=z) (h2:z<=n) (hk:PsK w u k) (hv:cd w) :
  Calls Tryz.prog 96 #[.agg #[.string u.nm, .int .i64 u.op, .slice u.a1 u.n1 u.c1, .slice u.a2 u.n2 u.c2, .int .i64 u.mn, .int .i64 u.mx, .bool u.wh, .int .i64 u.ck, .int .i64 u.en, .slice u.a3 u.n3 u.c3, .int .i64 u.nr], .slice A n c, .int .i64 (a:Int), .int .i64 (z:Int)] w λe w'=>e = .returned (.bool (Bt l k a z))/\Below w.heap.size w w':=by
 unfold Bt;rw[<-hk.ck,<-hk.en];refine Ej u k.ws k.nr A n c a z l _ w ht.ku ht.ad ht.len ht.small ht.bt h1 h2 hk.ws hk.nr hk.Qe hk.wl hv λW _=>?_;refine Ip u.ck (tE l a z) W ?_;unfold tE;rw[dj,List.length_map,List.length_take,List.length_drop];have:=ht.small;have:=ht.len;omega
end
end Go.Proofs.YtdmoogjddmdmbaaGreatDoor
