/- library.Passes of any kind, with the words it asks for. · library.Passes with its check sum; plain: a kind that asks for less passes wherever one that asks for more does. -/
import Derived.Test.YtdmoogjddmdmbaaGreatDoorY25
import Derived.Test.YtdmoogjddmdmbaaGreatDoorY26
import Derived.Test.YtdmoogjddmdmbaaGreatDoorY02
import Derived.Deep.RegionHeld3
import Derived.Test.YtdmoogjddmdmbaaGreatDoorY27
import Derived.BigRegion
import Derived.Test.YtdmoogjddmdmbaaGreatDoorY18
import Derived.Test.YtdmoogjddmdmbaaGreatDoorY09
import Derived.Test.YtdmoogjddmdmbaaGreatDoorY17
namespace Go.Proofs.YtdmoogjddmdmbaaGreatDoor
set_option linter.unusedVariables false
set_option linter.unusedSimpArgs false
set_option maxRecDepth 100000
open Go.RowKit
def conF (l:List Nat) (s:ByteArray):Bool:=Lib.contains (l.map UInt8.ofNat) s.data.toList
def ByA (w:World) (A:Option Addr) (l:List Nat):Prop:=l=[]\/∃g f,A=some ⟨g,f,none⟩/\g<w.heap.size/\∀i (h:i<l.length),w.cell? ⟨g,f+i,none⟩=some (.int .u8 (l[i]:Int))
theorem ByA.later {w w':World} {A:Option Addr} {l:List Nat} (h:ByA w A l) (hb:Below w.heap.size w w'):ByA w' A l:=by
 rcases h with h | ⟨g,f,h1,h2,h3⟩
 .exact .inl h
 .exact .inr ⟨g,f,h1,Nat.lt_of_lt_of_le h2 hb.size,λi hi=>(hb.cell (p:=⟨g,f+i,none⟩) h2).trans (h3 i hi)⟩
theorem conF_nil (s:ByteArray):conF [] s=decide (s.size=0):=by
 have hsz:s.data.toList.length=s.size:=by simp
 unfold conF Lib.contains;rw[<-hsz]
 cases s.data.toList with
 | nil=>rfl
 | cons c t=>rfl
theorem contains_any (A:Option Addr) (n c1 g c2:Nat) (l:List Nat) (s:ByteArray) (w:World) (hl:l.length=n) (h256:∀b∈l,b<256) (h1:ByA w A l) (h0:A=none->c1=0) (hn:n<=c1) (hs:n<=900000) (hk:s.size<=1000000000000) (h2:∀j (h:j<s.size),w.cell? ⟨g,j,none⟩=some (.int .u8 s[j].toNat)) (hv:VrOK w) :
  Calls Tryz.prog 128 #[.slice A n c1, .slice (some ⟨g,0,none⟩) s.size c2] w λe w'=>e = .returned (.bool (conF l s))/\Below w.heap.size w w':=by
 cases A with
 | none=>
  have hc:=h0 rfl;subst hc;have hn0:n=0:=by omega
  subst hn0;have hl0:l=[]:=List.length_eq_zero_iff.1 hl;subst hl0;rw[conF_nil];refine (Tryz.bytes_Contains_nil (some ⟨g,0,none⟩) s.size c2 w (by omega) λh=>⟨g,0,_,rfl,h2 0 (by omega)⟩).mono ?_
  rintro e w' ⟨rfl,rfl⟩;exact ⟨rfl,Below.refl _ _⟩
 | some ad=>
 obtain ⟨m,hm⟩:=hv.mlen;have hsz:s.data.toList.length=s.size:=by simp
 have h:=Tryz.bytes_Contains_at ad ⟨g,0,none⟩ n c1 s.size c2 (l.map λx:Nat=>(x:Int)) (s.data.toList.map λc:UInt8=>(c.toNat:Int)) m w (by rw[List.length_map,hl]) (by rw[List.length_map,hsz])
  (λx hx=>by obtain ⟨y,hy,rfl⟩:=List.mem_map.1 hx;have:=h256 y hy;omega)
  (λx hx=>by obtain ⟨y,hy,rfl⟩:=List.mem_map.1 hx;have:=y.toNat_lt;omega)
  (λi hi=>by
   rcases h1 with rfl | ⟨g1,f1,h3,-,h1⟩
   .simp at hl;omega
   injection h3 with h3;subst h3;rw[Addr.add_lit,h1 i (by omega)]
   simp only[List.getD_eq_getElem?_getD,List.getElem?_map,List.getElem?_eq_getElem (show i<l.length by omega),Option.map_some,Option.getD_some])
  (λi hi=>by
   rw[Addr.add_lit,Nat.zero_add,h2 i hi];have hi2:i<s.data.toList.length:=by omega
   simp only[List.getD_eq_getElem?_getD,List.getElem?_map,List.getElem?_eq_getElem hi2,Option.map_some,Option.getD_some]
   rfl)
  hn (by omega) (by omega) hm
 refine h.mono ?_;rintro e w' ⟨rfl,q,rfl⟩;refine ⟨ret_bool ?_,⟨rfl,rfl,rfl,Nat.le_refl _,λ_ _=>rfl⟩⟩;unfold conF Lib.bytesOf;rw[List.map_map,List.map_map];have e1:(l.map ((λn:Int=>UInt8.ofNat n.toNat) ∘ λx:Nat=>(x:Int)))=l.map UInt8.ofNat:=List.map_congr_left λx _=>by simp
 have e2:(s.data.toList.map ((λn:Int=>UInt8.ofNat n.toNat) ∘ λc:UInt8=>(c.toNat:Int)))=s.data.toList:=by
  conv=>rhs;rw[<-List.map_id s.data.toList]
  exact List.map_congr_left λx _=>by simp
 rw[e1,e2]
def PwB (w:World) (b b':Nat) (A1 A2:Option Addr) (n1 c1 n2 c2:Nat):Prop:=w.heap[b]?=some (.cells #[.slice A1 n1 c1] 28 (0,0))/\w.heap[b']?=some (.cells #[.slice A2 n2 c2] 28 (0,0))
theorem PwB.later {w w':World} {b b':Nat} {A1 A2:Option Addr} {n1 c1 n2 c2:Nat} (h:PwB w b b' A1 A2 n1 c1 n2 c2) (hb:Below w.heap.size w w'):PwB w' b b' A1 A2 n1 c1 n2 c2:=⟨(hb.block _ (Array.getElem?_eq_some_iff.1 h.1).1).trans h.1,(hb.block _ (Array.getElem?_eq_some_iff.1 h.2).1).trans h.2⟩
set_option maxHeartbeats 4000000 in
theorem pword_any (b b':Nat) (A1 A2:Option Addr) (n1 c1 n2 c2:Nat) (l1 l2:List Nat) (s:ByteArray) (w:World) (hb:PwB w b b' A1 A2 n1 c1 n2 c2) (hl1:l1.length=n1) (hl2:l2.length=n2) (h1:∀x∈l1,x<256) (h2:∀x∈l2,x<256) (ha1:ByA w A1 l1) (ha2:ByA w A2 l2) (hg:(A1=none->c1=0)/\(A2=none->c2=0)) (hc:n1<=c1/\n2<=c2) (hn:n1<=900000/\n2<=900000) (hs:s.size<=1000000) (hv:VrOK w) :
  Calls Tryz.prog 127 #[.string s, .pointer (some ⟨b,0,none⟩), .pointer (some ⟨b',0,none⟩)] w λe w'=>e = .returned (.bool (conF l1 s || conF l2 s))/\Below w.heap.size w w':=by
 have hcv:=λw=>Lib.run_convert_string_bytes (P:=Tryz.prog) w 9 28 5 s Tryz.underlying9 Tryz.underlying28 Tryz.underlying5;obtain ⟨W,C,B,hW,hC,hB,hcell,hbel,hszW⟩:=conv_names w 5 s;have hbelw:Below w.heap.size w W:=hB▸hbel;have HC1:=Lib.hid (contains_any A1 n1 c1 B C l1 s W hl1 h1 (ha1.later hbelw) hg.1 hc.1 hn.1 (by omega) (λj hj=>hcell j hj) (hv.later hbelw))
 obtain ⟨z1,hz1⟩:∃z,conF l1 s=z:=⟨_,rfl⟩;rw[hz1]at HC1;obtain ⟨z2,hz2⟩:∃z,conF l2 s=z:=⟨_,rfl⟩;rw[hz1,hz2];have HZ2:=Lib.hid hz2;have b0:w.cell? ⟨b,0,none⟩=some (.slice A1 n1 c1):=by rw[cell_of_row _ _ _ _ _ _ hb.1];rfl
 have lb:b<w.heap.size:=(Array.getElem?_eq_some_iff.1 hb.1).1;have HB:=Lib.hid hb;have HH:=Lib.hid (And.intro hl2 (And.intro h2 (And.intro (ha2.later hbelw) (And.intro hg.2 (And.intro hc.2 (And.intro hn.2 (And.intro hs (hv.later hbelw))))))));have HBW:=Lib.hid hbelw;clear hl1 hl2 h1 h2 ha1 ha2 hg hc hn hs hv hcell hbel hszW hz1 hz2 hb hbelw
 go_enter Tryz.func127,Tryz.ntmps127
 go_wp2_with fail;rw[<-hW,<-hC,<-hB];clear hW hC;refine HC1.out.mono ?_;rintro e w1 ⟨rfl,hb1⟩;have HB1:=Lib.hid (HBW.out.trans (hb1.mono HBW.out.size));have HB11:=Lib.hid hb1;clear hb1 b0 lb hB
 cases z1 with
 | true=>
  go_wp2_with fail;go_ret;exact ⟨rfl,HB1.out⟩
 | false=>
  obtain ⟨W2,C2,B2,hW2,hC2,hB2,hcell2,hbel2,hszW2⟩:=conv_names w1 5 s;have hbel2w:Below w1.heap.size w1 W2:=hB2▸hbel2;have hv1:VrOK w1:=HH.out.2.2.2.2.2.2.2.later HB11.out;have HC2:=Lib.hid (contains_any A2 n2 c2 B2 C2 l2 s W2 HH.out.1 HH.out.2.1 ((HH.out.2.2.1.later HB11.out).later hbel2w) HH.out.2.2.2.1 HH.out.2.2.2.2.1 HH.out.2.2.2.2.2.1 (by have:=HH.out.2.2.2.2.2.2.1;omega) (λj hj=>hcell2 j hj) (hv1.later hbel2w))
  rw[HZ2.out]at HC2;have hb2:=(HB1.out.block _ (Array.getElem?_eq_some_iff.1 HB.out.2).1).trans HB.out.2;have b1:w1.cell? ⟨b',0,none⟩=some (.slice A2 n2 c2):=by rw[cell_of_row _ _ _ _ _ _ hb2];rfl
  have lb1:b'<w1.heap.size:=(Array.getElem?_eq_some_iff.1 hb2).1;have HBW2:=Lib.hid hbel2w;clear hcell2 hbel2 hszW2 hbel2w hv1 hb2;go_wp2_with fail;rw[<-hW2,<-hC2,<-hB2];clear hW2 hC2;refine HC2.out.mono ?_;rintro e w3 ⟨rfl,hb3⟩;have HB3:=Lib.hid (HB1.out.trans ((HBW2.out.trans (hb3.mono HBW2.out.size)).mono HB1.out.size));clear hb3 b1 lb1 hB2;go_wp2_with fail;go_ret;exact ⟨rfl,HB3.out⟩
theorem two_new (w:World) (o1 o2:Obj):((w.alloc o1).alloc o2).drew.heap[w.heap.size]?=some o1/\((w.alloc o1).alloc o2).drew.heap[w.heap.size+1]?=some o2:=by
 have h:=heap_alloc_new (w.alloc o1) o2;have e:(w.alloc o1).heap.size=w.heap.size+1:=by simp
 rw[e]at h;exact ⟨(old_alloc (w.alloc o1) o2 w.heap.size (by simp)).trans (heap_alloc_new w o1),h⟩
def wdF (bs:List Nat) (a z nr:Nat) (s:ByteArray):Bool:=conF ((bs.drop (a-min nr bs.length)).take (min a (min nr bs.length))) s || conF ((bs.drop z).take (min (bs.length-z) (min nr bs.length))) s
def pasF (bs:List Nat) (a z:Nat) (hb:Bool) (en:Int) (ws:List ByteArray) (nr:Nat):Bool:=hb && (decide (en<=((meaF ((bs.drop a).take (z-a)):Nat):Int)) && (ws.isEmpty || ws.any (wdF bs a z nr)))
def suA:Option Addr->Nat->Nat->Option Addr
 | some ⟨g,f,none⟩,c,k=>some ⟨g,if c-k=0 then f else f+k,none⟩
 | x,_,_=>x
theorem suA_by {A:Option Addr} {n c k z:Nat} {l:List Nat} {w:World} (h:ByIn w (.slice A n c) l) (hn:l.length=n) (hz:z<=n):ByA w (suA A c k) ((l.drop k).take (z-k)):=by
 by_cases hk:k<z
 .obtain ⟨A',c',e0,hc,hor⟩:=h;injection e0 with e1 _ e3;subst e1 e3;obtain ⟨g,f,rfl,hg,hcl⟩:=hor.resolve_left (by rintro rfl;simp at hn;omega)
  refine .inr ⟨g,f+k,by unfold suA;simp only;rw[if_neg (by omega)],hg,λi hi=>?_⟩
  rw[List.length_take,List.length_drop]at hi;rw[Nat.add_assoc,hcl (k+i) (by omega)]
  simp
 .rw[show z-k=0 by omega,List.take_zero]
  exact .inl rfl
theorem by_conv {A:Option Addr} {n c:Nat} {l:List Nat} {w:World} (h:ByA w A l) (hn:l.length=n) (h256:∀b∈l,b<256) :
  (convert 28 9 (.slice A n c)).run Tryz.prog w = .ok (.string (bs (l.map UInt8.ofNat))) w:=by
 subst hn;rcases h with rfl | ⟨g,f,rfl,-,hc⟩
 .cases A with
  | none=>exact run_convert_bytes_nil w 28 5 Tryz.underlying28 Tryz.underlying5 _ _ 9 Tryz.underlying9
  | some ad=>exact run_convert_bytes_back w 28 9 5 ad c [] Tryz.underlying28 Tryz.underlying5 Tryz.underlying9 λj hj=>absurd hj (Nat.not_lt_zero j)
 .have h:=run_convert_bytes_back (P:=Tryz.prog) w 28 9 5 ⟨g,f,none⟩ c (l.map UInt8.ofNat) Tryz.underlying28 Tryz.underlying5 Tryz.underlying9 (λj hj=>by
   have hj2:j<l.length:=by simpa using hj
   rw[Addr.add_lit,hc j hj2];simp only[List.getElem_map];have:=h256 _ (List.getElem_mem hj2)
   congr 2
   rw[UInt8.toNat_ofNat'];omega)
  rwa [List.length_map]at h
theorem callPw (args:Array Value) (w:World):(callFunc 127 args).run Tryz.prog w = .ok (.enter 127 args) w:=by rfl
set_option maxHeartbeats 8000000 in
theorem passes_any (u:KC) (ws:List ByteArray) (nr:Nat) (A:Option Addr) (n c a z:Nat) (l:List Nat) (hb:Bool) (w:World) (hby:ByIn w (.slice A n c) l) (hA:(A=none/\c=0)\/∃g f,A=some ⟨g,f,none⟩) (hn:l.length=n) (hnl:n<=900000) (h256:∀b∈l,b<256) (h1:a<=z) (h2:z<=n) (hw:StIn w (.slice u.a3 u.n3 u.c3) ws) (hnr:u.nr=(nr:Int)) (hn64:nr<=64) (hws:∀s∈ws,s.size<=1000000) (hv:VrOK w)
  (HH:∀W,Below w.heap.size w W->Calls Tryz.prog 125 #[.int .i64 u.ck, .string (partS l a z)] W λe w'=>e = .returned (.bool hb)/\Below W.heap.size W w') :
  Calls Tryz.prog 96 #[.agg #[.string u.nm, .int .i64 u.op, .slice u.a1 u.n1 u.c1, .slice u.a2 u.n2 u.c2, .int .i64 u.mn, .int .i64 u.mx, .bool u.wh, .int .i64 u.ck, .int .i64 u.en, .slice u.a3 u.n3 u.c3, .int .i64 u.nr], .slice A n c, .int .i64 (a:Int), .int .i64 (z:Int)] w λe w'=>e = .returned (.bool (pasF l a z hb u.en ws nr))/\Below w.heap.size w w':=by
 have hwl:u.n3=ws.length:=by obtain ⟨A3,c3,e,-⟩:=hw;injection e
 obtain ⟨em,hem⟩:∃b,ws.isEmpty=b:=⟨_,rfl⟩;obtain ⟨an,han⟩:∃b,ws.any (wdF l a z nr)=b:=⟨_,rfl⟩;unfold pasF;rw[hem,han];have HWD:=Lib.hid (And.intro hwl (And.intro hem (And.intro han (And.intro hw (And.intro hnr (And.intro hws (And.intro hv (And.intro hby (And.intro hn h256)))))))));obtain ⟨A',c',e0,hc,-⟩:=id hby;injection e0 with e1 e2 e3;subst e1 e3;obtain ⟨p,hp,hplen⟩:∃p,(l.drop a).take (z-a)=p/\p.length=z-a:=⟨_,rfl,by rw[List.length_take,List.length_drop];omega⟩
 have hpb:partS l a z=bs (p.map UInt8.ofNat):=by unfold partS;rw[hp]
 obtain ⟨AP,hAP⟩:∃AP,suA A c a=AP:=⟨_,rfl⟩;have hpa:=suA_by (k:=a) hby hn h2;rw[hp,hAP]at hpa;rw[hp];have hp256:∀b∈p,b<256:=λb hb=>h256 b (by rw[<-hp]at hb;exact List.mem_of_mem_drop (List.mem_of_mem_take hb))
 obtain ⟨CP,hCP⟩:∃CP,c-a=CP:=⟨_,rfl⟩;have HM:=Lib.hid λW (hW:Below w.heap.size w W)=>measure_any AP (z-a) CP p W ⟨_,_,by rw[hplen],by omega,hpa.later hW⟩ hplen hp256 (by omega)
 rw[hpb]at HH;obtain ⟨S,hS⟩:∃S,bs (p.map UInt8.ofNat)=S:=⟨_,rfl⟩;have hcv:∀W,Below w.heap.size w W->(convert 28 9 (.slice AP (z-a) CP)).run Tryz.prog W = .ok (.string S) W:=λW hW=>hS▸by_conv (hpa.later hW) hplen hp256;obtain ⟨M,hMe⟩:∃M,meaF p=M:=⟨_,rfl⟩;rw[hS]at HH;rw[hMe]at HM;rw[hMe];have HHH:=Lib.hid HH;have HCV:=Lib.hid hcv;have HWI:=Lib.hid λW=>within_A A n c a z W;have d1:decide (a<=z)=true:=decide_eq_true h1;have d2:decide (z<=n)=true:=decide_eq_true h2;rw[d1,d2]at HWI;have hca:(a:Int)<=(z:Int):=by omega
 have hzc:(z:Int)<=(c:Int):=by omega
 have hcn:c<=9223372036854775807:=hc.2;have ha1z:a<=z:=h1;have hz2n:z<=n:=h2;have hcl:l.length<=c:=hc.1;obtain ⟨x,hx⟩:∃x,decide ((M:Int)<u.en)=x:=⟨_,rfl⟩;have hxe:decide (u.en<=(M:Int))=!x:=by rw[<-hx,Bool.eq_iff_iff];simp
 rw[hxe];have hA3:(A=none/\c-a=0/\AP=none/\CP=0/\c=0)\/(∃g f,A=some ⟨g,f,none⟩/\c-a=0/\AP=some ⟨g,f,none⟩/\CP=0)\/∃g f,A=some ⟨g,f,none⟩/\¬c-a=0/\AP=some ⟨g,f+a,none⟩/\CP=c-a:=by
  rcases hA with ⟨rfl,h0⟩ | ⟨g,f,rfl⟩
  .exact .inl ⟨rfl,by omega,hAP.symm,by omega,h0⟩
  .by_cases h:c-a=0
   .exact .inr (.inl ⟨g,f,rfl,h,by rw[<-hAP];simp only[suA,h,if_true],by omega⟩)
   .exact .inr (.inr ⟨g,f,rfl,h,by rw[<-hAP];simp only[suA,h,if_false],hCP.symm⟩)
 clear HH hcv hby hpa hp hp256 hplen hpb hS hMe d1 d2 hxe h256 hc e2 h1 h2 hAP hA hCP;have HAZ:=Lib.hid (And.intro ha1z (And.intro hz2n (And.intro hcl hn)));have HA3:=Lib.hid hA3;obtain ⟨SU,hSU⟩:∃SU:Nat->Option Addr,(λk=>suA A c k)=SU:=⟨_,rfl⟩;have hno:∀k,SU k=none->c-k=0:=λk hk=>by
  rw[<-hSU]at hk;rcases hA3 with ⟨-,-,-,-,h0⟩ | ⟨g,f,h,-⟩ | ⟨g,f,h,-⟩
  .omega
  .rw[h]at hk;cases hk
  .rw[h]at hk;cases hk
 have HSU:=Lib.hid (And.intro hSU hno);clear hSU hno;clear hw hwl hem han hnr hws hv ha1z hz2n hcl hn;rcases hA3 with ⟨rfl,hcc,rfl,rfl,-⟩ | ⟨g,f,rfl,hcc,rfl,rfl⟩ | ⟨g,f,rfl,hcc,rfl,rfl⟩
 all_goals
  go_enter Tryz.func96,Tryz.ntmps96
  go_wp2_with fail;refine calls_nm λW0 hW0=>?_;have hb0:Below w.heap.size w W0:=by rw[hW0];exact (Below.refl _ _).alloc (Nat.le_refl _) _
  have hK0:bxU u w.heap.size W0:=by rw[hW0];exact heap_alloc_new w _
  have H0:=Lib.hid (And.intro hb0 hK0);clear hW0 hb0 hK0;refine (HWI.out W0).mono ?_;rintro e w1 ⟨rfl,rfl⟩
  go_upto_region 4 with fail
  have hdc:=λd:BelT w1.heap.size w1=>(H0.out.2.later d.property).cells;have hd0:∀d:BelT w1.heap.size w1,d.val.cell? ⟨w.heap.size,7,none⟩=some (.int .i64 u.ck):=λd=>(hdc d).2.1.2.1;have hd1:∀d:BelT w1.heap.size w1,d.val.cell? ⟨w.heap.size,8,none⟩=some (.int .i64 u.en):=λd=>(hdc d).2.1.2.2.1;have hd2:∀d:BelT w1.heap.size w1,w.heap.size<d.val.heap.size:=λd=>(hdc d).2.2;have hd3:=λd:BelT w1.heap.size w1=>HCV.out d.val (H0.out.1.trans (d.property.mono H0.out.1.size));have HA1:=Lib.hid λd:BelT w1.heap.size w1=>HHH.out d.val (H0.out.1.trans (d.property.mono H0.out.1.size));have HA2:=Lib.hid λd:BelT w1.heap.size w1=>HM.out d.val (H0.out.1.trans (d.property.mono H0.out.1.size));clear hdc
  cases hb with
  | false=>
   refine wp_region_below (Below.refl w1.heap.size w1) (by kernel_rfl) (by kernel_rfl) ?_
   repeat (go_big_quiet_step (fail))
   go_big_quiet_step ((go_at_call 125;exact Calls.below_of (Nat.le_refl _) (HA1.out _)))
   repeat (go_big_quiet_step (fail))
   refine wpQuiet_nil ?_;intro w9 hw';have hw9:Below w1.heap.size w1 w9:=by obtain ⟨d9,rfl⟩:=hw';exact d9.property
   have HB9:=Lib.hid (H0.out.1.trans (hw9.mono H0.out.1.size));clear hw' hd0 hd1 hd2 hd3 hw9;go_wp2_with fail;go_ret;exact ⟨rfl,HB9.out⟩
  | true=>
   refine wp_region_below (Below.refl w1.heap.size w1) (by kernel_rfl) (by kernel_rfl) ?_
   repeat (go_big_quiet_step (fail))
   go_big_quiet_step ((go_at_call 125;exact Calls.below_of (Nat.le_refl _) (HA1.out _)))
   repeat (go_big_quiet_step (fail))
   go_big_quiet_step ((go_at_call 126;exact Calls.below_of (Nat.le_refl _) (HA2.out _)))
   repeat (go_big_quiet_step (fail))
   refine wpQuiet_nil ?_;intro w9 hw';have hw9:Below w1.heap.size w1 w9:=by obtain ⟨d9,rfl⟩:=hw';exact d9.property
   have HB9:=Lib.hid (And.intro (H0.out.1.trans (hw9.mono H0.out.1.size)) (H0.out.2.later hw9));clear hw' hd0 hd1 hd2 hd3 hw9;obtain ⟨⟨c0,c1,c2,c3,c4,c5⟩,⟨c6,c7,c8,c9,c10⟩,lb⟩:=HB9.out.2.cells
   cases x with
   | true=>
    go_wp2_with fail;go_ret;exact ⟨rfl,HB9.out.1⟩
   | false=>
   cases em with
   | true=>
    have hn3:u.n3=0:=by rw[HWD.out.1,List.isEmpty_iff.1 HWD.out.2.1];rfl
    have ht:((u.n3:Int) == 0)=true:=by rw[hn3];rfl
    have HN3:=Lib.hid hn3;clear hn3;go_wp2_with fail;go_ret;exact ⟨rfl,HB9.out.1⟩
   | false=>
    have ht:((u.n3:Int) == 0)=false:=by
     rw[HWD.out.1];have hne:ws≠[]:=by intro e;have:=HWD.out.2.1;rw[e]at this;cases this
     have:=List.length_pos_iff.2 hne;simp;omega
    rw[HWD.out.2.2.2.2.1]at c10;obtain ⟨ha1z,hz2n,hlc,hln⟩:=HAZ.out;obtain ⟨N,hN⟩:∃N,min nr n=N:=⟨_,rfl⟩;have hNb:N<=64/\N<=n:=by omega
    have hmn:min (nr:Int) (n:Int)=(N:Int):=by omega
    have HN:=Lib.hid hN;clear hN
    go_upto_region 9 with fail
    obtain ⟨F0,hF0⟩:∃F0,a-N=F0:=⟨_,rfl⟩;obtain ⟨Z2,hZ2⟩:∃Z2,min (z+N) n=Z2:=⟨_,rfl⟩;have hmx:max ((a:Int) - (N:Int)) 0=(F0:Int):=by omega
    have hmz:min ((z:Int)+(N:Int)) (n:Int)=(Z2:Int):=by omega
    have hs1:(F0:Int)<=(a:Int):=by omega
    have hs2:(a:Int)<=(c:Int):=by omega
    have hs3:(z:Int)<=(Z2:Int):=by omega
    have hs4:(Z2:Int)<=(c:Int):=by omega
    have HFZ:=Lib.hid (And.intro hF0 hZ2);obtain ⟨AF,hAF⟩:∃AF,SU F0=AF:=⟨_,rfl⟩;obtain ⟨AZ,hAZ⟩:∃AZ,SU z=AZ:=⟨_,rfl⟩;have hno:(AF=none->c-F0=0)/\(AZ=none->c-z=0):=⟨λh=>HSU.out.2 F0 (hAF.trans h),λh=>HSU.out.2 z (hAZ.trans h)⟩;rw[<-HSU.out.1]at hAF hAZ
    dsimp only at hAF hAZ
    have hFa:=hAF▸suA_by (k:=F0) (z:=a) HWD.out.2.2.2.2.2.2.2.1 HWD.out.2.2.2.2.2.2.2.2.1 (by omega)
    have hZa:=hAZ▸suA_by (k:=z) (z:=Z2) HWD.out.2.2.2.2.2.2.2.1 HWD.out.2.2.2.2.2.2.2.2.1 (by omega)
    have HCF:=Lib.hid (show ∀(W:World) (x y:Nat),Below w9.heap.size w9 W->PwB W x y AF AZ (a-F0) (c-F0) (Z2-z) (c-z)->Calls Tryz.prog 113 #[.slice u.a3 u.n3 u.c3, .func (.func 127) #[] #[.pointer (some ⟨x,0,none⟩), .pointer (some ⟨y,0,none⟩)]] W λe w'=>e = .returned (.bool an)/\Below W.heap.size W w' from λW x y hW hp=>by
     obtain ⟨-,-,han,hst,-,hsz,hvv,-,hln,h256⟩:=HWD.out;have hbw:=HB9.out.1.trans (hW.mono HB9.out.1.size);rw[<-han];refine containsS 127 _ ws (wdF l a z nr) _ W (hst.later hbw) ⟨callPw,λs hs W2 hW2=>?_⟩;unfold wdF;have hbw2:=hbw.trans (hW2.mono hbw.size);have hNe:min nr l.length=N:=by rw[hln];exact HN.out
     rw[hNe];have e1:(l.drop (a-N)).take (min a N)=(l.drop F0).take (a-F0):=by rw[hF0,show min a N=a-F0 by omega]
     have e2:(l.drop z).take (min (l.length-z) N)=(l.drop z).take (Z2-z):=by rw[show min (l.length-z) N=Z2-z by omega]
     rw[e1,e2];exact pword_any x y AF AZ (a-F0) (c-F0) (Z2-z) (c-z) _ _ s W2 (hp.later hW2) (by rw[List.length_take,List.length_drop];omega) (by rw[List.length_take,List.length_drop];omega) (λb hb=>h256 b (List.mem_of_mem_drop (List.mem_of_mem_take hb))) (λb hb=>h256 b (List.mem_of_mem_drop (List.mem_of_mem_take hb))) (hFa.later hbw2) (hZa.later hbw2) hno ⟨by omega,by omega⟩ ⟨by omega,by omega⟩ (hsz s hs) (hvv.later hbw2))
    clear hF0 hZ2 hFa hZa hno hlc hln;by_cases hcF:c-F0=0
    all_goals
     by_cases hcz:c-z=0
     all_goals try (exfalso;omega)
     all_goals
      simp only[suA,hcF,hcz,if_true,if_false]at hAF hAZ
      try simp only[hcF]at HCF
      try simp only[hcz]at HCF
      subst hAF hAZ
      go_region
      all_goals
       go_wp2_with fail;refine calls_nm λW3 hW3=>?_;have hb3:Below w9.heap.size w9 W3:=by rw[hW3];exact (((Below.refl _ _).alloc (Nat.le_refl _) _).alloc (by simp) _).drew
       have HB3:=Lib.hid (HB9.out.1.trans (hb3.mono HB9.out.1.size));refine (HCF.out W3 _ _ hb3 ⟨?h1,?h2⟩).mono ?_
       case h1=>rw[hW3];first | exact (two_new w9 _ _).1 | exact (two_new w9 _ _).2
       case h2=>rw[hW3];first | exact (two_new w9 _ _).1 | exact (two_new w9 _ _).2
       rintro e w5 ⟨rfl,hb5⟩;have HB5:=Lib.hid (HB3.out.trans (hb5.mono HB3.out.size));clear hb3 hb5 hW3;go_wp2_with fail;go_ret;exact ⟨rfl,HB5.out⟩
structure Ask where
 ck:Int
 en:Int
 ws:List ByteArray
 nr:Nat
def psF (l:List Nat) (k:Ask) (a z:Nat):Bool:=pasF l a z (hldP k.ck (bl (partS l a z))) k.en k.ws k.nr
def LessA (k k':Ask):Prop:=(k'.ck=0\/k'.ck=k.ck)/\(k'.en<=k.en\/k'.en<=0)/\(k'.ws=[]\/(k'.nr=k.nr/\k.ws≠[]/\∃t,k'.ws=k.ws++t))
structure PsK (w:World) (u:KC) (k:Ask):Prop where
 ck:u.ck=k.ck
 en:u.en=k.en
 ws:StIn w (.slice u.a3 u.n3 u.c3) k.ws
 nr:u.nr=(k.nr:Int)
 n64:k.nr<=64
 wl:∀s∈k.ws,s.size<=1000000
structure TxI (w:World) (A:Option Addr) (n c:Nat) (l:List Nat):Prop where
 by_:ByIn w (.slice A n c) l
 ad:(A=none/\c=0)\/∃g f,A=some ⟨g,f,none⟩
 len:l.length=n
 small:n<=900000
 bt:∀b∈l,b<256
theorem TxI.later {w w':World} {A:Option Addr} {n c:Nat} {l:List Nat} (h:TxI w A n c l) (hb:Below w.heap.size w w'):TxI w' A n c l:=⟨h.by_.later hb,h.ad,h.len,h.small,h.bt⟩
theorem passesK (u:KC) (k:Ask) (A:Option Addr) (n c a z:Nat) (l:List Nat) (w:World) (ht:TxI w A n c l) (h1:a<=z) (h2:z<=n) (hk:PsK w u k) (hv:VrOK w) :
  Calls Tryz.prog 96 #[.agg #[.string u.nm, .int .i64 u.op, .slice u.a1 u.n1 u.c1, .slice u.a2 u.n2 u.c2, .int .i64 u.mn, .int .i64 u.mx, .bool u.wh, .int .i64 u.ck, .int .i64 u.en, .slice u.a3 u.n3 u.c3, .int .i64 u.nr], .slice A n c, .int .i64 (a:Int), .int .i64 (z:Int)] w λe w'=>e = .returned (.bool (psF l k a z))/\Below w.heap.size w w':=by
 unfold psF;rw[<-hk.ck,<-hk.en];refine passes_any u k.ws k.nr A n c a z l _ w ht.by_ ht.ad ht.len ht.small ht.bt h1 h2 hk.ws hk.nr hk.n64 hk.wl hv λW _=>?_;refine chold_any u.ck (partS l a z) W ?_;unfold partS;rw[size_bs,List.length_map,List.length_take,List.length_drop];have:=ht.small;have:=ht.len;omega
end Go.Proofs.YtdmoogjddmdmbaaGreatDoor
