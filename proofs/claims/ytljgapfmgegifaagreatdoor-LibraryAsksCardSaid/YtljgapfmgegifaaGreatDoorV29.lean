/- library.Passes of any kind, with the words it asks for. · library.Passes with its check sum; plain: a kind that asks for less passes wherever one that asks for more does. · library.Compile of any kind. · library.All: the machines of a library, or its first error. · Plain: kinds that are good; a library of good kinds has no error. · Walks: library.Valid; library.line, library.text and library.Text at the token's kind; law07.token. · Walks: library.Same at lists of kinds whose first ones are one, or differ in the name. -/
import Derived.Test.YtljgapfmgegifaaGreatDoorV20
import Derived.Test.YtljgapfmgegifaaGreatDoorV22
import Derived.Test.YtljgapfmgegifaaGreatDoorV27
import Derived.Test.YtljgapfmgegifaaGreatDoorV03
import Derived.Deep.RegionHeld3
import Derived.Test.YtljgapfmgegifaaGreatDoorV28
import Derived.BigRegion
import Derived.Test.YtljgapfmgegifaaGreatDoorV17
import Derived.Test.YtljgapfmgegifaaGreatDoorV09
import Derived.Test.YtljgapfmgegifaaGreatDoorV23
import Derived.Deep.CutRange
import Derived.Test.YtljgapfmgegifaaGreatDoorV26
namespace Go.Proofs.YtljgapfmgegifaaGreatDoor
set_option linter.unusedVariables false
set_option linter.unusedSimpArgs false
set_option maxRecDepth 100000
open Go.RowKit
def conF (l:List Nat) (s:ByteArray):Bool:=Lib.contains (l.map UInt8.ofNat) s.data.toList
def ByA (w:World) (A:Option Addr) (l:List Nat):Prop:=l=[]\/∃g f,A=some ⟨g,f,none⟩/\g<w.heap.size/\∀i (h:i<l.length),w.cell? ⟨g,f+i,none⟩=some (.int .u8 (l[i]:Int))
theorem ByA.later {w w':World} {A:Option Addr} {l:List Nat} (h:ByA w A l) (hb:Below w.heap.size w w'):ByA w' A l:=by
 rcases h with h | ⟨g,f,h1,h2,h3⟩
 .exact .inl h
 .exact .inr ⟨g,f,h1,Nat.lt_of_lt_of_le h2 hb.size,λi hi=>(hb.cell (p:=⟨g,f+i,none⟩) h2).trans (h3 i hi)⟩
theorem conF_nil (s:ByteArray):conF [] s=decide (s.size=0):=by
 have hsz:s.data.toList.length=s.size:=by simp
 unfold conF Lib.contains;rw[<-hsz]
 cases s.data.toList with
 | nil=>rfl
 | cons c t=>rfl
theorem contains_any (A:Option Addr) (n c1 g c2:Nat) (l:List Nat) (s:ByteArray) (w:World) (hl:l.length=n) (h256:∀b∈l,b<256) (h1:ByA w A l) (h0:A=none->c1=0) (hn:n<=c1) (hs:n<=900000) (hk:s.size<=1000000000000) (h2:∀j (h:j<s.size),w.cell? ⟨g,j,none⟩=some (.int .u8 s[j].toNat)) (hv:VrOK w) :
  Calls Tryz.prog 32 #[.slice A n c1, .slice (some ⟨g,0,none⟩) s.size c2] w λe w'=>e = .returned (.bool (conF l s))/\Below w.heap.size w w':=by
 cases A with
 | none=>
  have hc:=h0 rfl;subst hc;have hn0:n=0:=by omega
  subst hn0;have hl0:l=[]:=List.length_eq_zero_iff.1 hl;subst hl0;rw[conF_nil];refine (Tryz.bytes_Contains_nil (some ⟨g,0,none⟩) s.size c2 w (by omega) λh=>⟨g,0,_,rfl,h2 0 (by omega)⟩).mono ?_
  rintro e w' ⟨rfl,rfl⟩;exact ⟨rfl,Below.refl _ _⟩
 | some ad=>
 obtain ⟨m,hm⟩:=hv.mlen;have hsz:s.data.toList.length=s.size:=by simp
 have h:=Tryz.bytes_Contains_at ad ⟨g,0,none⟩ n c1 s.size c2 (l.map λx:Nat=>(x:Int)) (s.data.toList.map λc:UInt8=>(c.toNat:Int)) m w (by rw[List.length_map,hl]) (by rw[List.length_map,hsz])
  (λx hx=>by obtain ⟨y,hy,rfl⟩:=List.mem_map.1 hx;have:=h256 y hy;omega)
  (λx hx=>by obtain ⟨y,hy,rfl⟩:=List.mem_map.1 hx;have:=y.toNat_lt;omega)
  (λi hi=>by
   rcases h1 with rfl | ⟨g1,f1,h3,-,h1⟩
   .simp at hl;omega
   injection h3 with h3;subst h3;rw[Addr.add_lit,h1 i (by omega)]
   simp only[List.getD_eq_getElem?_getD,List.getElem?_map,List.getElem?_eq_getElem (show i<l.length by omega),Option.map_some,Option.getD_some])
  (λi hi=>by
   rw[Addr.add_lit,Nat.zero_add,h2 i hi];have hi2:i<s.data.toList.length:=by omega
   simp only[List.getD_eq_getElem?_getD,List.getElem?_map,List.getElem?_eq_getElem hi2,Option.map_some,Option.getD_some]
   rfl)
  hn (by omega) (by omega) hm
 refine h.mono ?_;rintro e w' ⟨rfl,q,rfl⟩;refine ⟨ret_bool ?_,⟨rfl,rfl,rfl,Nat.le_refl _,λ_ _=>rfl⟩⟩;unfold conF Lib.bytesOf;rw[List.map_map,List.map_map];have e1:(l.map ((λn:Int=>UInt8.ofNat n.toNat) ∘ λx:Nat=>(x:Int)))=l.map UInt8.ofNat:=List.map_congr_left λx _=>by simp
 have e2:(s.data.toList.map ((λn:Int=>UInt8.ofNat n.toNat) ∘ λc:UInt8=>(c.toNat:Int)))=s.data.toList:=by
  conv=>rhs;rw[<-List.map_id s.data.toList]
  exact List.map_congr_left λx _=>by simp
 rw[e1,e2]
def PwB (w:World) (b b':Nat) (A1 A2:Option Addr) (n1 c1 n2 c2:Nat):Prop:=w.heap[b]?=some (.cells #[.slice A1 n1 c1] 41 (0,0))/\w.heap[b']?=some (.cells #[.slice A2 n2 c2] 41 (0,0))
theorem PwB.later {w w':World} {b b':Nat} {A1 A2:Option Addr} {n1 c1 n2 c2:Nat} (h:PwB w b b' A1 A2 n1 c1 n2 c2) (hb:Below w.heap.size w w'):PwB w' b b' A1 A2 n1 c1 n2 c2:=⟨(hb.block _ (Array.getElem?_eq_some_iff.1 h.1).1).trans h.1,(hb.block _ (Array.getElem?_eq_some_iff.1 h.2).1).trans h.2⟩
set_option maxHeartbeats 4000000 in
theorem pword_any (b b':Nat) (A1 A2:Option Addr) (n1 c1 n2 c2:Nat) (l1 l2:List Nat) (s:ByteArray) (w:World) (hb:PwB w b b' A1 A2 n1 c1 n2 c2) (hl1:l1.length=n1) (hl2:l2.length=n2) (h1:∀x∈l1,x<256) (h2:∀x∈l2,x<256) (ha1:ByA w A1 l1) (ha2:ByA w A2 l2) (hg:(A1=none->c1=0)/\(A2=none->c2=0)) (hc:n1<=c1/\n2<=c2) (hn:n1<=900000/\n2<=900000) (hs:s.size<=1000000) (hv:VrOK w) :
  Calls Tryz.prog 31 #[.string s, .pointer (some ⟨b,0,none⟩), .pointer (some ⟨b',0,none⟩)] w λe w'=>e = .returned (.bool (conF l1 s || conF l2 s))/\Below w.heap.size w w':=by
 have hcv:=λw=>Lib.run_convert_string_bytes (P:=Tryz.prog) w 9 41 5 s Tryz.underlying9 Tryz.underlying41 Tryz.underlying5;obtain ⟨W,C,B,hW,hC,hB,hcell,hbel,hszW⟩:=conv_names w 5 s;have hbelw:Below w.heap.size w W:=hB▸hbel;have HC1:=Lib.hid (contains_any A1 n1 c1 B C l1 s W hl1 h1 (ha1.later hbelw) hg.1 hc.1 hn.1 (by omega) (λj hj=>hcell j hj) (hv.later hbelw))
 obtain ⟨z1,hz1⟩:∃z,conF l1 s=z:=⟨_,rfl⟩;rw[hz1]at HC1;obtain ⟨z2,hz2⟩:∃z,conF l2 s=z:=⟨_,rfl⟩;rw[hz1,hz2];have HZ2:=Lib.hid hz2;have b0:w.cell? ⟨b,0,none⟩=some (.slice A1 n1 c1):=by rw[cell_of_row _ _ _ _ _ _ hb.1];rfl
 have lb:b<w.heap.size:=(Array.getElem?_eq_some_iff.1 hb.1).1;have HB:=Lib.hid hb;have HH:=Lib.hid (And.intro hl2 (And.intro h2 (And.intro (ha2.later hbelw) (And.intro hg.2 (And.intro hc.2 (And.intro hn.2 (And.intro hs (hv.later hbelw))))))));have HBW:=Lib.hid hbelw;clear hl1 hl2 h1 h2 ha1 ha2 hg hc hn hs hv hcell hbel hszW hz1 hz2 hb hbelw
 go_enter Tryz.func31,Tryz.ntmps31
 go_wp2_with fail;rw[<-hW,<-hC,<-hB];clear hW hC;refine HC1.out.mono ?_;rintro e w1 ⟨rfl,hb1⟩;have HB1:=Lib.hid (HBW.out.trans (hb1.mono HBW.out.size));have HB11:=Lib.hid hb1;clear hb1 b0 lb hB
 cases z1 with
 | true=>
  go_wp2_with fail;go_ret;exact ⟨rfl,HB1.out⟩
 | false=>
  obtain ⟨W2,C2,B2,hW2,hC2,hB2,hcell2,hbel2,hszW2⟩:=conv_names w1 5 s;have hbel2w:Below w1.heap.size w1 W2:=hB2▸hbel2;have hv1:VrOK w1:=HH.out.2.2.2.2.2.2.2.later HB11.out;have HC2:=Lib.hid (contains_any A2 n2 c2 B2 C2 l2 s W2 HH.out.1 HH.out.2.1 ((HH.out.2.2.1.later HB11.out).later hbel2w) HH.out.2.2.2.1 HH.out.2.2.2.2.1 HH.out.2.2.2.2.2.1 (by have:=HH.out.2.2.2.2.2.2.1;omega) (λj hj=>hcell2 j hj) (hv1.later hbel2w))
  rw[HZ2.out]at HC2;have hb2:=(HB1.out.block _ (Array.getElem?_eq_some_iff.1 HB.out.2).1).trans HB.out.2;have b1:w1.cell? ⟨b',0,none⟩=some (.slice A2 n2 c2):=by rw[cell_of_row _ _ _ _ _ _ hb2];rfl
  have lb1:b'<w1.heap.size:=(Array.getElem?_eq_some_iff.1 hb2).1;have HBW2:=Lib.hid hbel2w;clear hcell2 hbel2 hszW2 hbel2w hv1 hb2;go_wp2_with fail;rw[<-hW2,<-hC2,<-hB2];clear hW2 hC2;refine HC2.out.mono ?_;rintro e w3 ⟨rfl,hb3⟩;have HB3:=Lib.hid (HB1.out.trans ((HBW2.out.trans (hb3.mono HBW2.out.size)).mono HB1.out.size));clear hb3 b1 lb1 hB2;go_wp2_with fail;go_ret;exact ⟨rfl,HB3.out⟩
theorem two_new (w:World) (o1 o2:Obj):((w.alloc o1).alloc o2).drew.heap[w.heap.size]?=some o1/\((w.alloc o1).alloc o2).drew.heap[w.heap.size+1]?=some o2:=by
 have h:=heap_alloc_new (w.alloc o1) o2;have e:(w.alloc o1).heap.size=w.heap.size+1:=by simp
 rw[e]at h;exact ⟨(old_alloc (w.alloc o1) o2 w.heap.size (by simp)).trans (heap_alloc_new w o1),h⟩
def wdF (bs:List Nat) (a z nr:Nat) (s:ByteArray):Bool:=conF ((bs.drop (a-min nr bs.length)).take (min a (min nr bs.length))) s || conF ((bs.drop z).take (min (bs.length-z) (min nr bs.length))) s
def pasF (bs:List Nat) (a z:Nat) (hb:Bool) (en:Int) (ws:List ByteArray) (nr:Nat):Bool:=hb && (decide (en<=((meaF ((bs.drop a).take (z-a)):Nat):Int)) && (ws.isEmpty || ws.any (wdF bs a z nr)))
def suA:Option Addr->Nat->Nat->Option Addr
 | some ⟨g,f,none⟩,c,k=>some ⟨g,if c-k=0 then f else f+k,none⟩
 | x,_,_=>x
theorem suA_by {A:Option Addr} {n c k z:Nat} {l:List Nat} {w:World} (h:ByIn w (.slice A n c) l) (hn:l.length=n) (hz:z<=n):ByA w (suA A c k) ((l.drop k).take (z-k)):=by
 by_cases hk:k<z
 .obtain ⟨A',c',e0,hc,hor⟩:=h;injection e0 with e1 _ e3;subst e1 e3;obtain ⟨g,f,rfl,hg,hcl⟩:=hor.resolve_left (by rintro rfl;simp at hn;omega)
  refine .inr ⟨g,f+k,by unfold suA;simp only;rw[if_neg (by omega)],hg,λi hi=>?_⟩
  rw[List.length_take,List.length_drop]at hi;rw[Nat.add_assoc,hcl (k+i) (by omega)]
  simp
 .rw[show z-k=0 by omega,List.take_zero]
  exact .inl rfl
theorem by_conv {A:Option Addr} {n c:Nat} {l:List Nat} {w:World} (h:ByA w A l) (hn:l.length=n) (h256:∀b∈l,b<256) :
  (convert 41 9 (.slice A n c)).run Tryz.prog w = .ok (.string (bs (l.map UInt8.ofNat))) w:=by
 subst hn;rcases h with rfl | ⟨g,f,rfl,-,hc⟩
 .cases A with
  | none=>exact run_convert_bytes_nil w 41 5 Tryz.underlying41 Tryz.underlying5 _ _ 9 Tryz.underlying9
  | some ad=>exact run_convert_bytes_back w 41 9 5 ad c [] Tryz.underlying41 Tryz.underlying5 Tryz.underlying9 λj hj=>absurd hj (Nat.not_lt_zero j)
 .have h:=run_convert_bytes_back (P:=Tryz.prog) w 41 9 5 ⟨g,f,none⟩ c (l.map UInt8.ofNat) Tryz.underlying41 Tryz.underlying5 Tryz.underlying9 (λj hj=>by
   have hj2:j<l.length:=by simpa using hj
   rw[Addr.add_lit,hc j hj2];simp only[List.getElem_map];have:=h256 _ (List.getElem_mem hj2)
   congr 2
   rw[UInt8.toNat_ofNat'];omega)
  rwa [List.length_map]at h
theorem callPw (args:Array Value) (w:World):(callFunc 31 args).run Tryz.prog w = .ok (.enter 31 args) w:=by rfl
set_option maxHeartbeats 8000000 in
theorem passes_any (u:KC) (ws:List ByteArray) (nr:Nat) (A:Option Addr) (n c a z:Nat) (l:List Nat) (hb:Bool) (w:World) (hby:ByIn w (.slice A n c) l) (hA:(A=none/\c=0)\/∃g f,A=some ⟨g,f,none⟩) (hn:l.length=n) (hnl:n<=900000) (h256:∀b∈l,b<256) (h1:a<=z) (h2:z<=n) (hw:StIn w (.slice u.a3 u.n3 u.c3) ws) (hnr:u.nr=(nr:Int)) (hn64:nr<=64) (hws:∀s∈ws,s.size<=1000000) (hv:VrOK w)
  (HH:∀W,Below w.heap.size w W->Calls Tryz.prog 28 #[.int .i64 u.ck, .string (partS l a z)] W λe w'=>e = .returned (.bool hb)/\Below W.heap.size W w') :
  Calls Tryz.prog 13 #[.agg #[.string u.nm, .int .i64 u.op, .slice u.a1 u.n1 u.c1, .slice u.a2 u.n2 u.c2, .int .i64 u.mn, .int .i64 u.mx, .bool u.wh, .int .i64 u.ck, .int .i64 u.en, .slice u.a3 u.n3 u.c3, .int .i64 u.nr], .slice A n c, .int .i64 (a:Int), .int .i64 (z:Int)] w λe w'=>e = .returned (.bool (pasF l a z hb u.en ws nr))/\Below w.heap.size w w':=by
 have hwl:u.n3=ws.length:=by obtain ⟨A3,c3,e,-⟩:=hw;injection e
 obtain ⟨em,hem⟩:∃b,ws.isEmpty=b:=⟨_,rfl⟩;obtain ⟨an,han⟩:∃b,ws.any (wdF l a z nr)=b:=⟨_,rfl⟩;unfold pasF;rw[hem,han];have HWD:=Lib.hid (And.intro hwl (And.intro hem (And.intro han (And.intro hw (And.intro hnr (And.intro hws (And.intro hv (And.intro hby (And.intro hn h256)))))))));obtain ⟨A',c',e0,hc,-⟩:=id hby;injection e0 with e1 e2 e3;subst e1 e3;obtain ⟨p,hp,hplen⟩:∃p,(l.drop a).take (z-a)=p/\p.length=z-a:=⟨_,rfl,by rw[List.length_take,List.length_drop];omega⟩
 have hpb:partS l a z=bs (p.map UInt8.ofNat):=by unfold partS;rw[hp]
 obtain ⟨AP,hAP⟩:∃AP,suA A c a=AP:=⟨_,rfl⟩;have hpa:=suA_by (k:=a) hby hn h2;rw[hp,hAP]at hpa;rw[hp];have hp256:∀b∈p,b<256:=λb hb=>h256 b (by rw[<-hp]at hb;exact List.mem_of_mem_drop (List.mem_of_mem_take hb))
 obtain ⟨CP,hCP⟩:∃CP,c-a=CP:=⟨_,rfl⟩;have HM:=Lib.hid λW (hW:Below w.heap.size w W)=>measure_any AP (z-a) CP p W ⟨_,_,by rw[hplen],by omega,hpa.later hW⟩ hplen hp256 (by omega)
 rw[hpb]at HH;obtain ⟨S,hS⟩:∃S,bs (p.map UInt8.ofNat)=S:=⟨_,rfl⟩;have hcv:∀W,Below w.heap.size w W->(convert 41 9 (.slice AP (z-a) CP)).run Tryz.prog W = .ok (.string S) W:=λW hW=>hS▸by_conv (hpa.later hW) hplen hp256;obtain ⟨M,hMe⟩:∃M,meaF p=M:=⟨_,rfl⟩;rw[hS]at HH;rw[hMe]at HM;rw[hMe];have HHH:=Lib.hid HH;have HCV:=Lib.hid hcv;have HWI:=Lib.hid λW=>within_A A n c a z W;have d1:decide (a<=z)=true:=decide_eq_true h1;have d2:decide (z<=n)=true:=decide_eq_true h2;rw[d1,d2]at HWI;have hca:(a:Int)<=(z:Int):=by omega
 have hzc:(z:Int)<=(c:Int):=by omega
 have hcn:c<=9223372036854775807:=hc.2;have ha1z:a<=z:=h1;have hz2n:z<=n:=h2;have hcl:l.length<=c:=hc.1;obtain ⟨x,hx⟩:∃x,decide ((M:Int)<u.en)=x:=⟨_,rfl⟩;have hxe:decide (u.en<=(M:Int))=!x:=by rw[<-hx,Bool.eq_iff_iff];simp
 rw[hxe];have hA3:(A=none/\c-a=0/\AP=none/\CP=0/\c=0)\/(∃g f,A=some ⟨g,f,none⟩/\c-a=0/\AP=some ⟨g,f,none⟩/\CP=0)\/∃g f,A=some ⟨g,f,none⟩/\¬c-a=0/\AP=some ⟨g,f+a,none⟩/\CP=c-a:=by
  rcases hA with ⟨rfl,h0⟩ | ⟨g,f,rfl⟩
  .exact .inl ⟨rfl,by omega,hAP.symm,by omega,h0⟩
  .by_cases h:c-a=0
   .exact .inr (.inl ⟨g,f,rfl,h,by rw[<-hAP];simp only[suA,h,if_true],by omega⟩)
   .exact .inr (.inr ⟨g,f,rfl,h,by rw[<-hAP];simp only[suA,h,if_false],hCP.symm⟩)
 clear HH hcv hby hpa hp hp256 hplen hpb hS hMe d1 d2 hxe h256 hc e2 h1 h2 hAP hA hCP;have HAZ:=Lib.hid (And.intro ha1z (And.intro hz2n (And.intro hcl hn)));have HA3:=Lib.hid hA3;obtain ⟨SU,hSU⟩:∃SU:Nat->Option Addr,(λk=>suA A c k)=SU:=⟨_,rfl⟩;have hno:∀k,SU k=none->c-k=0:=λk hk=>by
  rw[<-hSU]at hk;rcases hA3 with ⟨-,-,-,-,h0⟩ | ⟨g,f,h,-⟩ | ⟨g,f,h,-⟩
  .omega
  .rw[h]at hk;cases hk
  .rw[h]at hk;cases hk
 have HSU:=Lib.hid (And.intro hSU hno);clear hSU hno;clear hw hwl hem han hnr hws hv ha1z hz2n hcl hn;rcases hA3 with ⟨rfl,hcc,rfl,rfl,-⟩ | ⟨g,f,rfl,hcc,rfl,rfl⟩ | ⟨g,f,rfl,hcc,rfl,rfl⟩
 all_goals
  go_enter Tryz.func13,Tryz.ntmps13
  go_wp2_with fail;refine calls_nm λW0 hW0=>?_;have hb0:Below w.heap.size w W0:=by rw[hW0];exact (Below.refl _ _).alloc (Nat.le_refl _) _
  have hK0:bxU u w.heap.size W0:=by rw[hW0];exact heap_alloc_new w _
  have H0:=Lib.hid (And.intro hb0 hK0);clear hW0 hb0 hK0;refine (HWI.out W0).mono ?_;rintro e w1 ⟨rfl,rfl⟩
  go_upto_region 4 with fail
  have hdc:=λd:BelT w1.heap.size w1=>(H0.out.2.later d.property).cells;have hd0:∀d:BelT w1.heap.size w1,d.val.cell? ⟨w.heap.size,7,none⟩=some (.int .i64 u.ck):=λd=>(hdc d).2.1.2.1;have hd1:∀d:BelT w1.heap.size w1,d.val.cell? ⟨w.heap.size,8,none⟩=some (.int .i64 u.en):=λd=>(hdc d).2.1.2.2.1;have hd2:∀d:BelT w1.heap.size w1,w.heap.size<d.val.heap.size:=λd=>(hdc d).2.2;have hd3:=λd:BelT w1.heap.size w1=>HCV.out d.val (H0.out.1.trans (d.property.mono H0.out.1.size));have HA1:=Lib.hid λd:BelT w1.heap.size w1=>HHH.out d.val (H0.out.1.trans (d.property.mono H0.out.1.size));have HA2:=Lib.hid λd:BelT w1.heap.size w1=>HM.out d.val (H0.out.1.trans (d.property.mono H0.out.1.size));clear hdc
  cases hb with
  | false=>
   refine wp_region_below (Below.refl w1.heap.size w1) (by kernel_rfl) (by kernel_rfl) ?_
   repeat (go_big_quiet_step (fail))
   go_big_quiet_step ((go_at_call 28;exact Calls.below_of (Nat.le_refl _) (HA1.out _)))
   repeat (go_big_quiet_step (fail))
   refine wpQuiet_nil ?_;intro w9 hw';have hw9:Below w1.heap.size w1 w9:=by obtain ⟨d9,rfl⟩:=hw';exact d9.property
   have HB9:=Lib.hid (H0.out.1.trans (hw9.mono H0.out.1.size));clear hw' hd0 hd1 hd2 hd3 hw9;go_wp2_with fail;go_ret;exact ⟨rfl,HB9.out⟩
  | true=>
   refine wp_region_below (Below.refl w1.heap.size w1) (by kernel_rfl) (by kernel_rfl) ?_
   repeat (go_big_quiet_step (fail))
   go_big_quiet_step ((go_at_call 28;exact Calls.below_of (Nat.le_refl _) (HA1.out _)))
   repeat (go_big_quiet_step (fail))
   go_big_quiet_step ((go_at_call 29;exact Calls.below_of (Nat.le_refl _) (HA2.out _)))
   repeat (go_big_quiet_step (fail))
   refine wpQuiet_nil ?_;intro w9 hw';have hw9:Below w1.heap.size w1 w9:=by obtain ⟨d9,rfl⟩:=hw';exact d9.property
   have HB9:=Lib.hid (And.intro (H0.out.1.trans (hw9.mono H0.out.1.size)) (H0.out.2.later hw9));clear hw' hd0 hd1 hd2 hd3 hw9;obtain ⟨⟨c0,c1,c2,c3,c4,c5⟩,⟨c6,c7,c8,c9,c10⟩,lb⟩:=HB9.out.2.cells
   cases x with
   | true=>
    go_wp2_with fail;go_ret;exact ⟨rfl,HB9.out.1⟩
   | false=>
   cases em with
   | true=>
    have hn3:u.n3=0:=by rw[HWD.out.1,List.isEmpty_iff.1 HWD.out.2.1];rfl
    have ht:((u.n3:Int) == 0)=true:=by rw[hn3];rfl
    have HN3:=Lib.hid hn3;clear hn3;go_wp2_with fail;go_ret;exact ⟨rfl,HB9.out.1⟩
   | false=>
    have ht:((u.n3:Int) == 0)=false:=by
     rw[HWD.out.1];have hne:ws≠[]:=by intro e;have:=HWD.out.2.1;rw[e]at this;cases this
     have:=List.length_pos_iff.2 hne;simp;omega
    rw[HWD.out.2.2.2.2.1]at c10;obtain ⟨ha1z,hz2n,hlc,hln⟩:=HAZ.out;obtain ⟨N,hN⟩:∃N,min nr n=N:=⟨_,rfl⟩;have hNb:N<=64/\N<=n:=by omega
    have hmn:min (nr:Int) (n:Int)=(N:Int):=by omega
    have HN:=Lib.hid hN;clear hN
    go_upto_region 9 with fail
    obtain ⟨F0,hF0⟩:∃F0,a-N=F0:=⟨_,rfl⟩;obtain ⟨Z2,hZ2⟩:∃Z2,min (z+N) n=Z2:=⟨_,rfl⟩;have hmx:max ((a:Int) - (N:Int)) 0=(F0:Int):=by omega
    have hmz:min ((z:Int)+(N:Int)) (n:Int)=(Z2:Int):=by omega
    have hs1:(F0:Int)<=(a:Int):=by omega
    have hs2:(a:Int)<=(c:Int):=by omega
    have hs3:(z:Int)<=(Z2:Int):=by omega
    have hs4:(Z2:Int)<=(c:Int):=by omega
    have HFZ:=Lib.hid (And.intro hF0 hZ2);obtain ⟨AF,hAF⟩:∃AF,SU F0=AF:=⟨_,rfl⟩;obtain ⟨AZ,hAZ⟩:∃AZ,SU z=AZ:=⟨_,rfl⟩;have hno:(AF=none->c-F0=0)/\(AZ=none->c-z=0):=⟨λh=>HSU.out.2 F0 (hAF.trans h),λh=>HSU.out.2 z (hAZ.trans h)⟩;rw[<-HSU.out.1]at hAF hAZ
    dsimp only at hAF hAZ
    have hFa:=hAF▸suA_by (k:=F0) (z:=a) HWD.out.2.2.2.2.2.2.2.1 HWD.out.2.2.2.2.2.2.2.2.1 (by omega)
    have hZa:=hAZ▸suA_by (k:=z) (z:=Z2) HWD.out.2.2.2.2.2.2.2.1 HWD.out.2.2.2.2.2.2.2.2.1 (by omega)
    have HCF:=Lib.hid (show ∀(W:World) (x y:Nat),Below w9.heap.size w9 W->PwB W x y AF AZ (a-F0) (c-F0) (Z2-z) (c-z)->Calls Tryz.prog 30 #[.slice u.a3 u.n3 u.c3, .func (.func 31) #[] #[.pointer (some ⟨x,0,none⟩), .pointer (some ⟨y,0,none⟩)]] W λe w'=>e = .returned (.bool an)/\Below W.heap.size W w' from λW x y hW hp=>by
     obtain ⟨-,-,han,hst,-,hsz,hvv,-,hln,h256⟩:=HWD.out;have hbw:=HB9.out.1.trans (hW.mono HB9.out.1.size);rw[<-han];refine containsS 31 _ ws (wdF l a z nr) _ W (hst.later hbw) ⟨callPw,λs hs W2 hW2=>?_⟩;unfold wdF;have hbw2:=hbw.trans (hW2.mono hbw.size);have hNe:min nr l.length=N:=by rw[hln];exact HN.out
     rw[hNe];have e1:(l.drop (a-N)).take (min a N)=(l.drop F0).take (a-F0):=by rw[hF0,show min a N=a-F0 by omega]
     have e2:(l.drop z).take (min (l.length-z) N)=(l.drop z).take (Z2-z):=by rw[show min (l.length-z) N=Z2-z by omega]
     rw[e1,e2];exact pword_any x y AF AZ (a-F0) (c-F0) (Z2-z) (c-z) _ _ s W2 (hp.later hW2) (by rw[List.length_take,List.length_drop];omega) (by rw[List.length_take,List.length_drop];omega) (λb hb=>h256 b (List.mem_of_mem_drop (List.mem_of_mem_take hb))) (λb hb=>h256 b (List.mem_of_mem_drop (List.mem_of_mem_take hb))) (hFa.later hbw2) (hZa.later hbw2) hno ⟨by omega,by omega⟩ ⟨by omega,by omega⟩ (hsz s hs) (hvv.later hbw2))
    clear hF0 hZ2 hFa hZa hno hlc hln;by_cases hcF:c-F0=0
    all_goals
     by_cases hcz:c-z=0
     all_goals try (exfalso;omega)
     all_goals
      simp only[suA,hcF,hcz,if_true,if_false]at hAF hAZ
      try simp only[hcF]at HCF
      try simp only[hcz]at HCF
      subst hAF hAZ
      go_region
      all_goals
       go_wp2_with fail;refine calls_nm λW3 hW3=>?_;have hb3:Below w9.heap.size w9 W3:=by rw[hW3];exact (((Below.refl _ _).alloc (Nat.le_refl _) _).alloc (by simp) _).drew
       have HB3:=Lib.hid (HB9.out.1.trans (hb3.mono HB9.out.1.size));refine (HCF.out W3 _ _ hb3 ⟨?h1,?h2⟩).mono ?_
       case h1=>rw[hW3];first | exact (two_new w9 _ _).1 | exact (two_new w9 _ _).2
       case h2=>rw[hW3];first | exact (two_new w9 _ _).1 | exact (two_new w9 _ _).2
       rintro e w5 ⟨rfl,hb5⟩;have HB5:=Lib.hid (HB3.out.trans (hb5.mono HB3.out.size));clear hb3 hb5 hW3;go_wp2_with fail;go_ret;exact ⟨rfl,HB5.out⟩
structure Ask where
 ck:Int
 en:Int
 ws:List ByteArray
 nr:Nat
def psF (l:List Nat) (k:Ask) (a z:Nat):Bool:=pasF l a z (hldP k.ck (bl (partS l a z))) k.en k.ws k.nr
def LessA (k k':Ask):Prop:=(k'.ck=0\/k'.ck=k.ck)/\(k'.en<=k.en\/k'.en<=0)/\(k'.ws=[]\/(k'.nr=k.nr/\k.ws≠[]/\∃t,k'.ws=k.ws++t))
theorem psF_less {l:List Nat} {k k':Ask} {a z:Nat} (h:LessA k k') (hp:psF l k a z=true):psF l k' a z=true:=by
 unfold psF pasF at hp|-;obtain ⟨h1,h2,h3⟩:=h;rw[Bool.and_eq_true,Bool.and_eq_true,Bool.or_eq_true,decide_eq_true_eq]at hp;rw[Bool.and_eq_true,Bool.and_eq_true,Bool.or_eq_true,decide_eq_true_eq];obtain ⟨p1,p2,p3⟩:=hp;refine ⟨?_,?_,?_⟩
 .rcases h1 with h1 | h1
  .rw[h1];rfl
  .rw[h1];exact p1
 .omega
 .rcases h3 with h3 | ⟨e1,e2,t,h3⟩
  .rw[h3];exact .inl rfl
  .rw[e1,h3,List.any_append,Bool.or_eq_true];rcases p3 with p3 | p3
   .exact absurd (List.isEmpty_iff.1 p3) e2
   .exact .inr (.inl p3)
structure PsK (w:World) (u:KC) (k:Ask):Prop where
 ck:u.ck=k.ck
 en:u.en=k.en
 ws:StIn w (.slice u.a3 u.n3 u.c3) k.ws
 nr:u.nr=(k.nr:Int)
 n64:k.nr<=64
 wl:∀s∈k.ws,s.size<=1000000
structure TxI (w:World) (A:Option Addr) (n c:Nat) (l:List Nat):Prop where
 by_:ByIn w (.slice A n c) l
 ad:(A=none/\c=0)\/∃g f,A=some ⟨g,f,none⟩
 len:l.length=n
 small:n<=900000
 bt:∀b∈l,b<256
theorem TxI.later {w w':World} {A:Option Addr} {n c:Nat} {l:List Nat} (h:TxI w A n c l) (hb:Below w.heap.size w w'):TxI w' A n c l:=⟨h.by_.later hb,h.ad,h.len,h.small,h.bt⟩
theorem passesK (u:KC) (k:Ask) (A:Option Addr) (n c a z:Nat) (l:List Nat) (w:World) (ht:TxI w A n c l) (h1:a<=z) (h2:z<=n) (hk:PsK w u k) (hv:VrOK w) :
  Calls Tryz.prog 13 #[.agg #[.string u.nm, .int .i64 u.op, .slice u.a1 u.n1 u.c1, .slice u.a2 u.n2 u.c2, .int .i64 u.mn, .int .i64 u.mx, .bool u.wh, .int .i64 u.ck, .int .i64 u.en, .slice u.a3 u.n3 u.c3, .int .i64 u.nr], .slice A n c, .int .i64 (a:Int), .int .i64 (z:Int)] w λe w'=>e = .returned (.bool (psF l k a z))/\Below w.heap.size w w':=by
 unfold psF;rw[<-hk.ck,<-hk.en];refine passes_any u k.ws k.nr A n c a z l _ w ht.by_ ht.ad ht.len ht.small ht.bt h1 h2 hk.ws hk.nr hk.n64 hk.wl hv λW _=>?_;refine chold_any u.ck (partS l a z) W ?_;unfold partS;rw[size_bs,List.length_map,List.length_take,List.length_drop];have:=ht.small;have:=ht.len;omega
theorem callLw (args:Array Value) (w:World):(callFunc 77 args).run Tryz.prog w = .ok (.enter 77 args) w:=by rfl
theorem wd_any (l:List ByteArray):(l.any λs=>!wdOK s)=!l.all wdOK:=by
 induction l with
 | nil=>rfl
 | cons a r ih=>simp[ih]
theorem set2_kf (b:Nat) (x y:Value) (W:World):KeepF [b] [] W ((W.setCell ⟨b,0,none⟩ x).setCell ⟨b,1,none⟩ y):=by
 have hne:∀k,k∉[b]->k≠b:=λk hn e=>hn (List.mem_singleton.2 e);exact ⟨rfl,rfl,rfl,by simp[World.setCell],λk _ hn=>(Below.heap_setCell (W.setCell ⟨b,0,none⟩ x) ⟨b,1,none⟩ _ k (hne k hn)).trans (Below.heap_setCell W ⟨b,0,none⟩ _ k (hne k hn)),λk hk=>by cases hk⟩
theorem set2_bel {w W:World} (b:Nat) (x y:Value) (hb:Below w.heap.size w W) (h:w.heap.size<=b):Below w.heap.size w ((W.setCell ⟨b,0,none⟩ x).setCell ⟨b,1,none⟩ y):=
 hb.trans ((set2_kf b x y W).below (λk hk=>by rw[List.mem_singleton]at hk;omega) hb.size)
theorem lcOK_x (k:Kn) (n3:Nat) (hn:n3=k.ws.length):LcOK k=(!decide ((shortF k.pat:Int)<1) && (!decide (256<(longF k.pat:Int)) && ((decide (0<=k.ck) && decide (k.ck<=4)) && (!decide (k.en<0) && (!decide (1073741824<k.en) && (!decide (16<(n3:Int)) && (!(k.ws.any λs=>!wdOK s) && (!decide (k.nr<0) && (!decide (64<k.nr) && !(((n3:Int) == 0) && (k.nr != 0))))))))))):=by
 subst hn;unfold LcOK;have e1:decide (1<=shortF k.pat)=!decide ((shortF k.pat:Int)<1):=by rw[Bool.eq_iff_iff];simp;omega
 have e2:decide (longF k.pat<=256)=!decide (256<(longF k.pat:Int)):=by rw[Bool.eq_iff_iff];simp;omega
 have e4:decide (0<=k.en)=!decide (k.en<0):=by rw[Bool.eq_iff_iff];simp
 have e5:decide (k.en<=1073741824)=!decide (1073741824<k.en):=by rw[Bool.eq_iff_iff];simp
 have e6:decide (k.ws.length<=16)=!decide (16<(k.ws.length:Int)):=by rw[Bool.eq_iff_iff];simp;omega
 have e8:decide (0<=k.nr)=!decide (k.nr<0):=by rw[Bool.eq_iff_iff];simp
 have e9:decide (k.nr<=64)=!decide (64<k.nr):=by rw[Bool.eq_iff_iff];simp
 have e10:k.ws.isEmpty=((k.ws.length:Int) == 0):=by cases k.ws with
  | nil=>rfl
  | cons a r=>simp;omega
 have e11:decide (k.nr≠0)=(k.nr != 0):=by rw[Bool.eq_iff_iff];simp
 rw[e1,e2,e4,e5,e6,e8,e9,e10,e11,wd_any,Bool.not_not]
set_option maxHeartbeats 16000000 in
theorem lcompile_any (u:KC) (k:Kn) (w:World) (h:KnIn w u k) (hvr:VrOK w) (hnm:k.nm.size<=140737488355328):Calls Tryz.prog 42 #[.agg #[.string u.nm, .int .i64 u.op, .slice u.a1 u.n1 u.c1, .slice u.a2 u.n2 u.c2, .int .i64 u.mn, .int .i64 u.mx, .bool u.wh, .int .i64 u.ck, .int .i64 u.en, .slice u.a3 u.n3 u.c3, .int .i64 u.nr]] w (LcPost k w):=by
 have HN:=Lib.hid λW=>named7_any u.nm W (by rw[h.nm];exact hnm)
 have HC:=Lib.hid λW (hb:Below w.heap.size w W)=>compile_any k.pat u.pat W (h.later hb).pat (hvr.later hb);have HS:=Lib.hid λW (hb:Below w.heap.size w W) (hv:validF k.pat=0)=>pshort_any k.pat u.pat W (h.later hb).pat hv;have HL:=Lib.hid λW (hb:Below w.heap.size w W) (hv:validF k.pat=0)=>plong_any k.pat u.pat W (h.later hb).pat hv;have HCF:=Lib.hid λW (hb:Below w.heap.size w W)=>containsS 77 #[] k.ws (λs=>!wdOK s) (.slice u.a3 u.n3 u.c3) W (h.later hb).ws ⟨callLw,λs _ w' _=>(lword_any s w').mono λe w'' h=>⟨h.1,h.2▸Below.refl _ _⟩⟩;have HWL:=Lib.hid (And.intro h.wlen (And.intro h.ck (And.intro h.en h.nr)));have hnn:bl u.nm=bl k.nm:=by rw[h.nm]
 rw[hnn]at HN;clear h hvr hnm hnn;obtain ⟨bn,hbn⟩:∃b,nmOK (bl k.nm)=b:=⟨_,rfl⟩;rw[hbn]at HN;have HBN:=Lib.hid hbn;clear hbn
 go_enter Tryz.func42,Tryz.ntmps42
 go_wp2_with fail;refine calls_nm λW0 hW0=>?_;have hb0:Below w.heap.size w W0:=by rw[hW0];exact ((Below.refl _ _).alloc (Nat.le_refl _) _).alloc (by simp) _
 have hK0:bxU u w.heap.size W0:=by rw[hW0];exact (old_alloc _ _ _ (by simp)).trans (heap_alloc_new w _)
 have hR0:W0.heap[w.heap.size+1]?=some (.cells #[.slice none 0 0, .slice none 0 0] 85 (0,0)):=by rw[hW0];simpa using heap_alloc_new (w.alloc (.cells #[.string u.nm, .int .i64 u.op, .slice u.a1 u.n1 u.c1, .slice u.a2 u.n2 u.c2, .int .i64 u.mn, .int .i64 u.mx, .bool u.wh, .int .i64 u.ck, .int .i64 u.en, .slice u.a3 u.n3 u.c3, .int .i64 u.nr] 34)) (.cells #[.slice none 0 0, .slice none 0 0] 85)
 have H0:=Lib.hid (And.intro hb0 (And.intro hK0 hR0));clear hW0 hb0 hK0 hR0;refine (HN.out W0).mono ?_;rintro e w1 ⟨rfl,hb1⟩;have H1:=Lib.hid (And.intro (H0.out.1.trans (hb1.mono H0.out.1.size)) (And.intro (H0.out.2.1.later hb1) ((hb1.block _ (Array.getElem?_eq_some_iff.1 H0.out.2.2).1).trans H0.out.2.2)));clear hb1;obtain ⟨⟨c0,c1,c2,c3,c4,c5⟩,⟨c6,c7,c8,c9,c10⟩,lb⟩:=H1.out.2.1.cells;have hR1:=H1.out.2.2;obtain ⟨r0,r1⟩:w1.cell? ⟨w.heap.size+1,0,none⟩=some (.slice none 0 0)/\w1.cell? ⟨w.heap.size+1,1,none⟩=some (.slice none 0 0):=by constructor <;> (rw[cell_of_row _ _ _ _ _ _ hR1]; rfl)
 have lr:w.heap.size+1<w1.heap.size:=(Array.getElem?_eq_some_iff.1 hR1).1;have fr0:w1.frozen? ⟨w.heap.size+1,0,none⟩=false:=by simp[World.frozen?,hR1]
 have fr1:w1.frozen? ⟨w.heap.size+1,1,none⟩=false:=by simp[World.frozen?,hR1]
 clear hR1
 cases bn with
 | false=>
  go_wp2_with fail;refine post_named λWf hWf=>?_;refine bodyPost_ret (v:=.tuple #[.agg #[.slice none 0 0, .slice none 0 0], .int .i64 4]) (by rw[hWf];simp[results,Tryz.results42,go_sem,lr,r0,r1];try rfl) rfl ?_
  refine ⟨?_,4,⟨[],[]⟩, .inl ⟨HBN.out,rfl⟩, .inl ⟨by decide,rfl⟩⟩
  rw[hWf];exact set2_bel _ _ _ H1.out.1 (by omega)
 | true=>
  clear r0 r1 lr fr0 fr1;go_wp2_with fail;refine (HC.out w1 H1.out.1).mono ?_;rintro e w2 hpost;obtain ⟨hb2,er,m,hcm,hpost⟩:=cm_A hpost;have H2:=Lib.hid (And.intro (H1.out.1.trans (hb2.mono H1.out.1.size)) (And.intro (H1.out.2.1.later hb2) ((hb2.block _ (Array.getElem?_eq_some_iff.1 H1.out.2.2).1).trans H1.out.2.2)));have HCM:=Lib.hid hcm;clear hb2 hcm c0 c1 c2 c3 c4 c5 c6 c7 c8 c9 c10 lb;rcases hpost with ⟨her,rfl⟩ | ⟨rfl,rv,rfl,hup⟩
  .unfold mcNil;have HER:=Lib.hid her;have her0:(er == 0)=false:=by simpa using her
   have her1:(er != 0)=true:=by simpa using her
   have hR2:=H2.out.2.2;obtain ⟨r0,r1⟩:w2.cell? ⟨w.heap.size+1,0,none⟩=some (.slice none 0 0)/\w2.cell? ⟨w.heap.size+1,1,none⟩=some (.slice none 0 0):=by constructor <;> (rw[cell_of_row _ _ _ _ _ _ hR2]; rfl)
   have lr:w.heap.size+1<w2.heap.size:=(Array.getElem?_eq_some_iff.1 hR2).1;have lr2:w.heap.size+1<w2.heap.size+1:=by omega
   have nr:w.heap.size+1≠w2.heap.size:=by omega
   have fr0:w2.frozen? ⟨w.heap.size+1,0,none⟩=false:=by simp[World.frozen?,hR2]
   have fr1:w2.frozen? ⟨w.heap.size+1,1,none⟩=false:=by simp[World.frozen?,hR2]
   clear hR2 her;go_wp2_with fail;refine post_named λWf hWf=>?_;refine bodyPost_ret (v:=.tuple #[.agg #[.slice none 0 0, .slice none 0 0], .int .i64 er]) (by rw[hWf];simp[results,Tryz.results42,go_sem,lr,r0,r1,lr2,nr];try rfl) rfl ?_
   refine ⟨?_,er,m, .inr ⟨HBN.out,er,?_, .inl ⟨HER.out,rfl⟩⟩, .inl ⟨HER.out,rfl⟩⟩
   .rw[hWf];have hq:=set2_bel (w.heap.size+1) (.slice none 0 0) (.slice none 0 0) H2.out.1 (by omega)
    exact hq.trans (((Below.refl _ _).alloc (Nat.le_refl _) _).mono hq.size)
   .exact HCM.out
  .obtain ⟨ve,va,rfl,he,ha⟩:=id hup.mc;obtain ⟨Ae,ce,rfl,-⟩:=he.form;obtain ⟨Aa,ca,rfl,-⟩:=ha.form;obtain ⟨ne,hne⟩:∃x,m.ed.length=x:=⟨_,rfl⟩;obtain ⟨na,hna⟩:∃x,m.ac.length=x:=⟨_,rfl⟩;rw[hne,hna]at hup|-;have HU:=Lib.hid hup;clear hup he ha hne hna;obtain ⟨⟨c0,c1,c2,c3,c4,c5⟩,⟨c6,c7,c8,c9,c10⟩,lb⟩:=H2.out.2.1.cells;have lb2:w.heap.size<w2.heap.size+1:=by omega
   have nb:w.heap.size≠w2.heap.size:=by omega
   have hvz:=HCM.out.good.2
   go_upto_region 7 with fail
   refine wp_nm λW3 hW3=>?_;have hb3:Below w2.heap.size w2 W3:=by rw[hW3];exact (Below.refl _ _).alloc (Nat.le_refl _) _
   have hM3:W3.heap[w2.heap.size]?=some (.cells #[.slice Ae ne ce, .slice Aa na ca] 85 (0,0)):=by rw[hW3];exact heap_alloc_new w2 _
   have HM3:=Lib.hid hM3;have HD3:=Lib.hid hb3;have H3:=Lib.hid (And.intro (H2.out.1.trans (hb3.mono H2.out.1.size)) (And.intro (H2.out.2.1.later hb3) ((hb3.block _ (Array.getElem?_eq_some_iff.1 H2.out.2.2).1).trans H2.out.2.2)));clear hb3 hW3 hM3 c0 c1 c2 c3 c4 c5 c6 c7 c8 c9 c10 lb lb2 nb
   go_cut [80] from 7 to 83 (λv wx=>v = .bool (!LcOK k)/\Below W3.heap.size W3 wx)
   case first=>
    have hlc:=lcOK_x k u.n3 HWL.out.1.1;obtain ⟨x1,hx1⟩:∃x,decide ((shortF k.pat:Int)<1)=x:=⟨_,rfl⟩;obtain ⟨x2,hx2⟩:∃x,decide (256<(longF k.pat:Int))=x:=⟨_,rfl⟩;obtain ⟨x3,hx3⟩:∃x,(decide (0<=k.ck) && decide (k.ck<=4))=x:=⟨_,rfl⟩;obtain ⟨x4,hx4⟩:∃x,decide (k.en<0)=x:=⟨_,rfl⟩;obtain ⟨x5,hx5⟩:∃x,decide (1073741824<k.en)=x:=⟨_,rfl⟩;obtain ⟨x6,hx6⟩:∃x,decide (16<(u.n3:Int))=x:=⟨_,rfl⟩;obtain ⟨x7,hx7⟩:∃x,(k.ws.any λs=>!wdOK s)=x:=⟨_,rfl⟩;obtain ⟨x8,hx8⟩:∃x,decide (k.nr<0)=x:=⟨_,rfl⟩;obtain ⟨x9,hx9⟩:∃x,decide (64<k.nr)=x:=⟨_,rfl⟩;obtain ⟨x10,hx10⟩:∃x,((u.n3:Int) == 0)=x:=⟨_,rfl⟩;obtain ⟨x11,hx11⟩:∃x,(k.nr != 0)=x:=⟨_,rfl⟩;rw[hx1,hx2,hx3,hx4,hx5,hx6,hx7,hx8,hx9,hx10,hx11]at hlc;have HLC:=Lib.hid hlc;have hx3':(decide (0<=u.ck) && decide (u.ck<=4))=x3:=by rw[HWL.out.2.1];exact hx3
    have HCV:=Lib.hid λW=>by have h:=chkvalid_any u.ck W;rw[hx3']at h;exact h
    rw[hx7]at HCF;rw[<-HWL.out.2.2.1]at hx4 hx5;rw[<-HWL.out.2.2.2]at hx8 hx9 hx11;clear hlc hx3 hx3' hx7;have HKc:=Lib.hid λW (hb:Below W3.heap.size W3 W)=>(H3.out.2.1.later hb).cells;have HBW:=Lib.hid λW (hb:Below W3.heap.size W3 W)=>H3.out.1.trans (hb.mono H3.out.1.size);obtain ⟨⟨c0,c1,c2,c3,c4,c5⟩,⟨c6,c7,c8,c9,c10⟩,lb⟩:=H3.out.2.1.cells;go_wp2_with fail;refine (HS.out W3 H3.out.1 hvz).mono ?_;rintro e w4 ⟨rfl,hb4⟩;clear c0 c1 c2 c3 c4 c5 c6 c7 c8 c9 c10 lb
    cases x1 with
    | true=>
     go_wp2_with fail
     go_meet
     exact ⟨by rw[HLC.out];rfl,hb4⟩
    | false=>
    obtain ⟨⟨c0,c1,c2,c3,c4,c5⟩,⟨c6,c7,c8,c9,c10⟩,lb⟩:=HKc.out w4 hb4;go_wp2_with fail;refine (HL.out w4 (HBW.out w4 hb4) hvz).mono ?_;rintro e w5 ⟨rfl,hb5'⟩;have hb5:=hb4.trans (hb5'.mono hb4.size);clear c0 c1 c2 c3 c4 c5 c6 c7 c8 c9 c10 lb hb5' hb4
    cases x2 with
    | true=>
     go_wp2_with fail
     go_meet
     exact ⟨by rw[HLC.out];rfl,hb5⟩
    | false=>
    obtain ⟨⟨c0,c1,c2,c3,c4,c5⟩,⟨c6,c7,c8,c9,c10⟩,lb⟩:=HKc.out w5 hb5;go_wp2_with fail;refine (HCV.out w5).mono ?_;rintro e w6 ⟨rfl,rfl⟩
    cases x3 with
    | false=>
     go_wp2_with fail
     go_meet
     exact ⟨by rw[HLC.out];rfl,hb5⟩
    | true=>
    cases x4 with
    | true=>
     go_wp2_with fail
     go_meet
     exact ⟨by rw[HLC.out];rfl,hb5⟩
    | false=>
    cases x5 with
    | true=>
     go_wp2_with fail
     go_meet
     exact ⟨by rw[HLC.out];rfl,hb5⟩
    | false=>
    cases x6 with
    | true=>
     go_wp2_with fail
     go_meet
     exact ⟨by rw[HLC.out];rfl,hb5⟩
    | false=>
    go_wp2_with fail;refine (HCF.out w6 (HBW.out w6 hb5)).mono ?_;rintro e w7 ⟨rfl,hb7'⟩;have hb7:=hb5.trans (hb7'.mono hb5.size);clear c0 c1 c2 c3 c4 c5 c6 c7 c8 c9 c10 lb hb7' hb5;obtain ⟨⟨c0,c1,c2,c3,c4,c5⟩,⟨c6,c7,c8,c9,c10⟩,lb⟩:=HKc.out w7 hb7
    cases x7 with
    | true=>
     go_wp2_with fail
     go_meet
     exact ⟨by rw[HLC.out];rfl,hb7⟩
    | false=>
    cases x8 with
    | true=>
     go_wp2_with fail
     go_meet
     exact ⟨by rw[HLC.out];rfl,hb7⟩
    | false=>
    cases x9 with
    | true=>
     go_wp2_with fail
     go_meet
     exact ⟨by rw[HLC.out];rfl,hb7⟩
    | false=>
    cases x10 with
    | false=>
     go_wp2_with fail
     go_meet
     exact ⟨by rw[HLC.out];rfl,hb7⟩
    | true=>
    cases x11 with
    | false=>
     go_wp2_with fail
     go_meet
     exact ⟨by rw[HLC.out];rfl,hb7⟩
    | true=>
     go_wp2_with fail
     go_meet
     exact ⟨by rw[HLC.out];rfl,hb7⟩
   case rest=>
    obtain ⟨rfl,hbx⟩:=hcut;obtain ⟨w7,hw7⟩:∃V:World,V=wc:=⟨_,rfl⟩;rw[<-hw7]at hbx|-;clear hw7;have H5:=Lib.hid (And.intro (H3.out.1.trans (hbx.mono H3.out.1.size)) ((hbx.block _ (Array.getElem?_eq_some_iff.1 H3.out.2.2).1).trans H3.out.2.2));have HM5:=Lib.hid ((hbx.block _ (Array.getElem?_eq_some_iff.1 HM3.out).1).trans HM3.out);have HD5:=Lib.hid (HD3.out.trans (hbx.mono HD3.out.size));obtain ⟨m0,m1⟩:w7.cell? ⟨w2.heap.size,0,none⟩=some (.slice Ae ne ce)/\w7.cell? ⟨w2.heap.size,1,none⟩=some (.slice Aa na ca):=by constructor <;> (rw[cell_of_row _ _ _ _ _ _ HM5.out]; rfl)
    have lm:w2.heap.size<w7.heap.size:=(Array.getElem?_eq_some_iff.1 HM5.out).1;have hR7:=H5.out.2;obtain ⟨r0,r1⟩:w7.cell? ⟨w.heap.size+1,0,none⟩=some (.slice none 0 0)/\w7.cell? ⟨w.heap.size+1,1,none⟩=some (.slice none 0 0):=by constructor <;> (rw[cell_of_row _ _ _ _ _ _ hR7]; rfl)
    have lr:w.heap.size+1<w7.heap.size:=(Array.getElem?_eq_some_iff.1 hR7).1;have fr0:w7.frozen? ⟨w.heap.size+1,0,none⟩=false:=by simp[World.frozen?,hR7]
    have fr1:w7.frozen? ⟨w.heap.size+1,1,none⟩=false:=by simp[World.frozen?,hR7]
    obtain ⟨q,hq⟩:∃q,LcOK k=q:=⟨_,rfl⟩;rw[hq];have HQ:=Lib.hid hq;clear hR7 hq hbx
    apply_assumption
    cases q with
    | false=>
     go_wp2_with fail;refine post_named λWf hWf=>?_;refine bodyPost_ret (v:=.tuple #[.agg #[.slice none 0 0, .slice none 0 0], .int .i64 2]) (by rw[hWf];simp[results,Tryz.results42,go_sem,r0,r1,lr];try rfl) rfl ?_
     refine ⟨?_,2,m, .inr ⟨HBN.out,0,HCM.out, .inr ⟨rfl,by rw[HQ.out];rfl⟩⟩, .inl ⟨by decide,rfl⟩⟩
     rw[hWf];exact set2_bel _ _ _ H5.out.1 (by omega)
    | true=>
     go_wp2_with fail;refine post_named λWf hWf=>?_;refine bodyPost_ret (v:=.tuple #[.agg #[.slice Ae ne ce, .slice Aa na ca], .int .i64 0]) (by rw[hWf];simp[results,Tryz.results42,go_sem,r0,r1,lr];try rfl) rfl ?_
     have hkl:KeepF [w.heap.size+1] [] w7 Wf:=by rw[hWf];exact set2_kf _ _ _ _
     have hz1:=(Array.getElem?_eq_some_iff.1 H1.out.2.2).1;refine ⟨?_,0,m, .inr ⟨HBN.out,0,HCM.out, .inr ⟨rfl,by rw[HQ.out];rfl⟩⟩, .inr ⟨rfl,_,rfl,((HU.out.later HD5.out).keep hkl (λk hk=>by rw[List.mem_singleton]at hk;omega)).mono H1.out.1.size⟩⟩
     rw[hWf];exact set2_bel _ _ _ H5.out.1 (by omega)
structure M2 where
 a1:Option Addr
 n1:Nat
 c1:Nat
 a2:Option Addr
 n2:Nat
 c2:Nat
def M2.val (x:M2):Value:=.agg #[.slice x.a1 x.n1 x.c1, .slice x.a2 x.n2 x.c2]
def encM2 (x:M2):List Value:=[.slice x.a1 x.n1 x.c1, .slice x.a2 x.n2 x.c2]
theorem encM2_E:EncS encM2 2:=⟨by decide,λ_=>rfl,λx u hu=>by
 simp only[encM2,List.mem_cons,List.not_mem_nil,or_false]at hu;rcases hu with rfl | rfl <;> rfl⟩
def McBt (B H:Nat) (w:World) (v:Value) (m:Mc):Prop:=∀W:World,(W.os=w.os/\W.tape=w.tape/\W.output=w.output)->w.heap.size<=W.heap.size->(∀k,B<=k->k<H->W.heap[k]?=w.heap[k]?)->McIn W v m
theorem McUp.bt {B:Nat} {w:World} {v:Value} {m:Mc} (h:McUp B w v m):McBt B w.heap.size w v m:=λW ho hs hk=>h W ⟨ho.1,ho.2.1,ho.2.2,hs,λk h1 hn=>hk k (by simpa using hn) h1,λk hk=>by cases hk⟩
theorem McBt.to {B H:Nat} {w w':World} {v:Value} {m:Mc} (h:McBt B H w v m) (ho:w'.os=w.os/\w'.tape=w.tape/\w'.output=w.output) (hs:w.heap.size<=w'.heap.size) (hk:∀k,B<=k->k<H->w'.heap[k]?=w.heap[k]?):McBt B H w' v m:=λW ho2 hs2 hk2=>
 h W ⟨ho2.1.trans ho.1,ho2.2.1.trans ho.2.1,ho2.2.2.trans ho.2.2⟩ (Nat.le_trans hs hs2) λk h1 h2=>(hk2 k h1 h2).trans (hk k h1 h2)
theorem McBt.mc {B H:Nat} {w:World} {v:Value} {m:Mc} (h:McBt B H w v m):McIn w v m:=h w ⟨rfl,rfl,rfl⟩ (Nat.le_refl _) λ_ _ _=>rfl
def MsOK (w:World) (v:Value) (os:List M2) (ms:List Mc):Prop:=os.length=ms.length/\∀j (h1:j<os.length) (h2:j<ms.length),∃B H,McBt B H w os[j].val ms[j]/\H<=w.heap.size/\∀g,v.ownBlock=some g->g<B\/H<=g
theorem MsOK.nil_ (w:World) (v:Value):MsOK w v [] []:=⟨rfl,λj h1=>by cases h1⟩
theorem MsOK.later {w w':World} {v:Value} {os:List M2} {ms:List Mc} (h:MsOK w v os ms) (hb:Below w.heap.size w w'):MsOK w' v os ms:=by
 refine ⟨h.1,λj h1 h2=>?_⟩;obtain ⟨B,H,q1,q2,q3⟩:=h.2 j h1 h2;exact ⟨B,H,q1.to ⟨hb.os,hb.tape,hb.output⟩ hb.size λk _ hk=>hb.block k (by omega),Nat.le_trans q2 hb.size,q3⟩
theorem MsOK.app {w1 w2 w3 w4:World} {v v':Value} {os:List M2} {ms:List Mc} {x:M2} {m:Mc} {N:Nat} (h:MsOK w1 v os ms) (hup:McUp N w2 x.val m) (hN:w1.heap.size<=N) (hb12:Below w1.heap.size w1 w2) (hb23:Below w2.heap.size w2 w3) (hg:w3.grownBy w4 v.ownBlock) (hv:∀g,v.ownBlock=some g->g<w1.heap.size) (hf:v'.ownBlock=v.ownBlock\/∃g,v'.ownBlock=some g/\w3.heap.size<=g):MsOK w4 v' (os++[x]) (ms++[m]):=by
 have hb13:Below w1.heap.size w1 w3:=hb12.trans (hb23.mono hb12.size);have h13:=h.later hb13;refine ⟨by simp[h.1],λj h1 h2=>?_⟩
 have s4:=hg.size;by_cases hj:j<os.length
 .have hj2:j<ms.length:=by have:=h.1;omega
  rw[List.getElem_append_left hj,List.getElem_append_left hj2];obtain ⟨B,H,q1,q2,q3⟩:=h13.2 j hj hj2;refine ⟨B,H,q1.to ⟨hg.os,hg.tape,hg.output⟩ s4 λk hk1 hk2=>hg.block k (by omega) (λe=>by rcases q3 k e.symm with h | h <;> omega),by omega,λg e=>?_⟩
  rcases hf with hf | ⟨g',hf,hg'⟩
  .exact q3 g (hf▸e)
  .rw[hf]at e;injection e with e;omega
 .have hj':j=os.length:=by simp at h1;omega
  subst hj';rw[List.getElem_append_right (Nat.le_refl _),List.getElem_append_right (by have:=h.1;omega)]
  simp only[Nat.sub_self,h.1,List.getElem_cons_zero];have hbt:=hup.bt.to ⟨hb23.os,hb23.tape,hb23.output⟩ hb23.size λk _ hk=>hb23.block k hk;have s23:=hb23.size;refine ⟨N,w2.heap.size,hbt.to ⟨hg.os,hg.tape,hg.output⟩ s4 λk hk1 hk2=>hg.block k (by omega) (λe=>by have:=hv k e.symm;omega),by omega,λg e=>?_⟩
  rcases hf with hf | ⟨g',hf,hg'⟩
  .left;have:=hv g (hf▸e);omega
  .rw[hf]at e;injection e with e;omega
def dupF (l:List Kn):Bool:=(List.range l.length).any λi=>(l.take i).any λo=>decide (some o.nm=(l[i]?).map Kn.nm)
def LaA (ks:List Kn) (er:Int) (ms:List Mc):Prop:=
 ((ks.length<1\/32<ks.length)/\er=3)\/
 ((1<=ks.length/\ks.length<=32)/\((∃i,∃h:i<ks.length,(∀j (hj:j<i),∃m,LcA (ks[j]'(by omega)) 0 m)/\(∃m,LcA ks[i] er m)/\er≠0)\/
  (ms.length=ks.length/\(∀i (h1:i<ks.length) (h2:i<ms.length),LcA ks[i] 0 ms[i])/\er=if dupF ks then 7 else 0)))
def LaPost (ks:List Kn) (w:World) (e:Ending) (w':World):Prop:=Below w.heap.size w w'/\∃er ms,LaA ks er ms/\((er≠0/\e = .returned (.tuple #[.slice none 0 0, .int .i64 er]))\/
 (er=0/\∃v os,e = .returned (.tuple #[v, .int .i64 0])/\OR 85 2 encM2 w.heap.size v os w'/\os.length=ks.length/\∀i (h1:i<os.length) (h2:i<ms.length),McIn w' os[i].val ms[i]))
theorem info_mach:(Tryz.prog.info? 85).map (λi=>(i.zero,i.size,i.bytes))=some (some (.agg #[.slice none 0 0, .slice none 0 0]),2,48):=by kernel_rfl
theorem kc_cells {w:World} {g f i:Nat} {u:KC} (h:∀j,j<11->w.cell? ⟨g,f+i*11+j,none⟩=u.cs[j]?):(w.cell? ⟨g,f+i*11,none⟩=some (.string u.nm)/\w.cell? ⟨g,f+i*11+1,none⟩=some (.int .i64 u.op)/\w.cell? ⟨g,f+i*11+2,none⟩=some (.slice u.a1 u.n1 u.c1)/\w.cell? ⟨g,f+i*11+3,none⟩=some (.slice u.a2 u.n2 u.c2)/\w.cell? ⟨g,f+i*11+4,none⟩=some (.int .i64 u.mn)/\w.cell? ⟨g,f+i*11+5,none⟩=some (.int .i64 u.mx))/\(w.cell? ⟨g,f+i*11+6,none⟩=some (.bool u.wh)/\w.cell? ⟨g,f+i*11+7,none⟩=some (.int .i64 u.ck)/\w.cell? ⟨g,f+i*11+8,none⟩=some (.int .i64 u.en)/\w.cell? ⟨g,f+i*11+9,none⟩=some (.slice u.a3 u.n3 u.c3)/\w.cell? ⟨g,f+i*11+10,none⟩=some (.int .i64 u.nr)):=
 ⟨⟨h 0 (by decide),h 1 (by decide),h 2 (by decide),h 3 (by decide),h 4 (by decide),h 5 (by decide)⟩,h 6 (by decide),h 7 (by decide),h 8 (by decide),h 9 (by decide),h 10 (by decide)⟩
theorem lsame_any (o:KC) (b:Nat) (s:ByteArray) (w:World) (h:w.cell? ⟨b,0,none⟩=some (.string s)):Calls Tryz.prog 44 #[.agg #[.string o.nm, .int .i64 o.op, .slice o.a1 o.n1 o.c1, .slice o.a2 o.n2 o.c2, .int .i64 o.mn, .int .i64 o.mx, .bool o.wh, .int .i64 o.ck, .int .i64 o.en, .slice o.a3 o.n3 o.c3, .int .i64 o.nr], .pointer (some ⟨b,0,none⟩)] w λe w'=>e = .returned (.bool (decide (o.nm=s)))/\Below w.heap.size w w':=by
 have hb:=World.block_lt_of_cell? w _ h;have hb1:b<w.heap.size+1:=by have:b<w.heap.size:=hb;omega
 have hb2:b≠w.heap.size:=by have:b<w.heap.size:=hb;omega
 have hb3:b<w.heap.size:=hb
 go_enter Tryz.func44,Tryz.ntmps44
 go_wp2_with fail;go_ret;refine ⟨ret_bool ?_,(Below.refl _ _).alloc (Nat.le_refl _) _⟩;rw[Bool.eq_iff_iff,beq_iff_eq,decide_eq_true_eq,toList_bl,toList_bl];exact ⟨λh=>bl_inj h,λh=>by rw[h]⟩
theorem callLa (args:Array Value) (w:World):(callFunc 44 args).run Tryz.prog w = .ok (.enter 44 args) w:=by rfl
set_option maxHeartbeats 16000000 in
theorem lall_any (A:Option Addr) (n c:Nat) (us:List KC) (ks:List Kn) (w:World) (h:KnsIn w (.slice A n c) us ks) (hvr:VrOK w) (hnm:∀k∈ks,k.nm.size<=140737488355328):Calls Tryz.prog 20 #[.slice A n c] w (LaPost ks w):=by
 obtain ⟨hl,A',c',e0,hc,hor,hkn⟩:=id h;injection e0 with e1 e2 e3;subst e1 e2 e3;obtain ⟨n,hn⟩:∃n,us.length=n:=⟨_,rfl⟩;have hkl:ks.length=n:=by omega
 rw[hn]at hc|-;have HC:=Lib.hid λ(i:Nat) (h1:i<n) (h2:i<us.length) (h3:i<ks.length) (W:World) (hb:Below w.heap.size w W)=>lcompile_any us[i] ks[i] W ((hkn i h2 h3).later hb) (hvr.later hb) (hnm _ (List.getElem_mem h3));have HO:=Lib.hid hor;have HN:=Lib.hid (And.intro hn (And.intro hkl hc));have HNE:=Lib.hid λ(i:Nat) (h2:i<us.length) (h3:i<ks.length)=>(hkn i h2 h3).nm;clear h hvr hnm hl hc hor hkn hn hkl;by_cases h1:n<1
 .have d1:decide ((n:Int)<1)=true:=decide_eq_true (by omega)
  go_enter Tryz.func20,Tryz.ntmps20
  go_wp2_with fail
  go_ret2
  exact ⟨Below.refl _ _,3,[], .inl ⟨.inl (by have:=HN.out.2.1;omega),rfl⟩, .inl ⟨by decide,rfl⟩⟩
 have d1:decide ((n:Int)<1)=false:=decide_eq_false (by omega)
 by_cases h2:32<n
 .have d2:decide (32<(n:Int))=true:=decide_eq_true (by omega)
  go_enter Tryz.func20,Tryz.ntmps20
  go_wp2_with fail
  go_ret2
  exact ⟨Below.refl _ _,3,[], .inl ⟨.inr (by have:=HN.out.2.1;omega),rfl⟩, .inl ⟨by decide,rfl⟩⟩
 have d2:decide (32<(n:Int))=false:=decide_eq_false (by omega)
 go_enter Tryz.func20,Tryz.ntmps20
 go_wp2_with fail
 go_loopw [4,21] (λv i wr=>∃(k:Nat) (os:List M2) (ms:List Mc),k<=n/\i = .int .i64 (k:Int)/\OR 85 2 encM2 w.heap.size v os wr/\os.length=k/\Hid (MsOK wr v os ms/\∀j (h1:j<ks.length) (h2:j<ms.length),LcA ks[j] 0 ms[j])/\Below w.heap.size w wr) (λ_ i _=>n - (intOf i).toNat)
 case atStart=>exact ⟨0,[],[],by omega,rfl,OR.nil_ _ _ _,rfl,⟨MsOK.nil_ _ _,λj _ h2=>by cases h2⟩,Below.refl _ _⟩
 case round=>
  obtain ⟨k,os,ms,hk,rfl,hown,hol,HI,hbw⟩:=hrel;by_cases hlt:k<n
  .have hd:decide ((k:Int)<(n:Int))=true:=decide_eq_true (by omega)
   have hdn:decide (k<n)=true:=decide_eq_true hlt;have hku:k<us.length:=by have:=HN.out.1;omega
   have hkk:k<ks.length:=by have:=HN.out.2.1;omega
   obtain ⟨g,f,rfl,hg,hcl⟩:=HO.out.resolve_left (by rintro rfl;cases hku)
   obtain ⟨u,hu⟩:∃u,us[k]=u:=⟨_,rfl⟩;have hcl':=λj hj=>(hbw.cell (p:=⟨g,f+k*11+j,none⟩) hg).trans (hcl k hku j hj);have CC:=Lib.hid (HC.out k hlt hku hkk);rw[hu]at hcl' CC;obtain ⟨⟨q0,q1,q2,q3,q4,q5⟩,q6,q7,q8,q9,q10⟩:=kc_cells hcl';have hgr:g<wr.heap.size:=Nat.lt_of_lt_of_le hg hbw.size;have H1:=Lib.hid (And.intro hown (And.intro hol hbw));clear hown hol hbw hcl hcl' hu;go_wp2_with fail;refine calls_nm λW0 hW0=>?_;have hb0:Below wr.heap.size wr W0:=by rw[hW0];exact (Below.refl _ _).alloc (Nat.le_refl _) _
   have HB0:=Lib.hid hb0;clear hW0 hb0 q0 q1 q2 q3 q4 q5 q6 q7 q8 q9 q10 hgr;refine (CC.out W0 (H1.out.2.2.trans (HB0.out.mono H1.out.2.2.size))).mono ?_;rintro e w1 ⟨hb1,er,m,hlc,hpost⟩;have HL:=Lib.hid hlc;have HB1:=Lib.hid hb1;clear hlc hb1;rcases hpost with ⟨her,rfl⟩ | ⟨rfl,rv,rfl,hup⟩
   .unfold mcNil;have HER:=Lib.hid her;have her0:(er == 0)=false:=by simpa using her
    have her1:(er != 0)=true:=by simpa using her
    clear her;go_wp2_with fail
    go_ret2
    refine ⟨H1.out.2.2.trans (((HB0.out.trans (HB1.out.mono HB0.out.size)).trans (((Below.refl _ _).alloc (Nat.le_refl _) _).mono (Nat.le_trans HB0.out.size HB1.out.size))).mono H1.out.2.2.size),er,[], .inr ⟨⟨by have:=HN.out.2.1;omega,by have:=HN.out.2.1;omega⟩, .inl ⟨k,by have:=HN.out.2.1;omega,λj hj=>?_,⟨m,HL.out⟩,HER.out⟩⟩, .inl ⟨HER.out,rfl⟩⟩
    have hj2:j<ms.length:=by have:=HI.out.1.1;have:=H1.out.2.1;omega
    exact ⟨ms[j],HI.out.2 j (by have:=HN.out.2.1;omega) hj2⟩
   .obtain ⟨ve,va,rfl,he,ha⟩:=id hup.mc;obtain ⟨Ae,ce,rfl,-⟩:=he.form;obtain ⟨Aa,ca,rfl,-⟩:=ha.form;obtain ⟨ne,hne⟩:∃x,m.ed.length=x:=⟨_,rfl⟩;obtain ⟨na,hna⟩:∃x,m.ac.length=x:=⟨_,rfl⟩;rw[hne,hna]at hup|-;have HU:=Lib.hid hup;clear hup he ha hne hna;obtain ⟨im,him,hk0,hk1,hk2⟩:=info_parts info_mach
    go_upto_region 10 with fail
    refine wp_nm λW2 hW2=>?_;have hb2:Below w1.heap.size w1 W2:=by rw[hW2];exact (Below.refl _ _).alloc (Nat.le_refl _) _
    have hM2:W2.heap[w1.heap.size]?=some (.cells #[.slice Ae ne ce, .slice Aa na ca] 85 (0,0)):=by rw[hW2];exact heap_alloc_new w1 _
    have hb02:Below wr.heap.size wr W2:=(HB0.out.trans (HB1.out.mono HB0.out.size)).trans (hb2.mono (Nat.le_trans HB0.out.size HB1.out.size));have m0:W2.cell? ⟨w1.heap.size,0,none⟩=some (.slice Ae ne ce):=by rw[cell_of_row _ _ _ _ _ _ hM2];rfl
    have m1:W2.cell? ⟨w1.heap.size,1,none⟩=some (.slice Aa na ca):=by rw[cell_of_row _ _ _ _ _ _ hM2];rfl
    have lm:w1.heap.size<W2.heap.size:=(Array.getElem?_eq_some_iff.1 hM2).1;have hown2:=World.ownsRow.alloc (own_later (show wr.ownsRow _ _ _ _ _ _ from H1.out.1) hb02) (.cells #[.slice Ae ne ce, .slice Aa na ca] 85);have hcx:∀j x,[Value.slice Ae ne ce, .slice Aa na ca][j]?=some x->(W2.alloc (.cells #[.slice Ae ne ce, .slice Aa na ca] 85)).cell? ((⟨W2.heap.size,0,none⟩:Addr).add j)=some x:=by
     intro j x hj;rw[Addr.add_lit,Nat.zero_add,World.cell?_alloc_mark];simpa using hj
    have hol:=H1.out.2.1;have hbz:w.heap.size<=(W2.alloc (.cells #[.slice Ae ne ce, .slice Aa na ca] 85)).heap.size:=by have h1:=H1.out.2.2.size;have h2:=hb02.size;simp;omega
    have HB2:=Lib.hid (And.intro hb2 hb02);clear hW2 hb2 hM2 hb02;go_wp2_with (at_builtin; refine appI_at rfl _ _ 53 rfl w.heap.size 85 im _ 2 48 Tryz.underlying53 him hk0 hk1 hk2 rfl (by decide) _ os.length (rowF encM2 os) rfl hown2 ⟨W2.heap.size,0,none⟩ 1 1 [.slice Ae ne ce, .slice Aa na ca] rfl rfl hcx (by intro u hu; simp only[List.mem_cons,List.not_mem_nil,or_false]at hu; rcases hu with rfl | rfl <;> rfl) (by unfold maxLen; omega) (by omega) hbz ?_)
    intro v4 w4 hown4 hg4 hf4;have hms:=MsOK.app (x:=⟨Ae,ne,ce,Aa,na,ca⟩) (m:=m) (w3:=W2.alloc (.cells #[.slice Ae ne ce, .slice Aa na ca] 85)) (w4:=w4) (v':=v4) HI.out.1 HU.out HB0.out.size (HB0.out.trans (HB1.out.mono HB0.out.size)) (HB2.out.1.trans (((Below.refl _ _).alloc (Nat.le_refl _) _).mono HB2.out.1.size)) hg4 (λg hg=>((show wr.ownsRow _ _ _ _ _ _ from H1.out.1).lt g hg).2) (by simpa using hf4)
    have hOR:OR 85 2 encM2 w.heap.size v4 (os++[⟨Ae,ne,ce,Aa,na,ca⟩]) w4:=by
     show w4.ownsRow _ _ _ _ (os++[_]).length (rowF encM2 (os++[_]));rw[rowF_app,rowF_single,List.length_append,hol];exact hown4
    have hbw4:Below w.heap.size w w4:=H1.out.2.2.trans ((HB2.out.2.trans (((Below.refl _ _).alloc (Nat.le_refl _) _).mono HB2.out.2.size)).mono H1.out.2.2.size |>.trans ((Below.refl _ _).grown hg4 (by simpa using hbz) (λg hg=>((show wr.ownsRow _ _ _ _ _ _ from H1.out.1).lt g hg).1)))
    have hlc:∀j (h1:j<ks.length) (h2:j<(ms++[m]).length),LcA ks[j] 0 (ms++[m])[j]:=λj h1 h2=>by
     by_cases hj:j<ms.length
     .rw[List.getElem_append_left hj];exact HI.out.2 j h1 hj
     .have hmk:ms.length=k:=by have:=HI.out.1.1;omega
      have hjk:j=k:=by simp at h2;omega
      subst hjk;rw[List.getElem_append_right (by omega)]
      simp only[hmk,Nat.sub_self,List.getElem_cons_zero];exact HL.out
    have H4:=Lib.hid (And.intro hOR (And.intro (And.intro hms hlc) hbw4));have hol4:(os++[(⟨Ae,ne,ce,Aa,na,ca⟩:M2)]).length=k+1:=by simp[hol]
    clear hms hOR hbw4 hlc hown4 hg4 hf4 hown2 hcx hbz m0 m1 lm;go_wp2_with fail;go_roundw
    case rel=>exact ⟨k+1,_,_,by omega,by go_num,H4.out.1,hol4,H4.out.2.1,H4.out.2.2⟩
    case measure=>simp[intOf];omega
  .obtain rfl:k=n:=by omega
   have hd:decide ((k:Int)<(k:Int))=false:=decide_eq_false (by omega)
   have hdn:decide (k<k)=false:=decide_eq_false (by omega)
   obtain ⟨A2,c2,rfl,-,-⟩:=own_form (show wr.ownsRow _ _ _ _ _ _ from hown);rw[hol];have H1:=Lib.hid (And.intro hown (And.intro hol hbw));obtain ⟨W1,hW1⟩:∃V:World,V=wr:=⟨_,rfl⟩;rw[<-hW1]at H1 HI|-;clear hown hbw hol hW1;go_wp2_with fail
   go_loopw [40] (λi wr=>∃j:Nat,j<=k/\i = .int .i64 (j:Int)/\Hid (∀i,i<j->(ks.take i).any (λo=>decide (some o.nm=(ks[i]?).map Kn.nm))=false)/\Below W1.heap.size W1 wr) (λi _=>k - (intOf i).toNat)
   case atStart=>exact ⟨0,by omega,rfl,λi hi=>absurd hi (Nat.not_lt_zero i),Below.refl _ _⟩
   case round=>
    obtain ⟨j,hj,rfl,HJ,hbj⟩:=hrel;by_cases hlt2:j<k
    .have hd2:decide ((j:Int)<(k:Int))=true:=decide_eq_true (by omega)
     have hdn2:decide (j<k)=true:=decide_eq_true hlt2;have hku:j<us.length:=by have:=HN.out.1;omega
     have hkk:j<ks.length:=by have:=HN.out.2.1;omega
     obtain ⟨g,f,rfl,hg,hcl⟩:=HO.out.resolve_left (by rintro rfl;cases hku)
     obtain ⟨u,hu⟩:∃u,us[j]=u:=⟨_,rfl⟩;have hbw:=H1.out.2.2.trans (hbj.mono H1.out.2.2.size);have hcl':=λj' hj'=>(hbw.cell (p:=⟨g,f+j*11+j',none⟩) hg).trans (hcl j hku j' hj');rw[hu]at hcl';obtain ⟨⟨q0,q1,q2,q3,q4,q5⟩,q6,q7,q8,q9,q10⟩:=kc_cells hcl';have hgr:g<wr.heap.size:=Nat.lt_of_lt_of_le hg hbw.size;have hjc:(j:Int)<=(c:Int):=by have:=HN.out.2.2.1;omega
     have hjcn:j<=c:=by have:=HN.out.2.2.1;omega
     have hcc:(c:Int)<=9223372036854775807:=by have:=HN.out.2.2.2;omega
     have hps:((us.take j).map λo=>decide (o.nm=u.nm))=(us.take j).map (λo=>decide (o.nm=u.nm)):=rfl;have hany:(us.take j).any (λo=>decide (o.nm=u.nm))=(ks.take j).any (λo=>decide (some o.nm=(ks[j]?).map Kn.nm)):=by
      have e1:(ks[j]?).map Kn.nm=some u.nm:=by rw[List.getElem?_eq_getElem hkk,<-hu,HNE.out j hku hkk];rfl
      rw[e1,<-anyP_map,<-anyP_map]
      congr 1
      refine List.ext_getElem (by simp;have:=HN.out;omega) λi h1 h2=>?_
      simp only[List.getElem_map,List.getElem_take];rw[HNE.out i (by simp at h1;omega) (by simp at h2;omega)]
      simp
     have HAN:=Lib.hid hany;have HR:=Lib.hid λ(W:World) (hb:Below wr.heap.size wr W) (p:Nat) (hp:∀V,Below W.heap.size W V->V.cell? ⟨p,0,none⟩=some (.string u.nm))=>containsK 44 #[.pointer (some ⟨p,0,none⟩)] ((us.take j).map KC.cs) ((us.take j).map λo=>decide (o.nm=u.nm)) (.slice (some ⟨g,f,none⟩) j c) W
      ⟨_,c,by rw[List.length_map,List.length_take,Nat.min_eq_left (by omega)],⟨by simp;omega,by omega⟩, .inr ⟨g,f,rfl,Nat.lt_of_lt_of_le hgr hb.size,λi hi=>⟨by simp[KC.cs],λj' hj'=>by
       simp only[List.length_map,List.length_take]at hi;simp only[List.getElem_map,List.getElem_take];exact ((hbw.trans (hb.mono hbw.size)).cell (p:=⟨g,f+i*11+j',none⟩) hg).trans (hcl i (by omega) j' hj')⟩⟩⟩
      ⟨callLa,by simp,λi hi b hb2 w' hbw'=>by
       have hi2:i<(us.take j).length:=by simpa using hi
       have hb3:b=decide (((us.take j)[i]).nm=u.nm):=by
        rw[List.getElem?_map,List.getElem?_eq_getElem hi2]at hb2;injection hb2 with hb2;exact hb2.symm
       rw[hb3,List.getElem_map];exact lsame_any ((us.take j)[i]) p u.nm w' (hp w' hbw')⟩
     rw[anyP_map]at HR;obtain ⟨b,hb⟩:∃b,(us.take j).any (λo=>decide (o.nm=u.nm))=b:=⟨_,rfl⟩;rw[hb]at HR HAN;have HJB:=Lib.hid hbj;clear hany hps hb hcl hcl' hbw hbj hu
     go_upto_region 15 with fail
     refine wp_nm λW0 hW0=>?_;have hb0:Below wr.heap.size wr W0:=by rw[hW0];exact (Below.refl _ _).alloc (Nat.le_refl _) _
     have hK0:bxU u wr.heap.size W0:=by rw[hW0];exact heap_alloc_new wr _
     have HB0:=Lib.hid (And.intro hb0 hK0);clear hW0 hb0 hK0 q0 q1 q2 q3 q4 q5 q6 q7 q8 q9 q10;go_wp2_with fail;refine (HR.out W0 HB0.out.1 wr.heap.size (λV hV=>(HB0.out.2.later hV).cells.1.1)).mono ?_;rintro e w1 ⟨rfl,hb1⟩;have HB1:=Lib.hid (HB0.out.1.trans (hb1.mono HB0.out.1.size));clear hb1
     cases b with
     | true=>
      go_wp2_with fail
      go_ret2
      have hbf:Below w.heap.size w w1:=H1.out.2.2.trans ((HJB.out.trans (HB1.out.mono HJB.out.size)).mono H1.out.2.2.size);have hdp:dupF ks=true:=by
       unfold dupF;exact List.any_eq_true.2 ⟨j,List.mem_range.2 hkk,HAN.out.symm⟩
      refine ⟨hbf,7,ms, .inr ⟨⟨by have:=HN.out.2.1;omega,by have:=HN.out.2.1;omega⟩, .inr ⟨?_,λi q1 q2=>HI.out.2 i q1 q2,by rw[hdp];rfl⟩⟩, .inl ⟨by decide,rfl⟩⟩
      have:=HI.out.1.1;have:=H1.out.2.1;have:=HN.out.2.1;omega
     | false=>
      go_wp2_with fail;go_roundw
      case rel=>exact ⟨j+1,by omega,by go_num,λi hi=>by
       by_cases hij:i=j
       .subst hij;exact HAN.out.symm
       .exact HJ.out i (by omega),HJB.out.trans (HB1.out.mono HJB.out.size)⟩
      case measure=>simp[intOf];omega
    .obtain rfl:j=k:=by omega
     go_wp2_with fail
     go_ret2
     refine ⟨H1.out.2.2.trans (hbj.mono H1.out.2.2.size),0,ms, .inr ⟨⟨by have:=HN.out.2.1;omega,by have:=HN.out.2.1;omega⟩, .inr ⟨?_,λi q1 q2=>HI.out.2 i q1 q2,?_⟩⟩, .inr ⟨rfl,_,os,rfl,?_,?_,λi q1 q2=>?_⟩⟩
     .have:=HI.out.1.1;have:=H1.out.2.1;have:=HN.out.2.1;omega
     .rw[if_neg];rw[Bool.not_eq_true];unfold dupF;rw[List.any_eq_false];intro i hi;rw[List.mem_range]at hi;rw[HJ.out i (by have:=HN.out.2.1;omega)]
      decide
     .have hq:=H1.out.1.later hbj;rw[H1.out.2.1]at hq;exact hq
     .have:=H1.out.2.1;have:=HN.out.2.1;omega
     .obtain ⟨B,H,p1,p2,-⟩:=(HI.out.1.later hbj).2 i q1 q2;exact p1.mc
def GoodK (k:Kn):Prop:=nmOK (bl k.nm)=true/\validF k.pat=0/\posF k.pat<=10/\LcOK k=true
theorem LcA.ok {k:Kn} {er:Int} {m:Mc} (h:LcA k er m) (hg:GoodK k):er=0:=by
 rcases h with ⟨h,-⟩ | ⟨-,er0,hc,h⟩
 .rw[hg.1]at h;cases h
 .have h0:=hc.few hg.2.1 hg.2.2.1;rcases h with ⟨h1,-⟩ | ⟨-,h2⟩
  .exact absurd h0 h1
  .rw[h2,hg.2.2.2];rfl
theorem LaA.ok {ks:List Kn} {er:Int} {ms:List Mc} (h:LaA ks er ms) (h1:1<=ks.length) (h2:ks.length<=32) (hg:∀k∈ks,GoodK k) (hd:dupF ks=false):er=0:=by
 rcases h with ⟨h,-⟩ | ⟨-,⟨i,hi,-,⟨m,hm⟩,hne⟩ | ⟨-,-,h⟩⟩
 .omega
 .exact absurd (hm.ok (hg _ (List.getElem_mem hi))) hne
 .rw[h,hd];rfl
theorem lvalid_any (A:Option Addr) (n c:Nat) (us:List KC) (ks:List Kn) (w:World) (h:KnsIn w (.slice A n c) us ks) (hvr:VrOK w) (hnm:∀k∈ks,k.nm.size<=140737488355328):Calls Tryz.prog 8 #[.slice A n c] w λe w'=>Below w.heap.size w w'/\∃er ms,LaA ks er ms/\e = .returned (.int .i64 er):=by
 have HL:=Lib.hid (lall_any A n c us ks w h hvr hnm);clear h hvr hnm
 go_enter Tryz.func8,Tryz.ntmps8
 go_wp2_with fail;refine HL.out.mono ?_;rintro e w' ⟨hb,er,ms,hla,hp⟩;have HB:=Lib.hid (And.intro hb hla);clear hb hla;rcases hp with ⟨h1,rfl⟩ | ⟨rfl,v,os,rfl,-⟩
 .go_wp2_with fail;go_ret;exact ⟨HB.out.1,er,ms,HB.out.2,rfl⟩
 .go_wp2_with fail;go_ret;exact ⟨HB.out.1,0,ms,HB.out.2,rfl⟩
def tokK:Kn:=⟨⟨#[116,111,107,101,110]⟩,tokN,true,0,0,[],0⟩
theorem tokK_good:GoodK tokK:=by
 refine ⟨by kernel_rfl,by decide,by decide,by kernel_rfl⟩
set_option maxHeartbeats 4000000 in
theorem line_tok (B:Nat) (p0:Int) (p1:Option Addr) (p2 p3:Nat) (p4:Option Addr) (p5 p6:Nat) (p7 p8:Int) (w:World) (h:ItN B (.agg #[.int .i64 p0, .slice p1 p2 p3, .slice p4 p5 p6, .int .i64 p7, .int .i64 p8]) tokN w) (hvr:VrOK w) :
  Calls Tryz.prog 66 #[.agg #[.string ⟨#[116,111,107,101,110]⟩, .int .i64 p0, .slice p1 p2 p3, .slice p4 p5 p6, .int .i64 p7, .int .i64 p8, .bool true, .int .i64 0, .int .i64 0, .slice none 0 0, .int .i64 0]] w λe w'=>e = .returned (.string ⟨#[116,111,107,101,110,32,116,107,91,48,45,57,93,123,50,125,32,119,104,111,108,101,10]⟩)/\Below w.heap.size w w':=by
 have HI:=Lib.hid (And.intro h hvr);clear h hvr
 go_enter Tryz.func66,Tryz.ntmps66
 go_wp2_with fail;refine calls_named λW0 hW0=>?_;have hb0:Below w.heap.size w W0:=by rw[hW0];exact (Below.refl _ _).alloc (Nat.le_refl _) _
 have hY:W0.heap[w.heap.size]?=some (.cells #[.string ⟨#[116,111,107,101,110]⟩, .int .i64 p0, .slice p1 p2 p3, .slice p4 p5 p6, .int .i64 p7, .int .i64 p8, .bool true, .int .i64 0, .int .i64 0, .slice none 0 0, .int .i64 0] 34 (0,0)):=by rw[hW0];exact heap_alloc_new w _
 have HT:=Lib.hid (text_tk B _ W0 (HI.out.1.keep (KeepF.of_below (fp:=[]) hb0) (λk hk=>by cases hk)) (HI.out.2.later hb0))
 have H0:=Lib.hid (And.intro hb0 hY);clear hW0 hb0 hY;refine HT.out.mono ?_;rintro e w1 ⟨rfl,hb1⟩;have hz0:=H0.out.1.size;have hlt:=(Array.getElem?_eq_some_iff.1 H0.out.2).1;have hY1:=(hb1.block w.heap.size hlt).trans H0.out.2;have y0:w1.cell? ⟨w.heap.size,0,none⟩=some (.string ⟨#[116,111,107,101,110]⟩):=by rw[cell_of_row _ _ _ _ _ _ hY1];rfl
 have y6:w1.cell? ⟨w.heap.size,6,none⟩=some (.bool true):=by rw[cell_of_row _ _ _ _ _ _ hY1];rfl
 have y7:w1.cell? ⟨w.heap.size,7,none⟩=some (.int .i64 0):=by rw[cell_of_row _ _ _ _ _ _ hY1];rfl
 have y8:w1.cell? ⟨w.heap.size,8,none⟩=some (.int .i64 0):=by rw[cell_of_row _ _ _ _ _ _ hY1];rfl
 have y9:w1.cell? ⟨w.heap.size,9,none⟩=some (.slice none 0 0):=by rw[cell_of_row _ _ _ _ _ _ hY1];rfl
 have y10:w1.cell? ⟨w.heap.size,10,none⟩=some (.int .i64 0):=by rw[cell_of_row _ _ _ _ _ _ hY1];rfl
 have l1:w.heap.size<w1.heap.size:=Nat.lt_of_lt_of_le hlt hb1.size;have l2:w.heap.size<w1.heap.size+1:=by omega
 have l3:w.heap.size<w1.heap.size+1+1:=by omega
 have l4:w.heap.size<w1.heap.size+1+1+1:=by omega
 have l5:w.heap.size<w1.heap.size+1+1+1+1:=by omega
 have H1:=Lib.hid hb1;clear hb1 hY1;go_wp2_with fail;refine wp_loop_rounds 4 ?_;rw[rounds_succ];go_wp2_with fail;rw[rounds_succ];go_wp2_with fail;rw[rounds_succ];go_wp2_with fail;rw[rounds_succ];go_wp2_with fail;refine wp_loop_rounds 1 ?_;rw[rounds_succ];go_wp2_with fail;go_ret;refine ⟨by rfl,(H0.out.1.trans (H1.out.mono hz0)).trans ?_⟩
 refine Below.mono (B:=w1.heap.size) ?_ (by have:=H1.out.size;omega)
 exact ((((Below.refl _ _).alloc (by simp) _).alloc (by simp) _).alloc (by simp;try omega) _).alloc (by simp;try omega) _
def tokC (p0:Int) (p1:Option Addr) (p2 p3:Nat) (p4:Option Addr) (p5 p6:Nat) (p7 p8:Int):Array Value:=#[.string ⟨#[116,111,107,101,110]⟩, .int .i64 p0, .slice p1 p2 p3, .slice p4 p5 p6, .int .i64 p7, .int .i64 p8, .bool true, .int .i64 0, .int .i64 0, .slice none 0 0, .int .i64 0]
theorem tokC_kns {B g:Nat} {p0:Int} {p1:Option Addr} {p2 p3:Nat} {p4:Option Addr} {p5 p6:Nat} {p7 p8:Int} {w:World} (h:ItN B (.agg #[.int .i64 p0, .slice p1 p2 p3, .slice p4 p5 p6, .int .i64 p7, .int .i64 p8]) tokN w) (hg:w.heap[g]?=some (.cells (tokC p0 p1 p2 p3 p4 p5 p6 p7 p8) 34 (0,0))) :
  KnsIn w (.slice (some ⟨g,0,none⟩) 1 1) [⟨⟨#[116,111,107,101,110]⟩,p0,p1,p2,p3,p4,p5,p6,p7,p8,true,0,0,none,0,0,0⟩] [tokK]:=by
 obtain ⟨u,e,hu⟩:=h;have hn:=hu.in_;unfold N5.cs at hn;injection e with e;injection e with e;injection e with e1 e;injection e with e2 e;injection e with e3 e;injection e with e4 e;injection e with e5 e;rw[<-e1,<-e2,<-e3,<-e4,<-e5]at hn;refine ⟨rfl,_,1,rfl,⟨Nat.le_refl _,by decide⟩, .inr ⟨g,0,rfl,(Array.getElem?_eq_some_iff.1 hg).1,λi hi j hj=>?_⟩,λi h1 h2=>?_⟩
 .have hi0:i=0:=by simp at hi;omega
  subst hi0;rw[cell_of_row _ _ _ _ _ _ hg]
  first | rfl | simp[tokC,KC.cs]
 .have hi0:i=0:=by simp at h1;omega
  subst hi0;exact ⟨rfl,hn,rfl,rfl,rfl,⟨none,0,rfl,⟨Nat.le_refl _,by decide⟩, .inl rfl⟩,rfl⟩
set_option maxHeartbeats 4000000 in
theorem text_tok (B g:Nat) (p0:Int) (p1:Option Addr) (p2 p3:Nat) (p4:Option Addr) (p5 p6:Nat) (p7 p8:Int) (w:World) (h:ItN B (.agg #[.int .i64 p0, .slice p1 p2 p3, .slice p4 p5 p6, .int .i64 p7, .int .i64 p8]) tokN w) (hvr:VrOK w) (hg:w.heap[g]?=some (.cells (tokC p0 p1 p2 p3 p4 p5 p6 p7 p8) 34 (0,0))) :
  Calls Tryz.prog 34 #[.slice (some ⟨g,0,none⟩) 1 1] w λe w'=>e = .returned (.string ⟨#[116,111,107,101,110,32,116,107,91,48,45,57,93,123,50,125,32,119,104,111,108,101,10]⟩)/\Below w.heap.size w w':=by
 have HI:=Lib.hid (And.intro h hvr);have lg:=(Array.getElem?_eq_some_iff.1 hg).1;have lg1:g<w.heap.size+1:=by omega
 have hc:∀j,j<11->w.cell? ⟨g,j,none⟩=(tokC p0 p1 p2 p3 p4 p5 p6 p7 p8)[j]?:=λj hj=>cell_of_row _ _ _ _ _ _ hg;have q0:=hc 0 (by decide)
 have q1:=hc 1 (by decide)
 have q2:=hc 2 (by decide)
 have q3:=hc 3 (by decide)
 have q4:=hc 4 (by decide)
 have q5:=hc 5 (by decide)
 have q6:=hc 6 (by decide)
 have q7:=hc 7 (by decide)
 have q8:=hc 8 (by decide)
 have q9:=hc 9 (by decide)
 have q10:=hc 10 (by decide)
 simp only[tokC,List.getElem?_toArray,List.getElem?_cons_zero,List.getElem?_cons_succ]at q0 q1 q2 q3 q4 q5 q6 q7 q8 q9 q10;clear h hvr hc
 go_enter Tryz.func34,Tryz.ntmps34
 go_wp2_with fail;refine wp_loop_rounds 2 ?_;rw[rounds_succ];go_wp2_with fail;refine calls_named λW0 hW0=>?_;have hb0:Below w.heap.size w W0:=by rw[hW0];exact ((Below.refl _ _).alloc (Nat.le_refl _) _).alloc (by simp) _
 have hB0:W0.heap[w.heap.size]?=some (.cells #[.pointer none, .slice none 0 0] 105 (0,0)):=by rw[hW0,old_alloc _ _ _ (by simp)];exact heap_alloc_new w _
 have HT:=Lib.hid (line_tok B p0 p1 p2 p3 p4 p5 p6 p7 p8 W0 (HI.out.1.keep (KeepF.of_below (fp:=[]) hb0) (λk hk=>by cases hk)) (HI.out.2.later hb0))
 have H0:=Lib.hid (And.intro hb0 hB0);have hz0:=hb0.size;clear hW0 hb0 hB0 q0 q1 q2 q3 q4 q5 q6 q7 q8 q9 q10;refine HT.out.mono ?_;rintro e w1 ⟨rfl,hb1⟩;have lB0:=(Array.getElem?_eq_some_iff.1 H0.out.2).1;have hB1:=(hb1.block w.heap.size lB0).trans H0.out.2;have HS:=Lib.hid (str_K w.heap.size [] [w.heap.size] ⟨#[116,111,107,101,110,32,116,107,91,48,45,57,93,123,50,125,32,119,104,111,108,101,10]⟩ w1 (BuK.fresh hB1) (by decide) (by decide))
 have H1:=Lib.hid (H0.out.1.trans (hb1.mono hz0));clear hb1 hB1 lB0;go_wp2_with fail;refine HS.out.mono ?_;rintro e w2 ⟨rfl,fp2,hk2,kf2⟩;have hz1:=H1.out.size;have hbw2:Below w.heap.size w w2:=H1.out.trans (kf2.below (λk hk=>by have:=List.mem_singleton.1 hk;omega) hz1)
 have HS2:=Lib.hid (string_K w.heap.size _ _ fp2 w2 hk2 (λk hk=>by
  rcases kf2.new k hk with h | h
  .have:=List.mem_singleton.1 h;omega
  .omega) hbw2.size)
 have H2:=Lib.hid hbw2;clear hk2 kf2 hbw2;go_wp2_with fail;rw[rounds_succ];go_wp2_with fail;refine HS2.out.mono ?_;rintro e w3 ⟨rfl,hb3⟩;have H3:=Lib.hid hb3;clear hb3;go_wp2_with fail;go_ret;exact ⟨by rfl,H2.out.trans H3.out⟩
set_option maxHeartbeats 4000000 in
theorem Text_tok (B g:Nat) (p0:Int) (p1:Option Addr) (p2 p3:Nat) (p4:Option Addr) (p5 p6:Nat) (p7 p8:Int) (w:World) (h:ItN B (.agg #[.int .i64 p0, .slice p1 p2 p3, .slice p4 p5 p6, .int .i64 p7, .int .i64 p8]) tokN w) (hvr:VrOK w) (hg:w.heap[g]?=some (.cells (tokC p0 p1 p2 p3 p4 p5 p6 p7 p8) 34 (0,0))) :
  Calls Tryz.prog 15 #[.slice (some ⟨g,0,none⟩) 1 1] w λe w'=>e = .returned (.tuple #[.string ⟨#[116,111,107,101,110,32,116,107,91,48,45,57,93,123,50,125,32,119,104,111,108,101,10]⟩, .int .i64 0])/\Below w.heap.size w w':=by
 have HV:=Lib.hid (lvalid_any _ 1 1 _ _ w (tokC_kns h hg) hvr (λk hk=>by rw[List.mem_singleton]at hk;subst hk;decide))
 have HI:=Lib.hid (And.intro h (And.intro hvr hg));clear h hvr hg
 go_enter Tryz.func15,Tryz.ntmps15
 go_wp2_with fail;refine HV.out.mono ?_;rintro e w1 ⟨hb1,er,ms,hla,rfl⟩;have her:er=0:=hla.ok (by decide) (by decide) (λk hk=>by rw[List.mem_singleton]at hk;subst hk;exact tokK_good) (by decide)
 subst her;have HT:=Lib.hid (text_tok B g p0 p1 p2 p3 p4 p5 p6 p7 p8 w1 (HI.out.1.keep (KeepF.of_below (fp:=[]) hb1) (λk hk=>by cases hk)) (HI.out.2.1.later hb1) ((hb1.block g (Array.getElem?_eq_some_iff.1 HI.out.2.2).1).trans HI.out.2.2))
 have H1:=Lib.hid hb1;clear hb1 hla;go_wp2_with fail;refine HT.out.mono ?_;rintro e w2 ⟨rfl,hb2⟩;have H2:=Lib.hid hb2;clear hb2;go_wp2_with fail
 go_ret2
 exact ⟨by rfl,H1.out.trans (H2.out.mono H1.out.size)⟩
set_option maxHeartbeats 4000000 in
theorem token_any (w:World) (hvr:VrOK w):Calls Tryz.prog 23 #[] w λe w'=>∃g p0 p1 p2 p3 p4 p5 p6 p7 p8,e = .returned (.slice (some ⟨g,0,none⟩) 1 1)/\ItN w.heap.size (.agg #[.int .i64 p0, .slice p1 p2 p3, .slice p4 p5 p6, .int .i64 p7, .int .i64 p8]) tokN w'/\w'.heap[g]?=some (.cells (tokC p0 p1 p2 p3 p4 p5 p6 p7 p8) 34 (0,0))/\Below w.heap.size w w':=by
 have HP:=Lib.hid (parse_tk w hvr);clear hvr
 go_enter Tryz.func23,Tryz.ntmps23
 go_wp2_with fail;refine HP.out.mono ?_;rintro e w1 ⟨x,rfl,hit,hb1⟩;obtain ⟨p0,p1,p2,p3,p4,p5,p6,p7,p8,rfl⟩:=hit.form;have H1:=Lib.hid (And.intro hit hb1);clear hit hb1;go_wp2_with fail;refine post_named λWf hWf=>?_;have hbf:Below w1.heap.size w1 Wf:=by rw[hWf];exact ((Below.refl _ _).alloc (Nat.le_refl _) _).alloc (by simp) _
 have hg:Wf.heap[w1.heap.size+1]?=some (.cells (tokC p0 p1 p2 p3 p4 p5 p6 p7 p8) 34 (0,0)):=by
  rw[hWf];have h1:=heap_alloc_new (w1.alloc (.cells #[.int .i64 p0, .slice p1 p2 p3, .slice p4 p5 p6, .int .i64 p7, .int .i64 p8] 31)) (.cells (tokC p0 p1 p2 p3 p4 p5 p6 p7 p8) 34);have h2:(w1.alloc (.cells #[.int .i64 p0, .slice p1 p2 p3, .slice p4 p5 p6, .int .i64 p7, .int .i64 p8] 31)).heap.size=w1.heap.size+1:=by simp
  rw[h2]at h1;exact h1
 clear hWf;refine bodyPost_ret (v:=.slice (some ⟨w1.heap.size+1,0,none⟩) 1 1) (by simp[results,Tryz.results23,go_sem];try rfl) rfl ?_
 exact ⟨_,p0,p1,p2,p3,p4,p5,p6,p7,p8,rfl,H1.out.1.keep (KeepF.of_below (fp:=[]) hbf) (λk hk=>by cases hk),hg,H1.out.2.trans (hbf.mono H1.out.2.size)⟩
set_option maxHeartbeats 4000000 in
theorem awake7_any (w:World) (hvr:VrOK w):Calls Tryz.prog 10 #[] w λe w'=>e = .returned (.bool true)/\Below w.heap.size w w':=by
 have HT:=Lib.hid (token_any w hvr);have HVR:=Lib.hid hvr;clear hvr
 go_enter Tryz.func10,Tryz.ntmps10
 go_wp2_with fail;refine HT.out.mono ?_;rintro e w1 ⟨g,p0,p1,p2,p3,p4,p5,p6,p7,p8,rfl,hit,hg,hb1⟩;have HX:=Lib.hid (Text_tok _ g p0 p1 p2 p3 p4 p5 p6 p7 p8 w1 hit (HVR.out.later hb1) hg);have H1:=Lib.hid hb1;clear hit hg hb1;go_wp2_with fail;refine HX.out.mono ?_;rintro e w2 ⟨rfl,hb2⟩;have H2:=Lib.hid hb2;clear hb2;go_wp2_with fail;go_ret;exact ⟨by rfl,H1.out.trans (H2.out.mono H1.out.size)⟩
def KC.ag (o:KC):Value:=.agg #[.string o.nm, .int .i64 o.op, .slice o.a1 o.n1 o.c1, .slice o.a2 o.n2 o.c2, .int .i64 o.mn, .int .i64 o.mx, .bool o.wh, .int .i64 o.ck, .int .i64 o.en, .slice o.a3 o.n3 o.c3, .int .i64 o.nr]
def KC.row (o:KC):Array Value:=#[.string o.nm, .int .i64 o.op, .slice o.a1 o.n1 o.c1, .slice o.a2 o.n2 o.c2, .int .i64 o.mn, .int .i64 o.mx, .bool o.wh, .int .i64 o.ck, .int .i64 o.en, .slice o.a3 o.n3 o.c3, .int .i64 o.nr]
theorem two_box {w W:World} {a b:Array Value} {T U:TypeId} (h:W=(w.alloc (.cells a T)).alloc (.cells b U)):Below w.heap.size w W/\W.heap.size=w.heap.size+2/\W.heap[w.heap.size]?=some (.cells a T (0,0))/\W.heap[w.heap.size+1]?=some (.cells b U (0,0)):=by
 have h1:=heap_alloc_new (w.alloc (.cells a T)) (.cells b U);have h2:(w.alloc (.cells a T)).heap.size=w.heap.size+1:=by simp
 rw[h2]at h1;subst h;exact ⟨((Below.refl _ _).alloc (Nat.le_refl _) _).alloc (by simp) _,by simp,by rw[old_alloc _ _ _ (by simp)];exact heap_alloc_new w _,h1⟩
end Go.Proofs.YtljgapfmgegifaaGreatDoor
