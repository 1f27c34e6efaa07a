/- The law ScanDefinite: the call returns true, for every tape. -/
import Derived.Test.YtadjdkickjjieaaGreatDoorY39
import Derived.Test.YtadjdkickjjieaaGreatDoorY42
import Derived.Test.YtadjdkickjjieaaGreatDoorY32
import Derived.Test.YtadjdkickjjieaaGreatDoorY46
import Derived.Test.YtadjdkickjjieaaGreatDoorY48
import Derived.Test.YtadjdkickjjieaaGreatDoorY23
import Derived.Test.YtadjdkickjjieaaGreatDoorY04
namespace Go.Proofs.YtadjdkickjjieaaGreatDoor
set_option linter.unusedVariables false
set_option linter.unusedSimpArgs false
set_option maxRecDepth 100000
open Go.RowKit
def ownNm:ByteArray:=⟨#[111,119,110]⟩
def dfU (v:N5) (wh:Bool):KC:=⟨ownNm,v.op,v.a1,v.n1,v.c1,v.a2,v.n2,v.c2,v.mn,v.mx,wh,0,0,none,0,0,0⟩
def dfK (nd:Nd) (wh:Bool):Kn:=⟨ownNm,nd,wh,0,0,[],0⟩
theorem dfKn {w:World} {v:N5} {nd:Nd} {wh:Bool} (h:NdIn w nd v.cs):KnIn w (dfU v wh) (dfK nd wh):=⟨rfl,h,rfl,rfl,rfl,StIn.nil_ w,rfl⟩
theorem dfNm:nmOK (bl ownNm)=true:=by decide
theorem dfLc {nd:Nd} {wh:Bool} {er:Int} {m:Mc} (h:LcA (dfK nd wh) er m) (hp:PtK 2 nd):(zAT nd=0/\er=2)\/(1<=zAT nd/\er=0):=by
 obtain ⟨-,-,h16⟩:=hp.ok;rcases h with ⟨h1,-⟩ | ⟨-,er0,hc,h1⟩
 .have:=dfNm;rw[show bl (dfK nd wh).nm=bl ownNm from rfl,this]at h1
  cases h1
 .have h0:=hc.made hp;subst h0;obtain ⟨-,h1⟩:=h1.resolve_left λh=>h.1 rfl;rw[h1];have hlc:LcOK (dfK nd wh)=decide (1<=zAT nd):=by
   unfold LcOK dfK;have h2:decide (zAY nd<=256)=true:=decide_eq_true (by omega)
   simp[h2]
  rw[hlc];by_cases h2:1<=zAT nd
  .exact .inr ⟨h2,by rw[decide_eq_true h2];rfl⟩
  .exact .inl ⟨by omega,by rw[decide_eq_false h2];rfl⟩
theorem zHP {w:World} {A:Option Addr} {n c k:Nat} {l:List Nat} (h:ByIn w (.slice A n c) l) (hk:k<=n):ByIn w (.slice A k c) (l.take k):=by
 obtain ⟨A',c',e,hc,hor⟩:=h;injection e with e1 e2 e3;subst e1 e2 e3;refine ⟨A,c,by rw[List.length_take,Nat.min_eq_left hk],⟨by rw[List.length_take];omega,hc.2⟩,?_⟩
 rcases hor with rfl | ⟨g,f,q1,q2,q3⟩
 .exact .inl (by simp)
 .exact .inr ⟨g,f,q1,q2,λi hi=>by
   rw[List.length_take]at hi;rw[q3 i (by omega),List.getElem_take]⟩
theorem Fr.kf {b:Nat} {w w':World} (h:Fr b w w'):KeepF [b] [] w w':=⟨h.os,h.tape,h.output,h.size,λk hk hn=>h.block k hk (λe=>hn (by injection e with e;rw[e];exact List.mem_singleton.2 rfl)),λk hk=>by cases hk⟩
theorem KnV.one {b g:Nat} {w:World} {u:KC} {m:Nat×Nat} (hg:w.heap[g]?=some (.cells u.cs.toArray 34 m)) (hb:b<g) (hp:Pat b w 4 18 u.pat):KnV b w (.slice (some ⟨g,0,none⟩) 1 1):=by
 refine ⟨g,0,1,1,λ_=>u,rfl,Nat.le_refl _,by decide,hb,(Array.getElem?_eq_some_iff.1 hg).1,λj hj i hi=>?_,λ_ _=>hp⟩
 have hj0:j=0:=by omega
 subst hj0;show w.cell? ⟨g,0+0*11+i,none⟩=u.cs[i]?;rw[show 0+0*11+i=i by omega,cell_of_row _ _ _ _ _ _ hg]
 simp
def bxD (u5:N5) (wh:Bool) (g:Nat) (w:World):Prop:=w.heap[g]?=some (.cells #[.string ownNm, .int .i64 u5.op, .slice u5.a1 u5.n1 u5.c1, .slice u5.a2 u5.n2 u5.c2, .int .i64 u5.mn, .int .i64 u5.mx, .bool wh, .int .i64 0, .int .i64 0, .slice none 0 0, .int .i64 0] 34 (0,0))
theorem bxD.cells {u5:N5} {wh:Bool} {g:Nat} {w:World} (h:bxD u5 wh g w):(w.cell? ⟨g,0,none⟩=some (.string ownNm)/\w.cell? ⟨g,1,none⟩=some (.int .i64 u5.op)/\w.cell? ⟨g,2,none⟩=some (.slice u5.a1 u5.n1 u5.c1)/\w.cell? ⟨g,3,none⟩=some (.slice u5.a2 u5.n2 u5.c2)/\w.cell? ⟨g,4,none⟩=some (.int .i64 u5.mn)/\w.cell? ⟨g,5,none⟩=some (.int .i64 u5.mx))/\(w.cell? ⟨g,6,none⟩=some (.bool wh)/\w.cell? ⟨g,7,none⟩=some (.int .i64 0)/\w.cell? ⟨g,8,none⟩=some (.int .i64 0)/\w.cell? ⟨g,9,none⟩=some (.slice none 0 0)/\w.cell? ⟨g,10,none⟩=some (.int .i64 0))/\g<w.heap.size:=by
 refine ⟨⟨?_,?_,?_,?_,?_,?_⟩,⟨?_,?_,?_,?_,?_⟩,(Array.getElem?_eq_some_iff.1 h).1⟩ <;> (rw[cell_of_row _ _ _ _ _ _ h]; rfl)
structure DfW (b g:Nat) (u5:N5) (wh:Bool) (nd:Nd) (w0 w:World):Prop where
 bx:bxD u5 wh g w
 bg:b<g
 up:NdUp (b+1) w u5.cs nd
 fr:Fr b w0 w
theorem DfW.go {b g:Nat} {u5:N5} {wh:Bool} {nd:Nd} {w0 w w':World} (h:DfW b g u5 wh nd w0 w) (hf:Fr b w w'):DfW b g u5 wh nd w0 w':=
 ⟨(hf.block g (Array.getElem?_eq_some_iff.1 h.bx).1 (λe=>by injection e with e;have:=h.bg;omega)).trans h.bx,h.bg,h.up.keep hf.kf (λk hk=>by rw[List.mem_singleton]at hk;omega),h.fr.trans hf⟩
theorem DfW.below {b g:Nat} {u5:N5} {wh:Bool} {nd:Nd} {w0 w w':World} (h:DfW b g u5 wh nd w0 w) (hb:Below w.heap.size w w'):DfW b g u5 wh nd w0 w':=h.go (Fr.of_below hb)
set_option maxHeartbeats 16000000 in
theorem zFF (A:Option Addr) (n c:Nat) (w:World) (ht:zF2 A n w) (hv:VrOK w) :
  Calls Tryz.prog 3 #[.slice A n c] w λe w'=>e = .returned (.bool true)/\Below w.heap.size w w':=by
 have h0:=zJ3 (c:=c) ht;have hb0:=(Below.refl w.heap.size w).alloc (Nat.le_refl _) (.cells #[.slice A n c, .int .i64 0] 25);have hz0:(w.alloc (.cells #[.slice A n c, .int .i64 0] 25)).heap.size=w.heap.size+1:=by simp
 generalize hw0:w.alloc (.cells #[.slice A n c, .int .i64 0] 25)=w0 at h0 hb0 hz0;have HW0:=Lib.hid hw0;have HV:=Lib.hid hv;have HB0:=Lib.hid (And.intro hb0 hz0);clear hv ht
 go_enter Tryz.func3,Tryz.ntmps3
 go_upto_region 2 with fail
 clear hw0 hz0;go_wp2_with fail;refine (zFP w.heap.size 2 3 w0 (by decide) rfl h0).mono ?_
 rintro e w1 ⟨nd,u5,rfl,hpk,hup,ht1,hf1⟩;have H1:=Lib.hid (And.intro hpk (And.intro hup (And.intro ht1 hf1)));clear hpk hup hf1 hb0;go_wp2_with fail;refine (zAh w.heap.size 2 w1 (by omega) (by omega) ht1).mono ?_
 rintro e w2 ⟨ri,rfl,r0,r1,ht2,hf2⟩;obtain ⟨wh,hwh⟩:∃z,(ri == 1)=z:=⟨_,rfl⟩;have H2:=Lib.hid (And.intro ht2 hf2);clear r0 r1 ht2 hf2 ht1
 go_upto_region 3 with fail
 refine zBl λW3 hW3=>?_;have hb3:Below w2.heap.size w2 W3:=by rw[hW3];exact (Below.refl _ _).alloc (Nat.le_refl _) _
 have hK3:bxD u5 wh w2.heap.size W3:=by rw[hW3];exact heap_alloc_new w2 _
 have hbw2:w.heap.size<w2.heap.size:=by have h1:=HB0.out.2;have h2:=H1.out.2.2.2.size;have h3:=H2.out.2.size;omega
 have hD3:DfW w.heap.size w2.heap.size u5 wh nd w0 W3:=by
  have hu1:=H1.out.2.1;rw[HB0.out.2]at hu1;have hu2:=hu1.keep H2.out.2.kf (λk hk=>by rw[List.mem_singleton]at hk;omega)
  exact ⟨hK3,hbw2,hu2.keep (L:=[]) (L':=[]) (KeepF.of_below hb3) (λk hk=>by cases hk),(H1.out.2.2.2.trans H2.out.2).trans (Fr.of_below hb3)⟩
 have ht3:TapeOK w.heap.size W3:=H2.out.1.below hb3;obtain ⟨g,hg⟩:∃g,w2.heap.size=g:=⟨_,rfl⟩;rw[hg]at hD3|-;have HD:=Lib.hid hD3;have HT3:=Lib.hid ht3;have HPK:=Lib.hid H1.out.1;have hvd:=H1.out.1.ok;have hbel:Below w.heap.size w w0:=HB0.out.1;have HBW:=Lib.hid λ(W:World) (hW:Fr w.heap.size w0 W)=>hbel.trans (hW.below (Nat.le_refl _) hbel.size);obtain ⟨⟨c0,c1,c2,c3,c4,c5⟩,⟨c6,c7,c8,c9,c10⟩,lg⟩:=hD3.bx.cells;clear hW3 hb3 hK3 hbw2 hD3 ht3 hg hbel H1 H2 h0;go_wp2_with fail;refine (zHc nd u5.cs W3 HD.out.up.in_ hvd.1).mono ?_;rintro e W4 ⟨rfl,hb4⟩;have hD4:=HD.out.below hb4;have HT4:=Lib.hid (HT3.out.below hb4);have HD4:=Lib.hid hD4;obtain ⟨s,hs⟩:∃s,zAT nd=s:=⟨_,rfl⟩;rw[hs];have HS:=Lib.hid hs;clear c0 c1 c2 c3 c4 c5 c6 c7 c8 c9 c10 lg hb4 hs;obtain ⟨⟨c0,c1,c2,c3,c4,c5⟩,⟨c6,c7,c8,c9,c10⟩,lg⟩:=hD4.bx.cells;clear hD4;by_cases hs0:s=0
 .subst hs0;go_wp2_with fail;refine (zC2 (dfU u5 wh) (dfK nd wh) none 0 0 [] W4 (dfKn HD4.out.up.in_) (HV.out.later (HBW.out _ HD4.out.fr)) (show ownNm.size<=140737488355328 by decide) ⟨none,0,rfl,by simp, .inl rfl⟩ rfl (by decide) (λb hb=>by cases hb)).mono ?_
  rintro e W5 ⟨hb5,er,m,hla,hpost⟩;have her:er=2:=by
   rcases dfLc hla HPK.out with ⟨-,h⟩ | ⟨h,-⟩
   .exact h
   .have:=HS.out;omega
  subst her;obtain ⟨-,rfl⟩:=hpost.resolve_right (λh=>by cases h.1)
  have HD5:=Lib.hid (HD4.out.below hb5);clear hb5 hla hpost;go_wp2_with fail;refine (zHe W5 (HV.out.later (HBW.out _ HD5.out.fr))).mono ?_;rintro e W6 ⟨rfl,hb6⟩;have HD6:=Lib.hid (HD5.out.below hb6);clear hb6;go_wp2_with fail;go_ret;exact ⟨rfl,HBW.out _ HD6.out.fr⟩
 .have hs1:((s:Int) == 0)=false:=by simp;omega
  have HS1:=Lib.hid (show 1<=s by omega)
  clear hs0;have HPT:=Lib.hid λ(W:World) (h:DfW w.heap.size g u5 wh nd w0 W)=>(h.up.pat (Nat.lt_succ_self _) HPK.out).mono (d':=4) (m':=18) (by decide) (by decide)
  have HBT:=Lib.hid λ(W:World) (h:TapeOK w.heap.size W)=>zDU w.heap.size 1 4 W (by omega) (by omega) (by omega) (by omega) h
  go_upto_region 6 with fail
  go_cut [7] from 33 to 38 (λv wx=>∃(l:List UInt8) (A':Option Addr) (n' c':Nat) (W:World),v = .slice A' n' c'/\W=wx/\l.length<=200/\Hid (n'=l.length)/\Hid (ByIn W (.slice A' n' c') (l.map UInt8.toNat))/\Hid (DfW w.heap.size g u5 wh nd w0 W))
  case first=>
   have hwA:w.heap.size<W4.heap.size:=Nat.lt_trans HD4.out.bg lg
   go_region_with ((first
    | (go_at_call 13;refine (HBT.out _ (HT4.out.below (Below.refl _ _).drew)).mono ?_;rintro e w5 ⟨ri,rfl,r0,r1,ht5,hf5⟩;have hD5:=HD4.out.go (zAk hf5);obtain ⟨⟨d0,d1,d2,d3,d4,d5⟩,⟨d6,d7,d8,d9,d10⟩,lg5⟩:=hD5.bx.cells;obtain ⟨q,rfl⟩:=Int.eq_ofNat_of_zero_le (show 0<=ri by omega);have hw5:w.heap.size<w5.heap.size:=Nat.lt_trans hD5.bg lg5;have hDB:=hD5.below ((Below.refl w5.heap.size w5).alloc (Nat.le_refl _) (.cells #[.string ownNm, .int .i64 u5.op, .slice u5.a1 u5.n1 u5.c1, .slice u5.a2 u5.n2 u5.c2, .int .i64 u5.mn, .int .i64 u5.mx, .bool wh, .int .i64 0, .int .i64 0, .slice none 0 0, .int .i64 0] 34));have hkB:=KnV.one (u:=dfU u5 wh) (heap_alloc_new w5 (.cells #[.string ownNm, .int .i64 u5.op, .slice u5.a1 u5.n1 u5.c1, .slice u5.a2 u5.n2 u5.c2, .int .i64 u5.mn, .int .i64 u5.mx, .bool wh, .int .i64 0, .int .i64 0, .slice none 0 0, .int .i64 0] 34)) hw5 (HPT.out _ hDB);have htB:=ht5.below ((Below.refl w5.heap.size w5).alloc (Nat.le_refl _) (.cells #[.string ownNm, .int .i64 u5.op, .slice u5.a1 u5.n1 u5.c1, .slice u5.a2 u5.n2 u5.c2, .int .i64 u5.mn, .int .i64 u5.mx, .bool wh, .int .i64 0, .int .i64 0, .slice none 0 0, .int .i64 0] 34)))
    | (go_at_call 13;refine (HBT.out _ (HT4.out.below ((Below.refl _ _).alloc (Nat.le_refl _) (.cells #[.string ownNm, .int .i64 u5.op, .slice u5.a1 u5.n1 u5.c1, .slice u5.a2 u5.n2 u5.c2, .int .i64 u5.mn, .int .i64 u5.mx, .bool wh, .int .i64 0, .int .i64 0, .slice none 0 0, .int .i64 0] 34)).drew)).mono ?_;rintro e w5 ⟨ri,rfl,r0,r1,ht5,hf5⟩;have hDB:=(HD4.out.below ((Below.refl W4.heap.size W4).alloc (Nat.le_refl _) (.cells #[.string ownNm, .int .i64 u5.op, .slice u5.a1 u5.n1 u5.c1, .slice u5.a2 u5.n2 u5.c2, .int .i64 u5.mn, .int .i64 u5.mx, .bool wh, .int .i64 0, .int .i64 0, .slice none 0 0, .int .i64 0] 34))).go (zAk hf5);obtain ⟨q,rfl⟩:=Int.eq_ofNat_of_zero_le (show 0<=ri by omega);have hrow:=((zAk hf5).block W4.heap.size (by simp) (by intro e;injection e;omega)).trans (heap_alloc_new W4 (.cells #[.string ownNm, .int .i64 u5.op, .slice u5.a1 u5.n1 u5.c1, .slice u5.a2 u5.n2 u5.c2, .int .i64 u5.mn, .int .i64 u5.mx, .bool wh, .int .i64 0, .int .i64 0, .slice none 0 0, .int .i64 0] 34));have hkB:=KnV.one (u:=dfU u5 wh) hrow hwA (HPT.out _ hDB);have htB:=ht5)
    | (go_at_call 12;refine (zKM w.heap.size q _ _ hkB (by omega) htB).mono ?_;rintro e w6 ⟨vt,l6,rfl,hll6,hob6,ht6,hf6⟩;have hD6:=hDB.go hf6)))
   all_goals
    go_wp2_with fail
    go_meet
    obtain ⟨A6,c6',e6,-⟩:=OBs.form hob6;exact ⟨l6,A6,_,c6',_,e6,rfl,by omega,rfl,by rw[<-e6];exact OBs.reads hob6,hD6⟩
  case rest=>
   obtain ⟨l,A2,n2,k2,W7,rfl,rfl,hll,HN2,HBY,HD7⟩:=hcut;have hn2:n2<=200:=by rw[HN2.out];exact hll
   clear c0 c1 c2 c3 c4 c5 c6 c7 c8 c9 c10 lg hll;have hnc:n2<=k2/\k2<=9223372036854775807:=by
    obtain ⟨A',c',e,h1,-⟩:=HBY.out;injection e with _ e2 e3;omega
   have hby:∀b∈l.map UInt8.toNat,b<256:=λb hb=>by obtain ⟨x,-,rfl⟩:=List.mem_map.1 hb;exact x.toNat_lt
   have HB256:=Lib.hid hby;clear hby;obtain ⟨z,hz⟩:∃z,decide (60<n2)=z:=⟨_,rfl⟩;have hzi:decide (60<(n2:Int))=z:=by rw[<-hz];exact decide_eq_decide.2 (by omega)
   go_upto_if 41 with fail
   go_cut [7] from 39 to 43 (λv wx=>∃(A':Option Addr) (n' c':Nat) (bs:List Nat) (W:World),v = .slice A' n' c'/\W=wx/\n'<=60/\Hid (bs.length=n')/\Hid (ByIn W (.slice A' n' c') bs)/\Hid (∀b∈bs,b<256)/\Hid (DfW w.heap.size g u5 wh nd w0 W))
   case first=>
    cases z with
    | false=>
     have hle:n2<=60:=by have:=of_decide_eq_false hz;omega
     clear hz hzi;go_wp2_with fail
     go_meet
     exact ⟨A2,n2,k2,_,_,rfl,rfl,hle,by rw[List.length_map];exact HN2.out.symm,HBY.out,HB256.out,HD7.out⟩
    | true=>
     have hgt:60<n2:=of_decide_eq_true hz;have hc60:(60:Int)<=(k2:Int):=by omega
     clear hz hzi;obtain ⟨ga,fa,rfl⟩:∃ga fa,A2=some ⟨ga,fa,none⟩:=by
      obtain ⟨A',c',e,-,hor⟩:=HBY.out;injection e with e1 e2 e3;rcases hor with h | ⟨ga,fa,h,-⟩
      .rw[h]at e2;simp at e2;omega
      .exact ⟨ga,fa,e1.trans h⟩
     go_wp2_with fail
     go_meet
     have hlt60:((l.map UInt8.toNat).take 60).length=60:=by rw[List.length_take,List.length_map,<-HN2.out];omega
     exact ⟨_,60,k2,(l.map UInt8.toNat).take 60,_,rfl,rfl,Nat.le_refl _,hlt60,zHP (k:=60) HBY.out (by omega),λb hb=>HB256.out b (List.mem_of_mem_take hb),HD7.out⟩
   case rest=>
    obtain ⟨A3,n3,k3,bs,W8,rfl,rfl,hn3,HL,HBY8,HB8,HD8⟩:=hcut;clear hz hzi hnc hn2 HBY HD7 HN2 HB256;obtain ⟨⟨c0,c1,c2,c3,c4,c5⟩,⟨c6,c7,c8,c9,c10⟩,lg⟩:=HD8.out.bx.cells;go_wp2_with fail;refine (zC2 (dfU u5 wh) (dfK nd wh) A3 n3 k3 bs W8 (dfKn HD8.out.up.in_) (HV.out.later (HBW.out _ HD8.out.fr)) (show ownNm.size<=140737488355328 by decide) HBY8.out HL.out (by omega) HB8.out).mono ?_
    rintro e W9 ⟨hb9,er,m,hla,hpost⟩;have her:er=0:=by
     rcases dfLc hla HPK.out with ⟨h,-⟩ | ⟨-,h⟩
     .have h1:=HS.out;have h2:=HS1.out;omega
     .exact h
    subst her;obtain ⟨-,v9,rfl,hor⟩:=hpost.resolve_left (λh=>h.1 rfl);have hgood:=hla.good;have HD9:=Lib.hid (HD8.out.below hb9);have HBY9:=Lib.hid (HBY8.out.later hb9);have HO9:=Lib.hid hor;have HM:=Lib.hid hgood.1.vld.2.2.2.2;clear c0 c1 c2 c3 c4 c5 c6 c7 c8 c9 c10 lg hb9 hor hgood hpost;obtain ⟨⟨c0,c1,c2,c3,c4,c5⟩,⟨c6,c7,c8,c9,c10⟩,lg⟩:=HD9.out.bx.cells;go_wp2_with fail;refine (zKi (dfU u5 wh) nd m A3 n3 k3 bs W9 HD9.out.up.in_ HPK.out.ok.1 HM.out HBY9.out HL.out (by omega) HB8.out).mono ?_
    rintro e W10 ⟨v10,rfl,hor10,hb10⟩;have HD10:=Lib.hid (HD9.out.below hb10);have hch:∀p∈chA m wh bs,p.1<=1000/\p.2<=1000:=λp hp=>by
     have h1:=(zMc hp).1;have h2:=HL.out;omega
    have hcl:(chA m wh bs).length<=1000:=by have h1:=zLd m wh bs;have h2:=HL.out;omega
    have HR:=Lib.hid (zJP v9 v10 _ _ _ W10 (HO9.out.later hb10) hor10 hcl hch);clear c0 c1 c2 c3 c4 c5 c6 c7 c8 c9 c10 lg hor10 hb10 hch hcl;go_wp2_with fail;refine HR.out.mono ?_;rintro e W11 ⟨rfl,hb11⟩;have HD11:=Lib.hid (HD10.out.below hb11);clear hb11;go_wp2_with fail;refine (zHe W11 (HV.out.later (HBW.out _ HD11.out.fr))).mono ?_;rintro e W12 ⟨rfl,hb12⟩;have HD12:=Lib.hid (HD11.out.below hb12);clear hb12;go_wp2_with fail;go_ret;exact ⟨rfl,HBW.out _ HD12.out.fr⟩
end Go.Proofs.YtadjdkickjjieaaGreatDoor
