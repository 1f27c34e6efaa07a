/- The law ScanPlants: the call returns true, for every tape and number. -/
import Derived.Test.YtoaibhacognbjaaGreatDoorPtPZ
import Derived.Test.YtoaibhacognbjaaGreatDoorCvBZ
import Derived.Test.YtoaibhacognbjaaGreatDoorY42
import Derived.Test.YtoaibhacognbjaaGreatDoorY04
import Derived.Test.YtoaibhacognbjaaGreatDoorY02
import Derived.Test.YtoaibhacognbjaaGreatDoorY01
import Derived.Test.YtoaibhacognbjaaGreatDoorY03
import Derived.Test.YtoaibhacognbjaaGreatDoorY06
import Derived.Test.YtoaibhacognbjaaGreatDoorY05
import Derived.Test.YtoaibhacognbjaaGreatDoorY49
import Derived.Test.YtoaibhacognbjaaGreatDoorY43
import Derived.Test.YtoaibhacognbjaaGreatDoorY15
import Derived.Test.YtoaibhacognbjaaGreatDoorY27
import Derived.Test.YtoaibhacognbjaaGreatDoorY21
import Derived.Test.YtoaibhacognbjaaGreatDoorY16
import Derived.Test.YtoaibhacognbjaaGreatDoorY14
import Derived.Test.YtoaibhacognbjaaGreatDoorY12
import Derived.Test.YtoaibhacognbjaaGreatDoorY10
import Derived.Test.YtoaibhacognbjaaGreatDoorY08
import Derived.Test.YtoaibhacognbjaaGreatDoorY07
import Derived.Test.YtoaibhacognbjaaGreatDoorY09
import Derived.Test.YtoaibhacognbjaaGreatDoorY11
import Derived.Test.YtoaibhacognbjaaGreatDoorY13
import Derived.Test.YtoaibhacognbjaaGreatDoorY25
import Derived.Test.YtoaibhacognbjaaGreatDoorY26
import Derived.Test.YtoaibhacognbjaaGreatDoorY19
import Derived.Test.YtoaibhacognbjaaGreatDoorY18
namespace Go.Proofs.YtoaibhacognbjaaGreatDoor
set_option linter.unusedVariables false
set_option linter.unusedSimpArgs false
set_option maxRecDepth 100000
open Go.RowKit
theorem KnV.pn {b:Nat} {w:World} {v:Value} {us:List KC} {ks:List Kn} (h:KnV b w v) (hk:∀W,Stay b w W→KnsIn W v us ks) (i:Nat) (h1:i<us.length) (h2:i<ks.length):PN b w 4 18 ks[i].pat us[i].pat:=by
 obtain ⟨g,f,n,c,U,rfl,hn1,hn2,hbg,hgl,hc,hp⟩:=h;obtain ⟨hl,A,c',e,hcc,hor,hk'⟩:=hk w (Stay.refl _ _);injection e with e1 e2 e3;have hne:us≠[]:=by rintro rfl;cases h1
 obtain ⟨g',f',e4,-,hcell⟩:=hor.resolve_left hne;rw[e4]at e1;injection e1 with e1;injection e1 with e5 e6 _;subst e5 e6;have hcs:∀j,(U i).cs[j]?=us[i].cs[j]?:=fun j=>by
  by_cases hj:j<11
  ·exact (hc i (by omega) j hj).symm.trans (hcell i h1 j hj)
  ·rw[List.getElem?_eq_none (by show 11≤j;omega),List.getElem?_eq_none (by show 11≤j;omega)]
 have hcl:(U i).cs=us[i].cs:=List.ext_getElem? hcs;have hpat:(U i).pat=us[i].pat:=by
  have h9:∀u:KC,u.pat=(u.cs.drop 1).take 5:=fun u=>rfl;rw[h9,h9,hcl]
 exact ⟨hpat▸hp i (by omega),fun W hW=>((hk W hW).2.choose_spec.choose_spec.2.2.2 i h1 h2).pat⟩
theorem KnsIn.cell_at {w:World} {g f n c:Nat} {us:List KC} {ks:List Kn} (h:KnsIn w (.slice (some ⟨g,f,none⟩) n c) us ks) (i:Nat) (h1:i<us.length):n=us.length∧g<w.heap.size∧∀j,j<11→w.cell? ⟨g,f+i*11+j,none⟩=us[i].cs[j]?:=by
 obtain ⟨hl,A,c',e,hcc,hor,-⟩:=h;injection e with e1 e2 e3;obtain ⟨g',f',e4,hg,hcell⟩:=hor.resolve_left (by rintro rfl;cases h1)
 rw[e4]at e1;injection e1 with e1;injection e1 with e5 e6 _;subst e5 e6;exact ⟨e2,hg,fun j hj=>hcell i h1 j hj⟩
theorem getE_eq {α:Type} {a b:List α} (e:a=b) (j:Nat) (h1:j<a.length) (h2:j<b.length):a[j]=b[j]:=by subst e;rfl
set_option maxHeartbeats 16000000 in
theorem plants_law (A:Option Addr) (n c:Nat) (at_:Int) (w:World) (ht:TapeArg A n w) (hv:VrOK w) :
  Calls Tryz.prog 6 #[.slice A n c, .int .i64 at_] w fun e w'=>e = .returned (.bool true)∧Below w.heap.size w w':=by
 have h0:=tape_new (c:=c) ht;have hb0:=(Below.refl w.heap.size w).alloc (Nat.le_refl _) (.cells #[.slice A n c, .int .i64 0] 25);have hz0:(w.alloc (.cells #[.slice A n c, .int .i64 0] 25)).heap.size=w.heap.size+1:=by simp
 generalize hw0:w.alloc (.cells #[.slice A n c, .int .i64 0] 25)=w0 at h0 hb0 hz0;have HW0:=Lib.hid hw0;have HV:=Lib.hid hv;obtain ⟨i0,hi,hz00,hz1,hz2⟩:=info_parts info_u8;clear hv ht
 go_enter Tryz.func6,Tryz.ntmps6
 go_upto_region 2 with fail
 clear hw0;go_wp2_with fail;refine (mplain_any w.heap.size w0 h0).mono ?_;rintro e w1 ⟨v,us,js,rfl,hul,hlj,hj2,hkn,hks,hup,ht1,hf1⟩;have hpn:=fun (i:Nat) (h1:i<us.length) (h2:i<(plK 0 js).length)=>hkn.pn hks i h1 h2;obtain ⟨g,f,nk,ck,-,rfl,-,-,hbg,hgl,-⟩:=id hkn;obtain ⟨N,hN⟩:∃N,us.length=N:=⟨_,rfl⟩;have hnk:nk=N:=by
  obtain ⟨-,A',c',e,-⟩:=hks w1 (Stay.refl _ _);injection e with _ e2 _;omega
 subst hnk;have hN2:1≤nk∧nk≤2:=by omega
 have HK:=Lib.hid (And.intro hul (And.intro hlj (And.intro hj2 (And.intro hkn (And.intro hks hup)))));have HPN:=Lib.hid (And.intro hpn hN);have HF1:=Lib.hid (And.intro ht1 hf1);clear hul hlj hj2 hkn hks hup hpn hN;go_wp2_with fail;refine (next_any w.heap.size (nk:Int) _ (by omega) (by omega) ht1).mono ?_
 rintro e w2 ⟨ri,rfl,r0,r1,ht2,hf2⟩;obtain ⟨q,rfl⟩:=Int.eq_ofNat_of_zero_le r0;have hq:q<nk:=by omega
 have hqu:q<us.length:=by have:=HPN.out.2;omega
 have hqj:q<js.length:=by have:=HK.out.2.1;omega
 have hqk:q<(plK 0 js).length:=by rw[plK_len];exact hqj
 have HF2:=Lib.hid (And.intro ht2 hf2);obtain ⟨u,hu⟩:∃u,us[q]=u:=⟨_,rfl⟩;have hcl:=(HK.out.2.2.2.2.1 w2 (Stay.of_fr hf2)).cell_at q hqu;rw[hu]at hcl;have hgl2:g<w2.heap.size:=hcl.2.1;have q1:w2.cell? ⟨g,f+q*11+1,none⟩=some (.int .i64 u.op):=hcl.2.2 1 (by decide)
 have q2:w2.cell? ⟨g,f+q*11+2,none⟩=some (.slice u.a1 u.n1 u.c1):=hcl.2.2 2 (by decide)
 have q3:w2.cell? ⟨g,f+q*11+3,none⟩=some (.slice u.a2 u.n2 u.c2):=hcl.2.2 3 (by decide)
 have q4:w2.cell? ⟨g,f+q*11+4,none⟩=some (.int .i64 u.mn):=hcl.2.2 4 (by decide)
 have q5:w2.cell? ⟨g,f+q*11+5,none⟩=some (.int .i64 u.mx):=hcl.2.2 5 (by decide)
 have hpat:(plK 0 js)[q].pat=shN js[q]:=by rw[plK_get js 0 q hqk hqj]
 have HM:=Lib.hid (show Calls Tryz.prog 28 #[.pointer (some ⟨w.heap.size,0,none⟩), .agg #[.int .i64 u.op, .slice u.a1 u.n1 u.c1, .slice u.a2 u.n2 u.c2, .int .i64 u.mn, .int .i64 u.mx]] w2 (MbN w.heap.size 18 (shN js[q]) w2) from by
  have h9:=HPN.out.1 q hqu hqk;rw[hu,hpat]at h9;exact memberN_any w.heap.size 4 18 _ u.pat w2 (h9.later (Stay.of_fr hf2)) (by omega) ht2)
 clear ht1 hf1 r0 r1 hf2 ht2 hcl hu hpat;go_wp2_with fail;refine HM.out.mono ?_;rintro e w3 ⟨tv,tl,rfl,htl,htn,htob,ht3,hf3⟩;obtain ⟨At,nt,ct,rfl⟩:=htob.form_;have HTK:=Lib.hid (And.intro htl (And.intro htn htob));have HF3:=Lib.hid (HF2.out.2.trans hf3);clear q1 q2 q3 q4 q5 HM htl htn htob hf3 hgl2;go_wp2_with fail;refine (next_any w.heap.size 3 _ (by omega) (by omega) ht3).mono ?_
 rintro e w4 ⟨ri,rfl,r0,r1,ht4,hf4⟩;obtain ⟨r,rfl⟩:=Int.eq_ofNat_of_zero_le r0;have hr5:r≤2:=by omega
 have HF4:=Lib.hid (HF3.out.trans hf4);have HO4:=Lib.hid (show OB 5 w2.heap.size (.slice At nt ct) tl w4 from HTK.out.2.2.fr hf4 (by have:=hb0.size;have:=HF1.out.2.size;have:=HF2.out.2.size;omega))
 have hkn4:KnV w.heap.size w4 (.slice (some ⟨g,f,none⟩) nk ck):=HK.out.2.2.2.1.later (Stay.of_fr HF4.out);clear ht3 hf4 r0 r1;go_wp2_with fail;refine (text_any w.heap.size r _ w4 hkn4 (by omega) ht4).mono ?_
 rintro e w5 ⟨vt,l,rfl,hll,hob,ht5,hf5⟩;obtain ⟨Av,nv,cv,rfl⟩:=hob.form_;have hz45:=hf5.size;have HF45:=Lib.hid hf5;have hll60:l.length≤60:=by omega
 have hbt:w.heap.size<w4.heap.size:=by have:=hb0.size;have:=HF1.out.2.size;have:=HF4.out.size;omega
 clear ht4 hkn4 hf5 hll;go_wp2_with (at_builtin;refine app_u8 Tryz.underlying41 hi hz00 hz1 hz2 _ _ _ l 32 32 w4.heap.size rfl rfl rfl rfl hob rfl (by omega) hz45 ?_;intro v6 w6 hob6 hb6 _ _)
 obtain ⟨A6,na,c6,rfl⟩:=hob6.form_;have hf46:Fr w.heap.size w4 w6:=(show Fr w.heap.size w4 w5 from HF45.out).then hb6;have HF6:=Lib.hid (HF4.out.trans hf46);have HO6:=Lib.hid (HO4.out.fr hf46 (by have:=hb0.size;have:=HF1.out.2.size;have:=HF2.out.2.size;omega))
 have ht6:TapeOK w.heap.size w6:=ht5.below' hb6 hbt;clear ht5 hob hb6 hf46 hz45;refine (next_any w.heap.size 3 _ (by omega) (by omega) ht6).mono ?_
 rintro e w7 ⟨ri,rfl,r0,r1,ht7,hf7⟩;obtain ⟨r2,rfl⟩:=Int.eq_ofNat_of_zero_le r0;have hr6:r2≤2:=by omega
 have HF7:=Lib.hid (HF6.out.trans hf7);have HO7:=Lib.hid (HO6.out.fr hf7 (by have:=hb0.size;have:=HF1.out.2.size;have:=HF2.out.2.size;omega))
 have HA7:=Lib.hid (hob6.fr hf7 hbt);have hkn7:KnV w.heap.size w7 (.slice (some ⟨g,f,none⟩) nk ck):=HK.out.2.2.2.1.later (Stay.of_fr HF7.out);clear ht6 hf7 r0 r1 hob6;go_wp2_with fail;refine (text_any w.heap.size r2 _ w7 hkn7 (by omega) ht7).mono ?_
 rintro e w8 ⟨vt2,l2,rfl,hll2,hob2,ht8,hf8⟩;obtain ⟨Bv,mv,dv,rfl⟩:=hob2.form_;have HF8:=Lib.hid (HF7.out.trans hf8);have HO8:=Lib.hid (HO7.out.fr hf8 (by have:=hb0.size;have:=HF1.out.2.size;have:=HF2.out.2.size;omega))
 have HA8:=Lib.hid (HA7.out.fr hf8 hbt);have HB8:=Lib.hid hob2;have hll62:l2.length≤60:=by omega
 have htl18:=HTK.out.1;have hfw:Fr w.heap.size w0 w8:=HF1.out.2.trans HF8.out;have hbel:Below w.heap.size w w8:=hb0.trans (hfw.below (Nat.le_refl _) (by omega))
 have HBEL:=Lib.hid hbel;clear ht7 hkn7 hf8 hll2 ht8 hob2 hfw hbel;have he0:OB 5 w8.heap.size (.slice (some ⟨w8.heap.size,0,none⟩) 0 0) [] (w8.alloc (.cells #[] 5)):=⟨rfl, .inr ⟨w8.heap.size,0,#[],rfl,Nat.le_refl _,heap_alloc_new _ _,Nat.le_refl _,Nat.zero_le _,rfl,rfl⟩⟩;have hbA:Below w8.heap.size w8 (w8.alloc (.cells #[] 5)):=(Below.refl _ _).alloc (Nat.le_refl _) _;have hz8:w8.heap.size≤(w8.alloc (.cells #[] 5)).heap.size:=by simp
 have hlA:OB 5 w4.heap.size (.slice A6 na c6) (l++[32]) (w8.alloc (.cells #[] 5)):=HA8.out.below hbA;go_wp2_with (at_builtin;first
  | (have prb:=hownC;clear prb;refine app_OB Tryz.underlying41 hi hz00 hz1 hz2 _ _ _ _ _ l2 w8.heap.size _ rfl rfl rfl rfl hownC hlB (by simp;omega) hz12 ?_;intro v13 w13 hownD hb13)
  | (have prb:=hownB;clear prb;refine app_u8 Tryz.underlying41 hi hz00 hz1 hz2 _ _ _ _ 32 32 w8.heap.size rfl rfl rfl rfl hownB rfl (by simp;omega) hz11 ?_;intro v12 w12 hownC hb12 _ _;have hlB:OB 5 w7.heap.size (.slice Bv mv dv) l2 w12:=HB8.out.below (((hbA.trans hb10).trans hb11).trans hb12);have hz12:w8.heap.size≤w12.heap.size:=Nat.le_trans hz11 hb12.size)
  | (have prb:=hownA;clear prb;refine app_OB Tryz.underlying41 hi hz00 hz1 hz2 _ _ _ _ _ tl w8.heap.size _ rfl rfl rfl rfl hownA hlT (by simp;omega) hz10 ?_;intro v11 w11 hownB hb11;have hz11:w8.heap.size≤w11.heap.size:=Nat.le_trans hz10 hb11.size)
  | (refine app_OB Tryz.underlying41 hi hz00 hz1 hz2 _ _ _ _ [] (l++[32]) w8.heap.size _ rfl rfl rfl rfl he0 hlA (by simp;omega) hz8 ?_;intro v10 w10 hownA hb10;have hz10:w8.heap.size≤w10.heap.size:=Nat.le_trans hz8 hb10.size;have hlT:OB 5 w2.heap.size (.slice At nt ct) tl w10:=HO8.out.below (hbA.trans hb10)))
 have hb813:Below w8.heap.size w8 w13:=(((hbA.trans hb10).trans hb11).trans hb12).trans hb13;obtain ⟨A13,n13,c13,rfl⟩:=hownD.form_;obtain ⟨aS,haS⟩:∃x,l.map UInt8.toNat=x:=⟨_,rfl⟩;obtain ⟨bS,hbS⟩:∃x,l2.map UInt8.toNat=x:=⟨_,rfl⟩;obtain ⟨tS,htS⟩:∃x,tl.map UInt8.toNat=x:=⟨_,rfl⟩;have hby:ByIn w13 (.slice A13 n13 c13) (aS++32::(tS++32::bS)):=by
  have h:=OBs.reads hownD;have e1:([]++(l++[(32:UInt8)])++tl++[(32:UInt8)]++l2).map UInt8.toNat=l.map UInt8.toNat++32::(tl.map UInt8.toNat++32::l2.map UInt8.toNat):=by simp
  rw[e1,haS,hbS,htS]at h;exact h
 have hna:na=aS.length+1:=by
  obtain ⟨_,_,e,-⟩:=OBs.reads HA8.out;injection e with _ e2 _;rw[e2,←haS];simp
 have hnt:nt=tS.length:=by
  obtain ⟨_,_,e,-⟩:=OBs.reads HO8.out;injection e with _ e2 _;rw[e2,htS]
 have hnab:na≤61:=by rw[hna,←haS];simp;omega
 have hntb:nt≤18:=by rw[hnt,←htS];simp;omega
 have hbl:(aS++32::(tS++32::bS)).length≤1000:=by rw[←haS,←hbS,←htS];simp;omega
 have h256:∀b∈aS++32::(tS++32::bS),b<256:=fun b hb=>by
  have h9:∀(L:List UInt8),b∈L.map UInt8.toNat→b<256:=fun L h=>by obtain ⟨u,-,rfl⟩:=List.mem_map.1 h;exact u.toNat_lt
  rcases List.mem_append.1 hb with hb | hb
  ·exact h9 l (haS▸hb)
  ·rcases List.mem_cons.1 hb with hb | hb
   ·omega
   ·rcases List.mem_append.1 hb with hb | hb
    ·exact h9 tl (htS▸hb)
    ·rcases List.mem_cons.1 hb with hb | hb
     ·omega
     ·exact h9 l2 (hbS▸hb)
 have htn:langN (shN js[q]) tS:=htS▸HTK.out.2.1;have HBW:=Lib.hid (HBEL.out.trans (hb813.mono HBEL.out.size));have hst:Stay w.heap.size w1 w13:=Stay.of_fr (HF8.out.then (hb813.mono HF8.out.size));have HA:=Lib.hid (splain_any (.slice (some ⟨g,f,none⟩) nk ck) (.slice A13 n13 c13) us js _ w13 (HK.out.2.2.2.2.1 w13 hst) ⟨by have:=HK.out.1;have:=HK.out.2.1;omega,by have:=HK.out.1;have:=HK.out.2.1;omega⟩ HK.out.2.2.1 HK.out.2.2.2.2.2 (HV.out.later HBW.out) hby (by omega) h256)
 have HTN:=Lib.hid (And.intro htn (And.intro hna hnt));have HBL:=Lib.hid hbl;clear he0 hbA hz8 hlA hownA hownB hownC hownD hlT hlB hz10 hz11 hz12 hb10 hb11 hb12 hb13 hb813 haS hbS htS hby hna hnt hbl h256 htn hst;refine HA.out.mono ?_;rintro e w14 ⟨v14,o,ms,rfl,hm,hla,hp,hs,hb14⟩;obtain ⟨htk0,hmem⟩:=plants_plain HK.out.2.2.1 (by have:=HK.out.1;have:=HK.out.2.1;omega) hla hp q hqj HTN.out.1
 have hnt0:0<nt:=by rw[HTN.out.2.2];exact List.length_pos_iff.2 htk0
 rw[←HTN.out.2.1,←HTN.out.2.2]at hmem;have HMEM:=Lib.hid hmem;have HB14:=Lib.hid (HBW.out.trans (hb14.mono HBW.out.size));have hol:o.length≤1000000:=by
  have h1:=hp.length_eq;have h2:=allK_len (f:=plF (plK 0 js) ms (aS++32::(tS++32::bS))) (L:=1000) (fun i=>Nat.le_trans (chA_len _ _ _) HBL.out) (plK 0 js).length 0;have h3:(plK 0 js).length≤2:=by rw[plK_len];have:=HK.out.1;have:=HK.out.2.1;omega
  have h4:(plK 0 js).length*1000≤2*1000:=Nat.mul_le_mul_right _ h3;omega
 obtain ⟨Ax,cx,rfl,hcx,hxc⟩:=id hm;obtain ⟨No,hNo⟩:∃N,o.length=N:=⟨_,rfl⟩;rw[hNo]at hcx hol hm⊢;have HM:=Lib.hid hm;have HX:=Lib.hid (And.intro hxc hNo);have hwa:IntKind.i64.wrap ((na:Int)+(nt:Int))=(na:Int)+(nt:Int):=IntWalk.i64_in _ (by omega)
 clear hmem hm hla hp hs hb14 hxc hNo htk0;have HNT:=Lib.hid hnt0;go_wp2_with fail;refine wp_nm fun W0 hW0=>?_;have hb0W:Below w14.heap.size w14 W0:=by rw[hW0];exact (Below.refl _ _).alloc (Nat.le_refl _) _
 have hX:W0.heap[w14.heap.size]?=some (.cells #[.int .i64 (q:Int), .int .i64 (na:Int), .int .i64 ((na:Int)+(nt:Int))] 61 (0,0)):=by rw[hW0];exact heap_alloc_new w14 _
 have HW:=Lib.hid (And.intro hb0W hX);have HM0:=Lib.hid (HM.out.later hb0W);clear hW0 hb0W hX
 go_loopw [15] (fun iv wr=>∃p:Nat,p≤No∧iv = .int .i64 (p:Int)∧Hid (∀j (h:j<o.length),j<p→o[j]≠(⟨q,na,na+nt⟩:Mt))∧Below W0.heap.size W0 wr) (fun iv _=>No - (intOf iv).toNat)
 case atStart=>exact ⟨0,by omega,rfl,fun j _ h=>absurd h (Nat.not_lt_zero j),Below.refl _ _⟩
 case round=>
  obtain ⟨p,hp,rfl,HALL,hbp⟩:=hrel;by_cases hlt2:p<No
  ·have hd2:decide ((p:Int)<(No:Int))=true:=decide_eq_true (by omega)
   have hdn2:decide (p<No)=true:=decide_eq_true hlt2;have hp1:p<o.length:=by have:=HX.out.2;omega
   obtain ⟨gx,fx,rfl,hgx,hxx⟩:=HX.out.1.resolve_left (by rintro rfl;cases hp1)
   obtain ⟨a,ha⟩:∃a,o[p]=a:=⟨_,rfl⟩;have hb14p:Below w14.heap.size w14 wr:=HW.out.1.trans (hbp.mono HW.out.1.size);have hx':=fun (d:BelT wr.heap.size wr) j hj=>((hb14p.trans (d.property.mono hb14p.size)).cell (p:=⟨gx,fx+p*3+j,none⟩) hgx).trans (hxx p hp1 j hj);rw[ha]at hx';have hg0l:w14.heap.size<W0.heap.size:=(Array.getElem?_eq_some_iff.1 HW.out.2).1;have hgr:w14.heap.size<wr.heap.size:=Nat.lt_of_lt_of_le hg0l hbp.size;have hrow:wr.heap[w14.heap.size]?=some (.cells #[.int .i64 (q:Int), .int .i64 (na:Int), .int .i64 ((na:Int)+(nt:Int))] 61 (0,0)):=(hbp.block _ hg0l).trans HW.out.2;have x0:∀d:BelT wr.heap.size wr,d.val.cell? ⟨gx,fx+p*3,none⟩=some (.int .i64 (a.k:Int)):=fun d=>hx' d 0 (by decide)
   have x1:∀d:BelT wr.heap.size wr,d.val.cell? ⟨gx,fx+p*3+1,none⟩=some (.int .i64 (a.f:Int)):=fun d=>hx' d 1 (by decide)
   have x2:∀d:BelT wr.heap.size wr,d.val.cell? ⟨gx,fx+p*3+2,none⟩=some (.int .i64 (a.t:Int)):=fun d=>hx' d 2 (by decide)
   have gx0:∀d:BelT wr.heap.size wr,gx<d.val.heap.size:=fun d=>Nat.lt_of_lt_of_le hgx (hb14p.trans (d.property.mono hb14p.size)).size;have want0:∀d:BelT wr.heap.size wr,d.val.cell? ⟨w14.heap.size,0,none⟩=some (.int .i64 (q:Int)):=fun d=>(d.property.cell (p:=⟨w14.heap.size,0,none⟩) hgr).trans (cell_of_row _ _ _ _ _ _ hrow);have want1:∀d:BelT wr.heap.size wr,d.val.cell? ⟨w14.heap.size,1,none⟩=some (.int .i64 (na:Int)):=fun d=>(d.property.cell (p:=⟨w14.heap.size,1,none⟩) hgr).trans (cell_of_row _ _ _ _ _ _ hrow);have want2:∀d:BelT wr.heap.size wr,d.val.cell? ⟨w14.heap.size,2,none⟩=some (.int .i64 ((na:Int)+(nt:Int))):=fun d=>(d.property.cell (p:=⟨w14.heap.size,2,none⟩) hgr).trans (cell_of_row _ _ _ _ _ _ hrow);have gw0:∀d:BelT wr.heap.size wr,w14.heap.size<d.val.heap.size:=fun d=>Nat.lt_of_lt_of_le hgr d.property.size;have HBP:=Lib.hid hbp;have HA9:=Lib.hid ha;clear hxx hx' hgx hbp hb14p hg0l hgr hrow ha;obtain ⟨ak,af,at_⟩:=a;simp only at x0 x1 x2;by_cases heq:ak=q∧af=na∧at_=na+nt
   ·obtain ⟨rfl,rfl,rfl⟩:=heq;have hpush:((af+nt:Nat):Int)=(af:Int)+(nt:Int):=by push_cast;rfl
    rw[hpush]at x2;clear hpush;go_wp2_with fail;refine wp_region_below (Below.refl wr.heap.size wr) (by kernel_rfl) (by kernel_rfl) ?_
    repeat (go_big_quiet_step (fail))
    refine wpQuiet_nil ?_;intro wz hw';have hwz:Below wr.heap.size wr wz:=by obtain ⟨d9,rfl⟩:=hw';exact d9.property
    have HBZ:=Lib.hid (HBP.out.trans (hwz.mono HBP.out.size));have w1z:wz.cell? ⟨w14.heap.size,1,none⟩=some (.int .i64 (af:Int)):=want1 ⟨wz,hwz⟩;have gwz:w14.heap.size<wz.heap.size:=gw0 ⟨wz,hwz⟩;clear hw' x0 x1 x2 want0 want1 want2 gx0 gw0 hwz;go_wp2_with fail;refine (coversQ_any _ o (af:Int) wz (HM0.out.later HBZ.out) (by have:=HX.out.2;omega)).mono ?_
    rintro e w20 ⟨rv,rfl,hor,hb20⟩;obtain ⟨y,rs,hcov,hyp⟩:=covQ_mem (p:=(af:Int)) hp1 (by
     unfold cvQ;rw[List.getElem?_eq_getElem hp1,HA9.out];have:=HNT.out;simp;omega)
    rw[hcov]at hor;obtain ⟨Ar,nr,cr,rfl⟩:∃A n c,rv = .slice A n c:=by obtain ⟨A',c',e,-⟩:=hor.cells inC_E;exact ⟨_,_,_,e⟩
    obtain ⟨gr,rfl,hgr,hcr⟩:=int_row_at2 hor (p:=0) (by simp)
    have hnr:0<nr:=by
     obtain ⟨A',c',e,-⟩:=hor.cells inC_E;injection e with _ e2 _;rw[e2];simp
    have hcr0:w20.cell? ⟨gr,0,none⟩=some (.int .i64 (y:Int)):=hcr;have hd5:decide ((0:Int)<(nr:Int))=true:=decide_eq_true (by omega)
    have hd6:decide ((y:Int)≤(p:Int))=true:=decide_eq_true (by omega)
    have hd7:decide (0<nr)=true:=decide_eq_true hnr;have hd8:decide (y≤p)=true:=decide_eq_true hyp;have HBF:=Lib.hid (HB14.out.trans (HW.out.1.trans ((HBZ.out.trans (hb20.mono HBZ.out.size)).mono HW.out.1.size) |>.mono HB14.out.size));clear hor hcr hb20 hcov;go_wp2_with fail;go_ret;exact ⟨rfl,HBF.out⟩
   ·have HNE:=Lib.hid heq;have hcase:(¬ak=q∧¬((ak:Int)=(q:Int)))∨(ak=q∧¬af=na∧¬((af:Int)=(na:Int)))∨(ak=q∧af=na∧¬at_=na+nt∧¬((at_:Int)=(na:Int)+(nt:Int))):=by omega
    clear heq;rcases hcase with ⟨z1,z2⟩ | ⟨rfl,z1,z2⟩ | ⟨rfl,rfl,z1,z2⟩
    all_goals
     go_wp2_with fail;refine wp_region_below (Below.refl wr.heap.size wr) (by kernel_rfl) (by kernel_rfl) ?_
     repeat (go_big_quiet_step (fail))
     refine wpQuiet_nil ?_;intro wz hw';have hwz:Below wr.heap.size wr wz:=by obtain ⟨d9,rfl⟩:=hw';exact d9.property
     have HBZ:=Lib.hid (HBP.out.trans (hwz.mono HBP.out.size));clear hw' x0 x1 x2 want0 want1 want2 gx0 gw0 hwz;go_wp2_with fail;go_roundw
     case rel=>
      refine ⟨p+1,by omega,by go_num,fun j h hj=>?_,HBZ.out⟩
      by_cases hjp:j=p
      ·subst hjp;rw[HA9.out];intro e;injection e with e1 e2 e3
       first | exact z1 e1 | exact z1 e2 | exact z1 e3
      ·exact HALL.out j h (by omega)
     case measure=>simp[intOf];omega
  ·exfalso;obtain ⟨j,hj,he⟩:=List.mem_iff_getElem.1 HMEM.out;exact HALL.out j hj (by have:=HX.out.2;omega) he
end Go.Proofs.YtoaibhacognbjaaGreatDoor
