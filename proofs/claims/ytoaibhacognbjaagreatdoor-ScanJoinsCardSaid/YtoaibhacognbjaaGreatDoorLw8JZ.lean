/- The law ScanJoins: the call returns true, for every tape. -/
import Derived.Test.YtoaibhacognbjaaGreatDoorY48d
import Derived.Test.YtoaibhacognbjaaGreatDoorY41
import Derived.Test.YtoaibhacognbjaaGreatDoorY38
import Derived.Test.YtoaibhacognbjaaGreatDoorY31
import Derived.Deep.RegionHeld3
import Derived.Deep.AppendLies
import Derived.Test.YtoaibhacognbjaaGreatDoorY03
import Derived.Laws.AppendOwnNone
import Derived.Test.YtoaibhacognbjaaGreatDoorY02
import Derived.WalkKit
import Derived.WalkSpells
import Derived.WalkLawsBesides
import Derived.Lib.Hide
import Derived.Lib.ConvBytes
import Derived.BigQuiet
import Derived.Test.YtoaibhacognbjaaGreatDoorY01
import Derived.IntWalk
import Derived.Laws.Entries
import Derived.Laws.Closers25b
import Derived.Laws.BitsAllLaws
import Derived.Lib.Strings
import Derived.Test.YtoaibhacognbjaaGreatDoorY30
import Derived.Test.YtoaibhacognbjaaGreatDoorY28
import Derived.Test.YtoaibhacognbjaaGreatDoorY23
import Derived.Test.YtoaibhacognbjaaGreatDoorY22
import Derived.Test.YtoaibhacognbjaaGreatDoorY21
import Derived.Test.YtoaibhacognbjaaGreatDoorY16
import Derived.Test.YtoaibhacognbjaaGreatDoorY14
import Derived.Test.YtoaibhacognbjaaGreatDoorY12
import Derived.Test.YtoaibhacognbjaaGreatDoorY10
import Derived.Test.YtoaibhacognbjaaGreatDoorY08
import Derived.Test.YtoaibhacognbjaaGreatDoorY07
import Derived.Test.YtoaibhacognbjaaGreatDoorY06
import Derived.Test.YtoaibhacognbjaaGreatDoorY04
import Derived.Test.YtoaibhacognbjaaGreatDoorY05
import Derived.Deep.QuietTactic
import Derived.Laws.OwnMore
import Derived.Test.YtoaibhacognbjaaGreatDoorY09
import Derived.Lib.AppendZerosOnto
import Derived.Lib.SliceRun
import Derived.Lib.OwnBridge
import Derived.LoopN
import Derived.StillTailTactics
import Derived.Test.YtoaibhacognbjaaGreatDoorY11
import Derived.Maps.Own
import Derived.Maps.OwnOps
import Derived.Maps.OwnSet
import Derived.Maps.Views
import Derived.Test.YtoaibhacognbjaaGreatDoorY13
import Derived.Lib.ItoaNum
import Derived.Lib.Itoa
import Derived.Test.YtoaibhacognbjaaGreatDoorY15
import Derived.RangeFuncRecord
import Derived.Test.YtoaibhacognbjaaGreatDoorY20
import Derived.Test.YtoaibhacognbjaaGreatDoorY17
import Derived.Lib.AppendStr
import Derived.Shelf.Strings.Builder1
import Derived.Lib.FrozenHead
import Derived.Test.YtoaibhacognbjaaGreatDoorY19
import Derived.Test.YtoaibhacognbjaaGreatDoorY18
import Derived.Lib.LaidTab
import Derived.Laws.MakeOwn
import Derived.Shelf.Slices.Turned
import Derived.Deep.LoopGhost
import Derived.Test.YtoaibhacognbjaaGreatDoorY24
import Derived.Test.YtoaibhacognbjaaGreatDoorY27
import Derived.Test.YtoaibhacognbjaaGreatDoorY25
import Derived.Test.YtoaibhacognbjaaGreatDoorY26
import Derived.Lib.AsciiSet
import Derived.Deep.WholeRow
import Derived.Lib.SmallJoins
import Derived.Test.YtoaibhacognbjaaGreatDoorY29
import Derived.Deep.CutRange
import Derived.Test.YtoaibhacognbjaaGreatDoorY37
import Derived.Test.YtoaibhacognbjaaGreatDoorY32
import Derived.RangeFuncNested
import Derived.RangeFuncBound
import Derived.RangeFuncCalls
import Derived.RangeFuncLeaves
import Derived.RangeFuncWrites
import Derived.Shelf.Abstract
import Derived.Shelf.RegionOpen
import Derived.OwnWalkIn
import Derived.TacticsInMore
import Derived.LoopNIn
import Derived.LoopIn
import Derived.Test.YtoaibhacognbjaaGreatDoorY36
import Derived.Test.YtoaibhacognbjaaGreatDoorY35
import Derived.Test.YtoaibhacognbjaaGreatDoorY34
import Derived.Test.YtoaibhacognbjaaGreatDoorY33
import Derived.Test.YtoaibhacognbjaaGreatDoorY40
import Derived.Shelf.SlSortCmp.NoneTotal
import Derived.Test.YtoaibhacognbjaaGreatDoorY45
import Derived.Test.YtoaibhacognbjaaGreatDoorY44
import Derived.Test.YtoaibhacognbjaaGreatDoorY43
import Derived.Test.YtoaibhacognbjaaGreatDoorY42
import Derived.Laws.Rows
import Derived.Test.YtoaibhacognbjaaGreatDoorY48
namespace Go.Proofs.YtoaibhacognbjaaGreatDoor
set_option linter.unusedVariables false
set_option linter.unusedSimpArgs false
set_option maxRecDepth 100000
open Go.RowKit
theorem joins_plain {js:List Nat} {ms1 ms2 ms3:List Mc} {bs1 bs:List Nat} {o1 o2 o3:List Mt} (hj:∀j∈js,j<2) (hl:js.length≤2) (h1:LaA (plK 0 js) 0 ms1) (h2:LaA (plK 0 js) 0 ms2) (h3:LaA (plK 0 js) 0 ms3) (p1:o1.Perm (allK (plF (plK 0 js) ms1 bs1) (plK 0 js).length 0)) (s1:o1.Pairwise LeMt)
  (p2:o2.Perm (allK (plF (plK 0 js) ms2 bs) (plK 0 js).length 0)) (s2:o2.Pairwise LeMt) (p3:o3.Perm (allK (plF (plK 0 js) ms3 (bs1++10::bs)) (plK 0 js).length 0)) (s3:o3.Pairwise LeMt):o3=o1++shM (bs1.length+1) o2:=by
 have hk:∀q∈plK 0 js,∃j,j<2∧q.pat=shN j∧q.wh=true:=fun q hq=>(plK_mem hq hl hj).2;have hf:∀i,0≤i→i<0+(plK 0 js).length→plF (plK 0 js) ms3 (bs1++10::bs) i=plF (plK 0 js) ms1 bs1 i++shiftL (bs1.length+1) (plF (plK 0 js) ms2 bs i):=fun i _ hi=>by
  have hi':i<(plK 0 js).length:=by omega
  obtain ⟨m1,e1,-,-,l1⟩:=plF_no h1 hk i hi';obtain ⟨m2,e2,-,-,l2⟩:=plF_no h2 hk i hi';obtain ⟨m3,e3,-,n10,l3⟩:=plF_no h3 hk i hi';rw[e1,e2,e3,chA_sep n10 (by decide)]
  rw[chA_lang (m1:=m3) (m2:=m1) fun u=>by rw[Bool.eq_iff_iff,l3,l1]]
  rw[chA_lang (m1:=m3) (m2:=m2) fun u=>by rw[Bool.eq_iff_iff,l3,l2]]
 exact joined_sorted s1 s2 s3 (p3.trans ((allK_perm hf).trans (p1.symm.append (shM_perm p2.symm)))) (fun a ha=>by
  have:=plF_le p1 ha;omega)
theorem info_match2:(Tryz.prog.info? 61).map (fun i=>(i.zero,i.size))=some (some (.agg #[.int .i64 0, .int .i64 0, .int .i64 0]),3):=by kernel_rfl
theorem st_match {W:World} {g:Nat} {old:Array Value} (l:List Value) (h:W.heap[g]?=some (.cells old 61 (0,0))) (ho:old.size=3) (hr:l.length=3) (h1:∀v∈l,v.oneCell'=true):(storeCells ⟨g,0,none⟩ l 0).run Tryz.prog W = .ok () (W.setRow g l.toArray):=by
 have hi:=(zero_of_info info_match2).2;have:=run_storeVar_row (P:=Tryz.prog) W g 61 61 old l.toArray h (by simp only[List.size_toArray,hr];exact hi) (by simp;omega) (Array.all_eq_true_iff_forall_mem.2 fun v hv=>h1 v (by simpa using hv))
 cases hq:Tryz.prog.info? 61 with
 | none=>simp[hq]at hi
 | some i=>
  have hs:l.length=i.size:=by simp[hq]at hi;omega
  simpa [storeVar,sizeOf,typeInfo,hq,Value.cells,hs] using this
theorem joins_sub {q N1 N2 p:Nat} (h:q=N1+p) (hp:p<N2) (hN:(N1:Int)+(N2:Int)≤9223372036854775807):IntKind.i64.wrap ((q:Int) - (N1:Int))=(p:Int):=by
 rw[show (q:Int) - (N1:Int)=(p:Int) by omega]
 exact IntWalk.i64_in _ (by omega)
theorem joins_len {n:Nat} (h:n≤90):IntKind.i64.wrap ((n:Int)+1)=(n:Int)+1:=IntWalk.i64_in _ (by omega)
theorem joins_add {n f:Nat} (h:n≤90) (hf:f≤90):IntKind.i64.wrap ((f:Int)+((n:Int)+1))=(f:Int)+((n:Int)+1):=IntWalk.i64_in _ (by omega)
set_option maxHeartbeats 16000000 in
theorem joins_law (A:Option Addr) (n c:Nat) (w:World) (ht:TapeArg A n w) (hv:VrOK w) :
  Calls Tryz.prog 8 #[.slice A n c] w fun e w'=>e = .returned (.bool true)∧Below w.heap.size w w':=by
 have h0:=tape_new (c:=c) ht;have hb0:=(Below.refl w.heap.size w).alloc (Nat.le_refl _) (.cells #[.slice A n c, .int .i64 0] 25);have hz0:(w.alloc (.cells #[.slice A n c, .int .i64 0] 25)).heap.size=w.heap.size+1:=by simp
 generalize hw0:w.alloc (.cells #[.slice A n c, .int .i64 0] 25)=w0 at h0 hb0 hz0;have HW0:=Lib.hid hw0;have HV:=Lib.hid hv;obtain ⟨i0,hi,hz00,hz1,hz2⟩:=info_parts info_u8;clear hv ht
 go_enter Tryz.func8,Tryz.ntmps8
 go_upto_region 2 with fail
 clear hw0;go_wp2_with fail;refine (mplain_any w.heap.size w0 h0).mono ?_;rintro e w1 ⟨v,us,js,rfl,hul,hlj,hj2,hkn,hks,hup,ht1,hf1⟩;have HK:=Lib.hid (And.intro hul (And.intro hlj (And.intro hj2 (And.intro hkn (And.intro hks hup)))));have HF1:=Lib.hid (And.intro ht1 hf1);clear hul hlj hj2 hkn hks hup;go_wp2_with fail;refine (next_any w.heap.size 4 _ (by omega) (by omega) ht1).mono ?_
 rintro e w2 ⟨ri,rfl,r0,r1,ht2,hf2⟩;obtain ⟨r,rfl⟩:=Int.eq_ofNat_of_zero_le r0;have hr5:r≤3:=by omega
 have HF2:=Lib.hid (And.intro ht2 hf2);have hkn2:KnV w.heap.size w2 v:=HK.out.2.2.2.1.later (Stay.of_fr hf2);clear ht1 hf1 r0 r1 hf2;go_wp2_with fail;refine (text_any w.heap.size r v w2 hkn2 (by omega) ht2).mono ?_
 rintro e w3 ⟨vt,l,rfl,hll,hob,ht3,hf3⟩;obtain ⟨Av,nv,cv,rfl⟩:=hob.form_;have HT:=Lib.hid (And.intro hll hob);have HF3:=Lib.hid (HF2.out.2.trans hf3);clear ht2 hkn2 hll hob hf3;go_wp2_with fail;refine (next_any w.heap.size 4 _ (by omega) (by omega) ht3).mono ?_
 rintro e w4 ⟨ri,rfl,r0,r1,ht4,hf4⟩;obtain ⟨r2,rfl⟩:=Int.eq_ofNat_of_zero_le r0;have hr6:r2≤3:=by omega
 have HF4:=Lib.hid (HF3.out.trans hf4);have hkn4:KnV w.heap.size w4 v:=HK.out.2.2.2.1.later (Stay.of_fr HF4.out);have hobA:OB 5 w2.heap.size (.slice Av nv cv) l w4:=HT.out.2.fr hf4 (by have:=hb0.size;have:=HF1.out.2.size;have:=HF2.out.2.size;omega)
 have HOA:=Lib.hid hobA;clear ht3 r0 r1 hf4 hobA;go_wp2_with fail;refine (text_any w.heap.size r2 v w4 hkn4 (by omega) ht4).mono ?_
 rintro e w5 ⟨vt2,l2,rfl,hll2,hob2,ht5,hf5⟩;obtain ⟨Bv,mv,dv,rfl⟩:=hob2.form_;have hobA:OB 5 w2.heap.size (.slice Av nv cv) l w5:=HOA.out.fr hf5 (by have:=hb0.size;have:=HF1.out.2.size;have:=HF2.out.2.size;omega)
 have HT2:=Lib.hid (And.intro hll2 (And.intro hob2 hobA));have HF5:=Lib.hid (HF4.out.trans hf5);clear ht4 ht5 hkn4 hll2 hob2 hf5 hobA;obtain ⟨bs1,has⟩:∃bs1,l.map UInt8.toNat=bs1:=⟨_,rfl⟩;obtain ⟨bs,hbs⟩:∃bs,l2.map UInt8.toNat=bs:=⟨_,rfl⟩;have hfw:Fr w.heap.size w0 w5:=HF1.out.2.trans HF5.out;have hbel:Below w.heap.size w w5:=hb0.trans (hfw.below (Nat.le_refl _) (by omega))
 have hbyA:ByIn w5 (.slice Av nv cv) (l.map UInt8.toNat):=OBs.reads HT2.out.2.2;have hbyB:ByIn w5 (.slice Bv mv dv) (l2.map UInt8.toNat):=OBs.reads HT2.out.2.1;rw[has]at hbyA;have HNV:=Lib.hid (show nv=bs1.length by obtain ⟨_,_,e,-⟩:=hbyA;injection e)
 rw[hbs]at hbyB;have hal:bs1.length≤90:=by rw[←has,List.length_map];have:=HT.out.1;omega
 have hbl:bs.length≤90:=by rw[←hbs,List.length_map];have:=HT2.out.1;omega
 have ha256:∀b∈bs1,b<256:=fun b hb=>by rw[←has]at hb;obtain ⟨u,-,rfl⟩:=List.mem_map.1 hb;exact u.toNat_lt
 have hb256:∀b∈bs,b<256:=fun b hb=>by rw[←hbs]at hb;obtain ⟨u,-,rfl⟩:=List.mem_map.1 hb;exact u.toNat_lt
 have hsc:∀W,Below w5.heap.size w5 W→∀vt ts,ByIn W vt ts→ts.length≤1000→(∀b∈ts,b<256)→Calls Tryz.prog 29 #[v,vt] W (SpPost (plK 0 js) ts W):=fun W hW vt ts hy h1 h2=>by
  have hst:Stay w.heap.size w1 W:=Stay.of_fr (HF5.out.then (hW.mono HF5.out.size));exact splain_any v vt us js ts W (HK.out.2.2.2.2.1 W hst) ⟨by have:=HK.out.1;have:=HK.out.2.1;omega,by have:=HK.out.1;have:=HK.out.2.1;omega⟩ HK.out.2.2.1 HK.out.2.2.2.2.2 (HV.out.later (hbel.trans (hW.mono hbel.size))) hy (by omega) h2
 have H5:=Lib.hid (And.intro hbel (And.intro has (And.intro hbs (And.intro hal (And.intro hbl (And.intro ha256 (And.intro hb256 (And.intro hbyA hbyB))))))));have HSC:=Lib.hid hsc;clear hfw hbel has hbs hal hbl ha256 hb256 hbyA hbyB hsc;go_wp2_with fail;refine (HSC.out w5 (Below.refl _ _) _ bs1 H5.out.2.2.2.2.2.2.2.1 (by have:=H5.out.2.2.2.1;omega) H5.out.2.2.2.2.2.1).mono ?_
 rintro e w6 ⟨v6,o1,ms1,rfl,hm1,hla1,hp1,hs1,hb6⟩;have H6:=Lib.hid (And.intro hm1 (And.intro hla1 (And.intro hp1 (And.intro hs1 hb6))));clear hm1 hla1 hp1 hs1 hb6;go_wp2_with fail;refine (HSC.out w6 H6.out.2.2.2.2 _ bs (H5.out.2.2.2.2.2.2.2.2.later H6.out.2.2.2.2) (by have:=H5.out.2.2.2.2.1;omega) H5.out.2.2.2.2.2.2.1).mono ?_
 rintro e w7 ⟨v7,o2,ms2,rfl,hm2,hla2,hp2,hs2,hb7⟩;have H7:=Lib.hid (And.intro hm2 (And.intro hla2 (And.intro hp2 (And.intro hs2 hb7))));have hb6s:=H6.out.2.2.2.2.size;clear hm2 hla2 hp2 hs2 hb7;have hb57:Below w5.heap.size w5 w7:=H6.out.2.2.2.2.trans (H7.out.2.2.2.2.mono H6.out.2.2.2.2.size);have he0:OB 5 w7.heap.size (.slice (some ⟨w7.heap.size,0,none⟩) 0 0) [] (w7.alloc (.cells #[] 5)):=⟨rfl, .inr ⟨w7.heap.size,0,#[],rfl,Nat.le_refl _,heap_alloc_new _ _,Nat.le_refl _,Nat.zero_le _,rfl,rfl⟩⟩;have hbA:Below w7.heap.size w7 (w7.alloc (.cells #[] 5)):=(Below.refl _ _).alloc (Nat.le_refl _) _;have hz7:w7.heap.size≤(w7.alloc (.cells #[] 5)).heap.size:=by simp
 have hlA:OB 5 w2.heap.size (.slice Av nv cv) l (w7.alloc (.cells #[] 5)):=(HT2.out.2.2.below hb57).below hbA;have hlB:OB 5 w4.heap.size (.slice Bv mv dv) l2 w7:=HT2.out.2.1.below hb57;have HLB:=Lib.hid hlB;have hlen1:=HT.out.1;have hlen2:=HT2.out.1;clear hlB;go_wp2_with (at_builtin;first
  | (have prb:=hownB;clear prb;refine app_OB Tryz.underlying41 hi hz00 hz1 hz2 _ _ _ _ _ l2 w7.heap.size _ rfl rfl rfl rfl hownB hlB9 (by simp;omega) hz9 ?_;intro v10 w10 hownC hb10)
  | (have prb:=hownA;clear prb;refine app_u8 Tryz.underlying41 hi hz00 hz1 hz2 _ _ _ _ 10 10 w7.heap.size rfl rfl rfl rfl hownA rfl (by simp;omega) hz8 ?_;intro v9 w9 hownB hb9 _ _;have hlB9:OB 5 w4.heap.size (.slice Bv mv dv) l2 w9:=HLB.out.below ((hbA.trans hb8).trans hb9);have hz9:w7.heap.size≤w9.heap.size:=Nat.le_trans hz8 hb9.size)
  | (refine app_OB Tryz.underlying41 hi hz00 hz1 hz2 _ _ _ _ [] l w7.heap.size _ rfl rfl rfl rfl he0 hlA (by simp;omega) hz7 ?_;intro v8 w8 hownA hb8;have hz8:w7.heap.size≤w8.heap.size:=Nat.le_trans hz7 hb8.size))
 have hb510:Below w5.heap.size w5 w10:=hb57.trans (((hbA.trans hb8).trans (hb9.trans hb10)).mono hb57.size);have H10:=Lib.hid hb510;have hb710:Below w7.heap.size w7 w10:=(hbA.trans hb8).trans (hb9.trans hb10);have H710:=Lib.hid hb710;have H610:=Lib.hid (H7.out.2.2.2.2.trans (hb710.mono H7.out.2.2.2.2.size));obtain ⟨A10,n10,c10,rfl⟩:=hownC.form_;have hby10:ByIn w10 (.slice A10 n10 c10) (bs1++10::bs):=by
  have h:=OBs.reads hownC;have e1:([]++l++[(10:UInt8)]++l2).map UInt8.toNat=l.map UInt8.toNat++10::l2.map UInt8.toNat:=by simp
  rw[e1,H5.out.2.1,H5.out.2.2.1]at h;exact h
 have HB10:=Lib.hid hby10;clear hownA hownB hownC hb8 hb9 hb10 hlB9 hz8 hz9 hlA he0 hbA hz7 hlen1 hlen2 hb57 hb510 hby10 hb710 hb6s;refine (HSC.out w10 H10.out _ (bs1++10::bs) HB10.out (by have:=H5.out.2.2.2.1;have:=H5.out.2.2.2.2.1;simp;omega) (fun b hb=>by
  rcases List.mem_append.1 hb with hb | hb
  ·exact H5.out.2.2.2.2.2.1 b hb
  ·rcases List.mem_cons.1 hb with hb | hb
   ·omega
   ·exact H5.out.2.2.2.2.2.2.1 b hb)).mono ?_
 rintro e w11 ⟨v11,o3,ms3,rfl,hm3,hla3,hp3,hs3,hb11⟩;have heq:o3=o1++shM (bs1.length+1) o2:=joins_plain HK.out.2.2.1 (by have:=HK.out.1;have:=HK.out.2.1;omega) H6.out.2.1 H7.out.2.1 hla3 H6.out.2.2.1 H6.out.2.2.2.1 H7.out.2.2.1 H7.out.2.2.2.1 hp3 hs3
 subst heq;obtain ⟨Ax,cx,rfl,hcx,hxc⟩:=id H6.out.1;obtain ⟨Ay,cy,rfl,hcy,hyc⟩:=id H7.out.1;obtain ⟨Az,cz,rfl,hcz,hzc⟩:=id hm3;obtain ⟨N1,hN1⟩:∃N,o1.length=N:=⟨_,rfl⟩;obtain ⟨N2,hN2⟩:∃N,o2.length=N:=⟨_,rfl⟩;have hlo:(o1++shM (bs1.length+1) o2).length=N1+N2:=by unfold shM;simp[hN1,hN2]
 rw[hlo]at hcz⊢;rw[hN1]at hcx⊢;rw[hN2]at hcy⊢;have hln:l.length=bs1.length:=by rw[←H5.out.2.1,List.length_map]
 have H11:=Lib.hid (And.intro hb11 (And.intro hxc (And.intro hyc (And.intro hzc (And.intro hN1 (And.intro hN2 hlo))))));have H67:=Lib.hid (H610.out.trans (hb11.mono H610.out.size));have H77:=Lib.hid (H710.out.trans (hb11.mono H710.out.size));have hNi1:(N1:Int)+(N2:Int)≤9223372036854775807:=by omega
 clear hb11 hxc hyc hzc hN1 hN2 hlo hm3 hla3 hp3 hs3 hcx hcy hcz;go_wp2_with fail
 go_loopw [13] (fun iv wr=>∃q:Nat,q≤N1+N2∧iv = .int .i64 (q:Int)∧Below w11.heap.size w11 wr) (fun iv _=>N1+N2 - (intOf iv).toNat)
 case atStart=>exact ⟨0,by omega,rfl,Below.refl _ _⟩
 case round=>
  obtain ⟨q,hq,rfl,hbq⟩:=hrel;by_cases hlt2:q<N1+N2
  ·have hd2:decide ((q:Int)<((N1+N2:Nat):Int))=true:=decide_eq_true (by omega)
   have hd2':decide ((q:Int)<(N1:Int)+(N2:Int))=true:=decide_eq_true (by omega)
   have hdn2:decide (q<N1+N2)=true:=decide_eq_true hlt2;have HBQ:=Lib.hid hbq;obtain ⟨g0,hg0⟩:∃g,wr.heap.size=g:=⟨_,rfl⟩;clear hbq;by_cases hq1:q<N1
   ·have hd3:decide ((q:Int)<(N1:Int))=true:=decide_eq_true (by omega)
    have hdn3:decide (q<N1)=true:=decide_eq_true hq1;have hq1':q<o1.length:=by have:=H11.out.2.2.2.2.1;omega
    have hq3':q<(o1++shM (bs1.length+1) o2).length:=by have:=H11.out.2.2.2.2.2.2;omega
    obtain ⟨gx,fx,rfl,hgx,hxx⟩:=H11.out.2.1.resolve_left (by rintro rfl;cases hq1')
    obtain ⟨a,ha⟩:∃a,o1[q]=a:=⟨_,rfl⟩;have hbz:Below wr.heap.size wr (wr.alloc (.cells #[.int .i64 0, .int .i64 0, .int .i64 0] 61)):=(Below.refl _ _).alloc (Nat.le_refl _) _;have hb6r:Below w6.heap.size w6 wr:=by
     exact H67.out.trans (HBQ.out.mono H67.out.size)
    have hx':=fun j hj=>((hb6r.trans (hbz.mono hb6r.size)).cell (p:=⟨gx,fx+q*3+j,none⟩) hgx).trans (hxx q hq1' j hj);rw[ha]at hx';have x0:(wr.alloc (.cells #[.int .i64 0, .int .i64 0, .int .i64 0] 61)).cell? ⟨gx,fx+q*3,none⟩=some (.int .i64 (a.k:Int)):=hx' 0 (by decide)
    have x1:(wr.alloc (.cells #[.int .i64 0, .int .i64 0, .int .i64 0] 61)).cell? ⟨gx,fx+q*3+1,none⟩=some (.int .i64 (a.f:Int)):=hx' 1 (by decide)
    have x2:(wr.alloc (.cells #[.int .i64 0, .int .i64 0, .int .i64 0] 61)).cell? ⟨gx,fx+q*3+2,none⟩=some (.int .i64 (a.t:Int)):=hx' 2 (by decide)
    have hst:(storeCells ⟨g0,0,none⟩ [.int .i64 (a.k:Int), .int .i64 (a.f:Int), .int .i64 (a.t:Int)] 0).run Tryz.prog (wr.alloc (.cells #[.int .i64 0, .int .i64 0, .int .i64 0] 61)) = .ok () ((wr.alloc (.cells #[.int .i64 0, .int .i64 0, .int .i64 0] 61)).setRow g0 [.int .i64 (a.k:Int), .int .i64 (a.f:Int), .int .i64 (a.t:Int)].toArray):=st_match _ (by rw[←hg0]; exact heap_alloc_new _ _) (by simp) rfl (by intro v hv; simp at hv; rcases hv with rfl | rfl | rfl <;> rfl)
    clear hx';go_wp2_with fail;have hzq:(o1++shM (bs1.length+1) o2)[q]=a:=by rw[List.getElem_append_left hq1',ha]
    clear hxx ha hst x0 x1 x2;generalize hW1:wr.alloc (.cells #[.int .i64 (a.k:Int), .int .i64 (a.f:Int), .int .i64 (a.t:Int)] 61)=W1;have hW1b:Below wr.heap.size wr W1:=by rw[←hW1];exact (Below.refl _ _).alloc (Nat.le_refl _) _
    have hg1:W1.heap[g0]?=some (.cells #[.int .i64 (a.k:Int), .int .i64 (a.f:Int), .int .i64 (a.t:Int)] 61):=by rw[←hW1,←hg0];exact heap_alloc_new _ _
    clear hW1;have hg0l:g0<W1.heap.size:=(Array.getElem?_eq_some_iff.1 hg1).1;have hq3':q<(o1++shM (bs1.length+1) o2).length:=by have:=H11.out.2.2.2.2.2.2;omega
    obtain ⟨gz,fz,rfl,hgz,hzz⟩:=H11.out.2.2.2.1.resolve_left (by intro h;rw[h]at hq3';cases hq3')
    have hb11q:Below w11.heap.size w11 W1:=HBQ.out.trans (hW1b.mono HBQ.out.size);have hz':=fun (d:BelT W1.heap.size W1) j hj=>((hb11q.trans (d.property.mono hb11q.size)).cell (p:=⟨gz,fz+q*3+j,none⟩) hgz).trans (hzz q hq3' j hj);rw[hzq]at hz';have z0:∀d:BelT W1.heap.size W1,d.val.cell? ⟨gz,fz+q*3,none⟩=some (.int .i64 (a.k:Int)):=fun d=>hz' d 0 (by decide)
    have z1:∀d:BelT W1.heap.size W1,d.val.cell? ⟨gz,fz+q*3+1,none⟩=some (.int .i64 (a.f:Int)):=fun d=>hz' d 1 (by decide)
    have z2:∀d:BelT W1.heap.size W1,d.val.cell? ⟨gz,fz+q*3+2,none⟩=some (.int .i64 (a.t:Int)):=fun d=>hz' d 2 (by decide)
    have gz0:∀d:BelT W1.heap.size W1,gz<d.val.heap.size:=fun d=>Nat.lt_of_lt_of_le hgz (hb11q.trans (d.property.mono hb11q.size)).size;have want0:∀d:BelT W1.heap.size W1,d.val.cell? ⟨g0,0,none⟩=some (.int .i64 (a.k:Int)):=fun d=>(d.property.cell (p:=⟨g0,0,none⟩) hg0l).trans (cell_of_row _ _ _ _ _ _ hg1);have want1:∀d:BelT W1.heap.size W1,d.val.cell? ⟨g0,1,none⟩=some (.int .i64 (a.f:Int)):=fun d=>(d.property.cell (p:=⟨g0,1,none⟩) hg0l).trans (cell_of_row _ _ _ _ _ _ hg1);have want2:∀d:BelT W1.heap.size W1,d.val.cell? ⟨g0,2,none⟩=some (.int .i64 (a.t:Int)):=fun d=>(d.property.cell (p:=⟨g0,2,none⟩) hg0l).trans (cell_of_row _ _ _ _ _ _ hg1);have gw0:∀d:BelT W1.heap.size W1,g0<d.val.heap.size:=fun d=>Nat.lt_of_lt_of_le hg0l d.property.size;have HBQ1:=Lib.hid hb11q;clear hW1b hg1 hg0l hq3' hgz hzz hb11q hz';refine wp_region_below (Below.refl W1.heap.size W1) (by kernel_rfl) (by kernel_rfl) ?_
    repeat (go_big_quiet_step (fail))
    refine wpQuiet_nil ?_;intro wz hw';have hwz:Below W1.heap.size W1 wz:=by obtain ⟨d9,rfl⟩:=hw';exact d9.property
    have HBZ:=Lib.hid (HBQ1.out.trans (hwz.mono HBQ1.out.size));clear hw' z0 z1 z2 want0 want1 want2 gz0 gw0 hwz;go_wp2_with fail;go_roundw
    case rel=>exact ⟨q+1,by omega,by go_num,HBZ.out⟩
    case measure=>simp[intOf];omega
   ·have hd3:decide ((q:Int)<(N1:Int))=false:=decide_eq_false (fun h=>hq1 (Int.ofNat_lt.1 h));have hdn3:decide (q<N1)=false:=decide_eq_false hq1;obtain ⟨p,hqp⟩:=Nat.exists_eq_add_of_le (Nat.le_of_not_lt hq1);have hp:p<N2:=Nat.lt_of_add_lt_add_left (hqp▸hlt2);have hp2':p<o2.length:=Nat.lt_of_lt_of_eq hp H11.out.2.2.2.2.2.1.symm;have hq3':q<(o1++shM (bs1.length+1) o2).length:=by have:=H11.out.2.2.2.2.2.2;omega
    obtain ⟨gy,fy,rfl,hgy,hyy⟩:=H11.out.2.2.1.resolve_left (by rintro rfl;cases hp2')
    obtain ⟨b,ha⟩:∃a,o2[p]=a:=⟨_,rfl⟩;have hbz:Below wr.heap.size wr (wr.alloc (.cells #[.int .i64 0, .int .i64 0, .int .i64 0] 61)):=(Below.refl _ _).alloc (Nat.le_refl _) _;have hb7r:Below w7.heap.size w7 wr:=H77.out.trans (HBQ.out.mono H77.out.size);have hx':=fun j hj=>((hb7r.trans (hbz.mono hb7r.size)).cell (p:=⟨gy,fy+p*3+j,none⟩) hgy).trans (hyy p hp2' j hj);rw[ha]at hx';have x0:(wr.alloc (.cells #[.int .i64 0, .int .i64 0, .int .i64 0] 61)).cell? ⟨gy,fy+p*3,none⟩=some (.int .i64 (b.k:Int)):=hx' 0 (by decide)
    have x1:(wr.alloc (.cells #[.int .i64 0, .int .i64 0, .int .i64 0] 61)).cell? ⟨gy,fy+p*3+1,none⟩=some (.int .i64 (b.f:Int)):=hx' 1 (by decide)
    have x2:(wr.alloc (.cells #[.int .i64 0, .int .i64 0, .int .i64 0] 61)).cell? ⟨gy,fy+p*3+2,none⟩=some (.int .i64 (b.t:Int)):=hx' 2 (by decide)
    have hst:(storeCells ⟨g0,0,none⟩ [.int .i64 (b.k:Int), .int .i64 (b.f:Int), .int .i64 (b.t:Int)] 0).run Tryz.prog (wr.alloc (.cells #[.int .i64 0, .int .i64 0, .int .i64 0] 61)) = .ok () ((wr.alloc (.cells #[.int .i64 0, .int .i64 0, .int .i64 0] 61)).setRow g0 [.int .i64 (b.k:Int), .int .i64 (b.f:Int), .int .i64 (b.t:Int)].toArray):=st_match _ (by rw[←hg0]; exact heap_alloc_new _ _) (by simp) rfl (by intro v hv; simp at hv; rcases hv with rfl | rfl | rfl <;> rfl)
    have hws:=joins_sub hqp hp hNi1;have HQP:=Lib.hid (And.intro hqp ha);clear hx' hqp ha
    go_upto_region 16 with fail
    generalize hW1:wr.alloc (.cells #[.int .i64 (b.k:Int), .int .i64 (b.f:Int), .int .i64 (b.t:Int)] 61)=W1;have hW1b:Below wr.heap.size wr W1:=by rw[←hW1];exact (Below.refl _ _).alloc (Nat.le_refl _) _
    have hg1:W1.heap[g0]?=some (.cells #[.int .i64 (b.k:Int), .int .i64 (b.f:Int), .int .i64 (b.t:Int)] 61):=by rw[←hW1,←hg0];exact heap_alloc_new _ _
    clear hW1;have hab:b.f≤90∧b.t≤90:=by
     have h7:=plF_le H7.out.2.2.1 (List.getElem_mem hp2');rw[HQP.out.2]at h7;have h8:=H5.out.2.2.2.2.1;omega
    have hal:=H5.out.2.2.2.1;have hw0:=joins_len hal;have hw1:=joins_add hal hab.1;have hw2:=joins_add hal hab.2;have hzq:(o1++shM (bs1.length+1) o2)[q]=⟨b.k,b.f+(bs1.length+1),b.t+(bs1.length+1)⟩:=by
     rw[List.getElem_append_right (by have:=H11.out.2.2.2.2.1;omega)]
     have hgm:∀(j:Nat) (hj:j<(shM (bs1.length+1) o2).length),j=p→(shM (bs1.length+1) o2)[j]=⟨b.k,b.f+(bs1.length+1),b.t+(bs1.length+1)⟩:=by
      rintro j hj rfl;rw[←HQP.out.2];exact List.getElem_map _
     exact hgm _ _ (by have:=H11.out.2.2.2.2.1;have:=HQP.out.1;omega)
    have HW:=Lib.hid (And.intro hzq hW1b);have hfz1:W1.frozen? ⟨g0,1,none⟩=false:=by simp[World.frozen?,hg1]
    have c1:=(cells3 hg1).2.1;clear hyy hst x0 x1 x2 hab hal hws hzq hW1b;have hnv:=HNV.out;subst hnv
    go_upto_region 17 with fail
    generalize hW2:W1.setCell ⟨g0,1,none⟩ (.int .i64 ((b.f:Int)+((bs1.length:Int)+1)))=W2;have hg2:W2.heap[g0]?=some (.cells #[.int .i64 (b.k:Int), .int .i64 ((b.f:Int)+((bs1.length:Int)+1)), .int .i64 (b.t:Int)] 61):=by rw[←hW2];exact set_row3 hg1 1 _
    have hW2b:Below wr.heap.size wr W2:=by rw[←hW2];exact HW.out.2.setCell (by dsimp only;omega) _
    have HW2:=Lib.hid hW2b;have hfz2:W2.frozen? ⟨g0,2,none⟩=false:=by simp[World.frozen?,hg2]
    have c2:=(cells3 hg2).2.2;clear hW2 hW2b hg1 hfz1 c1
    go_upto_region 18 with fail
    generalize hW3:W2.setCell ⟨g0,2,none⟩ (.int .i64 ((b.t:Int)+((bs1.length:Int)+1)))=W3;have hg3:W3.heap[g0]?=some (.cells #[.int .i64 (b.k:Int), .int .i64 ((b.f:Int)+((bs1.length:Int)+1)), .int .i64 ((b.t:Int)+((bs1.length:Int)+1))] 61):=by rw[←hW3];exact set_row3 hg2 2 _
    have hW3b:Below wr.heap.size wr W3:=by rw[←hW3];exact HW2.out.setCell (by dsimp only;omega) _
    have hzq:=HW.out.1;clear hW3 hg2 hfz2 c2 hw0 hw1 hw2;have hg0l:g0<W3.heap.size:=(Array.getElem?_eq_some_iff.1 hg3).1;have hq3':q<(o1++shM (bs1.length+1) o2).length:=by have:=H11.out.2.2.2.2.2.2;omega
    obtain ⟨gz,fz,rfl,hgz,hzz⟩:=H11.out.2.2.2.1.resolve_left (by intro h;rw[h]at hq3';cases hq3')
    have hb11q:Below w11.heap.size w11 W3:=HBQ.out.trans (hW3b.mono HBQ.out.size);have hz':=fun (d:BelT W3.heap.size W3) j hj=>((hb11q.trans (d.property.mono hb11q.size)).cell (p:=⟨gz,fz+q*3+j,none⟩) hgz).trans (hzz q hq3' j hj);rw[hzq]at hz';have z0:∀d:BelT W3.heap.size W3,d.val.cell? ⟨gz,fz+q*3,none⟩=some (.int .i64 (b.k:Int)):=fun d=>hz' d 0 (by decide)
    have z1:∀d:BelT W3.heap.size W3,d.val.cell? ⟨gz,fz+q*3+1,none⟩=some (.int .i64 ((b.f:Int)+((bs1.length:Int)+1))):=fun d=>(hz' d 1 (by decide)).trans (by show some (Value.int .i64 ((b.f+(bs1.length+1):Nat):Int))=_;push_cast;rfl)
    have z2:∀d:BelT W3.heap.size W3,d.val.cell? ⟨gz,fz+q*3+2,none⟩=some (.int .i64 ((b.t:Int)+((bs1.length:Int)+1))):=fun d=>(hz' d 2 (by decide)).trans (by show some (Value.int .i64 ((b.t+(bs1.length+1):Nat):Int))=_;push_cast;rfl)
    have gz0:∀d:BelT W3.heap.size W3,gz<d.val.heap.size:=fun d=>Nat.lt_of_lt_of_le hgz (hb11q.trans (d.property.mono hb11q.size)).size;have want0:∀d:BelT W3.heap.size W3,d.val.cell? ⟨g0,0,none⟩=some (.int .i64 (b.k:Int)):=fun d=>(d.property.cell (p:=⟨g0,0,none⟩) hg0l).trans (cell_of_row _ _ _ _ _ _ hg3);have want1:∀d:BelT W3.heap.size W3,d.val.cell? ⟨g0,1,none⟩=some (.int .i64 ((b.f:Int)+((bs1.length:Int)+1))):=fun d=>(d.property.cell (p:=⟨g0,1,none⟩) hg0l).trans (cell_of_row _ _ _ _ _ _ hg3);have want2:∀d:BelT W3.heap.size W3,d.val.cell? ⟨g0,2,none⟩=some (.int .i64 ((b.t:Int)+((bs1.length:Int)+1))):=fun d=>(d.property.cell (p:=⟨g0,2,none⟩) hg0l).trans (cell_of_row _ _ _ _ _ _ hg3);have gw0:∀d:BelT W3.heap.size W3,g0<d.val.heap.size:=fun d=>Nat.lt_of_lt_of_le hg0l d.property.size;have HBQ1:=Lib.hid hb11q;clear hW3b hg3 hg0l hq3' hgz hzz hb11q hz';refine wp_region_below (Below.refl W3.heap.size W3) (by kernel_rfl) (by kernel_rfl) ?_
    repeat (go_big_quiet_step (fail))
    refine wpQuiet_nil ?_;intro wz hw';have hwz:Below W3.heap.size W3 wz:=by obtain ⟨d9,rfl⟩:=hw';exact d9.property
    have HBZ:=Lib.hid (HBQ1.out.trans (hwz.mono HBQ1.out.size));clear hw' z0 z1 z2 want0 want1 want2 gz0 gw0 hwz;go_wp2_with fail;go_roundw
    case rel=>exact ⟨q+1,by omega,by go_num,HBZ.out⟩
    case measure=>simp[intOf];omega
  ·have hd2:decide ((q:Int)<((N1+N2:Nat):Int))=false:=decide_eq_false (fun h=>hlt2 (Int.ofNat_lt.1 h));have hd2':decide ((q:Int)<(N1:Int)+(N2:Int))=false:=decide_eq_false (fun h=>hlt2 (Int.ofNat_lt.1 (by push_cast;exact h)))
   have hdn2:decide (q<N1+N2)=false:=decide_eq_false hlt2;have HBQ:=Lib.hid (H5.out.1.trans ((H10.out.trans ((H11.out.1.trans (hbq.mono H11.out.1.size)).mono H10.out.size)).mono H5.out.1.size));clear hbq;go_wp2_with fail;refine (awake08 wr (HV.out.later HBQ.out)).mono ?_;rintro e wf ⟨rfl,hbf⟩;have HBF:=Lib.hid (HBQ.out.trans (hbf.mono HBQ.out.size));clear hbf;go_wp2_with fail;go_ret;exact ⟨rfl,HBF.out⟩
end Go.Proofs.YtoaibhacognbjaaGreatDoor
