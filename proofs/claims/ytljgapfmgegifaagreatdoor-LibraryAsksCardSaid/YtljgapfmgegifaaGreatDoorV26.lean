/- Walks: machine.Compile. Conditions: the variables read as laid. · Walks: pattern.kid, pattern.write and pattern.Text at any pattern. · Walks: pattern.Read, pattern.Parse at tk[0-9]{2}. -/
import Derived.Test.YtljgapfmgegifaaGreatDoorV25
import Derived.Test.YtljgapfmgegifaaGreatDoorV14
import Derived.Test.YtljgapfmgegifaaGreatDoorV18
import Derived.Test.YtljgapfmgegifaaGreatDoorV01
import Derived.Deep.RegionHeld3
import Derived.Test.YtljgapfmgegifaaGreatDoorV22
namespace Go.Proofs.YtljgapfmgegifaaGreatDoor
set_option linter.unusedVariables false
set_option linter.unusedSimpArgs false
set_option maxRecDepth 100000
open Go.RowKit
open Go.Maps (Keyed)
theorem mk_bools (n:Nat) (hn:n<=1000000) (w:World):(Instr.makeSlice 83 (.int .i64 (n:Int)) (.int .i64 (n:Int))).run Tryz.prog w = .ok (.slice (some ⟨w.heap.size,0,none⟩) n n) (w.alloc (.cells (Array.replicate n (.bool false)) 4)):=by
 obtain ⟨i0,hi,hz0,hz1,hz2⟩:=info_parts info_bool;have h:=run_makeSlice (P:=Tryz.prog) (w:=w) 83 4 i0 (.bool false) Tryz.underlying83 hi hz0 .i64 .i64 (n:Int) (n:Int) (by omega) (Int.le_refl _) (by rw[hz1];omega) (by rw[hz2];omega) (by omega)
 rw[hz1,Int.toNat_natCast]at h;rw[show madeCells (Value.bool false).cells (n*1)=Array.replicate n (.bool false) from Array.toList_inj.1 (by
  simp only[madeCells,Value.cells,Nat.mul_one,Array.toList_map,Array.toList_range,Array.toList_replicate];rw[List.eq_replicate_iff];refine ⟨by simp,λx hx=>?_⟩
  obtain ⟨i,-,rfl⟩:=List.mem_map.1 hx;simp[Nat.mod_one])]at h
 exact h
def StC7 (s:Nat) (W:World) (c:Nat) (w':World):Prop:=Below s W w'/\(c=0->Below W.heap.size W w')
def factC7 (w0:World) (s:Nat) (x2 x3 x4:Value) (Lg:LA) (pk KK:Nat) (W:World) (kv:Value):Nat->Nat->Value->World->Prop
 | c,0,x,w=>x = .pointer (some ⟨s,0,none⟩)
 | c,1,x,w=>x = .pointer (some ⟨s,0,none⟩)
 | c,2,x,w=>x = .pointer (some ⟨s,0,none⟩)
 | c,3,x,w=>x=kv
 | c,4,x,w=>c=1->WrP w0 s x2 x3 x4 ⟨[],[]⟩ [s] Lg pk KK W (.returned x) w
 | c,5,x,w=>∃g,x = .pointer (some ⟨g,0,none⟩)/\W.heap.size<=g/\g<w.heap.size/\w.heap[g]?=some (.cells #[.slice none 0 0, .slice none 0 0, .bool false] 150 (0,0))
 | _,_,_,_=>True
def StC30 (N:Nat) (W:World) (c:Nat) (w':World):Prop:=W.heap.size<=w'.heap.size/\w'.heap[N]?=W.heap[N]?/\(c<=1->Below W.heap.size W w')
def factC30 (w0:World) (s mb:Nat) (v0 v1 v2:Value) (b:Pb) (gs:List (List Nat)) (fp L:List Nat) (N i cE nL cL:Nat) (AE AL:Option Addr) (gv:List Value) (W:World):Nat->Nat->Value->World->Prop
 | c,0,x,w=>x = .pointer (some ⟨N,0,none⟩)
 | c,1,x,w=>x = .slice AE i cE
 | c,2,x,w=>x = .pointer (some ⟨s,0,none⟩)
 | c,3,x,w=>x = .slice AL nL cL
 | c,4,x,w=>c=1->∃A r c',x = .slice A r.length c'/\SortedF L r/\w.ownsRow W.heap.size 3 1 x r.length (ints r)/\IL w x r
 | c,5,x,w=>c=2->EdF w0 s mb v0 v1 v2 b gs fp L W x w
 | c,6,x,w=>c=3->∃g rv,x = .slice (some ⟨g,0,none⟩) 1 1/\W.heap.size<=g/\g<w.heap.size/\w.cell? ⟨g,0,none⟩=some rv/\rv.oneCell'=true/\EdF w0 s mb v0 v1 v2 b gs fp L W rv w
 | c,7,x,w=>c=4->∃rv w6 A c',x = .slice A (i+1) c'/\EdF w0 s mb v0 v1 v2 b gs fp L W rv w6/\w6.grownBy w (Value.slice AE i cE).ownBlock/\w.ownsRow w0.heap.size 153 1 x (i+1) (gv++[rv])/\Fresh x (.slice AE i cE) w6.heap.size
 | c,8,x,w=>x = .pointer (some ⟨N,0,none⟩)
 | _,_,_,_=>True
set_option maxHeartbeats 16000000 in
theorem compile_any (nd:Nd) (vs:List Value) (w:World) (hn:NdIn w nd vs) (hvr:VrOK w):Calls Tryz.prog 76 #[.agg vs.toArray] w (CmPost nd w):=by
 have HV:=Lib.hid (λW (hW:Below w.heap.size w W)=>valid_any nd vs W (hn.later hW));have HP:=Lib.hid (λW (hW:Below w.heap.size w W) (h:nodesT nd<=200) (hR:rightF nd=true)=>positions_any _ nd vs W (Nat.le_refl _) h hR (hn.later hW));have HW:=Lib.hid (λ(W:World) (s:Nat) (x2 x3 x4:Value) (hW:Below w.heap.size w W) (hR:rightF nd=true) (hp:posF nd<=600)=>write_any W s x2 x3 x4 _ nd vs (Nat.le_refl _) hR hp (hn.later hW));have HVR:=Lib.hid hvr;have hmm:=@run_makeMap Tryz.prog;obtain ⟨ie,hie,he0,he1,he2⟩:=info_parts info_es;obtain ⟨ib,hib,hb0,hb1,hb2⟩:=info_parts info_bool;obtain ⟨ii,hii,hj0,hj1,hj2⟩:=info_parts info_int;obtain ⟨A1,c1,A2,c2,rfl,hr,hc2,hk⟩:=hn.form;have HB:=Lib.hid (show Below w.heap.size w ((w.alloc (.cells #[.int .i64 nd.op, .slice A1 nd.rs.length c1, .slice A2 nd.kids.length c2, .int .i64 nd.mn, .int .i64 nd.mx] 31)).alloc (.cells #[.slice none 0 0, .slice none 0 0] 85)) from ((Below.refl _ _).alloc (Nat.le_refl _) _).alloc (by simp) _)
 have HX0:=Lib.hid (show ((w.alloc (.cells #[.int .i64 nd.op, .slice A1 nd.rs.length c1, .slice A2 nd.kids.length c2, .int .i64 nd.mn, .int .i64 nd.mx] 31)).alloc (.cells #[.slice none 0 0, .slice none 0 0] 85)).heap[w.heap.size]?=some (.cells #[.int .i64 nd.op, .slice A1 nd.rs.length c1, .slice A2 nd.kids.length c2, .int .i64 nd.mn, .int .i64 nd.mx] 31 (0,0)) from (old_alloc _ _ _ (by simp)).trans (heap_alloc_new w _))
 have HX1:=Lib.hid (show ((w.alloc (.cells #[.int .i64 nd.op, .slice A1 nd.rs.length c1, .slice A2 nd.kids.length c2, .int .i64 nd.mn, .int .i64 nd.mx] 31)).alloc (.cells #[.slice none 0 0, .slice none 0 0] 85)).heap[w.heap.size+1]?=some (.cells #[.slice none 0 0, .slice none 0 0] 85 (0,0)) from by simpa using heap_alloc_new (w.alloc _) (.cells #[.slice none 0 0, .slice none 0 0] 85))
 clear hr hk hn hvr
 go_enter Tryz.func76,Tryz.ntmps76
 go_wp2_with fail;refine (HV.out _ HB.out).mono ?_;rintro e w1 ⟨rfl,hb1⟩;have hz1:=hb1.size;simp only[World.size_alloc]at hz1;have HW1:=Lib.hid (show Below w.heap.size w w1 from HB.out.trans (hb1.mono HB.out.size));have hx0:=(hb1.block w.heap.size (by simp;omega)).trans HX0.out
 have hx1:=(hb1.block (w.heap.size+1) (by simp)).trans HX1.out
 obtain ⟨n0,n1,n2,n3,n4⟩:=cells5 hx0;obtain ⟨r0,r1⟩:w1.cell? ⟨w.heap.size+1,0,none⟩=some (.slice none 0 0)/\w1.cell? ⟨w.heap.size+1,1,none⟩=some (.slice none 0 0):=by constructor <;> (rw[cell_of_row _ _ _ _ _ _ hx1]; rfl)
 have f0:w1.frozen? ⟨w.heap.size+1,0,none⟩=false:=by simp[World.frozen?,hx1]
 have f1:w1.frozen? ⟨w.heap.size+1,1,none⟩=false:=by simp[World.frozen?,hx1]
 have lR:w.heap.size+1<w1.heap.size:=(Array.getElem?_eq_some_iff.1 hx1).1;have HY0:=Lib.hid hx0;have HY1:=Lib.hid hx1;obtain ⟨q,hq⟩:∃q,validF nd=q:=⟨_,rfl⟩;rw[hq];clear hx0 hx1 hb1;by_cases hq0:q=0
 case neg=>
  have d1:(q != 0)=true:=by simpa using hq0
  have HQ:=Lib.hid (And.intro hq hq0);clear hq hq0;go_wp2_with fail;refine post_named λWf hWf=>?_;refine bodyPost_ret (v:=.tuple #[mcNil, .int .i64 q]) (by rw[hWf];simp[results,Tryz.results76,go_sem,r0,r1,lR,mcNil];try rfl) rfl ?_
  refine ⟨?_, .inl ⟨by rw[HQ.out.1];exact HQ.out.2,by rw[HQ.out.1]⟩⟩
  rw[hWf];exact (HW1.out.setCell (p:=⟨w.heap.size+1,0,none⟩) (by show w.heap.size<=w.heap.size+1;omega) _).setCell (p:=⟨w.heap.size+1,1,none⟩) (by show w.heap.size<=w.heap.size+1;omega) _
 case pos=>
 subst hq0;have d1:((0:Int) != 0)=false:=rfl;obtain ⟨h200,hdp,hR,hlong⟩:=valid_zero hq;have HQ:=Lib.hid (And.intro hq (And.intro hR h200));clear hq hdp hR hlong h200;go_wp2_with fail;refine (HP.out _ HW1.out HQ.out.2.2 HQ.out.2.1).mono ?_;rintro e w2 ⟨rfl,hb2⟩;have hz2:=hb2.size;have HW2:=Lib.hid (HW1.out.trans (hb2.mono HW1.out.size));have hx0:=(hb2.block w.heap.size (by omega)).trans HY0.out
 have hx1:=(hb2.block (w.heap.size+1) lR).trans HY1.out;clear n0 n1 n2 n3 n4 r0 r1 f0 f1;obtain ⟨n0,n1,n2,n3,n4⟩:=cells5 hx0;obtain ⟨r0,r1⟩:w2.cell? ⟨w.heap.size+1,0,none⟩=some (.slice none 0 0)/\w2.cell? ⟨w.heap.size+1,1,none⟩=some (.slice none 0 0):=by constructor <;> (rw[cell_of_row _ _ _ _ _ _ hx1]; rfl)
 have f0:w2.frozen? ⟨w.heap.size+1,0,none⟩=false:=by simp[World.frozen?,hx1]
 have f1:w2.frozen? ⟨w.heap.size+1,1,none⟩=false:=by simp[World.frozen?,hx1]
 have lR2:w.heap.size+1<w2.heap.size:=by omega
 have HZ0:=Lib.hid hx0;have HZ1:=Lib.hid hx1;obtain ⟨pn,hpn⟩:∃p,posF nd=p:=⟨_,rfl⟩;rw[hpn];clear hx0 hx1 hb2;by_cases hp6:600<pn
 .have d2:decide (600<(pn:Int))=true:=decide_eq_true (by omega)
  have HPN:=Lib.hid (And.intro hpn hp6);clear hpn hp6;go_wp2_with fail;refine post_named λWf hWf=>?_;refine bodyPost_ret (v:=.tuple #[mcNil, .int .i64 3]) (by rw[hWf];simp[results,Tryz.results76,go_sem,r0,r1,lR2,mcNil];try rfl) rfl ?_
  refine ⟨?_, .inr (.inl ⟨HQ.out.1,by rw[HPN.out.1];exact HPN.out.2,rfl⟩)⟩
  rw[hWf];exact (HW2.out.setCell (p:=⟨w.heap.size+1,0,none⟩) (by show w.heap.size<=w.heap.size+1;omega) _).setCell (p:=⟨w.heap.size+1,1,none⟩) (by show w.heap.size<=w.heap.size+1;omega) _
 .have d2:decide (600<(pn:Int))=false:=decide_eq_false (by omega)
  have hroom:posF nd<=600/\cstF nd<=10000000000:=by
   refine ⟨by omega,?_⟩
   have h1:=cst_bd _ nd (Nat.le_refl _) HQ.out.2.1 (by omega)
   have h2:depthT nd<=20:=(valid_zero HQ.out.1).2.1;have h3:depthT nd*posF nd<=20*600:=Nat.mul_le_mul h2 (by omega)
   omega
  have HROOM:=Lib.hid hroom;have HWC:=Lib.hid (HW.out w2 (w2.heap.size+1) (.slice none 0 0) (.map (some w2.heap.size)) (.slice none 0 0) HW2.out HQ.out.2.1 hroom.1);have HPN:=Lib.hid hpn;have HMB:=Lib.hid (MV.made Tryz.prog 9 w2);clear hpn hroom;go_wp2_with fail;refine wp_named λW hW=>?_;have hzW:W.heap.size=w2.heap.size+2:=by rw[hW];simp
  have hbW:Below w2.heap.size w2 W:=by rw[hW];exact ((Below.refl _ _).alloc (Nat.le_refl _) _).alloc (by simp) _
  have hsW:W.heap[w2.heap.size+1]?=some (.cells #[.slice none 0 0, .slice none 0 0, .slice none 0 0, .map (some w2.heap.size), .slice none 0 0] 148 (0,0)):=by rw[hW];simpa using heap_alloc_new (w2.alloc (.map #[] 0)) (.cells #[.slice none 0 0, .slice none 0 0, .slice none 0 0, .map (some w2.heap.size), .slice none 0 0] 148)
  have hmW:MV Tryz.prog 9 w2.heap.size 0 (λ_=>none) W:=by rw[hW];exact HMB.out.kept (old_alloc _ _ _ (by simp))
  have hbu:BuI w2 (w2.heap.size+1) (.slice none 0 0) (.map (some w2.heap.size)) (.slice none 0 0) ⟨[],[]⟩ [w2.heap.size+1] W:=
   ⟨.slice none 0 0, .slice none 0 0,[],[],rfl,⟨by simp[blk,Value.ownBlock],by omega,hsW,World.ownsRow_nil _ _ _ _,λi hi=>(by cases hi),World.ownsRow_nil _ _ _ _,λi hi=>(by cases hi),hbW⟩⟩
  have HBU:=Lib.hid hbu;have HMW:=Lib.hid hmW;have HBW:=Lib.hid hbW;have lnd:w.heap.size<w2.heap.size+1:=by omega
  have m0:=(hbW.cell (p:=⟨w.heap.size,0,none⟩) (by show w.heap.size<w2.heap.size;omega)).trans n0
  have m1:=(hbW.cell (p:=⟨w.heap.size,1,none⟩) (by show w.heap.size<w2.heap.size;omega)).trans n1
  have m2:=(hbW.cell (p:=⟨w.heap.size,2,none⟩) (by show w.heap.size<w2.heap.size;omega)).trans n2
  have m3:=(hbW.cell (p:=⟨w.heap.size,3,none⟩) (by show w.heap.size<w2.heap.size;omega)).trans n3
  have m4:=(hbW.cell (p:=⟨w.heap.size,4,none⟩) (by show w.heap.size<w2.heap.size;omega)).trans n4
  have hS0:StC7 (w2.heap.size+1) W 0 W.drew:=⟨(Below.refl _ _).drew,λ_=>(Below.refl _ _).drew⟩;clear hW hbW hsW hmW hbu n0 n1 n2 n3 n4 r0 r1 f0 f1;refine wp_region_chain 6 [4] (factC7 w2 (w2.heap.size+1) (.slice none 0 0) (.map (some w2.heap.size)) (.slice none 0 0) (gN nd) (posF nd) (cstF nd) W (.agg #[.int .i64 nd.op, .slice A1 nd.rs.length c1, .slice A2 nd.kids.length c2, .int .i64 nd.mn, .int .i64 nd.mx])) (λc w'=>StC7 (w2.heap.size+1) W c w') (by kernel_rfl) (by kernel_rfl) (by kernel_rfl) (by kernel_rfl) (by kernel_rfl) (by kernel_rfl) (by decide) hS0 ?_ ?_
  .simp only[pq4,pq5];refine HSteps.pure (by decide) ?_ (HSteps.pure (by decide) ?_ (HSteps.pure (by decide) ?_ (HSteps.pure (by decide) ?_ (HSteps.eff 0 rfl ?_ (HSteps.free (by decide) ?_ (HSteps.nil))))))
   all_goals first | (intro v wz c hlo hS hE K hK;simp only[putAll,Act.put,pq1,pq2,pq3,Nat.zero_add,Nat.reduceAdd,pq4,pq5]at hK|-) | (intro v wz hS hE K hK;simp only[putAll,Act.put,pq1,pq2,pq3,Nat.zero_add,Nat.reduceAdd,pq4,pq5]at hK|-)
   .have HX:=Lib.hid hS;clear hS hE hlo;go_wp2_with fail;exact hK.out _ rfl
   .have e0:v 0=_:=hE.1 rfl;rw[e0]at hK|-;have HX:=Lib.hid hS;clear hS hE hlo;go_wp2_with fail;exact hK.out _ rfl
   .have e1:v 1=_:=hE.1 rfl;rw[e1]at hK|-;have HX:=Lib.hid hS;clear hS hE hlo;go_wp2_with fail;exact hK.out _ rfl
   .have b0z:=(hS.1.cell (p:=⟨w.heap.size,0,none⟩) lnd).trans m0;have b1z:=(hS.1.cell (p:=⟨w.heap.size,1,none⟩) lnd).trans m1;have b2z:=(hS.1.cell (p:=⟨w.heap.size,2,none⟩) lnd).trans m2;have b3z:=(hS.1.cell (p:=⟨w.heap.size,3,none⟩) lnd).trans m3;have b4z:=(hS.1.cell (p:=⟨w.heap.size,4,none⟩) lnd).trans m4;have l1:w.heap.size<wz.heap.size:=by have:=hS.1.size;omega
    have HX:=Lib.hid hS;clear hS hE hlo;go_wp2_with fail;exact hK.out _ rfl
   .have e2:v 2=_:=hE.1 rfl;have e3:v 3=_:=hE.2.1 rfl;rw[e2,e3]at hK|-;have hz:=hS.2 rfl;have hcall:=HWC.out wz ⟨[],[]⟩ [w2.heap.size+1] 0 (HBU.out.later hz) rfl (by have:=HROOM.out.1;show 0+_<=_;omega) (λl hl=>by cases hl) (by have:=HROOM.out.2;omega)
    have HC:=Lib.hid hcall;have HX:=Lib.hid hS;clear hS hE hcall hz;go_wp2_with fail;refine HC.out.mono ?_;rintro e wy ⟨b',y,fp',v1,v2,rfl,hb',hk',hi1,hi2,hw',hl',hne',hln',hK'⟩;have HP:=Lib.hid (And.intro hb' (And.intro hk' (And.intro hi1 (And.intro hi2 (And.intro hw' (And.intro hl' (And.intro hne' (And.intro hln' hK'))))))));clear hb' hk' hi1 hi2 hw' hl' hne' hln' hK';go_wp2_with fail;refine hK.out _ _ (λj z hj h=>?_) ⟨HX.out.1.trans (HP.out.2.1.below (λk hk=>by rw[List.mem_singleton]at hk;omega) (by have:=HX.out.1.size;omega)),λh=>by cases h⟩ (λ_=>⟨b',y,fp',v1,v2,rfl,HP.out.1,(KeepF.of_below (HX.out.2 rfl)).trans HP.out.2.1,HP.out.2.2.1,HP.out.2.2.2.1,HP.out.2.2.2.2.1,HP.out.2.2.2.2.2.1,HP.out.2.2.2.2.2.2.1,HP.out.2.2.2.2.2.2.2.1,λl hl=>by have:=HP.out.2.2.2.2.2.2.2.2 l hl;omega⟩)
    match j with
    | 0 | 1 | 2 | 3=>exact h
    | 4=>exact absurd rfl hj
    | 5=>
     obtain ⟨g,e,h1,h2,h3⟩:=h;exact ⟨g,e,h1,Nat.lt_of_lt_of_le h2 HP.out.2.1.size,(HP.out.2.1.blk g h2 (by rw[List.mem_singleton];omega)).trans h3⟩
    | _+6=>exact trivial
   .have hbz:Below wz.heap.size wz (wz.alloc (.cells #[.slice none 0 0, .slice none 0 0, .bool false] 150)):=(Below.refl _ _).alloc (Nat.le_refl _) _;have hzW:=hS.1.size;have hbs:Below (w2.heap.size+1) W (wz.alloc (.cells #[.slice none 0 0, .slice none 0 0, .bool false] 150)):=hS.1.alloc (by omega) _
    have hb0:c=0->Below W.heap.size W (wz.alloc (.cells #[.slice none 0 0, .slice none 0 0, .bool false] 150)):=λhc=>(hS.2 hc).alloc hzW _;have HX:=Lib.hid (And.intro hbs hb0);have HBZ:=Lib.hid hbz;clear hS hE hlo hbz hbs hb0;go_wp2_with fail;refine hK.out _ _ (λj z hj h=>?_) HX.out ⟨wz.heap.size,rfl,hzW,by simp,by simpa using heap_alloc_new wz (.cells #[.slice none 0 0, .slice none 0 0, .bool false] 150)⟩
    match j with
    | 0 | 1 | 2 | 3=>exact h
    | 4=>exact λhc=>(h hc).later HBZ.out
    | 5=>exact absurd rfl hj
    | _+6=>exact trivial
  .intro v wz hS hF;have e0:v 0=_:=hF 0 (by decide)
   have e1:v 1=_:=hF 1 (by decide)
   have e2:v 2=_:=hF 2 (by decide)
   have e3:v 3=_:=hF 3 (by decide)
   have E4:=hF 4 (by decide)
   have E5:=hF 5 (by decide)
   simp only[putAll,Act.put,pq1,pq2,pq3,Nat.zero_add,Nat.reduceAdd,pq4,pq5,List.drop_succ_cons,List.drop_zero,e0,e1,e2,e3];clear hF e0 e1 e2 e3;obtain ⟨wZ,rfl⟩:∃W:World,W=wz:=⟨_,rfl⟩;obtain ⟨gP,e5,hgP1,hgP2,hgP3⟩:=E5;obtain ⟨b,x,fp,v1,v2,ev,hbu2,hkf,⟨hi1,ho1⟩,⟨hi2,ho2⟩,hwr,hfl,hxne,hxl,hK⟩:=E4 rfl;injection ev with ev;rw[ev,e5];have hgn:gP∉fp:=hbu2.ne_part hgP3;obtain ⟨B1,d1',rfl,hd1⟩:=hi1.form;obtain ⟨B2,d2',rfl,hd2⟩:=hi2.form;obtain ⟨vs,vf,rows,sv,hfp,hbs⟩:=hbu2;obtain ⟨pn',hpn'⟩:∃n,b.fol.length=n:=⟨_,rfl⟩;have hsl:b.sets.length=pn':=by rw[hwr.len,hpn']
   have hfl':pn'=posF nd:=by rw[<-hpn',hfl];show 0+_=_;omega
   have hpp:=pos_pos _ nd (Nat.le_refl _) HQ.out.2.1;have h600:pn'<=600:=by have:=HROOM.out.1;omega
   have hset0:=hbs.sets;have hfol0:=hbs.fol;rw[hsl]at hset0;rw[hpn']at hfol0;obtain ⟨gS,cS,rfl,hcS,hoS,hgS,hcellS⟩:=own_row1 hset0 (by omega)
   obtain ⟨gF,cF,rfl,hcF,hoF,hgF,hcellF⟩:=own_row1 hfol0 (by omega)
   obtain ⟨z0,z1,z2⟩:=cells3 hgP3;have y0:wZ.frozen? ⟨gP,0,none⟩=false:=by simp[World.frozen?,hgP3]
   have y1:wZ.frozen? ⟨gP,1,none⟩=false:=by simp[World.frozen?,hgP3]
   have y2:wZ.frozen? ⟨gP,2,none⟩=false:=by simp[World.frozen?,hgP3]
   obtain ⟨s0,s1,s2,s3,s4⟩:=cells5 hbs.cs;have t2:wZ.frozen? ⟨w2.heap.size+1,2,none⟩=false:=by simp[World.frozen?,hbs.cs]
   have lsz:w2.heap.size+1<wZ.heap.size:=(Array.getElem?_eq_some_iff.1 hbs.cs).1;have ne1:¬gP=w2.heap.size+1:=by omega
   have ne2:¬w2.heap.size+1=gP:=by omega
   have lsz1:w2.heap.size+1<wZ.heap.size+1:=by omega
   have lgP1:gP<wZ.heap.size+1:=by omega
   have hmk:=mk_bools pn' (by omega)
   obtain ⟨nl,hnl⟩:∃n,x.last.length=n:=⟨_,rfl⟩;rw[hnl];obtain ⟨nf,hnf⟩:∃n,x.first.length=n:=⟨_,rfl⟩;rw[hnf];obtain ⟨ee,hee⟩:∃e,x.emp=e:=⟨_,rfl⟩;rw[hee];have hnl6:nl<=600/\nf<=600:=by have:=HROOM.out.1;have:=hxl.1;have:=hxl.2;omega
   have HBS:=Lib.hid (And.intro hbs (And.intro hwr (And.intro hxne hxl)));have HI1:=Lib.hid (And.intro hi1 ho1);have HI2:=Lib.hid (And.intro hi2 ho2);have HKF:=Lib.hid (And.intro hkf hgn);have HN:=Lib.hid (And.intro hpn' (And.intro hsl (And.intro hfl' (And.intro hnl (And.intro hnf (And.intro hee hfp))))));have HKK:=Lib.hid hK;have HSZ:=Lib.hid hS;have HP3:=Lib.hid hgP3;clear hbs hwr hxne hxl hi1 ho1 hi2 ho2 hkf hgn hpn' hsl hfl' hnl hnf hee hfp hK hS hgP3 ev e5 E4 hfl hset0 hfol0;go_wp2_with fail;refine wp_named λW9 hW9=>?_;have hge:W9.heap[wZ.heap.size]?=some (.cells (Array.replicate pn' (.bool false)) 4 (0,0)):=by
    rw[hW9];have h1:=heap_alloc_new ((((wZ.setCell ⟨gP,0,none⟩ (.slice B1 nf d1')).setCell ⟨gP,1,none⟩ (.slice B2 nl d2')).setCell ⟨gP,2,none⟩ (.bool ee)).setCell ⟨w2.heap.size+1,2,none⟩ (.slice (some ⟨wZ.heap.size,0,none⟩) pn' pn')) (.cells (Array.replicate pn' (.bool false)) 4);simpa [World.setCell] using h1
   obtain ⟨W3,hW3⟩:∃W3,W3=((wZ.setCell ⟨gP,0,none⟩ (.slice B1 nf d1')).setCell ⟨gP,1,none⟩ (.slice B2 nl d2')).setCell ⟨gP,2,none⟩ (.bool ee):=⟨_,rfl⟩;rw[<-hW3]at hW9;have hz3:W3.heap.size=wZ.heap.size:=by rw[hW3];simp[World.setCell]
   have hP3:W3.heap[gP]?=some (.cells #[.slice B1 nf d1', .slice B2 nl d2', .bool ee] 150 (0,0)):=by
    rw[hW3];have h1:=set_row3 (set_row3 (set_row3 HP3.out 0 (.slice B1 nf d1')) 1 (.slice B2 nl d2')) 2 (.bool ee);simpa using h1
   have hk3:KeepF [gP] [] wZ W3:=by
    rw[hW3];have hne:∀k,k∉[gP]->k≠gP:=λk hn e=>hn (List.mem_singleton.2 e);exact ⟨rfl,rfl,rfl,by simp[World.setCell],λk _ hn=>(Below.heap_setCell _ ⟨gP,2,none⟩ _ k (hne k hn)).trans ((Below.heap_setCell _ ⟨gP,1,none⟩ _ k (hne k hn)).trans (Below.heap_setCell wZ ⟨gP,0,none⟩ _ k (hne k hn))),λk hk=>by cases hk⟩
   have hs3:W3.heap[w2.heap.size+1]?=some (.cells #[.slice (some ⟨gS,0,none⟩) pn' cS, .slice (some ⟨gF,0,none⟩) pn' cF, .slice none 0 0, .map (some w2.heap.size), .slice none 0 0] 148 (0,0)):=(hk3.blk _ lsz (λh=>ne2 (List.mem_singleton.1 h))).trans HBS.out.1.cs;have hs9:W9.heap[w2.heap.size+1]?=some (.cells #[.slice (some ⟨gS,0,none⟩) pn' cS, .slice (some ⟨gF,0,none⟩) pn' cF, .slice (some ⟨wZ.heap.size,0,none⟩) pn' pn', .map (some w2.heap.size), .slice none 0 0] 148 (0,0)):=by
    rw[hW9,old_alloc _ _ _ (by simp[World.setCell];omega)]
    have h1:=set_row3 hs3 2 (.slice (some ⟨wZ.heap.size,0,none⟩) pn' pn');simpa using h1
   have hk9:KeepF [w2.heap.size+1] [w2.heap.size+1,wZ.heap.size] W3 W9:=by
    rw[hW9];refine ⟨rfl,rfl,rfl,by simp[World.setCell],λk hk hn=>(old_alloc _ _ _ (by simp[World.setCell];exact hk)).trans (Below.heap_setCell _ _ _ _ (λe=>hn (List.mem_singleton.2 e))),λk hk=>?_⟩
    simp only[List.mem_cons,List.not_mem_nil,or_false]at hk|-;exact hk.imp id λh=>by omega
   have hP9:=(hk9.blk gP (by omega) (λh=>ne1 (List.mem_singleton.1 h))).trans hP3
   have hor9:OR 4 1 bC wZ.heap.size (.slice (some ⟨wZ.heap.size,0,none⟩) pn' pn') (endsL x.last pn' 0) W9:=by
    have h1:=bools_new (W3.setCell ⟨w2.heap.size+1,2,none⟩ (.slice (some ⟨wZ.heap.size,0,none⟩) pn' pn')) pn' (by omega)
    rw[show (W3.setCell ⟨w2.heap.size+1,2,none⟩ (.slice (some ⟨wZ.heap.size,0,none⟩) pn' pn')).heap.size=wZ.heap.size by simp[World.setCell];exact hz3]at h1
    rw[endsL_zero,hW9];exact h1
   obtain ⟨gl,fl,cl,ev2,-,hgl,-,hcl⟩:=HI2.out.1.resolve_left (λh=>HBS.out.2.2.1.2 h.1);obtain rfl:B2=some ⟨gl,fl,none⟩:=by injection ev2
   have hnlP:gl≠gP:=λe=>HI2.out.1.ne_part HBS.out.2.2.1.2 HP3.out (by rw[<-e];rfl)
   have hnls:gl≠w2.heap.size+1:=λe=>HI2.out.2 gl rfl (by rw[HN.out.2.2.2.2.2.2,e];simp[fpS])
   have hcl9:∀i (h:i<x.last.length),W9.cell? ⟨gl,fl+i,none⟩=some (.int .i64 (x.last[i]:Int)):=λi h=>(World.cell?_of_block (a:=⟨gl,fl+i,none⟩) ((hk9.blk gl (by omega) (λh=>hnls (List.mem_singleton.1 h))).trans (hk3.blk gl hgl (λh=>hnlP (List.mem_singleton.1 h))))).trans (hcl i h)
   have hz9:W9.heap.size=wZ.heap.size+1:=by rw[hW9];simp[World.setCell];exact hz3
   have hmb9:W9.heap[w2.heap.size]?=W.heap[w2.heap.size]?:=((hk9.blk _ (by omega) (by simp)).trans (hk3.blk _ (by omega) (by simp;omega))).trans (HSZ.out.1.block _ (by omega))
   have HA0:=Lib.hid (show AlR W9 wZ.heap.size wZ.heap.size pn' pn' (endsL x.last pn' 0) W9 from ⟨hor9,KeepF.refl _ _⟩);have HC9:=Lib.hid hcl9;have HS9:=Lib.hid (And.intro hs9 (And.intro hP9 hmb9));have HK9:=Lib.hid (And.intro hk3 hk9);have HW9:=Lib.hid (And.intro hW3 hW9);have hlen9:w2.heap.size+1<W9.heap.size:=by omega
   clear hW9 hW3 hge hP3 hk3 hs3 hs9 hk9 hP9 hor9 hcl hcl9 hmb9 ev2 z0 z1 z2 y0 y1 y2 s0 s1 s2 s3 s4 t2 hmk;go_wp2_with fail
   go_loopw [46] (λiv wr=>∃k:Nat,k<=nl/\iv = .int .i64 (k:Int)/\Hid (AlR W9 wZ.heap.size wZ.heap.size pn' pn' (endsL x.last pn' k) wr)) (λiv _=>nl - (intOf iv).toNat)
   case atStart=>exact ⟨0,Nat.zero_le _,rfl,HA0⟩
   case round=>
    obtain ⟨k,hk,rfl,HA⟩:=hrel;have hwr:=HA.out.kf.size;have hsr:=(HA.out.kf.blk (w2.heap.size+1) hlen9 (by simp;omega)).trans HS9.out.1
    by_cases hlt:k<nl
    .have hd:decide ((k:Int)<(nl:Int))=true:=decide_eq_true (by omega)
     have hdn:decide (k<nl)=true:=decide_eq_true hlt;have hkl:k<x.last.length:=by rw[HN.out.2.2.2.1];exact hlt
     obtain ⟨p,hp⟩:∃p,x.last[k]=p:=⟨_,rfl⟩;have hpn:p<pn':=by
      have:=(HBS.out.2.1.good.lst x.last[k] (List.getElem_mem hkl)).2;rw[hp,HN.out.1]at this;exact this
     have c0:=(World.cell?_of_block (a:=⟨gl,fl+k,none⟩) (HA.out.kf.blk gl (by omega) (by simp;omega))).trans (HC9.out k hkl)
     rw[hp]at c0;have lgl:gl<wr.heap.size:=by omega
     have c2:wr.cell? ⟨w2.heap.size+1,2,none⟩=some (.slice (some ⟨wZ.heap.size,0,none⟩) pn' pn'):=by rw[cell_of_row _ _ _ _ _ _ hsr];rfl
     have lsr:w2.heap.size+1<wr.heap.size:=by omega
     obtain ⟨e1,e2,e3⟩:=HA.out.cell (endsL_get x.last k hpn);have hpd:decide (p<pn')=true:=decide_eq_true hpn;have hset:=HA.out.set (endsL_len _ _ _) p;rw[<-hp,endsL_succ hkl,hp]at hset;have HS:=Lib.hid hset;clear hp hkl hsr hset;go_wp2_with fail;go_roundw
     case rel=>exact ⟨k+1,by omega,by go_num,HS⟩
     case measure=>simp[intOf];omega
    .have hkn:k=nl:=by omega
     have hd:decide ((k:Int)<(nl:Int))=false:=decide_eq_false (by omega)
     have hal:=HA.out;rw[show endsL x.last pn' k=endsL x.last pn' x.last.length from by rw[HN.out.2.2.2.1,hkn]]at hal
     have hkw:KeepF [w2.heap.size+1] [] W3 wr:=by
      have h1:=HK9.out.2.trans (f3:=[]) ⟨hal.kf.os,hal.kf.tape,hal.kf.output,hal.kf.size,λq hq hn=>hal.kf.blk q hq (λh=>hn (by simp at h|-;exact .inr h)),λq hq=>by cases hq⟩
      exact h1
     have hw30:Below w2.heap.size w2 W3:=HBS.out.1.bel.trans (HK9.out.1.below (λq hq=>by rw[List.mem_singleton]at hq;omega) (by omega))
     have hbs3:=HBS.out.1.same (w':=W3) (λq hq=>HK9.out.1.blk q (HBS.out.1.lt q hq).2 (λh=>HKF.out.2 (by rw[HN.out.2.2.2.2.2.2,<-List.mem_singleton.1 h];exact hq))) hw30
     have hmr:MV Tryz.prog 9 w2.heap.size 0 (λ_=>none) wr:=HMW.out.kept ((hal.kf.blk _ (by omega) (by simp;omega)).trans HS9.out.2.2)
     have hz3':W3.heap.size=wZ.heap.size:=hz3;obtain ⟨q1,q2,q3,q4⟩:=cp_start hbs3 hkw hsr hmr (Nat.le_refl _) (by omega) (by rw[HN.out.1];have:=HN.out.2.2.1;omega) (by rw[HN.out.2.1];have:=HN.out.2.2.1;omega)
     have hPr:=(hal.kf.blk gP (by omega) (by simp;omega)).trans HS9.out.2.1
     have hEn:EnC (fpG (w2.heap.size+1) w2.heap.size (.slice none 0 0)) wr (.slice (some ⟨wZ.heap.size,0,none⟩) pn' pn') pn' x.last:=by
      refine ⟨wZ.heap.size,rfl,by omega,by simp[fpG,blk,Value.ownBlock];omega,λp hp=>?_⟩
      have:=(hal.cell (endsL_get x.last x.last.length hp)).1;rw[List.take_length]at this;exact this
     have hi1r:IL wr (.slice B1 x.first.length d1') x.first/\outOf (fpG (w2.heap.size+1) w2.heap.size (.slice none 0 0)) (.slice B1 x.first.length d1'):=by
      obtain ⟨j1,j2⟩:=HI1.out.1.keep (fp:=[gP]) (fp':=[]) (λg hg hm=>by
       have hgg:g=gP:=List.mem_singleton.1 hm;exact HI1.out.1.ne_part HBS.out.2.2.1.1 HP3.out (by rw[hg,hgg])) HK9.out.1
      have hos:∀g,(Value.slice B1 x.first.length d1').ownBlock=some g->g≠w2.heap.size+1:=λg hg e=>HI1.out.2 g hg (by rw[HN.out.2.2.2.2.2.2,e];simp[fpS])
      obtain ⟨j3,-⟩:=j1.keep (fp:=[w2.heap.size+1]) (fp':=[]) (λg hg hm=>hos g hg (List.mem_singleton.1 hm)) hkw;refine ⟨j3,λg hg hm=>?_⟩;simp[fpG,blk,Value.ownBlock]at hm;rcases hm with hm | hm
      .exact hos g hg hm
      .obtain ⟨gx,fx,cx,ex,-,-,-,hcx⟩:=j3.resolve_left (λh=>HBS.out.2.2.1.1 h.1);rw[ex]at hg;simp[Value.ownBlock]at hg;have hx0:=hcx 0 (List.length_pos_iff.2 HBS.out.2.2.1.1);obtain ⟨D,⟨es,c,hmq,-⟩,-⟩:=hmr;simp[World.cell?,hg,hm,hmq]at hx0
     rw[HN.out.2.2.2.2.1]at hi1r;have hcp0:CpS w2 (fpG (w2.heap.size+1) w2.heap.size (.slice none 0 0)) (.slice (some ⟨gS,0,none⟩) pn' cS) (.slice (some ⟨gF,0,none⟩) pn' cF) (.slice (some ⟨wZ.heap.size,0,none⟩) pn' pn') b x gP (.slice B1 nf d1') (.slice (some ⟨gl,fl,none⟩) nl d2') wr:=
      ⟨q2,q3,by rw[HN.out.2.1];exact hEn,⟨by rw[HN.out.2.2.2.2.2.1];exact hPr,by simp[fpG,blk,Value.ownBlock];omega⟩,hi1r⟩
     have hbww:Below w.heap.size w wr:=HW2.out.trans (q4.mono (by have:=HW2.out.size;omega))
     have hnum:=number_any w2.heap.size (w2.heap.size+1) w2.heap.size (.slice (some ⟨gS,0,none⟩) pn' cS) (.slice (some ⟨gF,0,none⟩) pn' cF) (.slice (some ⟨wZ.heap.size,0,none⟩) pn' pn') [] (fpG (w2.heap.size+1) w2.heap.size (.slice none 0 0)) wr [] (.slice none 0 0) q1 (.inl ⟨rfl,rfl⟩) (λg hg=>by simp[Value.ownBlock]at hg) (TI.nil _) (by simp) (λp hp=>by cases hp) (by simp) (HVR.out.below hbww HVR.out.low)
     have HNU:=Lib.hid hnum;have HCP0:=Lib.hid hcp0;have HQ4:=Lib.hid q4;clear hal hkw hw30 hbs3 hmr q1 q2 q3 q4 hPr hEn hi1r hcp0 hbww hnum hsr hkn;go_wp2_with fail;refine HNU.out.mono ?_;rintro e w5 ⟨fp5,rfl,hsb5,hkf5⟩;rw[show addG ([]:List (List Nat)) []=[[]] by simp[addG]]at hsb5
     have hcp5:=HCP0.out.keep hkf5;have hP5:=hcp5.prt.1;rw[HN.out.2.2.2.2.2.1]at hP5;obtain ⟨u0,u1,u2⟩:=cells3 hP5;have lP5:gP<w5.heap.size:=(Array.getElem?_eq_some_iff.1 hP5).1;have hb5:Below w2.heap.size w2 w5:=HQ4.out.trans (hkf5.below (λq hq=>by simp[fpG,blk,Value.ownBlock]at hq;omega) HQ4.out.size)
     have HSB5:=Lib.hid hsb5;have HCP5:=Lib.hid hcp5;have HB5:=Lib.hid hb5;clear hsb5 hkf5 hcp5 hP5 hb5;go_wp2_with fail;refine wp_named λW6 hW6=>?_;have hz6:W6.heap.size=w5.heap.size+2:=by rw[hW6];simp
     have hb6:Below w5.heap.size w5 W6:=by rw[hW6];exact ((Below.refl _ _).alloc (Nat.le_refl _) _).alloc (by simp) _
     have hN6:W6.heap[w5.heap.size+1]?=some (.cells #[.slice none 0 0, .slice (some ⟨w5.heap.size,0,none⟩) 1 1] 85 (0,0)):=by rw[hW6];simpa using heap_alloc_new (w5.alloc (.cells #[.bool ee] 4)) (.cells #[.slice none 0 0, .slice (some ⟨w5.heap.size,0,none⟩) 1 1] 85)
     have h25:=HB5.out.size;have hor0:OR 4 1 bC w5.heap.size (.slice (some ⟨w5.heap.size,0,none⟩) 1 1) [ee] (w5.alloc (.cells #[.bool ee] 4)):=⟨rfl, .inr ⟨w5.heap.size,1,#[.bool ee],rfl,Nat.le_refl _,heap_alloc_new w5 _,by simp,by unfold maxLen;omega,by simp,by simp[rowF,bC]⟩⟩
     have hor6:OR 4 1 bC w2.heap.size (.slice (some ⟨w5.heap.size,0,none⟩) 1 1) [ee] W6:=by rw[hW6];exact (hor0.later ((Below.refl _ _).alloc (by simp) _)).mono h25
     have hfm:∀k,k∈fpM (w5.heap.size+1) (.slice none 0 0) (.slice (some ⟨w5.heap.size,0,none⟩) 1 1)->w5.heap.size<=k:=λk hk=>by
      rcases mem_fpM.1 hk with h | h | h
      .omega
      .simp[Value.ownBlock]at h
      .simp[Value.ownBlock]at h;omega
     have hma6:MkM w2.heap.size (w5.heap.size+1) fp5 (.slice none 0 0) (.slice (some ⟨w5.heap.size,0,none⟩) 1 1) [] [] [ee] W6:=
      ⟨hN6,by omega,World.ownsRow_nil _ _ _ _,λi hi=>(by cases hi),hor6,λk hk hx=>by have:=hfm k hk;have:=(HSB5.out.lt k hx).2;omega⟩
     have hci0:CmI b x [[]] [] [ee] 0:=by rw[<-HN.out.2.2.2.2.2.1];exact CmI.start b x
     have hcl0:CpL w2 (w2.heap.size+1) w2.heap.size (.slice (some ⟨gS,0,none⟩) pn' cS) (.slice (some ⟨gF,0,none⟩) pn' cF) (.slice (some ⟨wZ.heap.size,0,none⟩) pn' pn') b x gP (.slice B1 nf d1') (.slice (some ⟨gl,fl,none⟩) nl d2') (w5.heap.size+1) 0 [[]] fp5 [] [ee] (.slice none 0 0) (.slice (some ⟨w5.heap.size,0,none⟩) 1 1) [] W6:=
      ⟨HSB5.out.later hb6,hma6,HCP5.out.keep ⟨hb6.os,hb6.tape,hb6.output,hb6.size,λk hk _=>hb6.block k hk,λk hk=>(List.mem_append.1 hk).imp id (hfm k)⟩,hci0,HB5.out.trans (hb6.mono h25)⟩
     have HCL0:=Lib.hid hcl0;have HRG:=Lib.hid (show ∀rs∈b.sets,rngF rs=true from λrs h=>by
      obtain ⟨i,hi,rfl⟩:=List.getElem_of_mem h;obtain ⟨v,-,-,h3⟩:=HBS.out.1.setv i hi;exact h3)
     have HBYT:=Lib.hid (show ∀rs∈b.sets,∀r∈rs,r.2<256 from λrs h r hr=>(HCP5.out.set.lt rs h r hr).2);have HLOW:=Lib.hid (show nG<=w2.heap.size from Nat.le_trans HVR.out.low HW2.out.size);have hww2:=HW2.out.size;clear hW6 hb6 hN6 hor0 hor6 hfm hma6 hci0 hcl0 u0 u1 u2;go_wp2_with fail
     go_loopw [10] (λiv wr=>∃(i:Nat) (gs:List (List Nat)) (fp:List Nat) (rs:List (List Ed)) (acs:List Bool) (vE vA:Value) (gv:List Value),iv = .int .i64 (i:Int)/\i<=gs.length/\gs.length<=2000/\Hid (CpL w2 (w2.heap.size+1) w2.heap.size (.slice (some ⟨gS,0,none⟩) pn' cS) (.slice (some ⟨gF,0,none⟩) pn' cF) (.slice (some ⟨wZ.heap.size,0,none⟩) pn' pn') b x gP (.slice B1 nf d1') (.slice (some ⟨gl,fl,none⟩) nl d2') (w5.heap.size+1) i gs fp rs acs vE vA gv wr)) (λiv _=>2001 - (intOf iv).toNat)
     case atStart=>exact ⟨0,[[]],fp5,[],[ee],_,_,[],rfl,Nat.zero_le _,by simp,HCL0⟩
     case round=>
      obtain ⟨i,gs,fp,rs,acs,vE,vA,gv,rfl,hil,hg2,HL⟩:=hrel;obtain ⟨ng,hng⟩:∃n,gs.length=n:=⟨_,rfl⟩;rw[hng]at hil hg2;have hwr:=HL.out.bl.size;obtain ⟨Ag,cg,x4,hcg,hgat⟩:=HL.out.sb.groups;rw[hng]at x4;obtain ⟨lsr,-,-,-⟩:=HL.out.sb.cells;have HNG:=Lib.hid hng;have HGAT:=Lib.hid hgat;clear hng hgat;by_cases hlt:i<ng
      .have hd:decide ((i:Int)<(ng:Int))=true:=decide_eq_true (by omega)
       have hPr:=HL.out.cp.prt.1;obtain ⟨z0,z1,z2⟩:=cells3 hPr;have lPr:gP<wr.heap.size:=(Array.getElem?_eq_some_iff.1 hPr).1;clear hPr;by_cases hi0:i=0
       .have d3:decide ((0:Int)<(i:Int))=false:=decide_eq_false (by omega)
        have d3':decide (0<i)=false:=decide_eq_false (by omega)
        have hrl:=HL.out.ci.rl;have hmkE:=HL.out.ma.own;rw[hrl]at hmkE;obtain ⟨AE,cE,rfl,-,-⟩:=own_form hmkE;have HMA:=Lib.hid HL.out.ma;have HSB:=Lib.hid HL.out.sb;have HCP:=Lib.hid HL.out.cp;have HCI:=Lib.hid HL.out.ci;have HBL:=Lib.hid HL.out.bl;have HRL:=Lib.hid hrl;have HE1:=Lib.hid hmkE;have HI0:=Lib.hid hi0;have HGF:=Lib.hid (show ∀p,p∈x.first↔grpF b x gs i p from λp=>by unfold grpF;rw[if_pos hi0])
        have HLB:=Lib.hid (show ∀p∈x.first,p<b.sets.length from λp hp=>by have:=(HBS.out.2.1.good.fst p hp).2;rw[HBS.out.2.1.len];exact this)
        have HLL:=Lib.hid (show x.first.length<=10000000000000 by rw[HN.out.2.2.2.2.1];omega)
        have HFV:=Lib.hid (show IL wr (.slice B1 nf d1') x.first/\outOf fp (.slice B1 nf d1') from ⟨HL.out.cp.fst.1,λg hg hm=>HL.out.cp.fst.2 g hg (List.mem_append_left _ hm)⟩);clear hrl hmkE hi0;obtain ⟨W,hWeq⟩:∃W:World,W=wr:=⟨_,rfl⟩;subst hWeq;have hNB:=HMA.out.hN;have HNB:=Lib.hid hNB;have xn0:W.cell? ⟨w5.heap.size+1,0,none⟩=some (.slice AE i cE):=by rw[cell_of_row _ _ _ _ _ _ hNB];rfl
        have lN:w5.heap.size+1<W.heap.size:=(Array.getElem?_eq_some_iff.1 hNB).1;have HNF:=Lib.hid (show w5.heap.size+1∉fp from HMA.out.out _ (mem_fpM.2 (.inl rfl)));have HVRW:=Lib.hid (HVR.out.below (HW2.out.trans (HBL.out.mono hww2)) HVR.out.low);have HG0:=Lib.hid HCI.out.g0;have HGL:=Lib.hid (show gs.length<=2000 by rw[HNG.out];exact hg2)
        have hi2:i<=2000:=by omega
        have hS0:StC30 (w5.heap.size+1) W 0 W.drew:=⟨Nat.le_refl _,rfl,λ_=>(Below.refl _ _).drew⟩;have lsW:w2.heap.size+1<W.heap.size:=(HSB.out.cells).1;clear hNB HL;go_wp2_with fail;clear x4 lsr z0 z1 z2 lPr;refine wp_region_chain 9 [4,5,6,7] (factC30 w2 (w2.heap.size+1) w2.heap.size (.slice (some ⟨gS,0,none⟩) pn' cS) (.slice (some ⟨gF,0,none⟩) pn' cF) (.slice (some ⟨wZ.heap.size,0,none⟩) pn' pn') b gs fp x.first (w5.heap.size+1) i cE nf d1' AE B1 gv W) (λc w'=>StC30 (w5.heap.size+1) W c w') (by kernel_rfl) (by kernel_rfl) (by kernel_rfl) (by kernel_rfl) (by kernel_rfl) (by kernel_rfl) (by decide) hS0 ?_ ?_
        .simp only[pq4,pq5];refine HSteps.pure (by decide) ?_ (HSteps.pure (by decide) ?_ (HSteps.pure (by decide) ?_ (HSteps.pure (by decide) ?_ (HSteps.eff 0 rfl ?_ (HSteps.eff 1 rfl ?_ (HSteps.eff 2 rfl ?_ (HSteps.eff 3 rfl ?_ (HSteps.pure (by decide) ?_ (HSteps.nil)))))))))
         all_goals first | (intro v wz c hlo hS hE K hK;simp only[putAll,Act.put,pq1,pq2,pq3,Nat.zero_add,Nat.reduceAdd,pq4,pq5]at hK|-) | (intro v wz hS hE K hK;simp only[putAll,Act.put,pq1,pq2,pq3,Nat.zero_add,Nat.reduceAdd,pq4,pq5]at hK|-)
         .have HX:=Lib.hid hS;clear hS hE hlo;go_wp2_with fail;exact hK.out _ rfl
         .have e0:v 0=_:=hE.1 rfl;rw[e0]at hK|-;have c1:=(World.cell?_of_block (a:=⟨w5.heap.size+1,0,none⟩) hS.2.1).trans xn0;have l1:w5.heap.size+1<wz.heap.size:=by have:=hS.1;omega
          have HX:=Lib.hid hS;clear hS hE hlo;go_wp2_with fail;exact hK.out _ rfl
         .have HX:=Lib.hid hS;clear hS hE hlo;go_wp2_with fail;exact hK.out _ rfl
         .have HX:=Lib.hid hS;clear hS hE hlo;go_wp2_with fail;exact hK.out _ rfl
         .have e3:v 3=_:=hE.1 rfl;rw[e3]at hK|-;have hb:=hS.2.2 (by omega)
          have hcall:=sorted_any (.slice B1 nf d1') x.first wz (HFV.out.1.later hb) HLL.out;have HC:=Lib.hid hcall;have HX:=Lib.hid hS;clear hS hE hcall hb;go_wp2_with fail;refine HC.out.mono ?_;rintro e wy ⟨v',r,rfl,hso,how,hil,hbw⟩;obtain ⟨A',c',rfl,-,-⟩:=own_form how;have HP:=Lib.hid (And.intro hso (And.intro (own_mono how HX.out.1) (And.intro hil hbw)));clear hso how hil hbw;go_wp2_with fail;refine hK.out _ _ (λj z hj h=>?_) ⟨Nat.le_trans HX.out.1 HP.out.2.2.2.size,(HP.out.2.2.2.block (w5.heap.size+1) (by have:=HX.out.1;omega)).trans HX.out.2.1,λ_=>(HX.out.2.2 (by omega)).trans (HP.out.2.2.2.mono HX.out.1)⟩ (λ_=>⟨A',r,c',rfl,HP.out.1,HP.out.2.1,HP.out.2.2.1⟩)
          match j with
          | 0 | 1 | 2 | 3 | 8=>exact h
          | 4=>exact absurd rfl hj
          | 5=>exact λhc=>by omega
          | 6=>exact λhc=>by omega
          | 7=>exact λhc=>by omega
          | _+9=>exact trivial
         .have e2:v 2=_:=hE.1 rfl;rw[e2]at hK|-;have E4:=hE.2.1 rfl;obtain ⟨Ar,r,cr,e4,hso,how,hil⟩:=E4 rfl;rw[e4]at hK how hil|-;have hb:=hS.2.2 (by omega)
          have hrb:∀p∈r,p<b.sets.length:=λp hp=>HLB.out p ((hso.2 p).1 hp);have hcall:=edges_any w2 (w2.heap.size+1) w2.heap.size (.slice (some ⟨gS,0,none⟩) pn' cS) (.slice (some ⟨gF,0,none⟩) pn' cF) (.slice (some ⟨wZ.heap.size,0,none⟩) pn' pn') b gs fp wz r _ (HSB.out.later hb) ((HCP.out.later hb).set.weak λk hk=>List.mem_append_left _ hk) (HBL.out.trans (hb.mono HBL.out.size)) HRG.out hil (λg hg hm=>by have:=(how.lt g hg).1;have:=(HSB.out.lt g hm).2;omega) hrb (asc_len (a:=0) hso.1 λp hp=>⟨Nat.zero_le _,by have:=hrb p hp;have:=HN.out.2.1;omega⟩) (by rw[HN.out.2.1];omega) (by have:=HGL.out;omega) HG0.out (HVRW.out.later hb) HLOW.out
          have HC:=Lib.hid hcall;have HX:=Lib.hid (And.intro hS (And.intro hso hb));clear hS hE hcall hb hrb hso how hil E4 e4;go_wp2_with fail;refine HC.out.mono ?_;rintro e wy ⟨row,gs',fp',rv,rfl,⟨hr1,hr2,hr3⟩,hsb,hkf,hri,hgg,hl1,hl2⟩;obtain ⟨A',c',hrf,-,-⟩:=hr1.form;have HP:=Lib.hid (And.intro hr1 (And.intro hr2 (And.intro hr3 (And.intro hsb (And.intro hkf (And.intro hri (And.intro hgg hl1)))))));clear hr1 hr2 hr3 hsb hkf hri hgg hl1 hl2 hrf;go_wp2_with fail;have hz1:=HX.out.1.1;have hz2:=HP.out.2.2.2.2.1.size;refine hK.out _ _ (λj z hj h=>?_) ⟨by omega,(HP.out.2.2.2.2.1.blk (w5.heap.size+1) (by omega) HNF.out).trans HX.out.1.2.1,λh=>by omega⟩ (λ_=>⟨r,row,gs',fp',HX.out.2.1,⟨HP.out.1,HP.out.2.1,λg hg=>⟨by have:=(HP.out.2.2.1 g hg).1;omega,(HP.out.2.2.1 g hg).2⟩⟩,HP.out.2.2.2.1,(KeepF.of_below HX.out.2.2).trans HP.out.2.2.2.2.1,HP.out.2.2.2.2.2.1,HP.out.2.2.2.2.2.2.1,HP.out.2.2.2.2.2.2.2⟩)
          match j with
          | 0 | 1 | 2 | 3 | 8=>exact h
          | 5=>exact absurd rfl hj
          | 4=>exact λhc=>by omega
          | 6=>exact λhc=>by omega
          | 7=>exact λhc=>by omega
          | _+9=>exact trivial
         .have E5:=hE.1 rfl;have hef:=E5 rfl;obtain ⟨r,row,gs',fp',q1,⟨q2,q3,q4⟩,q5⟩:=id hef;obtain ⟨A5,c5,e5,-,-⟩:=q2.form;obtain ⟨n5,hn5⟩:∃n,row.length=n:=⟨_,rfl⟩;rw[hn5]at e5;rw[e5]at hK hef|-;have HEF:=Lib.hid hef;have HX:=Lib.hid hS;clear hS hE hef q1 q2 q3 q4 q5 E5 e5;have hzW:=HX.out.1;go_wp2_with fail;have hbz:Below wz.heap.size wz (wz.alloc (.cells #[.slice A5 n5 c5] 153)):=(Below.refl _ _).alloc (Nat.le_refl _) _;refine hK.out _ _ (λj z hj h=>?_) ⟨by simp;omega,(hbz.block (w5.heap.size+1) (by omega)).trans HX.out.2.1,λh=>by omega⟩ (λ_=>⟨wz.heap.size, .slice A5 n5 c5,rfl,hzW,by simp,by go_simp,rfl,HEF.out.later hbz⟩)
          match j with
          | 0 | 1 | 2 | 3 | 8=>exact h
          | 6=>exact absurd rfl hj
          | 4=>exact λhc=>by omega
          | 5=>exact λhc=>by omega
          | 7=>exact λhc=>by omega
          | _+9=>exact trivial
         .have e1:v 1=_:=hE.1 rfl;rw[e1]at hK|-;have E6:=hE.2.1 rfl;obtain ⟨g,rv,e6,hgW,hgl,hg0,h1c,hef⟩:=E6 rfl;rw[e6]at hK|-;obtain ⟨r,row,gs',fp',q1,q2,q3,q4,q5⟩:=id hef;have hown:wz.ownsRow w2.heap.size 153 1 (.slice AE i cE) i gv:=own_same HE1.out λg hg=>q4.blk g (HE1.out.lt g hg).2 λhm=>HMA.out.out g (mem_fpM.2 (.inr (.inl hg))) hm;have hzz:=hS.1;have hcell:∀j u,([rv]:List Value)[j]?=some u->wz.cell? ((⟨g,0,none⟩:Addr).add j)=some u:=λj u hj=>by
           match j,hj with
           | 0,hj=>simp at hj;rw[<-hj,Addr.add_lit];exact hg0
          have HEF:=Lib.hid hef;have HX:=Lib.hid hS;clear hS hE hef q1 q2 q3 q4 q5 E6;go_wp2_with (at_builtin;refine appI_at rfl _ _ 82 rfl w2.heap.size 153 ie (.slice none 0 0) 1 24 Tryz.underlying82 hie he0 he1 he2 rfl (by decide) _ i gv rfl hown ⟨g,0,none⟩ 1 1 [rv] rfl rfl hcell (by intro u hu;simp at hu;subst hu;exact h1c) (by unfold maxLen;omega) (by omega) (by have:=HBL.out.size;omega) ?_)
          intro v' wx hown1 hg1 hfr;obtain ⟨A',c',rfl,-,-⟩:=own_form hown1;refine hK.out _ _ (λj z hj h=>?_) ⟨Nat.le_trans HX.out.1 hg1.size,(hg1.block (w5.heap.size+1) (by omega) (λe=>HMA.out.neE e.symm)).trans HX.out.2.1,λh=>by omega⟩ (λ_=>⟨rv,wz,A',c',rfl,HEF.out,hg1,hown1,hfr⟩)
          match j with
          | 0 | 1 | 2 | 3 | 8=>exact h
          | 7=>exact absurd rfl hj
          | 4=>exact λhc=>by omega
          | 5=>exact λhc=>by omega
          | 6=>exact λhc=>by omega
          | _+9=>exact trivial
         .have HX:=Lib.hid hS;clear hS hE hlo;go_wp2_with fail;exact hK.out _ rfl
        .intro v wz hS hF;have e0:v 0=_:=hF 0 (by decide)
         have e1:v 1=_:=hF 1 (by decide)
         have e2:v 2=_:=hF 2 (by decide)
         have e3:v 3=_:=hF 3 (by decide)
         have e8:v 8=_:=hF 8 (by decide)
         have E4:=hF 4 (by decide)
         have E5:=hF 5 (by decide)
         have E6:=hF 6 (by decide)
         have E7:=hF 7 (by decide)
         simp only[putAll,Act.put,pq1,pq2,pq3,Nat.zero_add,Nat.reduceAdd,pq4,pq5,List.drop_succ_cons,List.drop_zero,e0,e1,e2,e3,e8];clear hF e0 e1 e2 e3 e8;obtain ⟨rv,w6,A7,c7,e7,hef,hg7,ho7,hf7⟩:=E7 rfl;rw[e7]at ho7 hf7|-;have hNz:=hS.2.1.trans HNB.out;have xz0:wz.cell? ⟨w5.heap.size+1,0,none⟩=some (.slice AE i cE):=by rw[cell_of_row _ _ _ _ _ _ hNz];rfl
         have fz0:wz.frozen? ⟨w5.heap.size+1,0,none⟩=false:=by simp[World.frozen?,hNz]
         have lNz:w5.heap.size+1<wz.heap.size:=(Array.getElem?_eq_some_iff.1 hNz).1;obtain ⟨row,gs',fp',hcl,hgl'⟩:=cp_next (w0:=w2) HMA.out HCP.out HCI.out (by rw[if_pos HI0.out]) (show i<gs.length by rw[HNG.out];exact hlt) HBL.out HGF.out HLB.out hef hg7 (by rw[HRL.out];exact ho7) hf7 (λk hk=>(HSB.out.lt k hk).1)
         have hns1:¬w5.heap.size+1=w2.heap.size+1:=λe=>by have:=hcl.ma.out _ (mem_fpM.2 (.inl rfl));have h8:=hcl.sb;obtain ⟨vg8,gv8,F8,hfp8,-⟩:=h8;rw[hfp8,e]at this;exact this (by simp[fpG])
         have hns2:¬w2.heap.size+1=w5.heap.size+1:=λe=>hns1 e.symm;have hset:∀k,k≠w5.heap.size+1->(wz.setCell ⟨w5.heap.size+1,0,none⟩ (.slice A7 (i+1) c7)).heap[k]?=wz.heap[k]?:=λk hk=>Below.heap_setCell _ _ _ _ hk;obtain ⟨Ag',cg',x4',hcg',-⟩:=hcl.sb.groups;obtain ⟨ng',hng'⟩:∃n,gs'.length=n:=⟨_,rfl⟩;rw[hng']at x4';have x4z:wz.cell? ⟨w2.heap.size+1,4,none⟩=some (.slice Ag' ng' cg'):=(World.cell?_of_block (a:=⟨w2.heap.size+1,4,none⟩) (hset _ hns2)).symm.trans x4';have lsz2:w2.heap.size+1<wz.heap.size:=by have:=hS.1;omega
         have hgb:ng'<=100000:=by rw[<-hng'];have:=HNG.out;omega
         have HCL:=Lib.hid hcl;have HNG':=Lib.hid hng';clear hS hef hg7 ho7 hf7 hNz e7 E4 E5 E6 E7 hcl hgl' x4' hng';by_cases h2k:2000<ng'
         .have d4:decide (2000<(ng':Int))=true:=decide_eq_true (by omega)
          have hRz:=(hset (w.heap.size+1) (by omega)).symm.trans ((HCL.out.bl.block (w.heap.size+1) (by omega)).trans HZ1.out)
          obtain ⟨rz0,rz1⟩:wz.cell? ⟨w.heap.size+1,0,none⟩=some (.slice none 0 0)/\wz.cell? ⟨w.heap.size+1,1,none⟩=some (.slice none 0 0):=by constructor <;> (rw[cell_of_row _ _ _ _ _ _ hRz]; rfl)
          have gz0:wz.frozen? ⟨w.heap.size+1,0,none⟩=false:=by simp[World.frozen?,hRz]
          have gz1:wz.frozen? ⟨w.heap.size+1,1,none⟩=false:=by simp[World.frozen?,hRz]
          have lRz:w.heap.size+1<wz.heap.size:=by omega
          have nRN:¬w.heap.size+1=w5.heap.size+1:=by omega
          have nRN2:¬w5.heap.size+1=w.heap.size+1:=by omega
          clear hRz hset;go_wp2_with fail;refine post_named λWf hWf=>?_;refine bodyPost_ret (v:=.tuple #[mcNil, .int .i64 3]) (by rw[hWf];simp[results,Tryz.results76,go_sem,rz0,rz1,lRz,mcNil];try rfl) rfl ?_
          have hbf:Below w.heap.size w Wf:=by
           rw[hWf];have h1:=HW2.out.trans (HCL.out.bl.mono hww2);exact (h1.setCell (p:=⟨w.heap.size+1,0,none⟩) (by show w.heap.size<=w.heap.size+1;omega) _).setCell (p:=⟨w.heap.size+1,1,none⟩) (by show w.heap.size<=w.heap.size+1;omega) _
          exact ⟨hbf, .inr (.inr ⟨HQ.out.1,HROOM.out.1,b,x,gs',_,_,i+1,HBS.out.2.1,by rw[HN.out.1,HN.out.2.2.1],HBYT.out,HCL.out.ci, .inl ⟨by rw[HNG'.out];exact h2k,rfl⟩⟩)⟩
         .have d4:decide (2000<(ng':Int))=false:=decide_eq_false (by omega)
          have hcil:=HCL.out.ci.il;clear hset;go_wp2_with fail;go_roundw
          case rel=>exact ⟨i+1,gs',fp',_,_,_,_,_,by go_num,hcil,by rw[HNG'.out];omega,HCL⟩
          case measure=>simp[intOf];omega
       .have d3:decide ((0:Int)<(i:Int))=true:=decide_eq_true (by omega)
        have d3':decide (0<i)=true:=decide_eq_true (by omega)
        obtain ⟨gg,gvv,rfl,hgg,x5,hilg,hog⟩:=HGAT.out i (by rw[HNG.out];exact hlt)
        obtain ⟨grp,hgrp⟩:∃g,gs[i]'(by rw[HNG.out];exact hlt)=g:=⟨_,rfl⟩
        rw[hgrp]at hilg;have hgD:(gs[i]?).getD []=grp:=by rw[List.getElem?_eq_getElem (by rw[HNG.out];exact hlt),hgrp];rfl
        have hgm:grp∈gs:=by rw[<-hgrp];exact List.getElem_mem _
        have hgne:grp≠[]:=by
         have:=(HL.out.ci.rch i (by omega) (by rw[HNG.out];exact hlt)).1
         rwa [hgD]at this
        have hgp:∀p∈grp,p<pn':=λp hp=>by have:=HL.out.ci.gl grp hgm p hp;rw[HN.out.2.1]at this;exact this
        obtain ⟨gb,fb,cb,rfl,-,hgb,hcb,hcell⟩:=hilg.resolve_left (λh=>hgne h.1);obtain ⟨np,hnp⟩:∃n,grp.length=n:=⟨_,rfl⟩;rw[hnp]at x5 hcb hog;have hnp6:np<=600:=by rw[<-hnp];exact asc_len (a:=0) (HL.out.ci.srt grp hgm) λp hp=>⟨Nat.zero_le _,by have:=hgp p hp;omega⟩
        have hdi:decide (i<ng)=true:=decide_eq_true hlt;have HI0:=Lib.hid hi0;have HGR:=Lib.hid (And.intro hgD (And.intro hgne (And.intro hgp (And.intro hnp hgm))));have HGC:=Lib.hid hcell;obtain ⟨WB,rfl⟩:∃W:World,W=wr:=⟨_,rfl⟩;clear hi0 hgrp hgD hgm hgne hgp hnp hcell hilg;go_wp2_with fail
        go_loopw [84,11,12] (λkv fv av wr=>∃k:Nat,k<=np/\kv = .int .i64 (k:Int)/\av = .bool ((grp.take k).any λp=>decide (p∈x.last))/\Hid (CU WB.heap.size fv (folG b (grp.take k)) wr)/\Hid (Below WB.heap.size WB wr)) (λkv _ _ _=>np - (intOf kv).toNat)
        case atStart=>exact ⟨0,Nat.zero_le _,rfl,rfl,⟨World.ownsRow_nil _ _ _ _, .inl rfl⟩,Below.refl _ _⟩
        case round=>
         obtain ⟨k,hk,rfl,rfl,HCU,HBW⟩:=hrel;have hwb:=HBW.out.size;obtain ⟨AL,nL,cL,rfl⟩:∃A n c,u11 = .slice A n c:=by
          obtain ⟨A,c,e,-⟩:=own_form HCU.out.1;exact ⟨_,_,_,e⟩
         obtain ⟨acc,hacc⟩:∃a,((grp.take k).any λp=>decide (p∈x.last))=a:=⟨_,rfl⟩;rw[hacc];have HACC:=Lib.hid hacc;clear hacc;have hlenK:(folG b (grp.take k)).length<=k*10000000000:=by
          have h1:=folG_len HKK.out (grp.take k);have h2:(grp.take k).length<=k:=List.length_take_le _ _;have h3:(grp.take k).length*cstF nd<=k*10000000000:=Nat.mul_le_mul h2 (by have:=HROOM.out.2;omega)
          omega
         by_cases hlt2:k<np
         .have hd2:decide ((k:Int)<(np:Int))=true:=decide_eq_true (by omega)
          have hkd:decide (k<np)=true:=decide_eq_true hlt2;have hkl:k<grp.length:=by rw[HGR.out.2.2.2.1];exact hlt2
          obtain ⟨p,hp⟩:∃p,grp[k]=p:=⟨_,rfl⟩;have hpn:p<pn':=by rw[<-hp];exact HGR.out.2.2.1 _ (List.getElem_mem hkl)
          have c0:=(HBW.out.cell (p:=⟨gb,fb+k,none⟩) hgb).trans (HGC.out k hkl);rw[hp]at c0;have lgb:gb<wr.heap.size:=by omega
          have hcpw:=HL.out.cp.later HBW.out;obtain ⟨gF',cF',eF,-,hgF',-,hfolc⟩:=hcpw.fol;have hpf:p<b.fol.length:=by rw[HN.out.1];exact hpn
          obtain ⟨rvv,x6,hsl6,-,-,hnone⟩:=hfolc p hpf;obtain ⟨rfl,-⟩:gF=gF'/\True:=by
           injection eF with eF;injection eF with eF;injection eF with eF;exact ⟨eF,trivial⟩
          obtain ⟨A6,c6,rfl,-⟩:=hsl6.form;obtain ⟨n6,hn6⟩:∃n,b.fol[p].length=n:=⟨_,rfl⟩;rw[hn6]at hsl6 x6 hnone;have hsW:=HL.out.sb.cells;have s1w:=(HBW.out.cell (p:=⟨w2.heap.size+1,1,none⟩) hsW.1).trans hsW.2.2.1;have s2w:=(HBW.out.cell (p:=⟨w2.heap.size+1,2,none⟩) hsW.1).trans hsW.2.2.2;have lsw:w2.heap.size+1<wr.heap.size:=by have:=hsW.1;omega
          obtain ⟨gE,eE,hgE,-,hcE⟩:=hcpw.ends;obtain ⟨rfl,-⟩:wZ.heap.size=gE/\True:=by
           injection eE with eE;injection eE with eE;injection eE with eE;exact ⟨eE,trivial⟩
          have x7:=hcE p (by rw[HN.out.2.1];exact hpn)
          have hpd:decide (p<pn')=true:=decide_eq_true hpn;have hlk:(folG b (grp.take k)).length+(b.fol[p]).length<=10000000000000:=by
           have h1:=HKK.out _ (List.getElem_mem hpf);have:=HROOM.out.2;have:k*10000000000<=599*10000000000:=Nat.mul_le_mul_right _ (by omega)
           omega
          have hst:folG b (grp.take k)++b.fol[p]=folG b (grp.take (k+1)):=by
           rw[List.take_succ_eq_append_getElem hkl,hp,folG_snoc];unfold folP;rw[List.getElem?_eq_getElem hpf];rfl
          have hac2:((grp.take (k+1)).any λp=>decide (p∈x.last))=(acc || decide (p∈x.last)):=by
           rw[List.take_succ_eq_append_getElem hkl,hp,List.any_append,HACC.out];simp
          have HSL:=Lib.hid hsl6;have HST:=Lib.hid (And.intro hst (And.intro hac2 hlk));have HNO:=Lib.hid (λ(h:A6=none)=>hnone n6 c6 (by rw[h]))
          obtain ⟨dd,hdd⟩:∃d,decide (p∈x.last)=d:=⟨_,rfl⟩;rw[hdd]at x7;have HDD:=Lib.hid hdd;clear hp hkl hcpw hfolc hsl6 hnone hsW hcE hst hac2 hlk hdd hlenK hn6 eF eE;go_wp2_with (at_builtin;refine app_CU Tryz.underlying22 hii hj0 hj1 hj2 rfl _ _ _ A6 n6 c6 (folG b (grp.take k)) _ WB.heap.size rfl rfl rfl rfl HCU.out HSL.out HNO.out HST.out.2.2 hwb ?_);intro v' w3 hcu3 hb3;obtain ⟨A3,n3,c3,rfl⟩:∃A n c,v' = .slice A n c:=by
           obtain ⟨A,c,e,-⟩:=own_form hcu3.1;exact ⟨_,_,_,e⟩
          have hbw3:=HBW.out.trans (hb3.mono (Nat.le_refl _));have hwb3:=hb3.size;have hz3w:WB.heap.size<=w3.heap.size:=hbw3.size;have s2w3:=(hb3.cell (p:=⟨w2.heap.size+1,2,none⟩) (by show w2.heap.size+1<WB.heap.size;exact (HL.out.sb.cells).1)).trans s2w
          have x73:=(hb3.cell (p:=⟨wZ.heap.size,p,none⟩) (by obtain ⟨g,e,h1,-⟩:=HL.out.cp.ends;injection e with e;injection e with e;injection e with e;show wZ.heap.size<WB.heap.size;omega)).trans x7
          have lsw3:w2.heap.size+1<w3.heap.size:=by omega
          have lgE3:wZ.heap.size<w3.heap.size:=by omega
          have hcu4:CU WB.heap.size (.slice A3 n3 c3) (folG b (grp.take (k+1))) w3:=by rw[<-HST.out.1];exact hcu3
          have HCU3:=Lib.hid hcu4;have HBW3:=Lib.hid hbw3;clear hcu3 hb3 hcu4 hbw3 c0 x6 s1w s2w x7
          cases acc with
          | true=>
           go_wp2_with fail;go_roundw
           case rel=>exact ⟨k+1,by omega,by go_num,by rw[HST.out.2.1];rfl,HCU3,HBW3⟩
           case measure=>simp[intOf];omega
          | false=>
           go_wp2_with fail;go_roundw
           case rel=>exact ⟨k+1,by omega,by go_num,by rw[HST.out.2.1,HDD.out];rfl,HCU3,HBW3⟩
           case measure=>simp[intOf];omega
         .have hkn:k=np:=by omega
          have hd2:decide ((k:Int)<(np:Int))=false:=decide_eq_false (by omega)
          have htk:grp.take k=grp:=List.take_of_length_le (by rw[HGR.out.2.2.2.1];omega)
          rw[htk]at HCU HACC hlenK;have hrl:=HL.out.ci.rl;have hal:acs.length=i:=by have:=Nat.pos_of_ne_zero HI0.out;rw[HL.out.ci.al];omega
          have hmkE:=HL.out.ma.own;rw[hrl]at hmkE;have hmkA:WB.ownsRow w2.heap.size 4 1 vA acs.length (rowF bC acs):=HL.out.ma.acc;rw[hal]at hmkA;obtain ⟨AE,cE,rfl,-,-⟩:=own_form hmkE;obtain ⟨AV,cA,rfl,-,-⟩:=own_form hmkA;have hNw:=(HBW.out.block (w5.heap.size+1) ((HL.out.ma.lt _ (mem_fpM.2 (.inl rfl))).2)).trans HL.out.ma.hN;obtain ⟨xn0,xn1⟩:wr.cell? ⟨w5.heap.size+1,0,none⟩=some (.slice AE i cE)/\wr.cell? ⟨w5.heap.size+1,1,none⟩=some (.slice AV i cA):=by constructor <;> (rw[cell_of_row _ _ _ _ _ _ hNw]; rfl)
          have fn1:wr.frozen? ⟨w5.heap.size+1,1,none⟩=false:=by simp[World.frozen?,hNw]
          have lNw:w5.heap.size+1<wr.heap.size:=(Array.getElem?_eq_some_iff.1 hNw).1;have hownA:=(own_later hmkA HBW.out).alloc (.cells #[.bool acc] 4);have hcx:∀j u,([.bool acc]:List Value)[j]?=some u->(wr.alloc (.cells #[.bool acc] 4)).cell? ((⟨wr.heap.size,0,none⟩:Addr).add j)=some u:=λj u hj=>by
           match j,hj with
           | 0,hj=>simp at hj;rw[<-hj,Addr.add_lit,cell_of_row _ _ _ _ _ _ (heap_alloc_new wr _)];rfl
          have hbz:w2.heap.size<=(wr.alloc (.cells #[.bool acc] 4)).heap.size:=by simp;omega
          have hbA:Below wr.heap.size wr (wr.alloc (.cells #[.bool acc] 4)):=(Below.refl _ _).alloc (Nat.le_refl _) _;have HBA:=Lib.hid (HBW.out.trans (hbA.mono hwb));have HRL:=Lib.hid (And.intro hrl hal);have HOA:=Lib.hid hownA;have HHE:=Lib.hid hmkE;have HHA:=Lib.hid hmkA;have HACQ:=Lib.hid (show acc=true↔∃p∈(gs[i]?).getD [],p∈x.last from by
           rw[HGR.out.1,<-HACC.out,List.any_eq_true];simp only[decide_eq_true_eq])
          have HLK:=Lib.hid hlenK;clear hrl hal hmkE hmkA hNw hownA hbA htk hlenK hkn;go_wp2_with (at_builtin;refine appI_at rfl _ _ 83 rfl w2.heap.size 4 ib _ 1 1 Tryz.underlying83 hib hb0 hb1 hb2 rfl (by decide) _ i (rowF bC acs) rfl HOA.out ⟨wr.heap.size,0,none⟩ 1 1 [.bool acc] rfl rfl hcx (by intro u hu;simp at hu;subst hu;rfl) (by unfold maxLen;omega) (by omega) hbz ?_)
          intro vA' w8 hown8 hg8 hf8;obtain ⟨A8,c8,rfl,-,-⟩:=own_form hown8;have HMB:=Lib.hid (HL.out.ma.later HBA.out);have nNA:(Value.slice AV i cA).ownBlock≠some (w5.heap.size+1):=HL.out.ma.neA;have hN8:=(hg8.block (w5.heap.size+1) (by simp;omega) (λe=>nNA e.symm)).trans HMB.out.hN
          have x81:w8.cell? ⟨w5.heap.size+1,1,none⟩=some (.slice AV i cA):=by rw[cell_of_row _ _ _ _ _ _ hN8];rfl
          have f81:w8.frozen? ⟨w5.heap.size+1,1,none⟩=false:=by simp[World.frozen?,hN8]
          have lN8:w5.heap.size+1<w8.heap.size:=(Array.getElem?_eq_some_iff.1 hN8).1;have hf8':Fresh (.slice A8 (i+1) c8) (.slice AV i cA) (wr.alloc (.cells #[.bool acc] 4)).heap.size:=by rw[show (wr.alloc (.cells #[.bool acc] 4)).heap.size=wr.heap.size+1 by simp];exact hf8
          have hor8:OR 4 1 bC w2.heap.size (.slice A8 (i+1) c8) (acs++[acc]) w8:=by
           show World.ownsRow _ _ _ _ _ _ _;rw[List.length_append,rowF_app,rowF_single,HRL.out.2];exact hown8
          obtain ⟨q1,q2⟩:=HMB.out.addA (λk hk=>by have:=(HL.out.sb.lt k hk).2;have:=HBA.out.size;omega) hor8 hg8 hf8'
          have hil8:=HCU.out.il.later (show Below wr.heap.size wr (wr.alloc (.cells #[.bool acc] 4)) from (Below.refl _ _).alloc (Nat.le_refl _) _);have houtM:outOf (fpM (w5.heap.size+1) (.slice AE i cE) (.slice AV i cA)) (.slice AL nL cL):=λg hg hm=>by have:=(HCU.out.1.lt g hg).1;have:=(HL.out.ma.lt g hm).2;omega
          have hsb8:=(HL.out.sb.later HBA.out).apart q2 (λk hk=>HMB.out.out k hk) HMB.out.types;have hcp8:=(HL.out.cp.later HBA.out).keep (q2.appR fp);have hbl8:=(HL.out.bl.trans (HBA.out.mono HL.out.bl.size)).trans (q2.below (λk hk=>(HL.out.ma.lt k hk).1) hbz);have hil9:=(hil8.keep houtM q2).1;have houtf:outOf fp (.slice AL nL cL):=λg hg hm=>by have:=(HCU.out.1.lt g hg).1;have:=(HL.out.sb.lt g hm).2;omega
          obtain ⟨W9,hW9⟩:∃W9,W9=w8.setCell ⟨w5.heap.size+1,1,none⟩ (.slice A8 (i+1) c8):=⟨_,rfl⟩;rw[<-hW9]at q1 q2 hsb8 hcp8 hbl8 hil9;have HMA:=Lib.hid q1;have HSB:=Lib.hid hsb8;have HCP:=Lib.hid hcp8;have HCI:=Lib.hid HL.out.ci;have HBL:=Lib.hid hbl8;have HRLB:=Lib.hid HRL.out;have HGF:=Lib.hid (show ∀p,p∈folG b grp↔grpF b x gs i p from λp=>by rw[folG_mem];unfold grpF;rw[if_neg HI0.out,HGR.out.1])
          have HLB:=Lib.hid (show ∀p∈folG b grp,p<b.sets.length from λp hp=>by
           obtain ⟨q,hq,hpq⟩:=folG_mem.1 hp;have:=(HBS.out.2.1.good.cls q (Nat.zero_le _) (by rw[HN.out.1];exact HGR.out.2.2.1 q hq) p hpq).2
           rw[HBS.out.2.1.len];exact this)
          have HLL:=Lib.hid (show (folG b grp).length<=10000000000000 by have:=HLK.out;have:k*10000000000<=600*10000000000:=Nat.mul_le_mul_right _ (by omega);omega)
          have HFV:=Lib.hid (And.intro hil9 houtf);have HWE:=Lib.hid hW9;clear hown8 hg8 hf8 hf8' hN8 hor8 q1 q2 hil8 hil9 houtM houtf hsb8 hcp8 hbl8 hcx hbz xn0 xn1 fn1 lNw;go_wp2_with fail;refine wp_named λW hW=>?_;obtain rfl:W=W9:=hW.trans HWE.out.symm;have HRL:=Lib.hid HRLB.out.1;have HE1:=Lib.hid (show W.ownsRow w2.heap.size 153 1 (.slice AE i cE) i gv from by have:=HMA.out.own;rwa [HRL.out]at this)
          have hNB:=HMA.out.hN;have HNB:=Lib.hid hNB;have xn0:W.cell? ⟨w5.heap.size+1,0,none⟩=some (.slice AE i cE):=by rw[cell_of_row _ _ _ _ _ _ hNB];rfl
          have lN:w5.heap.size+1<W.heap.size:=(Array.getElem?_eq_some_iff.1 hNB).1;have HNF:=Lib.hid (show w5.heap.size+1∉fp from HMA.out.out _ (mem_fpM.2 (.inl rfl)));have HVRW:=Lib.hid (HVR.out.below (HW2.out.trans (HBL.out.mono hww2)) HVR.out.low);have HG0:=Lib.hid HCI.out.g0;have HGL:=Lib.hid (show gs.length<=2000 by rw[HNG.out];exact hg2)
          have hi2:i<=2000:=by omega
          have hS0:StC30 (w5.heap.size+1) W 0 W.drew:=⟨Nat.le_refl _,rfl,λ_=>(Below.refl _ _).drew⟩;have lsW:w2.heap.size+1<W.heap.size:=(HSB.out.cells).1;clear hNB hW x4 lsr z0 z1 z2 lPr x5 x81 f81 lN8;go_wp2_with fail;refine wp_region_chain 9 [4,5,6,7] (factC30 w2 (w2.heap.size+1) w2.heap.size (.slice (some ⟨gS,0,none⟩) pn' cS) (.slice (some ⟨gF,0,none⟩) pn' cF) (.slice (some ⟨wZ.heap.size,0,none⟩) pn' pn') b gs fp (folG b grp) (w5.heap.size+1) i cE nL cL AE AL gv W) (λc w'=>StC30 (w5.heap.size+1) W c w') (by kernel_rfl) (by kernel_rfl) (by kernel_rfl) (by kernel_rfl) (by kernel_rfl) (by kernel_rfl) (by decide) hS0 ?_ ?_
          .simp only[pq4,pq5];refine HSteps.pure (by decide) ?_ (HSteps.pure (by decide) ?_ (HSteps.pure (by decide) ?_ (HSteps.pure (by decide) ?_ (HSteps.eff 0 rfl ?_ (HSteps.eff 1 rfl ?_ (HSteps.eff 2 rfl ?_ (HSteps.eff 3 rfl ?_ (HSteps.pure (by decide) ?_ (HSteps.nil)))))))))
           all_goals first | (intro v wz c hlo hS hE K hK;simp only[putAll,Act.put,pq1,pq2,pq3,Nat.zero_add,Nat.reduceAdd,pq4,pq5]at hK|-) | (intro v wz hS hE K hK;simp only[putAll,Act.put,pq1,pq2,pq3,Nat.zero_add,Nat.reduceAdd,pq4,pq5]at hK|-)
           .have HX:=Lib.hid hS;clear hS hE hlo;go_wp2_with fail;exact hK.out _ rfl
           .have e0:v 0=_:=hE.1 rfl;rw[e0]at hK|-;have c1:=(World.cell?_of_block (a:=⟨w5.heap.size+1,0,none⟩) hS.2.1).trans xn0;have l1:w5.heap.size+1<wz.heap.size:=by have:=hS.1;omega
            have HX:=Lib.hid hS;clear hS hE hlo;go_wp2_with fail;exact hK.out _ rfl
           .have HX:=Lib.hid hS;clear hS hE hlo;go_wp2_with fail;exact hK.out _ rfl
           .have HX:=Lib.hid hS;clear hS hE hlo;go_wp2_with fail;exact hK.out _ rfl
           .have e3:v 3=_:=hE.1 rfl;rw[e3]at hK|-;have hb:=hS.2.2 (by omega)
            have hcall:=sorted_any (.slice AL nL cL) (folG b grp) wz (HFV.out.1.later hb) HLL.out;have HC:=Lib.hid hcall;have HX:=Lib.hid hS;clear hS hE hcall hb;go_wp2_with fail;refine HC.out.mono ?_;rintro e wy ⟨v',r,rfl,hso,how,hil,hbw⟩;obtain ⟨A',c',rfl,-,-⟩:=own_form how;have HP:=Lib.hid (And.intro hso (And.intro (own_mono how HX.out.1) (And.intro hil hbw)));clear hso how hil hbw;go_wp2_with fail;refine hK.out _ _ (λj z hj h=>?_) ⟨Nat.le_trans HX.out.1 HP.out.2.2.2.size,(HP.out.2.2.2.block (w5.heap.size+1) (by have:=HX.out.1;omega)).trans HX.out.2.1,λ_=>(HX.out.2.2 (by omega)).trans (HP.out.2.2.2.mono HX.out.1)⟩ (λ_=>⟨A',r,c',rfl,HP.out.1,HP.out.2.1,HP.out.2.2.1⟩)
            match j with
            | 0 | 1 | 2 | 3 | 8=>exact h
            | 4=>exact absurd rfl hj
            | 5=>exact λhc=>by omega
            | 6=>exact λhc=>by omega
            | 7=>exact λhc=>by omega
            | _+9=>exact trivial
           .have e2:v 2=_:=hE.1 rfl;rw[e2]at hK|-;have E4:=hE.2.1 rfl;obtain ⟨Ar,r,cr,e4,hso,how,hil⟩:=E4 rfl;rw[e4]at hK how hil|-;have hb:=hS.2.2 (by omega)
            have hrb:∀p∈r,p<b.sets.length:=λp hp=>HLB.out p ((hso.2 p).1 hp);have hcall:=edges_any w2 (w2.heap.size+1) w2.heap.size (.slice (some ⟨gS,0,none⟩) pn' cS) (.slice (some ⟨gF,0,none⟩) pn' cF) (.slice (some ⟨wZ.heap.size,0,none⟩) pn' pn') b gs fp wz r _ (HSB.out.later hb) ((HCP.out.later hb).set.weak λk hk=>List.mem_append_left _ hk) (HBL.out.trans (hb.mono HBL.out.size)) HRG.out hil (λg hg hm=>by have:=(how.lt g hg).1;have:=(HSB.out.lt g hm).2;omega) hrb (asc_len (a:=0) hso.1 λp hp=>⟨Nat.zero_le _,by have:=hrb p hp;have:=HN.out.2.1;omega⟩) (by rw[HN.out.2.1];omega) (by have:=HGL.out;omega) HG0.out (HVRW.out.later hb) HLOW.out
            have HC:=Lib.hid hcall;have HX:=Lib.hid (And.intro hS (And.intro hso hb));clear hS hE hcall hb hrb hso how hil E4 e4;go_wp2_with fail;refine HC.out.mono ?_;rintro e wy ⟨row,gs',fp',rv,rfl,⟨hr1,hr2,hr3⟩,hsb,hkf,hri,hgg,hl1,hl2⟩;obtain ⟨A',c',hrf,-,-⟩:=hr1.form;have HP:=Lib.hid (And.intro hr1 (And.intro hr2 (And.intro hr3 (And.intro hsb (And.intro hkf (And.intro hri (And.intro hgg hl1)))))));clear hr1 hr2 hr3 hsb hkf hri hgg hl1 hl2 hrf;go_wp2_with fail;have hz1:=HX.out.1.1;have hz2:=HP.out.2.2.2.2.1.size;refine hK.out _ _ (λj z hj h=>?_) ⟨by omega,(HP.out.2.2.2.2.1.blk (w5.heap.size+1) (by omega) HNF.out).trans HX.out.1.2.1,λh=>by omega⟩ (λ_=>⟨r,row,gs',fp',HX.out.2.1,⟨HP.out.1,HP.out.2.1,λg hg=>⟨by have:=(HP.out.2.2.1 g hg).1;omega,(HP.out.2.2.1 g hg).2⟩⟩,HP.out.2.2.2.1,(KeepF.of_below HX.out.2.2).trans HP.out.2.2.2.2.1,HP.out.2.2.2.2.2.1,HP.out.2.2.2.2.2.2.1,HP.out.2.2.2.2.2.2.2⟩)
            match j with
            | 0 | 1 | 2 | 3 | 8=>exact h
            | 5=>exact absurd rfl hj
            | 4=>exact λhc=>by omega
            | 6=>exact λhc=>by omega
            | 7=>exact λhc=>by omega
            | _+9=>exact trivial
           .have E5:=hE.1 rfl;have hef:=E5 rfl;obtain ⟨r,row,gs',fp',q1,⟨q2,q3,q4⟩,q5⟩:=id hef;obtain ⟨A5,c5,e5,-,-⟩:=q2.form;obtain ⟨n5,hn5⟩:∃n,row.length=n:=⟨_,rfl⟩;rw[hn5]at e5;rw[e5]at hK hef|-;have HEF:=Lib.hid hef;have HX:=Lib.hid hS;clear hS hE hef q1 q2 q3 q4 q5 E5 e5;have hzW:=HX.out.1;go_wp2_with fail;have hbz:Below wz.heap.size wz (wz.alloc (.cells #[.slice A5 n5 c5] 153)):=(Below.refl _ _).alloc (Nat.le_refl _) _;refine hK.out _ _ (λj z hj h=>?_) ⟨by simp;omega,(hbz.block (w5.heap.size+1) (by omega)).trans HX.out.2.1,λh=>by omega⟩ (λ_=>⟨wz.heap.size, .slice A5 n5 c5,rfl,hzW,by simp,by go_simp,rfl,HEF.out.later hbz⟩)
            match j with
            | 0 | 1 | 2 | 3 | 8=>exact h
            | 6=>exact absurd rfl hj
            | 4=>exact λhc=>by omega
            | 5=>exact λhc=>by omega
            | 7=>exact λhc=>by omega
            | _+9=>exact trivial
           .have e1:v 1=_:=hE.1 rfl;rw[e1]at hK|-;have E6:=hE.2.1 rfl;obtain ⟨g,rv,e6,hgW,hgl,hg0,h1c,hef⟩:=E6 rfl;rw[e6]at hK|-;obtain ⟨r,row,gs',fp',q1,q2,q3,q4,q5⟩:=id hef;have hown:wz.ownsRow w2.heap.size 153 1 (.slice AE i cE) i gv:=own_same HE1.out λg hg=>q4.blk g (HE1.out.lt g hg).2 λhm=>HMA.out.out g (mem_fpM.2 (.inr (.inl hg))) hm;have hzz:=hS.1;have hcell:∀j u,([rv]:List Value)[j]?=some u->wz.cell? ((⟨g,0,none⟩:Addr).add j)=some u:=λj u hj=>by
             match j,hj with
             | 0,hj=>simp at hj;rw[<-hj,Addr.add_lit];exact hg0
            have HEF:=Lib.hid hef;have HX:=Lib.hid hS;clear hS hE hef q1 q2 q3 q4 q5 E6;go_wp2_with (at_builtin;refine appI_at rfl _ _ 82 rfl w2.heap.size 153 ie (.slice none 0 0) 1 24 Tryz.underlying82 hie he0 he1 he2 rfl (by decide) _ i gv rfl hown ⟨g,0,none⟩ 1 1 [rv] rfl rfl hcell (by intro u hu;simp at hu;subst hu;exact h1c) (by unfold maxLen;omega) (by omega) (by have:=HBL.out.size;omega) ?_)
            intro v' wx hown1 hg1 hfr;obtain ⟨A',c',rfl,-,-⟩:=own_form hown1;refine hK.out _ _ (λj z hj h=>?_) ⟨Nat.le_trans HX.out.1 hg1.size,(hg1.block (w5.heap.size+1) (by omega) (λe=>HMA.out.neE e.symm)).trans HX.out.2.1,λh=>by omega⟩ (λ_=>⟨rv,wz,A',c',rfl,HEF.out,hg1,hown1,hfr⟩)
            match j with
            | 0 | 1 | 2 | 3 | 8=>exact h
            | 7=>exact absurd rfl hj
            | 4=>exact λhc=>by omega
            | 5=>exact λhc=>by omega
            | 6=>exact λhc=>by omega
            | _+9=>exact trivial
           .have HX:=Lib.hid hS;clear hS hE hlo;go_wp2_with fail;exact hK.out _ rfl
          .intro v wz hS hF;have e0:v 0=_:=hF 0 (by decide)
           have e1:v 1=_:=hF 1 (by decide)
           have e2:v 2=_:=hF 2 (by decide)
           have e3:v 3=_:=hF 3 (by decide)
           have e8:v 8=_:=hF 8 (by decide)
           have E4:=hF 4 (by decide)
           have E5:=hF 5 (by decide)
           have E6:=hF 6 (by decide)
           have E7:=hF 7 (by decide)
           simp only[putAll,Act.put,pq1,pq2,pq3,Nat.zero_add,Nat.reduceAdd,pq4,pq5,List.drop_succ_cons,List.drop_zero,e0,e1,e2,e3,e8];clear hF e0 e1 e2 e3 e8;obtain ⟨rv,w6,A7,c7,e7,hef,hg7,ho7,hf7⟩:=E7 rfl;rw[e7]at ho7 hf7|-;have hNz:=hS.2.1.trans HNB.out;have xz0:wz.cell? ⟨w5.heap.size+1,0,none⟩=some (.slice AE i cE):=by rw[cell_of_row _ _ _ _ _ _ hNz];rfl
           have fz0:wz.frozen? ⟨w5.heap.size+1,0,none⟩=false:=by simp[World.frozen?,hNz]
           have lNz:w5.heap.size+1<wz.heap.size:=(Array.getElem?_eq_some_iff.1 hNz).1;obtain ⟨row,gs',fp',hcl,hgl'⟩:=cp_next (w0:=w2) HMA.out HCP.out HCI.out (by rw[if_neg HI0.out];exact ⟨_,rfl,HACQ.out⟩) (show i<gs.length by rw[HNG.out];exact hlt) HBL.out HGF.out HLB.out hef hg7 (by rw[HRL.out];exact ho7) hf7 (λk hk=>(HSB.out.lt k hk).1)
           have hns1:¬w5.heap.size+1=w2.heap.size+1:=λe=>by have:=hcl.ma.out _ (mem_fpM.2 (.inl rfl));have h8:=hcl.sb;obtain ⟨vg8,gv8,F8,hfp8,-⟩:=h8;rw[hfp8,e]at this;exact this (by simp[fpG])
           have hns2:¬w2.heap.size+1=w5.heap.size+1:=λe=>hns1 e.symm;have hset:∀k,k≠w5.heap.size+1->(wz.setCell ⟨w5.heap.size+1,0,none⟩ (.slice A7 (i+1) c7)).heap[k]?=wz.heap[k]?:=λk hk=>Below.heap_setCell _ _ _ _ hk;obtain ⟨Ag',cg',x4',hcg',-⟩:=hcl.sb.groups;obtain ⟨ng',hng'⟩:∃n,gs'.length=n:=⟨_,rfl⟩;rw[hng']at x4';have x4z:wz.cell? ⟨w2.heap.size+1,4,none⟩=some (.slice Ag' ng' cg'):=(World.cell?_of_block (a:=⟨w2.heap.size+1,4,none⟩) (hset _ hns2)).symm.trans x4';have lsz2:w2.heap.size+1<wz.heap.size:=by have:=hS.1;omega
           have hgb:ng'<=100000:=by rw[<-hng'];have:=HNG.out;omega
           have HCL:=Lib.hid hcl;have HNG':=Lib.hid hng';clear hS hef hg7 ho7 hf7 hNz e7 E4 E5 E6 E7 hcl hgl' x4' hng';by_cases h2k:2000<ng'
           .have d4:decide (2000<(ng':Int))=true:=decide_eq_true (by omega)
            have hRz:=(hset (w.heap.size+1) (by omega)).symm.trans ((HCL.out.bl.block (w.heap.size+1) (by omega)).trans HZ1.out)
            obtain ⟨rz0,rz1⟩:wz.cell? ⟨w.heap.size+1,0,none⟩=some (.slice none 0 0)/\wz.cell? ⟨w.heap.size+1,1,none⟩=some (.slice none 0 0):=by constructor <;> (rw[cell_of_row _ _ _ _ _ _ hRz]; rfl)
            have gz0:wz.frozen? ⟨w.heap.size+1,0,none⟩=false:=by simp[World.frozen?,hRz]
            have gz1:wz.frozen? ⟨w.heap.size+1,1,none⟩=false:=by simp[World.frozen?,hRz]
            have lRz:w.heap.size+1<wz.heap.size:=by omega
            have nRN:¬w.heap.size+1=w5.heap.size+1:=by omega
            have nRN2:¬w5.heap.size+1=w.heap.size+1:=by omega
            clear hRz hset;go_wp2_with fail;refine post_named λWf hWf=>?_;refine bodyPost_ret (v:=.tuple #[mcNil, .int .i64 3]) (by rw[hWf];simp[results,Tryz.results76,go_sem,rz0,rz1,lRz,mcNil];try rfl) rfl ?_
            have hbf:Below w.heap.size w Wf:=by
             rw[hWf];have h1:=HW2.out.trans (HCL.out.bl.mono hww2);exact (h1.setCell (p:=⟨w.heap.size+1,0,none⟩) (by show w.heap.size<=w.heap.size+1;omega) _).setCell (p:=⟨w.heap.size+1,1,none⟩) (by show w.heap.size<=w.heap.size+1;omega) _
            exact ⟨hbf, .inr (.inr ⟨HQ.out.1,HROOM.out.1,b,x,gs',_,_,i+1,HBS.out.2.1,by rw[HN.out.1,HN.out.2.2.1],HBYT.out,HCL.out.ci, .inl ⟨by rw[HNG'.out];exact h2k,rfl⟩⟩)⟩
           .have d4:decide (2000<(ng':Int))=false:=decide_eq_false (by omega)
            have hcil:=HCL.out.ci.il;clear hset;go_wp2_with fail;go_roundw
            case rel=>exact ⟨i+1,gs',fp',_,_,_,_,_,by go_num,hcil,by rw[HNG'.out];omega,HCL⟩
            case measure=>simp[intOf];omega
      .have hie:i=ng:=by omega
       have hd:decide ((i:Int)<(ng:Int))=false:=decide_eq_false (by omega)
       have hci:=HL.out.ci;rw[hie,<-HNG.out]at hci;obtain ⟨hvld,hrows,-⟩:=hci.done HBYT.out;have hrl:=HL.out.ci.rl;have h0:1<=i:=by have:=(List.getElem?_eq_some_iff.1 HL.out.ci.g0).1;have:=HNG.out;omega
       have hsm:McSm ⟨rs,acs⟩:=⟨λr hr=>(hrows r hr).2,λr hr=>Nat.le_trans (hrows r hr).1 (by decide),by show rs.length<=_;omega⟩
       have hvrw:=HVR.out.below (HW2.out.trans (HL.out.bl.mono hww2)) HVR.out.low;have hmkE:=HL.out.ma.own;have hmkA:wr.ownsRow w2.heap.size 4 1 vA acs.length (rowF bC acs):=HL.out.ma.acc;obtain ⟨AE,cE,rfl,-,-⟩:=own_form hmkE;obtain ⟨AV,cA,rfl,-,-⟩:=own_form hmkA;have hle:=least_any _ ⟨rs,acs⟩ wr HL.out.ma.mcIn hvld hsm (by show 1<=rs.length;omega) hvrw
       obtain ⟨nE,hnE⟩:∃n,rs.length=n:=⟨_,rfl⟩;obtain ⟨nV,hnV⟩:∃n,acs.length=n:=⟨_,rfl⟩;have hNw:=HL.out.ma.hN;rw[hnE,hnV]at hle hNw;obtain ⟨xn0,xn1⟩:wr.cell? ⟨w5.heap.size+1,0,none⟩=some (.slice AE nE cE)/\wr.cell? ⟨w5.heap.size+1,1,none⟩=some (.slice AV nV cA):=by constructor <;> (rw[cell_of_row _ _ _ _ _ _ hNw]; rfl)
       have lNw:w5.heap.size+1<wr.heap.size:=(Array.getElem?_eq_some_iff.1 hNw).1;have HLE:=Lib.hid hle;have HCI:=Lib.hid hci;clear hci hvld hrows hrl hsm hvrw hmkE hmkA hle hnE hnV hNw hie;go_wp2_with fail;refine HLE.out.mono ?_;rintro e w9 ⟨rv,m',rfl,hup,hb9,hok⟩;obtain ⟨ve9,va9,rfl,he9,ha9⟩:=hup.mc;obtain ⟨A9,c9,rfl,-⟩:=he9.form;obtain ⟨B9,d9,rfl,-⟩:=ha9.form;obtain ⟨n9,hn9⟩:∃n,m'.ed.length=n:=⟨_,rfl⟩;obtain ⟨m9,hm9⟩:∃n,m'.ac.length=n:=⟨_,rfl⟩;rw[hn9,hm9]at hup|-;have hz9:=hb9.size;have hR9:=(hb9.block (w.heap.size+1) (by omega)).trans ((HL.out.bl.block (w.heap.size+1) (by omega)).trans HZ1.out)
       obtain ⟨rz0,rz1⟩:w9.cell? ⟨w.heap.size+1,0,none⟩=some (.slice none 0 0)/\w9.cell? ⟨w.heap.size+1,1,none⟩=some (.slice none 0 0):=by constructor <;> (rw[cell_of_row _ _ _ _ _ _ hR9]; rfl)
       have gz0:w9.frozen? ⟨w.heap.size+1,0,none⟩=false:=by simp[World.frozen?,hR9]
       have gz1:w9.frozen? ⟨w.heap.size+1,1,none⟩=false:=by simp[World.frozen?,hR9]
       have lR9:w.heap.size+1<w9.heap.size:=by omega
       have HUP:=Lib.hid (And.intro hup (And.intro hb9 hok));clear hup hb9 hok he9 ha9 hR9 hn9 hm9;go_wp2_with fail;refine post_named λWf hWf=>?_;refine bodyPost_ret (v:=.tuple #[.agg #[.slice A9 n9 c9, .slice B9 m9 d9], .int .i64 0]) (by rw[hWf];simp[results,Tryz.results76,go_sem,rz0,rz1,lR9];try rfl) rfl ?_
       have hkl:KeepF [w.heap.size+1] [] w9 Wf:=by
        rw[hWf];have hne:∀k,k∉[w.heap.size+1]->k≠w.heap.size+1:=λk hn e=>hn (List.mem_singleton.2 e);exact ⟨rfl,rfl,rfl,by simp[World.setCell],λk _ hn=>(Below.heap_setCell (w9.setCell ⟨w.heap.size+1,0,none⟩ _) ⟨w.heap.size+1,1,none⟩ _ k (hne k hn)).trans (Below.heap_setCell w9 ⟨w.heap.size+1,0,none⟩ _ k (hne k hn)),λk hk=>by cases hk⟩
       have hbw:Below w.heap.size w wr:=HW2.out.trans (HL.out.bl.mono hww2);have hbf:Below w.heap.size w Wf:=(hbw.trans (HUP.out.2.1.mono hbw.size)).trans (hkl.below (λk hk=>by rw[List.mem_singleton]at hk;omega) (by omega))
       have hupf:=(HUP.out.1.keep hkl (λk hk=>by rw[List.mem_singleton]at hk;omega)).mono hbw.size
       exact ⟨hbf, .inr (.inr ⟨HQ.out.1,HROOM.out.1,b,x,gs,rs,acs,gs.length,HBS.out.2.1,by rw[HN.out.1,HN.out.2.2.1],HBYT.out,HCI.out, .inr ⟨rfl,by rw[HNG.out];exact hg2,_,m',rfl,hupf,HUP.out.2.2⟩⟩)⟩
end Go.Proofs.YtljgapfmgegifaaGreatDoor
namespace Go.Proofs.YtljgapfmgegifaaGreatDoor
set_option linter.unusedVariables false
set_option linter.unusedSimpArgs false
set_option maxRecDepth 100000
open Go.RowKit
theorem vr_keep {fp fp':List Nat} {w w':World} (hv:VrOK w) (hk:KeepF fp fp' w w') (hlo:∀k∈fp,nG<=k):VrOK w'/\∀k∈fp',nG<=k:=
 ⟨hv.of_low hk.size λk h=>hk.blk k (Nat.lt_of_lt_of_le h hv.low) λhm=>by have:=hlo k hm;omega,λk hm=>(hk.new k hm).elim (hlo k) λh=>Nat.le_trans hv.low h⟩
def WtCall (nd:Nd):Prop:=∀(vs:List Value) (b:Nat) (l:List UInt8) (fp:List Nat) (w:World),BuK b l fp w->NdUL fp w vs nd->VrOK w->(∀k∈fp,nG<=k)->l.length+(txtN nd).length<=800000000->
 Calls Tryz.prog 127 #[.pointer (some ⟨b,0,none⟩), .agg vs.toArray] w (WtP b (l++txtN nd) fp w)
def parT (p:Bool) (t:List UInt8):List UInt8:=if p=true then 40::(t++[41]) else t
theorem NdUL.of {L L':List Nat} {w w':World} {vs:List Value} {nd:Nd} (h:NdUL L w vs nd) (hk:KeepF L L' w w'):NdUL L' w' vs nd:=h.next hk.non λk hm=>hk.new k hm
set_option maxHeartbeats 4000000 in
theorem kid_of {nd:Nd} (HW:WtCall nd) (p:Bool) (vs:List Value) (b:Nat) (l:List UInt8) (fp:List Nat) (w:World) (h:BuK b l fp w) (hn:NdUL fp w vs nd) (hv:VrOK w) (hlo:∀k∈fp,nG<=k) (hl:l.length+(parT p (txtN nd)).length<=800000000) :
  Calls Tryz.prog 162 #[.pointer (some ⟨b,0,none⟩), .agg vs.toArray, .bool p] w (WtP b (l++parT p (txtN nd)) fp w):=by
 obtain ⟨A1,c1,A2,c2,rfl,-⟩:=(hn w (kf_self _ _)).form;have H:=Lib.hid (And.intro h (And.intro hn (And.intro hv (And.intro hlo hl))));clear h hn hv hlo hl
 go_enter Tryz.func162,Tryz.ntmps162
 cases p with
 | true=>
  go_wp2_with fail;refine calls_named λW0 hW0=>?_;have hb0:Below w.heap.size w W0:=by rw[hW0];exact (Below.refl _ _).alloc (Nat.le_refl _) _
  have hN0:W0.heap[w.heap.size]?=some (.cells #[.int .i64 nd.op, .slice A1 nd.rs.length c1, .slice A2 nd.kids.length c2, .int .i64 nd.mn, .int .i64 nd.mx] 31 (0,0)):=by rw[hW0];exact heap_alloc_new w _
  have hl9:l.length+((txtN nd).length+2)<=800000000:=by have h9:=H.out.2.2.2.2;unfold parT at h9;rw[if_pos rfl,List.length_cons,List.length_append]at h9;simp at h9;omega
  have hnx:w.heap.size∉fp:=λhm=>by have:=H.out.1.lt _ hm;omega
  have H0:=Lib.hid (And.intro hb0 (And.intro hN0 hnx));have H1:=Lib.hid (byte_K b l fp 40 40 rfl W0 (H.out.1.below hb0) (by omega))
  clear hW0 hb0 hN0 hnx;refine H1.out.mono ?_;rintro e w1 ⟨rfl,fp1,hk1,kf1⟩;have kf01:KeepF fp fp1 w w1:=(KeepF.of_below (fp:=fp) H0.out.1).trans kf1;obtain ⟨n1,e1⟩:=bufKeep hk1 kf1 H0.out.2.2 (Array.getElem?_eq_some_iff.1 H0.out.2.1).1;have hN1:=e1.trans H0.out.2.1;obtain ⟨b0,b1,b2,b3,b4⟩:=cells5 hN1;have lb:w.heap.size<w1.heap.size:=(Array.getElem?_eq_some_iff.1 hN1).1;have hv1:=vr_keep H.out.2.2.1 kf01 H.out.2.2.2.1;have H2:=Lib.hid (HW _ b (l++[40]) fp1 w1 hk1 (H.out.2.1.of kf01) hv1.1 hv1.2 (by rw[List.length_append,List.length_singleton];omega))
  have HK:=Lib.hid kf01;clear hk1 kf1 kf01 n1 e1 hN1 hv1;go_wp2_with fail;refine H2.out.mono ?_;rintro e w2 ⟨rfl,fp2,hk2,kf2⟩;have H3:=Lib.hid (And.intro hk2 (HK.out.trans kf2));have H4:=Lib.hid (byte_K b _ fp2 41 41 rfl w2 hk2 (by rw[List.length_append,List.length_append,List.length_singleton];omega))
  clear hk2 kf2 b0 b1 b2 b3 b4 lb;go_wp2_with fail;refine H4.out.mono ?_;rintro e w3 ⟨rfl,fp3,hk3,kf3⟩;have H5:=Lib.hid (And.intro hk3 (H3.out.2.trans kf3));clear hk3 kf3;go_wp2_with fail
  go_end0
  refine ⟨rfl,fp3,?_,H5.out.2⟩;have h9:=H5.out.1;unfold parT;rw[if_pos rfl];simpa using h9
 | false=>
  go_wp2_with fail;refine calls_named λW0 hW0=>?_;have hb0:Below w.heap.size w W0:=by rw[hW0];exact (Below.refl _ _).alloc (Nat.le_refl _) _
  have kf01:KeepF fp fp w W0:=KeepF.of_below hb0;have hv1:=vr_keep H.out.2.2.1 kf01 H.out.2.2.2.1;have H2:=Lib.hid (HW _ b l fp W0 (H.out.1.below hb0) (H.out.2.1.of kf01) hv1.1 hv1.2 (by have h9:=H.out.2.2.2.2;unfold parT at h9;rw[if_neg (by decide)]at h9;exact h9))
  have HK:=Lib.hid kf01;clear hW0 hb0 kf01 hv1;refine H2.out.mono ?_;rintro e w2 ⟨rfl,fp2,hk2,kf2⟩;have H3:=Lib.hid (And.intro hk2 (HK.out.trans kf2));clear hk2 kf2;go_wp2_with fail
  go_end0
  exact ⟨rfl,fp2,H3.out.1,H3.out.2⟩
theorem txtS_cons {kids:List Nd} {i:Nat} (h:i<kids.length):txtS (kids.drop i)=parT (kids[i].op == 3) (txtN kids[i])++txtS (kids.drop (i+1)):=by
 rw[List.drop_eq_getElem_cons h,txtS]
 congr 1
 unfold parT;by_cases h3:kids[i].op=3
 .rw[if_pos h3,if_pos (by simp[h3])]
 .rw[if_neg h3,if_neg (by simp[h3])]
def restC (kids:List Nd) (i:Nat):List UInt8:=if i=0 then txtC kids else txtD (kids.drop i)
def barT (i:Nat):List UInt8:=if i=0 then [] else [124]
theorem restC_cons {kids:List Nd} {i:Nat} (h:i<kids.length):restC kids i=(barT i++txtN kids[i])++restC kids (i+1):=by
 unfold restC barT;rw[if_neg (show ¬i+1=0 by omega)]
 by_cases h0:i=0
 .subst h0;rw[if_pos rfl,if_pos rfl];have e:=List.drop_eq_getElem_cons h;rw[List.drop_zero]at e
  conv=>lhs;rw[e]
  rw[txtC];rfl
 .rw[if_neg h0,if_neg h0,List.drop_eq_getElem_cons h,txtD];rfl
theorem restC_end {kids:List Nd} {i:Nat} (h:kids.length<=i):restC kids i=[]:=by
 unfold restC;by_cases h0:i=0
 .rw[if_pos h0];have:kids=[]:=List.length_eq_zero_iff.1 (by omega)
  rw[this,txtC]
 .rw[if_neg h0,List.drop_of_length_le h,txtD]
set_option maxHeartbeats 16000000 in
theorem wt_any {ok:Nat->Prop} (HSG:SgnH ok):∀(m:Nat) (nd:Nd),nodesT nd<=m->rightF nd=true->okN ok nd->WtCall nd:=by
 intro m
 induction m with
 | zero=>intro nd h;cases nd;rw[nodesT]at h;omega
 | succ m ih=>
  rintro ⟨op,rs,kids,mn,mx⟩ hm hR hok vs b l fp w h hn hv hlo hl;obtain ⟨hop,hRs⟩:=rightF_op hR;have hle:=rep_le hR;rw[nodesT]at hm;rw[okN]at hok;have hkid:∀k∈kids,WtCall k:=λk hk=>ih k (by have:=nodesT_kid hk;omega) (rightFs_mem hRs hk) (okNs_mem hok.2 hk)
  obtain ⟨A1,c1,A2,c2,rfl,-,hc2,-⟩:=(hn w (kf_self _ _)).form;have hrng:RgUL fp w (.slice A1 rs.length c1) rs:=λW hW=>by
   obtain ⟨A3,c3,A4,c4,e,hr,-,-⟩:=(hn W hW).form;injection e with _ e;injection e with e _;have hr:RgIn W (.slice A3 rs.length c3) rs:=hr;have e:Value.slice A1 rs.length c1=Value.slice A3 rs.length c3:=e;rw[e];exact hr
  simp only[Nd.op,Nd.rs,Nd.kids,Nd.mn,Nd.mx]at hc2|-;obtain ⟨nr,hnr⟩:∃k,rs.length=k:=⟨_,rfl⟩;obtain ⟨nk,hnk⟩:∃k,kids.length=k:=⟨_,rfl⟩;have hnku:kids≠[]->∃g f,A2=some ⟨g,f,none⟩/\g∉fp/\g<w.heap.size/\∀i (hi:i<kids.length),∃us:List Value,(∀j,j<5->w.cell? ⟨g,f+i*5+j,none⟩=us[j]?)/\us.length=5/\NdUL fp w us kids[i]:=λh0=>by
   obtain ⟨A5,n5,c5,g,f,c6,e,q1,q2,q3⟩:=hn.kid h0;injection e with _ e;injection e with _ e;injection e with e _;injection e with e _ _;exact ⟨g,f,e,q1,q2,q3⟩
  have HN:=Lib.hid (And.intro hnr (And.intro hnk (And.intro hkid hnku)));have HB:=Lib.hid (And.intro h (And.intro hv hlo));have HT:=Lib.hid (show txtN (.mk op rs kids mn mx)=if op=1 then setT rs else if op=2 then txtS kids else if op=3 then txtC kids else txtH kids++repT mn mx by rw[txtN])
  have HL:=Lib.hid hl;have HRG:=Lib.hid (And.intro hrng hok.1);rw[hnr]at hrng|-;rw[hnk]at hc2|-;have hk63:(nk:Int)<=9223372036854775807:=by omega
  clear hnr hnk hkid hnku h hv hlo hl hrng hok hm hRs ih;rcases hop with rfl | rfl | rfl | ⟨rfl,hk1,hm0,hm1,hm2⟩
  .rw[if_pos rfl]at HT;clear hR hle
   go_enter Tryz.func127,Tryz.ntmps127
   go_wp2_with fail;refine calls_named λW0 hW0=>?_;have hb0:Below w.heap.size w W0:=by rw[hW0];exact (Below.refl _ _).alloc (Nat.le_refl _) _
   have kf0:KeepF fp fp w W0:=KeepF.of_below hb0;have H2:=Lib.hid (wset_any HSG b l fp A1 nr c1 rs W0 (HB.out.1.below hb0) (by have h9:=HRG.out.1.next kf0;rw[HN.out.1]at h9;exact h9) HN.out.1 HRG.out.2 (by have h9:=HL.out;rw[HT.out]at h9;omega))
   have HK:=Lib.hid kf0;clear hW0 hb0 kf0;refine H2.out.mono ?_;rintro e w2 ⟨rfl,fp2,hk2,kf2⟩;have H3:=Lib.hid (And.intro hk2 (HK.out.trans kf2));clear hk2 kf2;go_wp2_with fail
   go_end0
   exact ⟨rfl,fp2,by rw[HT.out];exact H3.out.1,H3.out.2⟩
  .rw[if_neg (by decide),if_pos rfl]at HT
   clear hR hle
   go_enter Tryz.func127,Tryz.ntmps127
   go_wp2_with fail;refine wpX_nm λW0 hW0=>?_;have hb0:Below w.heap.size w W0:=by rw[hW0];exact (Below.refl _ _).alloc (Nat.le_refl _) _
   have H0:=Lib.hid (And.intro (HB.out.1.below hb0) (KeepF.of_below (fp:=fp) hb0));clear hW0 hb0
   go_loopw [52] (λiv wr=>∃(i:Nat) (li:List UInt8) (fpi:List Nat),i<=nk/\iv = .int .i64 (i:Int)/\Hid (li++txtS (kids.drop i)=l++txtS kids)/\Hid (BuK b li fpi wr/\KeepF fp fpi w wr)) (λiv _=>nk - (intOf iv).toNat)
   case atStart=>exact ⟨0,l,fp,Nat.zero_le _,rfl,by rw[List.drop_zero];rfl,H0.out⟩
   case round=>
    obtain ⟨i,li,fpi,hi,rfl,HE,HK⟩:=hrel;by_cases hlt:i<nk
    .have hd:decide ((i:Int)<(nk:Int))=true:=decide_eq_true (by omega)
     have hdn:decide (i<nk)=true:=decide_eq_true hlt;have hil:i<kids.length:=by rw[HN.out.2.1];exact hlt
     have hne:kids≠[]:=by rintro rfl;cases hil
     obtain ⟨g,f,rfl,hgn,hg,hkd⟩:=HN.out.2.2.2 hne;obtain ⟨us,hc,hul,hnu⟩:=hkd i hil;have hwt:=HN.out.2.2.1 _ (List.getElem_mem hil);have hcons:=txtS_cons hil;obtain ⟨kd,hkd2⟩:∃kd,kids[i]=kd:=⟨_,rfl⟩;rw[hkd2]at hnu hwt hcons;obtain ⟨B1,e1,B2,e2,rfl,-⟩:=(hnu w (kf_self _ _)).form;have hblk:wr.heap[g]?=w.heap[g]?:=HK.out.2.blk g hg hgn;have q:∀j,j<5->wr.cell? ⟨g,f+i*5+j,none⟩=([.int .i64 kd.op, .slice B1 kd.rs.length e1, .slice B2 kd.kids.length e2, .int .i64 kd.mn, .int .i64 kd.mx]:List Value)[j]?:=λj hj=>(World.cell?_of_block (a:=⟨g,f+i*5+j,none⟩) hblk).trans (hc j hj);have q0:=q 0 (by omega);have q1:=q 1 (by omega);have q2:=q 2 (by omega);have q3:=q 3 (by omega);have q4:=q 4 (by omega)
     simp only[Nat.add_zero,List.getElem?_cons_zero,List.getElem?_cons_succ]at q0 q1 q2 q3 q4;have lg:g<wr.heap.size:=Nat.lt_of_lt_of_le hg HK.out.2.size;obtain ⟨p,hp⟩:∃p,(kd.op == 3)=p:=⟨_,rfl⟩;rw[hp]at hcons;have hv1:=vr_keep HB.out.2.1 HK.out.2 HB.out.2.2;have hbd:li.length+(parT p (txtN kd)).length<=800000000:=by
      have h1:=congrArg List.length HE.out;have h2:=HL.out;rw[HT.out]at h2;rw[hcons,List.length_append,List.length_append,List.length_append]at h1;omega
     have HI:=Lib.hid λW (hW:Below wr.heap.size wr W)=>kid_of hwt p _ b li fpi W (HK.out.1.below hW) ((hnu.of HK.out.2).of (KeepF.of_below hW)) (vr_keep hv1.1 (KeepF.of_below (fp:=fpi) hW) hv1.2).1 hv1.2 hbd;have HC:=Lib.hid hcons;have hi63:(i:Int)<(nk:Int):=by omega
     clear hc q hnu hkd hwt hcons hkd2 hblk hbd hv1 hne;go_wp2_with fail;refine calls_named λW2 hW2=>?_;have hb2:Below wr.heap.size wr W2:=by rw[hW2];exact (Below.refl _ _).alloc (Nat.le_refl _) _
     have HB2:=Lib.hid hb2;clear hW2 hb2 q0 q1 q2 q3 q4 lg;refine (HI.out W2 HB2.out).mono ?_;rintro e w3 ⟨rfl,fp3,hk3,kf3⟩;have H4:=Lib.hid (And.intro hk3 ((HK.out.2.trans (KeepF.of_below (fp:=fpi) HB2.out)).trans kf3));have HE2:=Lib.hid (show (li++parT p (txtN kd))++txtS (kids.drop (i+1))=l++txtS kids by rw[<-HE.out,HC.out,List.append_assoc])
     clear hk3 kf3;go_wp2_with fail;go_roundw
     case rel=>exact ⟨i+1,_,fp3,by omega,by go_num,HE2,H4.out⟩
     case measure=>simp[intOf];omega
    .obtain rfl:i=nk:=by omega
     have hd:decide ((i:Int)<(i:Int))=false:=decide_eq_false (by omega)
     have hdn:decide (i<i)=false:=decide_eq_false (by omega)
     go_wp2_with fail
     go_end0
     have h1:=HE.out;rw[List.drop_of_length_le (by rw[HN.out.2.1];exact Nat.le_refl _),txtS,List.append_nil]at h1
     exact ⟨rfl,fpi,by rw[HT.out,<-h1];exact HK.out.1,HK.out.2⟩
  .rw[if_neg (by decide),if_neg (by decide),if_pos rfl]at HT
   clear hR hle
   go_enter Tryz.func127,Tryz.ntmps127
   go_wp2_with fail;refine wpX_nm λW0 hW0=>?_;have hb0:Below w.heap.size w W0:=by rw[hW0];exact (Below.refl _ _).alloc (Nat.le_refl _) _
   have H0:=Lib.hid (And.intro (HB.out.1.below hb0) (KeepF.of_below (fp:=fp) hb0));clear hW0 hb0
   go_loopw [68] (λiv wr=>∃(i:Nat) (li:List UInt8) (fpi:List Nat),i<=nk/\iv = .int .i64 (i:Int)/\Hid (li++restC kids i=l++txtC kids)/\Hid (BuK b li fpi wr/\KeepF fp fpi w wr)) (λiv _=>nk - (intOf iv).toNat)
   case atStart=>exact ⟨0,l,fp,Nat.zero_le _,rfl,rfl,H0.out⟩
   case round=>
    obtain ⟨i,li,fpi,hi,rfl,HE,HK⟩:=hrel;by_cases hlt:i<nk
    .have hd:decide ((i:Int)<(nk:Int))=true:=decide_eq_true (by omega)
     have hdn:decide (i<nk)=true:=decide_eq_true hlt;have hil:i<kids.length:=by rw[HN.out.2.1];exact hlt
     have hne:kids≠[]:=by rintro rfl;cases hil
     obtain ⟨g,f,rfl,hgn,hg,hkd⟩:=HN.out.2.2.2 hne;obtain ⟨us,hc,hul,hnu⟩:=hkd i hil;have hwt:=HN.out.2.2.1 _ (List.getElem_mem hil);have hcons:=restC_cons hil;obtain ⟨kd,hkd2⟩:∃kd,kids[i]=kd:=⟨_,rfl⟩;rw[hkd2]at hnu hwt hcons;obtain ⟨B1,e1,B2,e2,rfl,-⟩:=(hnu w (kf_self _ _)).form;have hblk:wr.heap[g]?=w.heap[g]?:=HK.out.2.blk g hg hgn;have q:∀j,j<5->wr.cell? ⟨g,f+i*5+j,none⟩=([.int .i64 kd.op, .slice B1 kd.rs.length e1, .slice B2 kd.kids.length e2, .int .i64 kd.mn, .int .i64 kd.mx]:List Value)[j]?:=λj hj=>(World.cell?_of_block (a:=⟨g,f+i*5+j,none⟩) hblk).trans (hc j hj);have q0:=q 0 (by omega);have q1:=q 1 (by omega);have q2:=q 2 (by omega);have q3:=q 3 (by omega);have q4:=q 4 (by omega)
     simp only[Nat.add_zero,List.getElem?_cons_zero,List.getElem?_cons_succ]at q0 q1 q2 q3 q4;have lg:g<wr.heap.size:=Nat.lt_of_lt_of_le hg HK.out.2.size;have hv1:=vr_keep HB.out.2.1 HK.out.2 HB.out.2.2;have hbd:li.length+(1+(txtN kd).length)<=800000001:=by
      have h1:=congrArg List.length HE.out;have h2:=HL.out;rw[HT.out]at h2;rw[hcons,List.length_append,List.length_append,List.length_append,List.length_append]at h1;omega
     have hbd0:li.length+(barT i).length+(txtN kd).length<=800000000:=by
      have h1:=congrArg List.length HE.out;have h2:=HL.out;rw[HT.out]at h2;rw[hcons,List.length_append,List.length_append,List.length_append,List.length_append]at h1;omega
     have HI:=Lib.hid λ(li2:List UInt8) (fp2:List Nat) W (hW:KeepF fpi fp2 wr W) (hk:BuK b li2 fp2 W) (hl2:li2.length+(txtN kd).length<=800000000)=>hwt _ b li2 fp2 W hk ((hnu.of HK.out.2).of hW) (vr_keep hv1.1 hW hv1.2).1 (vr_keep hv1.1 hW hv1.2).2 hl2;have HC:=Lib.hid (And.intro hcons (And.intro hbd hbd0));have hi63:(i:Int)<(nk:Int):=by omega
     clear hc q hnu hkd hwt hcons hkd2 hblk hbd hbd0 hv1 hne
     go_upto_region 19 with fail
     refine wpX_nm λW2 hW2=>?_;have hb2:Below wr.heap.size wr W2:=by rw[hW2];exact (Below.refl _ _).alloc (Nat.le_refl _) _
     have hX2:W2.heap[wr.heap.size]?=some (.cells #[.int .i64 kd.op, .slice B1 kd.rs.length e1, .slice B2 kd.kids.length e2, .int .i64 kd.mn, .int .i64 kd.mx] 31 (0,0)):=by rw[hW2];exact heap_alloc_new wr _
     have hnx:wr.heap.size∉fpi:=λhm=>by have:=HK.out.1.lt _ hm;omega
     have HB2:=Lib.hid (And.intro (HK.out.1.below hb2) (And.intro (KeepF.of_below (fp:=fpi) hb2) (And.intro hX2 hnx)));have lx:wr.heap.size<W2.heap.size:=(Array.getElem?_eq_some_iff.1 hX2).1;clear hW2 hb2 hX2 hnx q0 q1 q2 q3 q4 lg;by_cases h0:i=0
     .have hz:decide ((0:Int)<(i:Int))=false:=decide_eq_false (by omega)
      have hzn:decide (0<i)=false:=decide_eq_false (by omega)
      have H3:=Lib.hid (HI.out li fpi W2 HB2.out.2.1 HB2.out.1 (by have:=HC.out.2.2;omega))
      have HE2:=Lib.hid (show (li++txtN kd)++restC kids (i+1)=l++txtC kids by rw[<-HE.out,HC.out.1,h0];simp[barT])
      obtain ⟨x0,x1,x2,x3,x4⟩:=cells5 HB2.out.2.2.1;clear h0;go_wp2_with fail;refine H3.out.mono ?_;rintro e w3 ⟨rfl,fp3,hk3,kf3⟩;have H4:=Lib.hid (And.intro hk3 ((HK.out.2.trans HB2.out.2.1).trans kf3));clear hk3 kf3 x0 x1 x2 x3 x4 lx;go_wp2_with fail;go_roundw
      case rel=>exact ⟨i+1,_,fp3,by omega,by go_num,HE2,H4.out⟩
      case measure=>simp[intOf];omega
     .have hz:decide ((0:Int)<(i:Int))=true:=decide_eq_true (by omega)
      have hzn:decide (0<i)=true:=decide_eq_true (by omega)
      have HE2:=Lib.hid (show (li++[124]++txtN kd)++restC kids (i+1)=l++txtC kids by rw[<-HE.out,HC.out.1];simp[barT,h0])
      have H2:=Lib.hid (byte_K b li fpi 124 124 rfl W2 HB2.out.1 (by have:=HC.out.2.1;omega))
      have HB0:=Lib.hid h0;clear h0;go_wp2_with fail;refine H2.out.mono ?_;rintro e w2 ⟨rfl,fp2,hk2,kf2⟩;obtain ⟨n2,e2'⟩:=bufKeep hk2 kf2 HB2.out.2.2.2 lx;have hX3:=e2'.trans HB2.out.2.2.1;obtain ⟨x0,x1,x2,x3,x4⟩:=cells5 hX3;have lx2:wr.heap.size<w2.heap.size:=(Array.getElem?_eq_some_iff.1 hX3).1;have kf02:=HB2.out.2.1.trans kf2;have hbar:(barT i).length=1:=by simp[barT,HB0.out]
      have hbd9:(li++[124]).length+(txtN kd).length<=800000000:=by rw[List.length_append,List.length_singleton];have:=HC.out.2.2;omega
      have H3:=Lib.hid (HI.out (li++[124]) fp2 w2 kf02 hk2 hbd9);have HK2:=Lib.hid (HK.out.2.trans kf02);clear hk2 kf2 n2 e2' hX3 kf02 lx hbar hbd9;go_wp2_with fail;refine H3.out.mono ?_;rintro e w3 ⟨rfl,fp3,hk3,kf3⟩;have H4:=Lib.hid (And.intro hk3 (HK2.out.trans kf3));clear hk3 kf3 x0 x1 x2 x3 x4 lx2;go_wp2_with fail;go_roundw
      case rel=>exact ⟨i+1,_,fp3,by omega,by go_num,HE2,H4.out⟩
      case measure=>simp[intOf];omega
    .obtain rfl:i=nk:=by omega
     have hd:decide ((i:Int)<(i:Int))=false:=decide_eq_false (by omega)
     have hdn:decide (i<i)=false:=decide_eq_false (by omega)
     go_wp2_with fail
     go_end0
     have h1:=HE.out;rw[restC_end (by rw[HN.out.2.1];exact Nat.le_refl _),List.append_nil]at h1
     exact ⟨rfl,fpi,by rw[HT.out,<-h1];exact HK.out.1,HK.out.2⟩
  .rw[if_neg (by decide),if_neg (by decide),if_neg (by decide)]at HT
   have hle:=hle rfl;obtain ⟨kd,hkd⟩:∃kd,kids=[kd]:=by
    match kids,hk1 with
    | [kd],_=>exact ⟨kd,rfl⟩
   have hnk1:nk=1:=by rw[<-HN.out.2.1];exact hk1
   subst hnk1;obtain ⟨g,f,rfl,hgn,hg,hkds⟩:=HN.out.2.2.2 (by rw[hkd];simp)
   obtain ⟨us,hc,hul,hnu⟩:=hkds 0 (by rw[hkd];simp)
   have hwt:=HN.out.2.2.1 kd (by rw[hkd];simp)
   have hk0:kids[0]'(by rw[hkd];simp)=kd:=by simp only[hkd,List.getElem_cons_zero]
   rw[hk0]at hnu;obtain ⟨B1,e1,B2,e2,rfl,-⟩:=(hnu w (kf_self _ _)).form;obtain ⟨p,hp⟩:∃p,(kd.op != 1)=p:=⟨_,rfl⟩;have htH:txtH kids=parT p (txtN kd):=by
    rw[hkd,txtH];unfold parT;by_cases h1:kd.op=1
    .rw[if_pos h1,if_neg (by rw[<-hp];simp[h1])]
    .rw[if_neg h1,if_pos (by rw[<-hp];simp[h1])]
   obtain ⟨M,hM⟩:∃M:Nat,mx=(M:Int):=⟨mx.toNat,by omega⟩
   subst hM;obtain ⟨L,hL⟩:∃L:Nat,mn=(L:Int):=⟨mn.toNat,by omega⟩
   subst hL;have hM64:M<=64:=by omega
   have hL64:L<=64:=by omega
   have HTT:=Lib.hid (show txtN (.mk 4 rs kids (L:Int) (M:Int))=parT p (txtN kd)++repT (L:Int) (M:Int) by rw[HT.out,htH])
   have hbd:l.length+(parT p (txtN kd)).length+20<=800000020:=by
    have h2:=HL.out;rw[HTT.out,List.length_append]at h2;omega
   have HI:=Lib.hid λW (hW:KeepF fp fp w W) (hk:BuK b l fp W)=>kid_of hwt p _ b l fp W hk (hnu.of hW) (vr_keep HB.out.2.1 hW HB.out.2.2).1 HB.out.2.2 (by omega)
   have hq:∀j,j<5->w.cell? ⟨g,f+j,none⟩=([.int .i64 kd.op, .slice B1 kd.rs.length e1, .slice B2 kd.kids.length e2, .int .i64 kd.mn, .int .i64 kd.mx]:List Value)[j]?:=λj hj=>by have:=hc j hj;rwa [Nat.zero_mul,Nat.add_zero]at this
   have HQ:=Lib.hid (And.intro hq (And.intro hg hgn));clear hq hc hnu hwt hkds hk0 htH hR hbd hkd hk1 hm0 hm1 hm2 hg
   go_enter Tryz.func127,Tryz.ntmps127
   go_upto_region 2 with fail
   refine wpX_nm λW0 hW0=>?_;have hb0:Below w.heap.size w W0:=by rw[hW0];exact (Below.refl _ _).alloc (Nat.le_refl _) _
   have hX0:W0.heap[w.heap.size]?=some (.cells #[.int .i64 4, .slice A1 nr c1, .slice (some ⟨g,f,none⟩) 1 c2, .int .i64 (L:Int), .int .i64 (M:Int)] 31 (0,0)):=by rw[hW0];exact heap_alloc_new w _
   have hnx:w.heap.size∉fp:=λhm=>by have:=HB.out.1.lt _ hm;omega
   have H0:=Lib.hid (And.intro hb0 (And.intro hX0 hnx));obtain ⟨b0,b1,b2,b3,b4⟩:=cells5 hX0;have lb:w.heap.size<W0.heap.size:=(Array.getElem?_eq_some_iff.1 hX0).1;have q0:=(hb0.cell (p:=⟨g,f+0,none⟩) HQ.out.2.1).trans (HQ.out.1 0 (by omega))
   have q1:=(hb0.cell (p:=⟨g,f+1,none⟩) HQ.out.2.1).trans (HQ.out.1 1 (by omega))
   have q2:=(hb0.cell (p:=⟨g,f+2,none⟩) HQ.out.2.1).trans (HQ.out.1 2 (by omega))
   have q3:=(hb0.cell (p:=⟨g,f+3,none⟩) HQ.out.2.1).trans (HQ.out.1 3 (by omega))
   have q4:=(hb0.cell (p:=⟨g,f+4,none⟩) HQ.out.2.1).trans (HQ.out.1 4 (by omega))
   simp only[Nat.add_zero,List.getElem?_cons_zero,List.getElem?_cons_succ]at q0 q1 q2 q3 q4;have lg:g<W0.heap.size:=Nat.lt_of_lt_of_le HQ.out.2.1 hb0.size;have hz0:W0.cell? ⟨w.heap.size,2,none⟩=some (.slice (some ⟨g,f,none⟩) 1 c2)/\W0.cell? ⟨g,f,none⟩=some (.int .i64 kd.op)/\W0.cell? ⟨g,f+1,none⟩=some (.slice B1 kd.rs.length e1)/\W0.cell? ⟨g,f+2,none⟩=some (.slice B2 kd.kids.length e2)/\W0.cell? ⟨g,f+3,none⟩=some (.int .i64 kd.mn)/\W0.cell? ⟨g,f+4,none⟩=some (.int .i64 kd.mx):=⟨b2,q0,q1,q2,q3,q4⟩;have hzd:W0.drew.cell? ⟨w.heap.size,2,none⟩=some (.slice (some ⟨g,f,none⟩) 1 c2)/\W0.drew.cell? ⟨g,f,none⟩=some (.int .i64 kd.op)/\W0.drew.cell? ⟨g,f+1,none⟩=some (.slice B1 kd.rs.length e1)/\W0.drew.cell? ⟨g,f+2,none⟩=some (.slice B2 kd.kids.length e2)/\W0.drew.cell? ⟨g,f+3,none⟩=some (.int .i64 kd.mn)/\W0.drew.cell? ⟨g,f+4,none⟩=some (.int .i64 kd.mx):=hz0;have hkd0:=HI.out W0.drew (KeepF.of_below (fp:=fp) (hb0.drew)) (HB.out.1.below hb0.drew);have HKD:=Lib.hid hkd0;clear hW0 hb0 hX0 hnx hkd0
   go_region_held3 (λw'=>w'.cell? ⟨w.heap.size,2,none⟩=some (.slice (some ⟨g,f,none⟩) 1 c2)/\w'.cell? ⟨g,f,none⟩=some (.int .i64 kd.op)/\w'.cell? ⟨g,f+1,none⟩=some (.slice B1 kd.rs.length e1)/\w'.cell? ⟨g,f+2,none⟩=some (.slice B2 kd.kids.length e2)/\w'.cell? ⟨g,f+3,none⟩=some (.int .i64 kd.mn)/\w'.cell? ⟨g,f+4,none⟩=some (.int .i64 kd.mx))
    (first | exact hz0 | exact hzd | exact hz3)
    ((go_at_call 162;refine HKD.out.mono ?_;rintro e w3 ⟨rfl,fp3,hk3,kf3⟩;obtain ⟨n3,e3⟩:=bufKeep hk3 kf3 H0.out.2.2 lb;have eg:=kf3.blk g lg HQ.out.2.2;have hz3:w3.cell? ⟨w.heap.size,2,none⟩=some (.slice (some ⟨g,f,none⟩) 1 c2)/\w3.cell? ⟨g,f,none⟩=some (.int .i64 kd.op)/\w3.cell? ⟨g,f+1,none⟩=some (.slice B1 kd.rs.length e1)/\w3.cell? ⟨g,f+2,none⟩=some (.slice B2 kd.kids.length e2)/\w3.cell? ⟨g,f+3,none⟩=some (.int .i64 kd.mn)/\w3.cell? ⟨g,f+4,none⟩=some (.int .i64 kd.mx):=⟨(World.cell?_of_block (a:=⟨w.heap.size,2,none⟩) e3).trans b2,(World.cell?_of_block (a:=⟨g,f,none⟩) eg).trans q0,(World.cell?_of_block (a:=⟨g,f+1,none⟩) eg).trans q1,(World.cell?_of_block (a:=⟨g,f+2,none⟩) eg).trans q2,(World.cell?_of_block (a:=⟨g,f+3,none⟩) eg).trans q3,(World.cell?_of_block (a:=⟨g,f+4,none⟩) eg).trans q4⟩))
   have kf03:KeepF fp fp3 w w3:=(KeepF.of_below (fp:=fp) H0.out.1.drew).trans kf3;have hX3:w3.heap[w.heap.size]?=some (.cells #[.int .i64 4, .slice A1 nr c1, .slice (some ⟨g,f,none⟩) 1 c2, .int .i64 (L:Int), .int .i64 (M:Int)] 31 (0,0)):=e3.trans H0.out.2.1;have hv3:=vr_keep HB.out.2.1 kf03 HB.out.2.2;have hdL:=dec_len L 6 (by omega)
   have hdM:=dec_len M 6 (by omega)
   obtain ⟨D1,hD1⟩:∃D,bs (Lib.decDigits L)=D:=⟨_,rfl⟩;obtain ⟨D2,hD2⟩:∃D,bs (Lib.decDigits M)=D:=⟨_,rfl⟩;have hs1:D1.size<=7:=by rw[<-hD1,bs_size];exact hdL
   have hs2:D2.size<=7:=by rw[<-hD2,bs_size];exact hdM
   have hIT1:=itoa_any L (by omega) w3 hv3.1
   rw[hD1]at hIT1;have HI1:=Lib.hid hIT1;have hll:l.length+(parT p (txtN kd)).length<=800000000:=by
    have h2:=HL.out;rw[HTT.out,List.length_append]at h2;omega
   have H3:=Lib.hid (And.intro hk3 (And.intro kf03 (And.intro hX3 (And.intro hv3.1 (And.intro hv3.2 n3)))));have HDD:=Lib.hid (And.intro hD1 (And.intro hD2 hll));obtain ⟨x0,x1,x2,x3,x4⟩:=cells5 hX3;have lx:w.heap.size<w3.heap.size:=(Array.getElem?_eq_some_iff.1 hX3).1;have hbg1:¬9223372036854775807<(⟨#[123]⟩:ByteArray).size+D1.size:=by show ¬_<1+_;omega
   have hbg1':¬9223372036854775807<1+D1.size:=hbg1;have hbg2:¬9223372036854775807<(⟨#[44]⟩:ByteArray).size+D2.size:=by show ¬_<1+_;omega
   have hbg2':¬9223372036854775807<1+D2.size:=hbg2;clear hk3 kf3 e3 eg hz3 hz0 hzd b0 b1 b2 b3 b4 q0 q1 q2 q3 q4 lb lg kf03 hX3 hv3 hdL hdM hD1 hD2 hIT1 hll n3;go_wp2_with fail;refine HI1.out.mono ?_;rintro e w4 ⟨rfl,hb4⟩;have kf4:KeepF fp3 fp3 w3 w4:=KeepF.of_below hb4;have hX4:=(hb4.block _ lx).trans H3.out.2.2.1;have H4:=Lib.hid (str_K b (l++parT p (txtN kd)) fp3 ((⟨#[123]⟩:ByteArray)++D1) w4 (H3.out.1.below hb4) (by rw[List.length_append];have:=HDD.out.2.2;omega) (by rw[ByteArray.size_append];show 1+_<=_;omega))
   have HX4:=Lib.hid (And.intro hX4 (H3.out.2.1.trans kf4));have lx4:w.heap.size<w4.heap.size:=(Array.getElem?_eq_some_iff.1 hX4).1;clear hb4 kf4 hX4 x0 x1 x2 x3 x4 lx;go_wp2_with fail;refine H4.out.mono ?_;rintro e w5 ⟨rfl,fp5,hk5,kf5⟩;obtain ⟨n5,e5⟩:=bufKeep hk5 kf5 H3.out.2.2.2.2.2 lx4;have hX5:=e5.trans HX4.out.1;obtain ⟨x0,x1,x2,x3,x4⟩:=cells5 hX5;have lx5:w.heap.size<w5.heap.size:=(Array.getElem?_eq_some_iff.1 hX5).1;have kf05:=HX4.out.2.trans kf5;have hv5:=vr_keep HB.out.2.1 kf05 HB.out.2.2;have hIT2:=itoa_any M (by omega) w5 hv5.1
   rw[HDD.out.2.1]at hIT2;have HI2:=Lib.hid hIT2;have H5:=Lib.hid (And.intro hk5 kf05);have hlen5:(l++parT p (txtN kd)++bl ((⟨#[123]⟩:ByteArray)++D1)).length<=800000100:=by
    rw[List.length_append,List.length_append,size_list,ByteArray.size_append];have:=HDD.out.2.2;show _+(1+_)<=_;omega
   have HL5:=Lib.hid hlen5;clear hk5 kf5 n5 e5 hX5 kf05 hv5 hIT2 lx4 hlen5;have hrep:∀(X:List UInt8),bl ((⟨#[123]⟩:ByteArray)++D1)=123::Lib.decDigits L:=λ_=>by
    rw[show ∀s t:ByteArray,bl (s++t)=bl s++bl t from λs t=>by unfold bl;simp,<-HDD.out.1,bl_bs]
    rfl
   have HR1:=Lib.hid (hrep []);clear hrep;by_cases hML:M=L
   .have hne:((M:Int) != (L:Int))=false:=by simp[hML]
    have H6:=Lib.hid (byte_K b _ fp5 125 125 rfl w5 H5.out.1 (by have:=HL5.out;omega))
    have HE:=Lib.hid (show l++parT p (txtN kd)++bl ((⟨#[123]⟩:ByteArray)++D1)++[125]=l++txtN (.mk 4 rs kids (L:Int) (M:Int)) by
     rw[HTT.out,HR1.out];unfold repT;rw[if_pos (by omega)]
     simp)
    clear hML;go_wp2_with fail;refine H6.out.mono ?_;rintro e w6 ⟨rfl,fp6,hk6,kf6⟩;have H7:=Lib.hid (And.intro hk6 (H5.out.2.trans kf6));clear hk6 kf6;go_wp2_with fail
    go_end0
    exact ⟨rfl,fp6,by rw[<-HE.out];exact H7.out.1,H7.out.2⟩
   .have hne:((M:Int) != (L:Int))=true:=by simp;omega
    have HML:=Lib.hid hML;clear hML;go_wp2_with fail;refine HI2.out.mono ?_;rintro e w6 ⟨rfl,hb6⟩;have H6:=Lib.hid (str_K b _ fp5 ((⟨#[44]⟩:ByteArray)++D2) w6 (H5.out.1.below hb6) (by have:=HL5.out;omega) (by rw[ByteArray.size_append];show 1+_<=_;omega))
    have HK6:=Lib.hid (H5.out.2.trans (KeepF.of_below (fp:=fp5) hb6));clear hb6 x0 x1 x2 x3 x4 lx5;go_wp2_with fail;refine H6.out.mono ?_;rintro e w7 ⟨rfl,fp7,hk7,kf7⟩;have HK7:=Lib.hid (HK6.out.trans kf7);have hlen7:(l++parT p (txtN kd)++bl ((⟨#[123]⟩:ByteArray)++D1)++bl ((⟨#[44]⟩:ByteArray)++D2)).length<=900000000:=by
     rw[List.length_append,size_list,ByteArray.size_append];have:=HL5.out;show _+(1+_)<=_;omega
    have H8:=Lib.hid (byte_K b _ fp7 125 125 rfl w7 hk7 (by omega))
    clear hk7 kf7 hlen7;have HE:=Lib.hid (show l++parT p (txtN kd)++bl ((⟨#[123]⟩:ByteArray)++D1)++bl ((⟨#[44]⟩:ByteArray)++D2)++[125]=l++txtN (.mk 4 rs kids (L:Int) (M:Int)) by
     rw[HTT.out,HR1.out,show ∀s t:ByteArray,bl (s++t)=bl s++bl t from λs t=>by unfold bl;simp,<-HDD.out.2.1,bl_bs]
     unfold repT;have:=HML.out;rw[if_neg (by omega)]
     simp
     rfl)
    go_wp2_with fail;refine H8.out.mono ?_;rintro e w8 ⟨rfl,fp8,hk8,kf8⟩;have H9:=Lib.hid (And.intro hk8 (HK7.out.trans kf8));clear hk8 kf8;go_wp2_with fail
    go_end0
    exact ⟨rfl,fp8,by rw[<-HE.out];exact H9.out.1,H9.out.2⟩
set_option maxHeartbeats 4000000 in
theorem text_nd {ok:Nat->Prop} (HSG:SgnH ok) (nd:Nd) (vs:List Value) (w:World) (hn:NdIn w nd vs) (hvd:validF nd=0) (hok:okN ok nd) (hl:(txtN nd).length<=800000000) (hvr:VrOK w):Calls Tryz.prog 97 #[.agg vs.toArray] w λe w'=>e = .returned (.tuple #[.string (bs (txtN nd)), .int .i64 0])/\Below w.heap.size w w':=by
 have HV:=Lib.hid (λW (hb:Below w.heap.size w W)=>valid_any nd vs W (hn.later hb));rw[hvd]at HV;have HN:=Lib.hid (And.intro hn (And.intro (valid_zero hvd).2.2.1 (And.intro hok (And.intro hl hvr))));obtain ⟨A1,c1,A2,c2,rfl,-⟩:=hn.form;clear hn hvd hok hl hvr
 go_enter Tryz.func97,Tryz.ntmps97
 go_wp2_with fail;refine calls_named λW0 hW0=>?_;have hb0:Below w.heap.size w W0:=by rw[hW0];exact (Below.refl _ _).alloc (Nat.le_refl _) _
 have hN:W0.heap[w.heap.size]?=some (.cells #[.int .i64 nd.op, .slice A1 nd.rs.length c1, .slice A2 nd.kids.length c2, .int .i64 nd.mn, .int .i64 nd.mx] 31 (0,0)):=by rw[hW0];exact heap_alloc_new w _
 have lb0:w.heap.size<W0.heap.size:=(Array.getElem?_eq_some_iff.1 hN).1;refine (HV.out W0 hb0).mono ?_;rintro e w1 ⟨rfl,hb1⟩;have hN1:=(hb1.block w.heap.size lb0).trans hN;obtain ⟨b0,b1,b2,b3,b4⟩:=cells5 hN1;have lb1:w.heap.size<w1.heap.size:=(Array.getElem?_eq_some_iff.1 hN1).1;have lb2:w.heap.size<w1.heap.size+1:=by omega
 have hnb:w.heap.size≠w1.heap.size:=by omega
 have H1:=Lib.hid (And.intro (hb0.trans (hb1.mono hb0.size)) hN1);clear hW0 hb0 hN hb1 hN1 lb0;go_wp2_with fail;refine calls_named λW2 hW2=>?_;have hb2:Below w1.heap.size w1 W2:=by rw[hW2];exact (Below.refl _ _).alloc (Nat.le_refl _) _
 have hB2:W2.heap[w1.heap.size]?=some (.cells #[.pointer none, .slice none 0 0] 105 (0,0)):=by rw[hW2];exact heap_alloc_new w1 _
 have hw2:Below w.heap.size w W2:=H1.out.1.trans (hb2.mono H1.out.1.size);have hul:NdUL [w1.heap.size] W2 [.int .i64 nd.op, .slice A1 nd.rs.length c1, .slice A2 nd.kids.length c2, .int .i64 nd.mn, .int .i64 nd.mx] nd:=λW hW=>HN.out.1.later (hw2.trans (hW.below (λk hk=>by have:=List.mem_singleton.1 hk;omega) hw2.size))
 have hvr2:=HN.out.2.2.2.2.later hw2;have H2:=Lib.hid (wt_any HSG _ nd (Nat.le_refl _) HN.out.2.1 HN.out.2.2.1 _ w1.heap.size [] [w1.heap.size] W2 (BuK.fresh hB2) hul hvr2 (λk hk=>by have h1:=List.mem_singleton.1 hk;have h2:=HN.out.2.2.2.2.low;omega) (by have:=HN.out.2.2.2.1;simpa using this))
 have HW2:=Lib.hid hw2;clear hW2 hb2 hB2 hw2 hul hvr2 b0 b1 b2 b3 b4 lb2 hnb;refine H2.out.mono ?_;rintro e w3 ⟨rfl,fp3,hk3,kf3⟩;have hw2s:=HW2.out.size;have HS:=Lib.hid (string_K w.heap.size _ _ fp3 w3 hk3 (λk hk=>by
  rcases kf3.new k hk with h | h
  .have:=List.mem_singleton.1 h;omega
  .omega) (Nat.le_trans hw2s kf3.size))
 have hbw3:Below w.heap.size w w3:=HW2.out.trans (kf3.below (λk hk=>by have:=List.mem_singleton.1 hk;omega) HW2.out.size)
 have HB3:=Lib.hid hbw3;clear hk3 kf3 hbw3;go_wp2_with fail;refine HS.out.mono ?_;rintro e w4 ⟨rfl,hb4⟩;have HB4:=Lib.hid (HB3.out.trans hb4);clear hb4;go_wp2_with fail;refine post_named λWf hWf=>?_;subst hWf;refine bodyPost_ret (v:=.tuple #[.string (bs ([]++txtN nd)), .int .i64 0]) (by simp[results,Tryz.results97,go_sem];try rfl) rfl ?_
 exact ⟨rfl,HB4.out⟩
def RdN (w:World) (e:Ending) (w':World):Prop:=∃x,e = .returned (.tuple #[x, .int .i64 0])/\ItN w.heap.size x tokN w'/\Below w.heap.size w w'
def tkOk (c:Nat):Prop:=c=116\/c=107\/c=48\/c=57
theorem tk_sgn:SgnH tkOk:=by
 rintro c W (rfl | rfl | rfl | rfl) _
 .exact sign_at 116 ⟨#[116]⟩ W (by decide) (by decide) (by rfl) (λ_=>by kernel_rfl)
 .exact sign_at 107 ⟨#[107]⟩ W (by decide) (by decide) (by rfl) (λ_=>by kernel_rfl)
 .exact sign_at 48 ⟨#[48]⟩ W (by decide) (by decide) (by rfl) (λ_=>by kernel_rfl)
 .exact sign_at 57 ⟨#[57]⟩ W (by decide) (by decide) (by rfl) (λ_=>by kernel_rfl)
theorem tk_txt:bs (txtN tokN)=⟨#[116,107,91,48,45,57,93,123,50,125]⟩:=by kernel_rfl
theorem tk_len:(txtN tokN).length=10:=by kernel_rfl
theorem tk_ok:okN tkOk tokN:=by simp[tokN,chN,dgN,okN,okNs,tkOk]
theorem text_tk (B:Nat) (x:Value) (w:World) (h:ItN B x tokN w) (hvr:VrOK w):Calls Tryz.prog 97 #[x] w λe w'=>e = .returned (.tuple #[.string ⟨#[116,107,91,48,45,57,93,123,50,125]⟩, .int .i64 0])/\Below w.heap.size w w':=by
 obtain ⟨u,rfl,hu⟩:=h;have:=text_nd tk_sgn tokN u.cs w hu.in_ (by decide) tk_ok (by rw[tk_len];decide) hvr
 rw[tk_txt]at this;exact this
set_option maxHeartbeats 4000000 in
theorem read_tk (w:World) (hvr:VrOK w):Calls Tryz.prog 71 #[.string ⟨#[116,107,91,48,45,57,93,123,50,125]⟩] w (RdN w):=by
 have HVR:=Lib.hid hvr;clear hvr
 go_enter Tryz.func71,Tryz.ntmps71
 go_wp2_with fail;refine calls_named λW0 hW0=>?_;have hb0:Below w.heap.size w W0:=by rw[hW0];exact ((Below.refl _ _).alloc (Nat.le_refl _) _).alloc (by simp) _
 have hY:W0.heap[w.heap.size]?=some (.cells #[.int .i64 0, .slice none 0 0, .slice none 0 0, .int .i64 0, .int .i64 0] 31 (0,0)):=by rw[hW0,old_alloc _ _ _ (by simp)];exact heap_alloc_new w _
 have hR:RdW (w.heap.size+1) ⟨#[116,107,91,48,45,57,93,123,50,125]⟩ false 0 W0:=by rw[hW0];simpa [RdW] using heap_alloc_new (w.alloc (.cells #[.int .i64 0, .slice none 0 0, .slice none 0 0, .int .i64 0, .int .i64 0] 31)) (.cells #[.string ⟨#[116,107,91,48,45,57,93,123,50,125]⟩, .bool false, .int .i64 0] 134)
 have hz0:W0.heap.size=w.heap.size+2:=by rw[hW0];simp
 have H1:=Lib.hid (choice_tk (w.heap.size+1) W0 hR);have H0:=Lib.hid (And.intro hb0 hY);clear hW0 hb0 hY hR;refine H1.out.mono ?_;rintro e w1 ⟨x,rfl,hit,hr1,hk1⟩;obtain ⟨p0,p1,p2,p3,p4,p5,p6,p7,p8,rfl⟩:=hit.form;have hz1:=hk1.size;have hbA:Below w1.heap.size w1 (w1.alloc (.cells #[.int .i64 p0, .slice p1 p2 p3, .slice p4 p5 p6, .int .i64 p7, .int .i64 p8] 31)):=(Below.refl _ _).alloc (Nat.le_refl _) _;have hbw1:Below w.heap.size w w1:=H0.out.1.trans (hk1.below (λk hk=>by rw[List.mem_singleton]at hk;omega) H0.out.1.size)
 have hbwA:=hbw1.trans (hbA.mono hbw1.size);have H2:=Lib.hid (text_tk _ _ _ (hit.keep (KeepF.of_below (fp:=[]) hbA) (λk hk=>by cases hk)) (HVR.out.later hbwA))
 have hYA:=(hbA.block w.heap.size (by omega)).trans ((hk1.blk w.heap.size (by omega) (by simp)).trans H0.out.2)
 have hNA:=heap_alloc_new w1 (.cells #[.int .i64 p0, .slice p1 p2 p3, .slice p4 p5 p6, .int .i64 p7, .int .i64 p8] 31);have hrA:=hr1.later hbA;have hitA:=hit.keep (KeepF.of_below (fp:=[]) hbA) (λk hk=>by cases hk)
 have HA:=Lib.hid (And.intro hbwA (And.intro hYA (And.intro hNA (And.intro hrA hitA))));clear hit hr1 hk1 hbA hbw1 hbwA hYA hNA hrA hitA;go_wp2_with fail;refine H2.out.mono ?_;rintro e w2 ⟨rfl,hb2⟩;have hsA:(w1.alloc (.cells #[.int .i64 p0, .slice p1 p2 p3, .slice p4 p5 p6, .int .i64 p7, .int .i64 p8] 31)).heap.size=w1.heap.size+1:=by simp
 have hz2:=hb2.size;rw[hsA]at hz2;have hY2:=(hb2.block w.heap.size (by rw[hsA];omega)).trans HA.out.2.1
 have hN2:=(hb2.block w1.heap.size (by rw[hsA];omega)).trans HA.out.2.2.1
 have hr2:=HA.out.2.2.2.1.later hb2;have hit2:=HA.out.2.2.2.2.keep (KeepF.of_below (fp:=[]) hb2) (λk hk=>by cases hk)
 have hbw2:=HA.out.1.trans (hb2.mono (by rw[hsA];omega))
 obtain ⟨⟨c0,c1,c2⟩,-,lr2⟩:=hr2.cells;obtain ⟨k0,k1,k2,k3,k4⟩:=cells5 hN2;obtain ⟨y0,y1,y2,y3,y4⟩:=cells5 hY2;have fy:∀j,j<5->w2.frozen? ⟨w.heap.size,j,none⟩=false:=λj _=>by simp[World.frozen?,hY2]
 have fy0:=fy 0 (by decide)
 have fy1:=fy 1 (by decide)
 have fy2:=fy 2 (by decide)
 have fy3:=fy 3 (by decide)
 have fy4:=fy 4 (by decide)
 have m1:w1.heap.size<w2.heap.size:=by omega
 have m3:w.heap.size<w2.heap.size:=by omega
 have H3:=Lib.hid (And.intro hit2 hbw2);clear hY2 hN2 hr2 hit2 hbw2 hb2 hsA fy;go_wp2_with fail;refine post_named λWf hWf=>?_;obtain ⟨u1,u2,u3,-⟩:=set5 hWf;refine bodyPost_ret (v:=.tuple #[.agg #[.int .i64 p0, .slice p1 p2 p3, .slice p4 p5 p6, .int .i64 p7, .int .i64 p8], .int .i64 0]) (by rw[hWf];simp[results,Tryz.results71,go_sem,y0,y1,y2,y3,y4,m3];try rfl) rfl ?_
 have hkf:KeepF [w.heap.size] [] w2 Wf:=⟨u3.1,u3.2.1,u3.2.2,by omega,λk _ hn=>u1 k (λe=>hn (by simp[e])),λk hk=>by cases hk⟩
 exact ⟨_,rfl,(H3.out.1.keep hkf (λk hk=>by simp at hk;omega)).mono (show w.heap.size<=W0.heap.size by omega),H3.out.2.trans (hkf.below (λk hk=>by simp at hk;omega) H3.out.2.size)⟩
set_option maxHeartbeats 4000000 in
theorem parse_tk (w:World) (hvr:VrOK w):Calls Tryz.prog 47 #[.string ⟨#[116,107,91,48,45,57,93,123,50,125]⟩] w (RdN w):=by
 have HVR:=Lib.hid hvr;clear hvr
 go_enter Tryz.func47,Tryz.ntmps47
 go_wp2_with fail;refine calls_named λW0 hW0=>?_;have hb0:Below w.heap.size w W0:=by rw[hW0];exact (Below.refl _ _).alloc (Nat.le_refl _) _
 have hY:W0.heap[w.heap.size]?=some (.cells #[.int .i64 0, .slice none 0 0, .slice none 0 0, .int .i64 0, .int .i64 0] 31 (0,0)):=by rw[hW0];exact heap_alloc_new w _
 have hz0:W0.heap.size=w.heap.size+1:=by rw[hW0];simp
 have H1:=Lib.hid (read_tk W0 (HVR.out.later hb0));have H0:=Lib.hid (And.intro hb0 hY);clear hW0 hb0 hY;refine H1.out.mono ?_;rintro e w2 ⟨x,rfl,hit,hb2⟩;obtain ⟨p0,p1,p2,p3,p4,p5,p6,p7,p8,rfl⟩:=hit.form;have hz2:=hb2.size;have hY2:=(hb2.block w.heap.size (by omega)).trans H0.out.2
 have hbw2:=H0.out.1.trans (hb2.mono (by omega))
 obtain ⟨y0,y1,y2,y3,y4⟩:=cells5 hY2;have fy:∀j,j<5->w2.frozen? ⟨w.heap.size,j,none⟩=false:=λj _=>by simp[World.frozen?,hY2]
 have fy0:=fy 0 (by decide)
 have fy1:=fy 1 (by decide)
 have fy2:=fy 2 (by decide)
 have fy3:=fy 3 (by decide)
 have fy4:=fy 4 (by decide)
 have m3:w.heap.size<w2.heap.size:=by omega
 have H3:=Lib.hid (And.intro hit hbw2);clear hY2 hit hbw2 hb2 fy;go_wp2_with fail;refine post_named λWf hWf=>?_;obtain ⟨u1,u2,u3,-⟩:=set5 hWf;refine bodyPost_ret (v:=.tuple #[.agg #[.int .i64 p0, .slice p1 p2 p3, .slice p4 p5 p6, .int .i64 p7, .int .i64 p8], .int .i64 0]) (by rw[hWf];simp[results,Tryz.results47,go_sem,y0,y1,y2,y3,y4,m3];try rfl) rfl ?_
 have hkf:KeepF [w.heap.size] [] w2 Wf:=⟨u3.1,u3.2.1,u3.2.2,by omega,λk _ hn=>u1 k (λe=>hn (by simp[e])),λk hk=>by cases hk⟩
 exact ⟨_,rfl,(H3.out.1.keep hkf (λk hk=>by simp at hk;omega)).mono (show w.heap.size<=W0.heap.size by omega),H3.out.2.trans (hkf.below (λk hk=>by simp at hk;omega) H3.out.2.size)⟩
end Go.Proofs.YtljgapfmgegifaaGreatDoor
