/- Walks: slices.Grow of nil, slices.Concat of two lists of ints, machine.sorted. -/
import Derived.Test.YtdmoogjddmdmbaaGreatDoorY08
import Derived.Test.YtdmoogjddmdmbaaGreatDoorY09
import Derived.Lib.AppendZerosOnto
import Derived.Lib.SliceRun
import Derived.Lib.OwnBridge
import Derived.LoopN
namespace Go.Proofs.YtdmoogjddmdmbaaGreatDoor
set_option linter.unusedVariables false
set_option linter.unusedSimpArgs false
set_option maxRecDepth 100000
open Go.RowKit Go.Sort
set_option maxHeartbeats 1000000 in
theorem grow_nil (n:Nat) (w:World) (h0:0<n) (hn:n<=15000000000000):Calls Tryz.prog 202 #[.slice none 0 0, .int .i64 (n:Int)] w λe w'=>
  ∃g c,e = .returned (.slice (some ⟨g,0,none⟩) 0 c)/\w'.ownsRow w.heap.size 3 1 (.slice (some ⟨g,0,none⟩) 0 c) 0 []/\Below w.heap.size w w':=by
 obtain ⟨i0,hi,hz0,hz1,hz2⟩:=info_parts info_int;have h1:¬((n:Int)<0):=by omega
 have h4:0<(n:Int):=by omega
 have hrz:∀ty,(Builtin.append_ #[22,3] ty #[.slice none 0 0, .int .i64 (n:Int)]).run Tryz.prog w =
   .ok (.slice (some ⟨w.heap.size,0,none⟩) n (grownCap w n 0 3)) (w.drew.alloc (.cells (Builtin.zeroCells (Value.int .i64 0).cells n++Builtin.zeroCells (Value.int .i64 0).cells (grownCap w n 0 3-n)) 3)):=λty=>by
  have h:=Lib.run_append_grow_zeros (P:=Tryz.prog) w 22 3 ty 3 i0 (.int .i64 0) .i64 .i64 Tryz.underlying22 Tryz.underlying3 hi hz0 none 0 0 [] (by rw[hz1];exact run_firstCells_none w.drew 1 0 0 0) n (by omega) (by rw[hz1];omega) (by omega) (by omega)
   (by rw[hz2];omega) (by rw[Nat.zero_add,hz2];exact growslice_fits (by omega) (by omega))
  simpa using h
 have hGn:n<=grownCap w n 0 3:=grownCap_ge w _ _ _;obtain ⟨G,hG⟩:∃G,G=grownCap w n 0 3:=⟨_,rfl⟩;rw[<-hG]at hrz hGn;have hGM:G<=maxLen:=by rw[hG];exact grownCap_le_maxLen w n 0 3 (by unfold maxLen;omega)
 have hG63:G<=9223372036854775807:=by unfold maxLen at hGM;omega
 have HM:=Lib.hid hGM;clear hG hGM hi hz0 hz1 hz2
 go_enter Tryz.func202,Tryz.ntmps202
 go_wp2_with (at_builtin;refine Lib.wpList_append_run _ rfl _ _ _ _ rfl _ _ rfl rfl _ _ (hrz _) ?_);go_ret;have hcs:(Builtin.zeroCells (Value.int .i64 0).cells n++Builtin.zeroCells (Value.int .i64 0).cells (G-n)).size=G:=by
  have e:(Value.int .i64 0).cells.size=1:=rfl;rw[Array.size_append,size_zeroCells,size_zeroCells,e];omega
 refine ⟨_,_,rfl,⟨by simp, .inr ⟨w.heap.size,G,_,rfl,Nat.le_refl _,heap_alloc_new w.drew _,Nat.zero_le _,HM.out,hcs.trans (Nat.mul_one G).symm,by simp⟩⟩,?_⟩
 exact (Below.refl w.heap.size w).drew.alloc (Nat.le_refl _) _
theorem ints_cells {w:World} {g f:Nat} {l:List Nat} (h:∀i (h:i<l.length),w.cell? ⟨g,f+i,none⟩=some (.int .i64 (l[i]:Int))):∀j u,(ints l)[j]?=some u->w.cell? ((⟨g,f,none⟩:Addr).add j)=some u:=by
 intro j u hj;rw[Addr.add_lit];simp only[ints,List.getElem?_map]at hj;by_cases hj2:j<l.length
 .rw[h j hj2];rw[List.getElem?_eq_getElem hj2]at hj;exact hj
 .rw[List.getElem?_eq_none (by omega)]at hj;cases hj
set_option maxHeartbeats 2000000 in
theorem concat_any (va vb:Value) (la lb:List Nat) (g c:Nat) (w:World) (ha:IL w va la) (hb:IL w vb lb) (hlb:lb≠[]) (hlen:la.length+lb.length<=10000000000000) (hg:g<w.heap.size)
  (hc:2<=c/\c<=9223372036854775807) (c0:w.cell? ⟨g,0,none⟩=some va) (c1:w.cell? ⟨g,1,none⟩=some vb) :
  Calls Tryz.prog 188 #[.slice (some ⟨g,0,none⟩) 2 c] w λe w'=>∃v,e = .returned v/\w'.ownsRow w.heap.size 3 1 v (la++lb).length (ints (la++lb))/\Below w.heap.size w w':=by
 obtain ⟨i0,hi,hz0,hz1,hz2⟩:=info_parts info_int;have hlb0:0<lb.length:=by cases lb with | nil=>exact absurd rfl hlb | cons a r=>simp
 have hA:=ha;have HB:=Lib.hid hb;obtain ⟨gb,fb,cb,rfl,-,hgb,hcb,hcellb⟩:=hb.resolve_left (λh=>hlb h.1);obtain ⟨A,ca,rfl,hca⟩:=ha.form;have hw1:IntKind.i64.wrap ((la.length:Int)+(lb.length:Int))=((la.length+lb.length:Nat):Int):=by rw[IntWalk.i64_in _ (by omega)];simp
 go_enter Tryz.func188,Tryz.ntmps188
 go_wp2_with fail;refine wp_loop_rounds 3 ?_;rw[rounds_succ];go_wp2_with fail;rw[rounds_succ];go_wp2_with fail;rw[rounds_succ];go_wp2_with fail;refine (grow_nil (la.length+lb.length) _ (by omega) (by omega)).mono ?_
 rintro e w1 ⟨gn,cn,rfl,hown,hbw⟩;have c0':=(hbw.cell (p:=⟨g,0,none⟩) hg).trans c0;have c1':=(hbw.cell (p:=⟨g,1,none⟩) hg).trans c1;have HA1:=Lib.hid (hA.later hbw);have hbsz:w.heap.size<=w1.heap.size:=hbw.size;have HBL:=Lib.hid hbw;have HOW:=Lib.hid hown;have hsz:=hbw.size;have hgb1:gb<w1.heap.size:=by omega
 have hcell1:∀i (h:i<lb.length),w1.cell? ⟨gb,fb+i,none⟩=some (.int .i64 (lb[i]:Int)):=λi h=>(hbw.cell (p:=⟨gb,fb+i,none⟩) hgb).trans (hcellb i h);have HC1:=Lib.hid hcell1;clear hown hbw hcell1 hcellb c0 c1 hw1;go_wp2_with fail;rcases hA with ⟨hla,hva⟩ | ⟨ga,fa,ca',hva,hla,hga,-,hcella⟩
 .injection hva with e1 e2 e3;subst hla e1 e3;refine wp_loop_rounds 3 ?_;rw[rounds_succ];go_wp2_with (at_builtin;refine wpList_append_own_none rfl _ _ 22 rfl w.heap.size 3 i0 1 Tryz.underlying22 hi _ 0 [] rfl HOW.out rfl ?_);rw[rounds_succ];go_wp2_with (at_builtin;refine wpList_append_own _ rfl _ _ 22 rfl w.heap.size 3 i0 (.int .i64 0) 1 8 Tryz.underlying22 hi hz0 hz1 hz2 rfl (by decide) _ _ _ rfl HOW.out ⟨gb,fb,none⟩ lb.length cb (ints lb) rfl (by rw[ints_len];omega) ?c1 (ints_one lb) (by unfold maxLen;omega) (by  omega) (by omega) ?_)
  case c1=>first | exact ints_cells HC1.out | (intro j u hj;have:=ints_cells HC1.out j u hj;rwa [Addr.add_lit]at this)
  intro v' w2 hown2 hgr2 _;have HO2:=Lib.hid hown2;have HB2:=Lib.hid (HBL.out.grown hgr2 hbsz (by intro k hk;simp[Value.ownBlock]at hk;subst hk;exact (HOW.out.lt gn rfl).1))
  clear hown2 hgr2;go_wp2_with fail;rw[rounds_succ];go_wp2_with fail;go_ret;refine ⟨_,rfl,?_,HB2.out⟩;have:=HO2.out;simpa using this
 .injection hva with e1 e2 e3;subst e1 e3;have hla0:0<la.length:=by cases la with | nil=>exact absurd rfl hla | cons a r=>simp
  have HCA1:=Lib.hid (λi (h:i<la.length)=>(HBL.out.cell (p:=⟨ga,fa+i,none⟩) hga).trans (hcella i h));clear hcella;refine wp_loop_rounds 3 ?_;rw[rounds_succ];go_wp2_with (at_builtin;refine wpList_append_own _ rfl _ _ 22 rfl w.heap.size 3 i0 (.int .i64 0) 1 8 Tryz.underlying22 hi hz0 hz1 hz2 rfl (by decide) _ _ _ rfl HOW.out ⟨ga,fa,none⟩ la.length ca (ints la) rfl (by rw[ints_len];omega) ?d1 (ints_one la) (by unfold maxLen;omega) (by omega) (by omega) ?_)
  case d1=>first | exact ints_cells HCA1.out | (intro j u hj;have:=ints_cells HCA1.out j u hj;rwa [Addr.add_lit]at this)
  intro v' w2 hown2 hgr2 _;have hgn1:w.heap.size<=gn/\gn<w1.heap.size:=HOW.out.lt gn rfl;have hbn:g≠gn:=by omega
  have hgbn:gb≠gn:=by omega
  have c1'':=(World.cell?_of_block (a:=⟨g,1,none⟩) (hgr2.block g (by omega) (by simp[Value.ownBlock];omega))).trans c1'
  have HC2:=Lib.hid (λi (h:i<lb.length)=>(World.cell?_of_block (a:=⟨gb,fb+i,none⟩) (hgr2.block gb hgb1 (by simp[Value.ownBlock];omega))).trans (HC1.out i h))
  try rw[Nat.zero_add,List.nil_append]at hown2
  have HO2:=Lib.hid hown2;have hs2:=hgr2.size;have HB2:=Lib.hid (HBL.out.grown hgr2 hbsz (by intro k hk;simp[Value.ownBlock]at hk;subst hk;exact hgn1.1))
  obtain ⟨A2,c2,rfl⟩:∃A2 c2,v' = .slice A2 la.length c2:=by
   rcases hown2.2 with ⟨-,h⟩ | ⟨g2,cap,cur,h,-⟩
   .omega
   .exact ⟨_,_,h⟩
  clear hown2 hgr2;go_wp2_with fail;rw[rounds_succ];go_wp2_with (at_builtin;refine wpList_append_own _ rfl _ _ 22 rfl w.heap.size 3 i0 (.int .i64 0) 1 8 Tryz.underlying22 hi hz0 hz1 hz2 rfl (by decide) _ _ _ rfl HO2.out ⟨gb,fb,none⟩ lb.length cb (ints lb) rfl (by rw[ints_len];omega) ?d2 (ints_one lb) (by unfold maxLen;omega) (by omega) (by omega) ?_)
  case d2=>first | exact ints_cells HC2.out | (intro j u hj;have:=ints_cells HC2.out j u hj;rwa [Addr.add_lit]at this)
  intro v' w3 hown3 hgr3 _;have HO3:=Lib.hid hown3;have HB3:=Lib.hid (HB2.out.grown hgr3 (by omega) (by intro k hk;exact (HO2.out.lt k hk).1))
  clear hown3 hgr3;go_wp2_with fail;rw[rounds_succ];go_wp2_with fail;go_ret;refine ⟨_,rfl,?_,HB3.out⟩;rw[List.length_append,ints_app];exact HO3.out
def SortedF (l r:List Nat):Prop:=r.Pairwise (·<·)/\∀p,p∈r↔p∈l
theorem compact_sorted {ms:List Int} (hs:ms.Pairwise (·<=·)):(Lib.compact ms).Pairwise (·<·)/\∀x,x∈Lib.compact ms↔x∈ms:=by
 have hget:∀j (h:j<ms.length),ms.toArray[j]! = ms[j]:=λj h=>by simp[h]
 have hle:∀i j (h:i<j) (h2:j<ms.length),ms[i]<=ms[j]:=λi j h h2=>List.pairwise_iff_getElem.1 hs i j (by omega) h2 h
 constructor
 .unfold Lib.compact Lib.compactUpTo;rw[List.pairwise_map];have hr:((List.range ms.length).filter (Lib.keeps ms.toArray)).Pairwise (·<·):=List.Pairwise.filter _ List.pairwise_lt_range;refine hr.imp_of_mem λ{i j} hi hj hij=>?_;obtain ⟨hi1,-⟩:=List.mem_filter.1 hi;obtain ⟨hj1,hj2⟩:=List.mem_filter.1 hj;have hj1:=List.mem_range.1 hj1;have hi1:=List.mem_range.1 hi1;unfold Lib.keeps at hj2;have hne:=(of_decide_eq_true hj2).resolve_left (by omega)
  rw[hget j hj1,hget (j - 1) (by omega)]at hne
  rw[hget i hi1,hget j hj1];have h1:ms[i]<=ms[j - 1]:=by
   by_cases h:i=j - 1
   .subst h;exact Int.le_refl _
   .exact hle i (j - 1) (by omega) (by omega)
  have h2:=hle (j - 1) j (by omega) hj1
  omega
 .intro x;unfold Lib.compact Lib.compactUpTo;constructor
  .intro h;obtain ⟨j,hj,rfl⟩:=List.mem_map.1 h;have hj1:=List.mem_range.1 (List.mem_filter.1 hj).1;rw[hget j hj1];exact List.getElem_mem _
  .intro h;obtain ⟨j,hj,rfl⟩:=List.getElem_of_mem h;have key:∀j (hj:j<ms.length),∃k,k∈(List.range ms.length).filter (Lib.keeps ms.toArray)/\ms.toArray[k]! = ms[j]:=by
    intro j
    induction j with
    | zero=>exact λhj=>⟨0,List.mem_filter.2 ⟨List.mem_range.2 hj,by unfold Lib.keeps;simp⟩,hget 0 hj⟩
    | succ j ih=>
     intro hj;by_cases he:ms[j+1]=ms[j]
     .obtain ⟨k,h1,h2⟩:=ih (by omega)
      exact ⟨k,h1,by rw[h2,he]⟩
     .refine ⟨j+1,List.mem_filter.2 ⟨List.mem_range.2 hj,?_⟩,hget _ hj⟩;unfold Lib.keeps;rw[hget _ hj,Nat.add_sub_cancel,hget j (by omega)]
      simp[he]
   obtain ⟨k,h1,h2⟩:=key j hj;exact List.mem_map.2 ⟨k,h1,h2⟩
theorem sorted_plain (l:List Nat):∃r:List Nat,Lib.compact ((l.map λ(n:Nat)=>(n:Int)).mergeSort λx y=>decide (x<=y))=r.map (λ(n:Nat)=>(n:Int))/\SortedF l r:=by
 have hperm:=List.mergeSort_perm (l.map λ(n:Nat)=>(n:Int)) (λx y=>decide (x<=y));have hs:((l.map λ(n:Nat)=>(n:Int)).mergeSort λx y=>decide (x<=y)).Pairwise (·<=·):=by
  have:=List.pairwise_mergeSort (le:=λ(x y:Int)=>decide (x<=y)) (λa b c h1 h2=>by simp at *;omega) (λa b=>by simp;omega) (l.map λ(n:Nat)=>(n:Int))
  exact this.imp λh=>by simpa using h
 obtain ⟨h1,h2⟩:=compact_sorted hs;generalize Lib.compact ((l.map λ(n:Nat)=>(n:Int)).mergeSort λx y=>decide (x<=y))=c at *;have hnn:∀x∈c,((x.toNat:Nat):Int)=x:=λx hx=>by
  obtain ⟨n,-,rfl⟩:=List.mem_map.1 ((hperm.mem_iff).1 ((h2 x).1 hx));simp
 refine ⟨c.map Int.toNat,?_,?_,λp=>?_⟩
 .rw[List.map_map]
  conv=>lhs;rw[<-List.map_id c]
  exact List.map_congr_left λx hx=>(hnn x hx).symm
 .rw[List.pairwise_map];exact h1.imp_of_mem λ{a b} ha hb hab=>by have:=hnn a ha;have:=hnn b hb;omega
 .constructor
  .intro hp;obtain ⟨x,hx,rfl⟩:=List.mem_map.1 hp;obtain ⟨n,hn,rfl⟩:=List.mem_map.1 ((hperm.mem_iff).1 ((h2 x).1 hx));simpa using hn
  .intro hp;exact List.mem_map.2 ⟨(p:Int),(h2 _).2 ((hperm.mem_iff).2 (List.mem_map.2 ⟨p,hp,rfl⟩)),by simp⟩
theorem ints_map (l:List Nat):(l.map λ(n:Nat)=>(n:Int)).map (Value.int .i64)=ints l:=by simp[ints]
set_option maxHeartbeats 2000000 in
theorem sorted_any (v:Value) (l:List Nat) (w:World) (h:IL w v l) (hlen:l.length<=10000000000000):Calls Tryz.prog 138 #[v] w λe w'=>
  ∃v' r,e = .returned v'/\SortedF l r/\w'.ownsRow w.heap.size 3 1 v' r.length (ints r)/\IL w' v' r/\Below w.heap.size w w':=by
 rcases h with ⟨rfl,rfl⟩ | ⟨g,f,c,rfl,h0,hg,hc,hcell⟩
 .go_enter Tryz.func138,Tryz.ntmps138
  go_wp2_with (first
   | (go_at_call 72;refine (Tryz.slices_Clone_int_nil _ _ _).mono ?_;rintro e w1 ⟨rfl,rfl⟩)
   | (go_at_call 168;refine (Tryz.slices_Sort_int_none _ _ _).mono ?_;rintro e w1 ⟨rfl,rfl⟩)
   | (go_at_call 169;refine (Tryz.slices_Compact_int_empty _ _ _).mono ?_;rintro e w1 ⟨rfl,rfl⟩))
  go_ret;exact ⟨_,[],rfl,⟨List.Pairwise.nil,λp=>Iff.rfl⟩,World.ownsRow_nil _ _ _ _, .inl ⟨rfl,rfl⟩,Below.refl _ _⟩
 .have hz:l.length=(l.map λ(n:Nat)=>(n:Int)).length:=by simp
  have hcl:=Tryz.slices_Clone_int g f l.length c (l.map λ(n:Nat)=>(n:Int)) w (by simp) (by omega) (λj hj=>by
   have hj2:j<l.length:=by simpa using hj
   rw[hcell j hj2];simp[List.getD,List.getElem?_eq_getElem hj2])
  have HCL:=Lib.hid hcl;have HPL:=Lib.hid (sorted_plain l);have hll:l.length<=10000000000000:=hlen;have hpos:0<l.length:=by cases l with | nil=>exact absurd rfl h0 | cons a r=>simp
  clear hcl hcell h0 hz
  go_enter Tryz.func138,Tryz.ntmps138
  go_wp2_with fail;refine HCL.out.mono ?_;rintro e w1 ⟨v1,rfl,hown,hne,hb1⟩;rw[List.take_of_length_le (by simp)]at hown
  obtain ⟨g1,cap,rfl,hbg,hlt,hnc,hcm,hzl,hH⟩:=Lib.holds_of_ownsRow hown hne;obtain ⟨ms,hms⟩:∃ms,((l.map λ(n:Nat)=>(n:Int)).mergeSort λx y=>decide (x<=y))=ms:=⟨_,rfl⟩;have hml:ms.length=l.length:=by rw[<-hms];simp
  have hso:=Tryz.slices_Sort_int g1 0 cap (l.map λ(n:Nat)=>(n:Int)) w1 hH hlt (by simp;omega)
  rw[hms]at hso HPL;rw[hzl]at hso;have HSO:=Lib.hid hso;have HOW:=Lib.hid hown;have HB1:=Lib.hid hb1;have HML:=Lib.hid hml;have hcm2:cap<=9223372036854775807:=by unfold maxLen at hcm;omega
  have HCM:=Lib.hid hcm;clear hso hown hb1 hne hms hzl hH hml hcm;go_wp2_with fail;refine HSO.out.mono ?_;rintro e w2 ⟨rfl,q,os,hw2⟩
  -- the sorted row
  have how2:w2.ownsRow w.heap.size 3 1 (.slice (some ⟨g1,0,none⟩) l.length cap) l.length (ms.map (Value.int .i64)):=by
   have h1:=Lib.ownsRow_putRow (q:=q) (k:=l.length) (ys:=ms) HOW.out HML.out (Nat.le_refl _);rw[List.take_of_length_le (by rw[HML.out];exact Nat.le_refl _)]at h1
   rw[hw2];exact own_same h1 λk hk=>heap_grow_old _ _ (h1.lt k hk).2
  have hb2:Below w.heap.size w w2:=by
   rw[hw2];have h1:=Lib.below_putRow (enc:=Value.int .i64) (q:=q) (d:=ms.toArray) HB1.out hbg;exact h1.trans ⟨rfl,rfl,rfl,by simp[grow],λk hk=>heap_grow_old _ _ (Nat.lt_of_lt_of_le hk h1.size)⟩
  obtain ⟨g9,cap9,hv9,-,-,-,-,hzl2,hH2⟩:=Lib.holds_of_ownsRow (zs:=ms) how2 (by simp)
  injection hv9 with e1 e2 e3;injection e1 with e1;injection e1 with e1;subst e1 e3;have hco:=Tryz.slices_Compact_int g1 0 cap ms w2 hH2 (by rw[hzl2];omega) (by rw[hzl2];exact hnc)
  rw[hzl2]at hco;obtain ⟨r,hr,hsr⟩:=HPL.out;have hcl:=Lib.compact_length_le ms;have HCO:=Lib.hid hco;have HO2:=Lib.hid how2;have HB2:=Lib.hid hb2;have HR:=Lib.hid hr;have hrl:(Lib.compact ms).length=r.length:=by rw[hr,List.length_map]
  rw[hrl]at hcl HCO;rw[hzl2]at hcl;have HZ:=Lib.hid hzl2;have HRL:=Lib.hid hrl;clear hco how2 hb2 hr hzl2 hH2 hw2 hrl;go_wp2_with fail;refine HCO.out.mono ?_;rintro e w3 ⟨rfl,q3,hw3⟩;have how3:w3.ownsRow w.heap.size 3 1 (.slice (some ⟨g1,0,none⟩) r.length cap) r.length (ints r):=by
   have h1:=Lib.ownsRow_putRow (q:=q3) (k:=r.length) (ys:=Lib.compact ms++List.replicate (l.length-r.length) 0) HO2.out (by rw[List.length_append,List.length_replicate,HRL.out];omega) hcl
   rw[List.take_left' HRL.out,HR.out,ints_map]at h1;rw[hw3,HR.out];exact h1
  have hb3:Below w.heap.size w w3:=by
   rw[hw3];exact Lib.below_putRow HB2.out hbg
  have HO3:=Lib.hid how3;have HB3:=Lib.hid hb3;clear how3 hb3 hw3;go_wp2_with fail;go_ret;refine ⟨_,r,rfl,hsr,HO3.out,IL.of_own HO3.out λ_ hre=>?_,HB3.out⟩;subst hre
  cases l with
  | nil=>simp at hpos
  | cons a l=>have:=(hsr.2 a).2 (by simp);cases this
end Go.Proofs.YtdmoogjddmdmbaaGreatDoor
