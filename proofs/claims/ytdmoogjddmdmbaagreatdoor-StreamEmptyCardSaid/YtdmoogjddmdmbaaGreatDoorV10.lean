/- Walks. -/
import Derived.Test.YtdmoogjddmdmbaaGreatDoorV08
import Derived.Test.YtdmoogjddmdmbaaGreatDoorV09
import Derived.Lib.AppendZerosOnto
import Derived.Lib.SliceRun
import Derived.Lib.OwnBridge
import Derived.LoopN
set_option maxRecDepth 100000
set_option maxHeartbeats 16000000
set_option linter.unusedVariables false
set_option linter.unusedSimpArgs false
namespace Go.Proofs.YtdmoogjddmdmbaaGreatDoor
section
set_option linter.unusedVariables false
set_option linter.unusedSimpArgs false
open Go.RowKit Go.Sort
set_option maxHeartbeats 1000000 in
theorem L4 (n:Nat) (w:World) (h0:0<n) (hn:n<=15000000000000):Calls Tryz.prog 202 #[.slice none 0 0, .int .i64 (n:Int)] w λe w'=>
  ∃g c,e = .returned (.slice (some ⟨g,0,none⟩) 0 c)/\w'.ownsRow w.heap.size 3 1 (.slice (some ⟨g,0,none⟩) 0 c) 0 []/\Below w.heap.size w w':=by
 obtain ⟨i0,hi,hz0,hz1,hz2⟩:=info_parts ft;have h1:¬((n:Int)<0):=by omega
 have h4:0<(n:Int):=by omega
 have hrz:∀ty,(Builtin.append_ #[22,3] ty #[.slice none 0 0, .int .i64 (n:Int)]).run Tryz.prog w =
   .ok (.slice (some ⟨w.heap.size,0,none⟩) n (grownCap w n 0 3)) (w.drew.alloc (.cells (Builtin.zeroCells (Value.int .i64 0).cells n++Builtin.zeroCells (Value.int .i64 0).cells (grownCap w n 0 3-n)) 3)):=λty=>by
  have h:=Lib.run_append_grow_zeros (P:=Tryz.prog) w 22 3 ty 3 i0 (.int .i64 0) .i64 .i64 Tryz.underlying22 Tryz.underlying3 hi hz0 none 0 0 [] (by rw[hz1];exact run_firstCells_none w.drew 1 0 0 0) n (by omega) (by rw[hz1];omega) (by omega) (by omega)
   (by rw[hz2];omega) (by rw[Nat.zero_add,hz2];exact growslice_fits (by omega) (by omega))
  simpa using h
 have hGn:n<=grownCap w n 0 3:=grownCap_ge w _ _ _;obtain ⟨G,hG⟩:∃G,G=grownCap w n 0 3:=⟨_,rfl⟩;rw[<-hG]at hrz hGn;have hGM:G<=maxLen:=by rw[hG];exact grownCap_le_maxLen w n 0 3 (by unfold maxLen;omega)
 have aq0:G<=9223372036854775807:=by unfold maxLen at hGM;omega
 have HM:=Lib.hid hGM;clear hG hGM hi hz0 hz1 hz2
 go_enter Tryz.func202,Tryz.ntmps202
 go_wp2_with (at_builtin;refine Lib.wpList_append_run _ rfl _ _ _ _ rfl _ _ rfl rfl _ _ (hrz _) ?_);go_ret;have hcs:(Builtin.zeroCells (Value.int .i64 0).cells n++Builtin.zeroCells (Value.int .i64 0).cells (G-n)).size=G:=by
  have e:(Value.int .i64 0).cells.size=1:=rfl;rw[Array.size_append,size_zeroCells,size_zeroCells,e];omega
 refine ⟨_,_,rfl,⟨by simp, .inr ⟨w.heap.size,G,_,rfl,Nat.le_refl _,heap_alloc_new w.drew _,Nat.zero_le _,HM.out,hcs.trans (Nat.mul_one G).symm,by simp⟩⟩,?_⟩
 exact (Below.refl w.heap.size w).drew.alloc (Nat.le_refl _) _
theorem eN {w:World} {g f:Nat} {l:List Nat} (h:∀i (h:i<l.length),w.cell? ⟨g,f+i,none⟩=some (.int .i64 (l[i]:Int))):∀j u,(bG l)[j]?=some u->w.cell? ((⟨g,f,none⟩:Addr).add j)=some u:=by
 intro j u hj;rw[Addr.add_lit];simp only[bG,List.getElem?_map]at hj;by_cases pS:j<l.length
 .rw[h j pS];rw[List.getElem?_eq_getElem pS]at hj;exact hj
 .rw[List.getElem?_eq_none (by omega)]at hj;cases hj
set_option maxHeartbeats 2000000 in
theorem oF (va vb:Value) (la lb:List Nat) (g c:Nat) (w:World) (ha:IL w va la) (hb:IL w vb lb) (LX:lb≠[]) (hlen:la.length+lb.length<=10000000000000) (hg:g<w.heap.size)
  (hc:2<=c/\c<=9223372036854775807) (c0:w.cell? ⟨g,0,none⟩=some va) (c1:w.cell? ⟨g,1,none⟩=some vb) :
  Calls Tryz.prog 188 #[.slice (some ⟨g,0,none⟩) 2 c] w λe w'=>∃v,e = .returned v/\w'.ownsRow w.heap.size 3 1 v (la++lb).length (bG (la++lb))/\Below w.heap.size w w':=by
 obtain ⟨i0,hi,hz0,hz1,hz2⟩:=info_parts ft;have aq1:0<lb.length:=by cases lb with | nil=>exact absurd rfl LX | cons a r=>simp
 have hA:=ha;have HB:=Lib.hid hb;obtain ⟨gb,fb,cb,rfl,-,Bd,xE,L5⟩:=hb.resolve_left (λh=>LX h.1);obtain ⟨A,ca,rfl,vX⟩:=ha.form;have hw1:IntKind.i64.wrap ((la.length:Int)+(lb.length:Int))=((la.length+lb.length:Nat):Int):=by rw[IntWalk.i64_in _ (by omega)];simp
 go_enter Tryz.func188,Tryz.ntmps188
 go_wp2_with fail;refine wp_loop_rounds 3 ?_;rw[rounds_succ];go_wp2_with fail;rw[rounds_succ];go_wp2_with fail;rw[rounds_succ];go_wp2_with fail;refine (L4 (la.length+lb.length) _ (by omega) (by omega)).mono ?_
 rintro e w1 ⟨gn,cn,rfl,hown,aP⟩;have c0':=(aP.cell (p:=⟨g,0,none⟩) hg).trans c0;have c1':=(aP.cell (p:=⟨g,1,none⟩) hg).trans c1;have YY:=Lib.hid (hA.later aP);have aaE:w.heap.size<=w1.heap.size:=aP.size;have sw:=Lib.hid aP;have HOW:=Lib.hid hown;have hsz:=aP.size;have ahk:gb<w1.heap.size:=by omega
 have L6:∀i (h:i<lb.length),w1.cell? ⟨gb,fb+i,none⟩=some (.int .i64 (lb[i]:Int)):=λi h=>(aP.cell (p:=⟨gb,fb+i,none⟩) Bd).trans (L5 i h);have L7:=Lib.hid L6;clear hown aP L6 L5 c0 c1 hw1;go_wp2_with fail;rcases hA with ⟨gu,hva⟩ | ⟨ga,fa,ca',hva,gu,KU,-,L8⟩
 .injection hva with e1 e2 e3;subst gu e1 e3;refine wp_loop_rounds 3 ?_;rw[rounds_succ];go_wp2_with (at_builtin;refine wpList_append_own_none rfl _ _ 22 rfl w.heap.size 3 i0 1 Tryz.underlying22 hi _ 0 [] rfl HOW.out rfl ?_);rw[rounds_succ];go_wp2_with (at_builtin;refine wpList_append_own _ rfl _ _ 22 rfl w.heap.size 3 i0 (.int .i64 0) 1 8 Tryz.underlying22 hi hz0 hz1 hz2 rfl (by decide) _ _ _ rfl HOW.out ⟨gb,fb,none⟩ lb.length cb (bG lb) rfl (by rw[iL];omega) ?c1 (pQ lb) (by unfold maxLen;omega) (by  omega) (by omega) ?_)
  case c1=>first | exact eN L7.out | (intro j u hj;have:=eN L7.out j u hj;rwa [Addr.add_lit]at this)
  intro v' w2 aQ y6 _;have Gl:=Lib.hid aQ;have eO:=Lib.hid (sw.out.grown y6 aaE (by intro k hk;simp[Value.ownBlock]at hk;subst hk;exact (HOW.out.lt gn rfl).1))
  clear aQ y6;go_wp2_with fail;rw[rounds_succ];go_wp2_with fail;go_ret;refine ⟨_,rfl,?_,eO.out⟩;have:=Gl.out;simpa using this
 .injection hva with e1 e2 e3;subst e1 e3;have aq2:0<la.length:=by cases la with | nil=>exact absurd rfl gu | cons a r=>simp
  have aaF:=Lib.hid (λi (h:i<la.length)=>(sw.out.cell (p:=⟨ga,fa+i,none⟩) KU).trans (L8 i h));clear L8;refine wp_loop_rounds 3 ?_;rw[rounds_succ];go_wp2_with (at_builtin;refine wpList_append_own _ rfl _ _ 22 rfl w.heap.size 3 i0 (.int .i64 0) 1 8 Tryz.underlying22 hi hz0 hz1 hz2 rfl (by decide) _ _ _ rfl HOW.out ⟨ga,fa,none⟩ la.length ca (bG la) rfl (by rw[iL];omega) ?d1 (pQ la) (by unfold maxLen;omega) (by omega) (by omega) ?_)
  case d1=>first | exact eN aaF.out | (intro j u hj;have:=eN aaF.out j u hj;rwa [Addr.add_lit]at this)
  intro v' w2 aQ y6 _;have ahm:w.heap.size<=gn/\gn<w1.heap.size:=HOW.out.lt gn rfl;have Pr:g≠gn:=by omega
  have aq3:gb≠gn:=by omega
  have aaG:=(World.cell?_of_block (a:=⟨g,1,none⟩) (y6.block g (by omega) (by simp[Value.ownBlock];omega))).trans c1'
  have Ex:=Lib.hid (λi (h:i<lb.length)=>(World.cell?_of_block (a:=⟨gb,fb+i,none⟩) (y6.block gb ahk (by simp[Value.ownBlock];omega))).trans (L7.out i h))
  try rw[Nat.zero_add,List.nil_append]at aQ
  have Gl:=Lib.hid aQ;have xu:=y6.size;have eO:=Lib.hid (sw.out.grown y6 aaE (by intro k hk;simp[Value.ownBlock]at hk;subst hk;exact ahm.1))
  obtain ⟨A2,c2,rfl⟩:∃A2 c2,v' = .slice A2 la.length c2:=by
   rcases aQ.2 with ⟨-,h⟩ | ⟨g2,cap,cur,h,-⟩
   .omega
   .exact ⟨_,_,h⟩
  clear aQ y6;go_wp2_with fail;rw[rounds_succ];go_wp2_with (at_builtin;refine wpList_append_own _ rfl _ _ 22 rfl w.heap.size 3 i0 (.int .i64 0) 1 8 Tryz.underlying22 hi hz0 hz1 hz2 rfl (by decide) _ _ _ rfl Gl.out ⟨gb,fb,none⟩ lb.length cb (bG lb) rfl (by rw[iL];omega) ?d2 (pQ lb) (by unfold maxLen;omega) (by omega) (by omega) ?_)
  case d2=>first | exact eN Ex.out | (intro j u hj;have:=eN Ex.out j u hj;rwa [Addr.add_lit]at this)
  intro v' w3 bZ aaH _;have HO3:=Lib.hid bZ;have y7:=Lib.hid (eO.out.grown aaH (by omega) (by intro k hk;exact (Gl.out.lt k hk).1))
  clear bZ aaH;go_wp2_with fail;rw[rounds_succ];go_wp2_with fail;go_ret;refine ⟨_,rfl,?_,y7.out⟩;rw[List.length_append,jR];exact HO3.out
def kB (l r:List Nat):Prop:=r.Pairwise (·<·)/\∀p,p∈r↔p∈l
theorem tU {ms:List Int} (hs:ms.Pairwise (·<=·)):(Lib.compact ms).Pairwise (·<·)/\∀x,x∈Lib.compact ms↔x∈ms:=by
 have hget:∀j (h:j<ms.length),ms.toArray[j]! = ms[j]:=λj h=>by simp[h]
 have hle:∀i j (h:i<j) (h2:j<ms.length),ms[i]<=ms[j]:=λi j h h2=>List.pairwise_iff_getElem.1 hs i j (by omega) h2 h
 constructor
 .unfold Lib.compact Lib.compactUpTo;rw[List.pairwise_map];have hr:((List.range ms.length).filter (Lib.keeps ms.toArray)).Pairwise (·<·):=List.Pairwise.filter _ List.pairwise_lt_range;refine hr.imp_of_mem λ{i j} hi hj KT=>?_;obtain ⟨iD,-⟩:=List.mem_filter.1 hi;obtain ⟨sY,pS⟩:=List.mem_filter.1 hj;have sY:=List.mem_range.1 sY;have iD:=List.mem_range.1 iD;unfold Lib.keeps at pS;have hne:=(of_decide_eq_true pS).resolve_left (by omega)
  rw[hget j sY,hget (j - 1) (by omega)]at hne
  rw[hget i iD,hget j sY];have h1:ms[i]<=ms[j - 1]:=by
   by_cases h:i=j - 1
   .subst h;exact Int.le_refl _
   .exact hle i (j - 1) (by omega) (by omega)
  have h2:=hle (j - 1) j (by omega) sY
  omega
 .intro x;unfold Lib.compact Lib.compactUpTo;constructor
  .intro h;obtain ⟨j,hj,rfl⟩:=List.mem_map.1 h;have sY:=List.mem_range.1 (List.mem_filter.1 hj).1;rw[hget j sY];exact List.getElem_mem _
  .intro h;obtain ⟨j,hj,rfl⟩:=List.getElem_of_mem h;have key:∀j (hj:j<ms.length),∃k,k∈(List.range ms.length).filter (Lib.keeps ms.toArray)/\ms.toArray[k]! = ms[j]:=by
    intro j
    induction j with
    | zero=>exact λhj=>⟨0,List.mem_filter.2 ⟨List.mem_range.2 hj,by unfold Lib.keeps;simp⟩,hget 0 hj⟩
    | succ j ih=>
     intro hj;by_cases he:ms[j+1]=ms[j]
     .obtain ⟨k,h1,h2⟩:=ih (by omega)
      exact ⟨k,h1,by rw[h2,he]⟩
     .refine ⟨j+1,List.mem_filter.2 ⟨List.mem_range.2 hj,?_⟩,hget _ hj⟩;unfold Lib.keeps;rw[hget _ hj,Nat.add_sub_cancel,hget j (by omega)]
      simp[he]
   obtain ⟨k,h1,h2⟩:=key j hj;exact List.mem_map.2 ⟨k,h1,h2⟩
theorem y8 (l:List Nat):∃r:List Nat,Lib.compact ((l.map λ(n:Nat)=>(n:Int)).mergeSort λx y=>decide (x<=y))=r.map (λ(n:Nat)=>(n:Int))/\kB l r:=by
 have jS:=List.mergeSort_perm (l.map λ(n:Nat)=>(n:Int)) (λx y=>decide (x<=y));have hs:((l.map λ(n:Nat)=>(n:Int)).mergeSort λx y=>decide (x<=y)).Pairwise (·<=·):=by
  have:=List.pairwise_mergeSort (le:=λ(x y:Int)=>decide (x<=y)) (λa b c h1 h2=>by simp at *;omega) (λa b=>by simp;omega) (l.map λ(n:Nat)=>(n:Int))
  exact this.imp λh=>by simpa using h
 obtain ⟨h1,h2⟩:=tU hs;generalize Lib.compact ((l.map λ(n:Nat)=>(n:Int)).mergeSort λx y=>decide (x<=y))=c at *;have DV:∀x∈c,((x.toNat:Nat):Int)=x:=λx hx=>by
  obtain ⟨n,-,rfl⟩:=List.mem_map.1 ((jS.mem_iff).1 ((h2 x).1 hx));simp
 refine ⟨c.map Int.toNat,?_,?_,λp=>?_⟩
 .rw[List.map_map]
  conv=>lhs;rw[<-List.map_id c]
  exact List.map_congr_left λx hx=>(DV x hx).symm
 .rw[List.pairwise_map];exact h1.imp_of_mem λ{a b} ha hb hab=>by have:=DV a ha;have:=DV b hb;omega
 .constructor
  .intro hp;obtain ⟨x,hx,rfl⟩:=List.mem_map.1 hp;obtain ⟨n,hn,rfl⟩:=List.mem_map.1 ((jS.mem_iff).1 ((h2 x).1 hx));simpa using hn
  .intro hp;exact List.mem_map.2 ⟨(p:Int),(h2 _).2 ((jS.mem_iff).2 (List.mem_map.2 ⟨p,hp,rfl⟩)),by simp⟩
theorem L9 (l:List Nat):(l.map λ(n:Nat)=>(n:Int)).map (Value.int .i64)=bG l:=by simp[bG]
set_option maxHeartbeats 2000000 in
theorem iM (v:Value) (l:List Nat) (w:World) (h:IL w v l) (hlen:l.length<=10000000000000):Calls Tryz.prog 138 #[v] w λe w'=>
  ∃v' r,e = .returned v'/\kB l r/\w'.ownsRow w.heap.size 3 1 v' r.length (bG r)/\IL w' v' r/\Below w.heap.size w w':=by
 rcases h with ⟨rfl,rfl⟩ | ⟨g,f,c,rfl,h0,hg,hc,hcell⟩
 .go_enter Tryz.func138,Tryz.ntmps138
  go_wp2_with (first
   | (go_at_call 72;refine (Tryz.slices_Clone_int_nil _ _ _).mono ?_;rintro e w1 ⟨rfl,rfl⟩)
   | (go_at_call 168;refine (Tryz.slices_Sort_int_none _ _ _).mono ?_;rintro e w1 ⟨rfl,rfl⟩)
   | (go_at_call 169;refine (Tryz.slices_Compact_int_empty _ _ _).mono ?_;rintro e w1 ⟨rfl,rfl⟩))
  go_ret;exact ⟨_,[],rfl,⟨List.Pairwise.nil,λp=>Iff.rfl⟩,World.ownsRow_nil _ _ _ _, .inl ⟨rfl,rfl⟩,Below.refl _ _⟩
 .have hz:l.length=(l.map λ(n:Nat)=>(n:Int)).length:=by simp
  have bD:=Tryz.slices_Clone_int g f l.length c (l.map λ(n:Nat)=>(n:Int)) w (by simp) (by omega) (λj hj=>by
   have pS:j<l.length:=by simpa using hj
   rw[hcell j pS];simp[List.getD,List.getElem?_eq_getElem pS])
  have lL:=Lib.hid bD;have HPL:=Lib.hid (y8 l);have hll:l.length<=10000000000000:=hlen;have hpos:0<l.length:=by cases l with | nil=>exact absurd rfl h0 | cons a r=>simp
  clear bD hcell h0 hz
  go_enter Tryz.func138,Tryz.ntmps138
  go_wp2_with fail;refine lL.out.mono ?_;rintro e w1 ⟨v1,rfl,hown,hne,hb1⟩;rw[List.take_of_length_le (by simp)]at hown
  obtain ⟨g1,cap,rfl,gQ,hlt,Bu,Bb,hzl,hH⟩:=Lib.holds_of_ownsRow hown hne;obtain ⟨ms,IU⟩:∃ms,((l.map λ(n:Nat)=>(n:Int)).mergeSort λx y=>decide (x<=y))=ms:=⟨_,rfl⟩;have yU:ms.length=l.length:=by rw[<-IU];simp
  have pC:=Tryz.slices_Sort_int g1 0 cap (l.map λ(n:Nat)=>(n:Int)) w1 hH hlt (by simp;omega)
  rw[IU]at pC HPL;rw[hzl]at pC;have HSO:=Lib.hid pC;have HOW:=Lib.hid hown;have bH:=Lib.hid hb1;have HML:=Lib.hid yU;have aq4:cap<=9223372036854775807:=by unfold maxLen at Bb;omega
  have HCM:=Lib.hid Bb;clear pC hown hb1 hne IU hzl hH yU Bb;go_wp2_with fail;refine HSO.out.mono ?_;rintro e w2 ⟨rfl,q,os,pq⟩
  -- the sorted row
  have U9:w2.ownsRow w.heap.size 3 1 (.slice (some ⟨g1,0,none⟩) l.length cap) l.length (ms.map (Value.int .i64)):=by
   have h1:=Lib.ownsRow_putRow (q:=q) (k:=l.length) (ys:=ms) HOW.out HML.out (Nat.le_refl _);rw[List.take_of_length_le (by rw[HML.out];exact Nat.le_refl _)]at h1
   rw[pq];exact ak h1 λk hk=>heap_grow_old _ _ (h1.lt k hk).2
  have aL:Below w.heap.size w w2:=by
   rw[pq];have h1:=Lib.below_putRow (enc:=Value.int .i64) (q:=q) (d:=ms.toArray) bH.out gQ;exact h1.trans ⟨rfl,rfl,rfl,by simp[grow],λk hk=>heap_grow_old _ _ (Nat.lt_of_lt_of_le hk h1.size)⟩
  obtain ⟨g9,aq5,hv9,-,-,-,-,IV,hH2⟩:=Lib.holds_of_ownsRow (zs:=ms) U9 (by simp)
  injection hv9 with e1 e2 e3;injection e1 with e1;injection e1 with e1;subst e1 e3;have hco:=Tryz.slices_Compact_int g1 0 cap ms w2 hH2 (by rw[IV];omega) (by rw[IV];exact Bu)
  rw[IV]at hco;obtain ⟨r,hr,vV⟩:=HPL.out;have bD:=Lib.compact_length_le ms;have HCO:=Lib.hid hco;have Gl:=Lib.hid U9;have eO:=Lib.hid aL;have HR:=Lib.hid hr;have rJ:(Lib.compact ms).length=r.length:=by rw[hr,List.length_map]
  rw[rJ]at bD HCO;rw[IV]at bD;have HZ:=Lib.hid IV;have Px:=Lib.hid rJ;clear hco U9 aL hr IV hH2 pq rJ;go_wp2_with fail;refine HCO.out.mono ?_;rintro e w3 ⟨rfl,q3,Ma⟩;have aaL:w3.ownsRow w.heap.size 3 1 (.slice (some ⟨g1,0,none⟩) r.length cap) r.length (bG r):=by
   have h1:=Lib.ownsRow_putRow (q:=q3) (k:=r.length) (ys:=Lib.compact ms++List.replicate (l.length-r.length) 0) Gl.out (by rw[List.length_append,List.length_replicate,Px.out];omega) bD
   rw[List.take_left' Px.out,HR.out,L9]at h1;rw[Ma,HR.out];exact h1
  have dc:Below w.heap.size w w3:=by
   rw[Ma];exact Lib.below_putRow eO.out gQ
  have HO3:=Lib.hid aaL;have y7:=Lib.hid dc;clear aaL dc Ma;go_wp2_with fail;go_ret;refine ⟨_,r,rfl,vV,HO3.out,IL.fS HO3.out λ_ YZ=>?_,y7.out⟩;subst YZ
  cases l with
  | nil=>simp at hpos
  | cons a l=>have:=(vV.2 a).2 (by simp);cases this
end
end Go.Proofs.YtdmoogjddmdmbaaGreatDoor
