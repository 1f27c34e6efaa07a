/- Walks. -/
import Derived.Test.YtdmoogjddmdmbaaGreatDoorX07
import Derived.Test.YtdmoogjddmdmbaaGreatDoorX08
import Derived.Lib.AppendZerosOnto
import Derived.Lib.SliceRun
import Derived.Lib.OwnBridge
import Derived.LoopN
set_option maxRecDepth 100000
set_option maxHeartbeats 16000000
set_option linter.unusedVariables false
set_option linter.unusedSimpArgs false
namespace Go.Proofs.YtdmoogjddmdmbaaGreatDoor
open Go.RowKit
section
open Go.RowKit Go.Sort
theorem Lp(n:Nat)(w:World)(h0:0<n)(hn:n<=15000000000000):Calls Tryz.prog 202 #[.slice none 0 0,.int .i64 (n:Int)] w λe w'=>
  ∃g c,e=.returned (.slice (some ⟨g,0,none⟩) 0 c)/\w'.ownsRow w.heap.size 3 1 (.slice (some ⟨g,0,none⟩) 0 c) 0 []/\Below w.heap.size w w':=by
 obtain ⟨i0,hi,hz0,hz1,hz2⟩:=info_parts gp;have h1:¬((n:Int)<0):=Y;have h4:0<(n:Int):=Y;have hrz:∀ty,(Builtin.append_ #[22,3] ty #[.slice none 0 0,.int .i64 (n:Int)]).run Tryz.prog w =
   .ok (.slice (some ⟨w.heap.size,0,none⟩) n (grownCap w n 0 3)) (w.drew.alloc (.cells (Builtin.zeroCells (Value.int .i64 0).cells n++Builtin.zeroCells (Value.int .i64 0).cells (grownCap w n 0 3-n)) 3)):=λty=>by
  have h:=Lib.run_append_grow_zeros (P:=Tryz.prog) w 22 3 ty 3 i0 (.int .i64 0) .i64 .i64 Tryz.underlying22 Tryz.underlying3 hi hz0 none 0 0 [] (by rw[hz1];exact run_firstCells_none w.drew 1 0 0 0) n Y (by rw[hz1];omega) Y Y
   (by rw[hz2];omega) (by rw[Nat.zero_add,hz2];exact growslice_fits Y Y)
  simpa using h
 have hGn:n<=grownCap w n 0 3:=grownCap_ge w _ _ _;obtain ⟨G,hG⟩:∃G,G=grownCap w n 0 3:=⟨_,rfl⟩;rw[<-hG]at hrz hGn;have hGM:G<=maxLen:=by rw[hG];exact grownCap_le_maxLen w n 0 3 (by unfold maxLen;omega)
 have aqV:G<=9223372036854775807:=by unfold maxLen at hGM;omega
 have HM:=Z hGM;clear hG hGM hi hz0 hz1 hz2
 go_enter Tryz.func202,Tryz.ntmps202
 go_wp2_with (at_builtin;refine Lib.wpList_append_run _ rfl _ _ _ _ rfl _ _ rfl rfl _ _ (hrz _) ?_);go_ret;have hcs:(Builtin.zeroCells (Value.int .i64 0).cells n++Builtin.zeroCells (Value.int .i64 0).cells (G-n)).size=G:=by
  have e:(Value.int .i64 0).cells.size=1:=rfl;rw[Array.size_append,size_zeroCells,size_zeroCells,e];omega
 refine ⟨_,_,rfl,⟨ξ,.inr ⟨w.heap.size,G,_,rfl,I,heap_alloc_new w.drew _,Nat.zero_le _,HM.out,hcs.trans (Nat.mul_one G).symm,ξ⟩⟩,?_⟩;exact (Below.refl w w).drew.alloc I _
theorem eN{w:World}{g f:Nat}{l:List Nat}(h:∀i (h:i<l.length),w.cell? ⟨g,f+i,none⟩=some (.int .i64 (l[i]:Int))):∀j u,(bV l)[j]?=some u->w.cell? ((⟨g,f,none⟩:Addr).add j)=some u:=by
 intro j u hj;rw[Addr.add_lit];simp only[bV,List.getElem?_map]at hj;by_cases pJ:j<l.length
 .rw[h j pJ];rw[List.getElem?_eq_getElem pJ]at hj;exact hj
 .rw[List.getElem?_eq_none Y]at hj;cases hj
theorem oO(va vb:Value)(la lb:List Nat)(g c:Nat)(w:World)(ha:IL w va la)(hb:IL w vb lb)(FL:lb≠[])(hlen:la.length+lb.length<=10000000000000)(hg:g<w.heap.size)
  (hc:2<=c/\c<=9223372036854775807) (c0:w.cell? ⟨g,0,none⟩=some va) (c1:w.cell? ⟨g,1,none⟩=some vb) :
  Calls Tryz.prog 188 #[.slice (some ⟨g,0,none⟩) 2 c] w λe w'=>∃v,e=.returned v/\w'.ownsRow w.heap.size 3 1 v (la++lb).length (bV (la++lb))/\Below w.heap.size w w':=by
 obtain ⟨i0,hi,hz0,hz1,hz2⟩:=info_parts gp;have aqW:0<lb.length:=by cases lb with|nil=>exact absurd rfl FL|cons a r=>simp
 have hA:=ha;have HB:=Z hb;obtain ⟨gb,fb,cb,rfl,-,xn,tZ,Lq⟩:=hb.resolve_left (λh=>FL h.1);obtain ⟨A,ca,rfl,U8⟩:=ha.form;have hw1:IntKind.i64.wrap ((la.length:Int)+(lb.length:Int))=((la.length+lb.length:Nat):Int):=by rw[IntWalk.i64_in _ Y];simp
 go_enter Tryz.func188,Tryz.ntmps188
 go_wp2_with fail;refine wp_loop_rounds 3 ?_;rw[rounds_succ];go_wp2_with fail;rw[rounds_succ];go_wp2_with fail;rw[rounds_succ];go_wp2_with fail;refine (Lp (la.length+lb.length) _ Y Y).mono ?_;rintro e w1 ⟨gn,cn,rfl,hown,aY⟩;have c0':=(aY.cl g 0 hg).trans c0;have c1':=(aY.cl g 1 hg).trans c1;have U9:=Z (hA.later aY);have aaQ:w.heap.size<=w1.heap.size:=aY.size;have yA:=Z aY;have HOW:=Z hown;have hsz:=aY.size;have ahu:gb<w1.heap.size:=Y;have Lr:∀i (h:i<lb.length),w1.cell? ⟨gb,fb+i,none⟩=some (.int .i64 (lb[i]:Int)):=λi h=>(aY.cl gb (fb+i) xn).trans (Lq i h);have Ls:=Z Lr;clear hown aY Lr Lq c0 c1 hw1;go_wp2_with fail;rcases hA with ⟨zM,Tq⟩|⟨ga,fa,ca',Tq,zM,Kh,-,Lt⟩
 .injection Tq with e1 e2 e3;subst zM e1 e3;refine wp_loop_rounds 3 ?_;rw[rounds_succ];go_wp2_with (at_builtin;refine wpList_append_own_none rfl _ _ 22 rfl w.heap.size 3 i0 1 Tryz.underlying22 hi _ 0 [] rfl HOW.out rfl ?_);rw[rounds_succ];go_wp2_with (at_builtin;refine wpList_append_own _ rfl _ _ 22 rfl w.heap.size 3 i0 (.int .i64 0) 1 8 Tryz.underlying22 hi hz0 hz1 hz2 rfl O _ _ _ rfl HOW.out ⟨gb,fb,none⟩ lb.length cb (bV lb) rfl (by rw[iD];omega) ?c1 (pG lb) (by unfold maxLen;omega) (by  omega) Y ?_)
  case c1=>first|exact eN Ls.out | (intro j u hj;have:=eN Ls.out j u hj;rwa [Addr.add_lit]at this)
  intro v' w2 bh yB _;have FM:=Z bh;have dr:=Z (yA.out.grown yB aaQ (by intro k hk;simp[Value.ownBlock]at hk;subst hk;exact (HOW.out.lt gn rfl).1))
  clear bh yB;go_wp2_with fail;rw[rounds_succ];go_wp2_with fail;go_ret;refine ⟨_,rfl,?_,dr.out⟩;have:=FM.out;simpa using this
 .injection Tq with e1 e2 e3;subst e1 e3;have aqX:0<la.length:=by cases la with|nil=>exact absurd rfl zM|cons a r=>simp
  have aaR:=Z (λi (h:i<la.length)=>(yA.out.cl ga (fa+i) Kh).trans (Lt i h));clear Lt;refine wp_loop_rounds 3 ?_;rw[rounds_succ];go_wp2_with (at_builtin;refine wpList_append_own _ rfl _ _ 22 rfl w.heap.size 3 i0 (.int .i64 0) 1 8 Tryz.underlying22 hi hz0 hz1 hz2 rfl O _ _ _ rfl HOW.out ⟨ga,fa,none⟩ la.length ca (bV la) rfl (by rw[iD];omega) ?d1 (pG la) (by unfold maxLen;omega) Y Y ?_)
  case d1=>first|exact eN aaR.out | (intro j u hj;have:=eN aaR.out j u hj;rwa [Addr.add_lit]at this)
  intro v' w2 bh yB _;have ahv:w.heap.size<=gn/\gn<w1.heap.size:=HOW.out.lt gn rfl;have PW:g≠gn:=Y;have aqY:gb≠gn:=Y;have aaS:=(χ g 1 (yB.block g Y (by simp[Value.ownBlock];omega))).trans c1'
  have Lu:=Z (λi (h:i<lb.length)=>(χ gb (fb+i) (yB.block gb ahu (by simp[Value.ownBlock];omega))).trans (Ls.out i h))
  try rw[Nat.zero_add,List.nil_append]at bh
  have FM:=Z bh;have vN:=yB.size;have dr:=Z (yA.out.grown yB aaQ (by intro k hk;simp[Value.ownBlock]at hk;subst hk;exact ahv.1))
  obtain ⟨A2,c2,rfl⟩:∃A2 c2,v'=.slice A2 la.length c2:=by
   rcases bh.2 with ⟨-,h⟩|⟨g2,cap,cur,h,-⟩
   .omega
   .exact ⟨_,_,h⟩
  clear bh yB;go_wp2_with fail;rw[rounds_succ];go_wp2_with (at_builtin;refine wpList_append_own _ rfl _ _ 22 rfl w.heap.size 3 i0 (.int .i64 0) 1 8 Tryz.underlying22 hi hz0 hz1 hz2 rfl O _ _ _ rfl FM.out ⟨gb,fb,none⟩ lb.length cb (bV lb) rfl (by rw[iD];omega) ?d2 (pG lb) (by unfold maxLen;omega) Y Y ?_)
  case d2=>first|exact eN Lu.out | (intro j u hj;have:=eN Lu.out j u hj;rwa [Addr.add_lit]at this)
  intro v' w3 cI aaT _;have HO3:=Z cI;have jN:=Z (dr.out.grown aaT Y (by intro k hk;exact (FM.out.lt k hk).1))
  clear cI aaT;go_wp2_with fail;rw[rounds_succ];go_wp2_with fail;go_ret;refine ⟨_,rfl,?_,jN.out⟩;rw[List.length_append,jO];exact HO3.out
def ku(l r:List Nat):Prop:=r.Pairwise (·<·)/\∀p,p∈r↔p∈l
theorem ua{ms:List Int}(hs:ms.Pairwise (·<=·)):(Lib.compact ms).Pairwise (·<·)/\∀x,x∈Lib.compact ms↔x∈ms:=by
 have hget:∀j (h:j<ms.length),ms.toArray[j]! = ms[j]:=λj h=>by simp[h]
 have hle:∀i j (h:i<j) (h2:j<ms.length),ms[i]<=ms[j]:=λi j h h2=>List.pairwise_iff_getElem.1 hs i j Y h2 h;constructor
 .unfold Lib.compact Lib.compactUpTo;rw[List.pairwise_map];have hr:((List.range ms.length).filter (Lib.keeps ms.toArray)).Pairwise (·<·):=List.Pairwise.filter _ List.pairwise_lt_range;refine hr.imp_of_mem λ{i j} hi hj DN=>?_;obtain ⟨iW,-⟩:=List.mem_filter.1 hi;obtain ⟨tv,pJ⟩:=List.mem_filter.1 hj;have tv:=List.mem_range.1 tv;have iW:=List.mem_range.1 iW;unfold Lib.keeps at pJ;have hne:=(of_decide_eq_true pJ).resolve_left Y;rw[hget j tv,hget (j - 1) Y]at hne;rw[hget i iW,hget j tv];have h1:ms[i]<=ms[j - 1]:=by
   by_cases h:i=j - 1
   .subst h;exact Int.le_refl _
   .exact hle i (j - 1) Y Y
  have h2:=hle (j - 1) j Y tv;omega
 .intro x;unfold Lib.compact Lib.compactUpTo;constructor
  .intro h;obtain ⟨j,hj,rfl⟩:=List.mem_map.1 h;have tv:=List.mem_range.1 (List.mem_filter.1 hj).1;rw[hget j tv];exact List.getElem_mem _
  .intro h;obtain ⟨j,hj,rfl⟩:=List.getElem_of_mem h;have key:∀j (hj:j<ms.length),∃k,k∈(List.range ms.length).filter (Lib.keeps ms.toArray)/\ms.toArray[k]! = ms[j]:=by
    intro j
    induction j with
    |zero=>exact λhj=>⟨0,List.mem_filter.2 ⟨List.mem_range.2 hj,by unfold Lib.keeps;simp⟩,hget 0 hj⟩
    |succ j ih=>
     intro hj;by_cases he:ms[j+1]=ms[j]
     .obtain ⟨k,h1,h2⟩:=ih Y;exact ⟨k,h1,by rw[h2,he]⟩
     .refine ⟨j+1,List.mem_filter.2 ⟨List.mem_range.2 hj,?_⟩,hget _ hj⟩;unfold Lib.keeps;rw[hget _ hj,Nat.add_sub_cancel,hget j Y];simp[he]
   obtain ⟨k,h1,h2⟩:=key j hj;exact List.mem_map.2 ⟨k,h1,h2⟩
theorem yC(l:List Nat):∃r:List Nat,Lib.compact ((l.map λ(n:Nat)=>(n:Int)).mergeSort λx y=>decide (x<=y))=r.map (λ(n:Nat)=>(n:Int))/\ku l r:=by
 have oo:=List.mergeSort_perm (l.map λ(n:Nat)=>(n:Int)) (λx y=>decide (x<=y));have hs:((l.map λ(n:Nat)=>(n:Int)).mergeSort λx y=>decide (x<=y)).Pairwise (·<=·):=by
  have:=List.pairwise_mergeSort (le:=λ(x y:Int)=>decide (x<=y)) (λa b c h1 h2=>by simp at *;omega) (λa b=>ψ) (l.map λ(n:Nat)=>(n:Int))
  exact this.imp λh=>by simpa using h
 obtain ⟨h1,h2⟩:=ua hs;generalize Lib.compact ((l.map λ(n:Nat)=>(n:Int)).mergeSort λx y=>decide (x<=y))=c at *;have Dd:∀x∈c,((x.toNat:Nat):Int)=x:=λx hx=>by
  obtain ⟨n,-,rfl⟩:=List.mem_map.1 ((oo.mem_iff).1 ((h2 x).1 hx));simp
 refine ⟨c.map Int.toNat,?_,?_,λp=>?_⟩
 .rw[List.map_map]
  conv=>lhs;rw[<-List.map_id c]
  exact List.map_congr_left λx hx=>(Dd x hx).symm
 .rw[List.pairwise_map];exact h1.imp_of_mem λ{a b} ha hb hab=>by have:=Dd a ha;have:=Dd b hb;omega
 .constructor
  .intro hp;obtain ⟨x,hx,rfl⟩:=List.mem_map.1 hp;obtain ⟨n,hn,rfl⟩:=List.mem_map.1 ((oo.mem_iff).1 ((h2 x).1 hx));simpa using hn
  .intro hp;exact List.mem_map.2 ⟨(p:Int),(h2 _).2 ((oo.mem_iff).2 (List.mem_map.2 ⟨p,hp,rfl⟩)),ξ⟩
theorem Lv(l:List Nat):(l.map λ(n:Nat)=>(n:Int)).map (Value.int .i64)=bV l:=by simp[bV]
theorem iF(v:Value)(l:List Nat)(w:World)(h:IL w v l)(hlen:l.length<=10000000000000):Calls Tryz.prog 138 #[v] w λe w'=>
  ∃v' r,e=.returned v'/\ku l r/\w'.ownsRow w.heap.size 3 1 v' r.length (bV r)/\IL w' v' r/\Below w.heap.size w w':=by
 rcases h with ⟨rfl,rfl⟩|⟨g,f,c,rfl,h0,hg,hc,hcell⟩
 .go_enter Tryz.func138,Tryz.ntmps138
  go_wp2_with (first
   | (go_at_call 72;refine (Tryz.slices_Clone_int_nil _ _ _).mono ?_;rintro e w1 ⟨rfl,rfl⟩)
   | (go_at_call 168;refine (Tryz.slices_Sort_int_none _ _ _).mono ?_;rintro e w1 ⟨rfl,rfl⟩)
   | (go_at_call 169;refine (Tryz.slices_Compact_int_empty _ _ _).mono ?_;rintro e w1 ⟨rfl,rfl⟩))
  go_ret;exact ⟨_,[],rfl,⟨List.Pairwise.nil,λp=>Iff.rfl⟩,World.ownsRow_nil _ _ _ _,.inl ⟨rfl,rfl⟩,υ⟩
 .have hz:l.length=(l.map λ(n:Nat)=>(n:Int)).length:=ξ;have bB:=Tryz.slices_Clone_int g f l.length c (l.map λ(n:Nat)=>(n:Int)) w ξ Y (λj hj=>by
   have pJ:j<l.length:=by simpa using hj
   rw[hcell j pJ];simp[List.getD,List.getElem?_eq_getElem pJ])
  have mJ:=Z bB;have HPL:=Z (yC l);have UY:l.length<=10000000000000:=hlen;have hpos:0<l.length:=by cases l with|nil=>exact absurd rfl h0|cons a r=>simp
  clear bB hcell h0 hz
  go_enter Tryz.func138,Tryz.ntmps138
  go_wp2_with fail;refine mJ.out.mono ?_;rintro e w1 ⟨v1,rfl,hown,hne,hb1⟩;rw[List.take_of_length_le ξ]at hown;obtain ⟨g1,cap,rfl,gL,hlt,yx,Dh,hzl,hH⟩:=Lib.holds_of_ownsRow hown hne;obtain ⟨ms,Qj⟩:∃ms,((l.map λ(n:Nat)=>(n:Int)).mergeSort λx y=>decide (x<=y))=ms:=⟨_,rfl⟩;have zR:ms.length=l.length:=by rw[<-Qj];simp
  have ub:=Tryz.slices_Sort_int g1 0 cap (l.map λ(n:Nat)=>(n:Int)) w1 hH hlt ψ;rw[Qj]at ub HPL;rw[hzl]at ub;have HSO:=Z ub;have HOW:=Z hown;have aX:=Z hb1;have HML:=Z zR;have aqZ:cap<=9223372036854775807:=by unfold maxLen at Dh;omega
  have HCM:=Z Dh;clear ub hown hb1 hne Qj hzl hH zR Dh;go_wp2_with fail;refine HSO.out.mono ?_;rintro e w2 ⟨rfl,q,os,ew⟩
  -- the sorted row
  have Va:w2.ownsRow w.heap.size 3 1 (.slice (some ⟨g1,0,none⟩) l.length cap) l.length (ms.map (Value.int .i64)):=by
   have h1:=Lib.ownsRow_putRow (q:=q) (k:=l.length) (ys:=ms) HOW.out HML.out I;rw[List.take_of_length_le (by rw[HML.out];exact I)]at h1
   rw[ew];exact aG h1 λk hk=>heap_grow_old _ _ (h1.lt k hk).2
  have aJ:Below w.heap.size w w2:=by
   rw[ew];have h1:=Lib.below_putRow (enc:=Value.int .i64) (q:=q) (d:=ms.toArray) aX.out gL;exact h1.trans ⟨rfl,rfl,rfl,by simp[grow],λk hk=>heap_grow_old _ _ (Nat.lt_of_lt_of_le hk h1.size)⟩
  obtain ⟨g9,aq0,hv9,-,-,-,-,Il,hH2⟩:=Lib.holds_of_ownsRow (zs:=ms) Va ξ;injection hv9 with e1 e2 e3;injection e1 with e1;injection e1 with e1;subst e1 e3;have hco:=Tryz.slices_Compact_int g1 0 cap ms w2 hH2 (by rw[Il];omega) (by rw[Il];exact yx)
  rw[Il]at hco;obtain ⟨r,hr,vQ⟩:=HPL.out;have bB:=Lib.compact_length_le ms;have HCO:=Z hco;have FM:=Z Va;have dr:=Z aJ;have HR:=Z hr;have lA:(Lib.compact ms).length=r.length:=by rw[hr,List.length_map]
  rw[lA]at bB HCO;rw[Il]at bB;have HZ:=Z Il;have Pc:=Z lA;clear hco Va aJ hr Il hH2 ew lA;go_wp2_with fail;refine HCO.out.mono ?_;rintro e w3 ⟨rfl,q3,yD⟩;have aaV:w3.ownsRow w.heap.size 3 1 (.slice (some ⟨g1,0,none⟩) r.length cap) r.length (bV r):=by
   have h1:=Lib.ownsRow_putRow (q:=q3) (k:=r.length) (ys:=Lib.compact ms++List.replicate (l.length-r.length) 0) FM.out (by rw[List.length_append,List.length_replicate,Pc.out];omega) bB
   rw[List.take_left' Pc.out,HR.out,Lv]at h1;rw[yD,HR.out];exact h1
  have bW:Below w.heap.size w w3:=by
   rw[yD];exact Lib.below_putRow dr.out gL
  have HO3:=Z aaV;have jN:=Z bW;clear aaV bW yD;go_wp2_with fail;go_ret;refine ⟨_,r,rfl,vQ,HO3.out,IL.fO HO3.out λ_ hre=>?_,jN.out⟩;subst hre
  cases l with
  |nil=>simp at hpos
  |cons a l=>have:=(vQ.2 a).2 ξ;cases this
end
end Go.Proofs.YtdmoogjddmdmbaaGreatDoor
