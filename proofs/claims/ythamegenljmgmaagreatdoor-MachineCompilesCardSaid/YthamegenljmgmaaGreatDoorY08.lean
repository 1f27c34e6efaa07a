/- Walks. -/
import Derived.Test.YthamegenljmgmaaGreatDoorY06
import Derived.Test.YthamegenljmgmaaGreatDoorY07
import Derived.Lib.AppendZerosOnto
import Derived.Lib.SliceRun
import Derived.Lib.OwnBridge
import Derived.LoopN
set_option maxRecDepth 100000
set_option maxHeartbeats 16000000
set_option linter.unusedVariables false
set_option linter.unusedSimpArgs false
namespace Go.Proofs.YthamegenljmgmaaGreatDoor
open Go.RowKit
section
open Go.RowKit Go.Sort
theorem K8(n:Nat)(w:World)(h0:0<n)(hn:n<=15000000000000):Calls Tryz.prog 83 #[(),(n:Int)] w λe w'=>
  ∃g c,e=.returned (.slice (Z g 0) 0 c)/\w'.ownsRow w 3 1 (.slice (Z g 0) 0 c) 0 []/\Below w w w':=by
 obtain ⟨i0,hi,dY,dh,cT⟩:=info_parts dF;have h1:¬((n:Int)<0):=U;have h4:0<(n:Int):=U;have Uv:∀ty,(Builtin.append_ #[22,3] ty #[(),(n:Int)]).run Tryz.prog w =
   .ok (.slice (Z w 0) n (grownCap w n 0 3)) (w.drew.alloc (.cells (Builtin.zeroCells (Value.int .i64 0).cells n++Builtin.zeroCells (Value.int .i64 0).cells (grownCap w n 0 3-n)) 3)):=λty=>by
  have h:=Lib.run_append_grow_zeros (P:=Tryz.prog) w 22 3 ty 3 i0 (.int .i64 0) .i64 .i64 Tryz.underlying22 Tryz.underlying3 hi dY none 0 0 [] (by rw[dh];exact run_firstCells_none w.drew 1 0 0 0) n U (by rw[dh];omega) U U
   (by rw[cT];omega) (by rw[Nat.zero_add,cT];exact growslice_fits U U)
  simpa using h
 have hGn:n<=grownCap w n 0 3:=grownCap_ge w _ _ _;obtain ⟨G,hG⟩:∃G,G=grownCap w n 0 3:=⟨_,rfl⟩;rw[<-hG]at Uv hGn;have hGM:G<=maxLen:=by rw[hG];exact grownCap_le_maxLen w n 0 3 (by unfold maxLen;omega)
 have apH:G<=9223372036854775807:=by unfold maxLen at hGM;omega
 have HM:=Y hGM;clear hG hGM hi dY dh cT
 go_enter Tryz.func83,Tryz.ntmps83
 go_wp2_with (at_builtin;refine Lib.wpList_append_run _ rfl _ _ _ _ rfl _ _ rfl rfl _ _ (Uv _) ?_);go_ret;have bH:(Builtin.zeroCells (Value.int .i64 0).cells n++Builtin.zeroCells (Value.int .i64 0).cells (G-n)).size=G:=by
  have e:(Value.int .i64 0).cells.size=1:=rfl;rw[Array.size_append,size_zeroCells,size_zeroCells,e];omega
 refine ⟨_,_,rfl,⟨H,.inr ⟨w.heap.size,G,_,rfl,V,heap_alloc_new w.drew _,Nat.zero_le _,HM.o,bH.t (Nat.mul_one G).symm,H⟩⟩,?_⟩;exact (Below.refl w w).drew.alloc V _
theorem fR{w:World}{g f:Nat}{l:List Nat}(h:∀i (h:i<l.length),w.cell? (Z g (f+i))=some (.int .i64 (l[i]:Int))):∀j u,(b9 l)[j]?=some u->w.cell? (((Z g f):Addr).add j)=some u:=by
 intro j u hj;rw[Addr.add_lit];simp only[b9,List.getElem?_map]at hj;by_cases j9:j<l.length
 .rw[h j j9];rw[List.getElem?_eq_getElem j9]at hj;exact hj
 .rw[List.getElem?_eq_none U]at hj;cases hj
theorem pX(va vb:Value)(la lb:List Nat)(g c:Nat)(w:World)(ha:IL w va la)(hb:IL w vb lb)(KU:lb≠[])(hlen:la.length+lb.length<=10000000000000)(hg:g<w)
  (hc:2<=c/\c<=9223372036854775807) (c0:w.cell? (Z g 0)=some va) (c1:w.cell? (Z g 1)=some vb) :
  Calls Tryz.prog 64 #[.slice (Z g 0) 2 c] w λe w'=>∃v,e=.returned v/\w'.ownsRow w 3 1 v (la++lb).length (b9 (la++lb))/\Below w w w':=by
 obtain ⟨i0,hi,dY,dh,cT⟩:=info_parts dF;have apI:0<lb.length:=by cases lb with|nil=>exact absurd rfl KU|cons a r=>simp
 have hA:=ha;have HB:=Y hb;obtain ⟨gb,fb,cb,rfl,-,wM,X6,La⟩:=hb.resolve_left (λh=>KU h.1);obtain ⟨A,ca,rfl,hca⟩:=ha.form;have AF:IntKind.i64.wrap ((la.length:Int)+(lb.length:Int))=((la.length+lb.length:Nat):Int):=by rw[IntWalk.i64_in _ U];simp
 go_enter Tryz.func64,Tryz.ntmps64
 go_wp2_with fail;refine wp_loop_rounds 3 ?_;rw[rounds_succ];go_wp2_with fail;rw[rounds_succ];go_wp2_with fail;rw[rounds_succ];go_wp2_with fail;refine (K8 (la.length+lb.length) _ U U).mono ?_;rintro e w1 ⟨gn,cn,rfl,ao,bT⟩;have c0':=(bT.cl g 0 hg).t c0;have ka:=(bT.cl g 1 hg).t c1;have HA1:=Y (hA.later bT);have ZG:w.heap.size<=w1:=bT.size;have pY:=Y bT;have wL:=Y ao;have jn:=bT.size;have agq:gb<w1:=U;have Lb:∀i (h:i<lb.length),w1.cell? (Z gb (fb+i))=some (.int .i64 (lb[i]:Int)):=λi h=>(bT.cl gb (fb+i) wM).t (La i h);have SU:=Y Lb;clear ao bT Lb La c0 c1 AF;go_wp2_with fail;rcases hA with ⟨SB,hva⟩|⟨ga,fa,ca',hva,SB,DH,-,Lc⟩
 .injection hva with e1 e2 e3;subst SB e1 e3;refine wp_loop_rounds 3 ?_;rw[rounds_succ];go_wp2_with (at_builtin;refine wpList_append_own_none rfl _ _ 22 rfl w 3 i0 1 Tryz.underlying22 hi _ 0 [] rfl wL.o rfl ?_);rw[rounds_succ];go_wp2_with (at_builtin;refine wpList_append_own _ rfl _ _ 22 rfl w 3 i0 (.int .i64 0) 1 8 Tryz.underlying22 hi dY dh cT rfl O _ _ _ rfl wL.o (Z gb fb) lb.length cb (b9 lb) rfl (by rw[jO];omega) ?c1 (qH lb) (by unfold maxLen;omega) (by  omega) U ?_)
  case c1=>first|exact fR SU.o | (intro j u hj;have:=fR SU.o j u hj;rwa [Addr.add_lit]at this)
  intro v' w2 cC Br _;have Db:=Y cC;have fS:=Y (pY.grown Br ZG (by intro k hk;simp[Value.ownBlock]at hk;subst hk;exact (wL.lt gn rfl).1))
  clear cC Br;go_wp2_with fail;rw[rounds_succ];go_wp2_with fail;go_ret;refine ⟨_,rfl,?_,fS.o⟩;have:=Db.o;simpa using this
 .injection hva with e1 e2 e3;subst e1 e3;have apK:0<la.length:=by cases la with|nil=>exact absurd rfl SB|cons a r=>simp
  have ZH:=Y (λi (h:i<la.length)=>(pY.cl ga (fa+i) DH).t (Lc i h));clear Lc;refine wp_loop_rounds 3 ?_;rw[rounds_succ];go_wp2_with (at_builtin;refine wpList_append_own _ rfl _ _ 22 rfl w 3 i0 (.int .i64 0) 1 8 Tryz.underlying22 hi dY dh cT rfl O _ _ _ rfl wL.o (Z ga fa) la.length ca (b9 la) rfl (by rw[jO];omega) ?d1 (qH la) (by unfold maxLen;omega) U U ?_)
  case d1=>first|exact fR ZH.o | (intro j u hj;have:=fR ZH.o j u hj;rwa [Addr.add_lit]at this)
  intro v' w2 cC Br _;have ags:w<=gn/\gn<w1:=wL.lt gn rfl;have OD:g≠gn:=U;have apL:gb≠gn:=U;have ZI:=(χ g 1 (Br.block g U (by simp[Value.ownBlock];omega))).t ka
  have FW:=Y (λi (h:i<lb.length)=>(χ gb (fb+i) (Br.block gb agq (by simp[Value.ownBlock];omega))).t (SU i h))
  try rw[Nat.zero_add,List.nil_append]at cC
  have Db:=Y cC;have tV:=Br.size;have fS:=Y (pY.grown Br ZG (by intro k hk;simp[Value.ownBlock]at hk;subst hk;exact ags.1))
  obtain ⟨A2,c2,rfl⟩:∃A2 c2,v'=.slice A2 la.length c2:=by
   rcases cC.2 with ⟨-,h⟩|⟨g2,cap,cur,h,-⟩
   .omega
   .exact ⟨_,_,h⟩
  clear cC Br;go_wp2_with fail;rw[rounds_succ];go_wp2_with (at_builtin;refine wpList_append_own _ rfl _ _ 22 rfl w 3 i0 (.int .i64 0) 1 8 Tryz.underlying22 hi dY dh cT rfl O _ _ _ rfl Db.o (Z gb fb) lb.length cb (b9 lb) rfl (by rw[jO];omega) ?d2 (qH lb) (by unfold maxLen;omega) U U ?_)
  case d2=>first|exact fR FW.o | (intro j u hj;have:=fR FW.o j u hj;rwa [Addr.add_lit]at this)
  intro v' w3 pI ZJ _;have HO3:=Y pI;have oq:=Y (fS.grown ZJ U (by intro k hk;exact (Db.lt k hk).1))
  clear pI ZJ;go_wp2_with fail;rw[rounds_succ];go_wp2_with fail;go_ret;refine ⟨_,rfl,?_,oq.o⟩;rw[List.length_append,jP];exact HO3.o
def my(l r:List Nat):Prop:=r.Pairwise (·<·)/\∀p,p∈r↔p∈l
theorem uM{ms:List Int}(hs:ms.Pairwise (·<=·)):(Lib.compact ms).Pairwise (·<·)/\∀x,x∈Lib.compact ms↔x∈ms:=by
 have y9:∀j (h:j<ms.length),ms.toArray[j]! = ms[j]:=λj h=>by simp[h]
 have hle:∀i j (h:i<j) (h2:j<ms.length),ms[i]<=ms[j]:=λi j h h2=>List.pairwise_iff_getElem.1 hs i j U h2 h;constructor
 .unfold Lib.compact Lib.compactUpTo;rw[List.pairwise_map];have hr:((List.range ms.length).filter (Lib.keeps ms.toArray)).Pairwise (·<·):=List.Pairwise.filter _ List.pairwise_lt_range;refine hr.imp_of_mem λ{i j} hi hj OJ=>?_;obtain ⟨fs,-⟩:=List.mem_filter.1 hi;obtain ⟨iI,j9⟩:=List.mem_filter.1 hj;have iI:=List.mem_range.1 iI;have fs:=List.mem_range.1 fs;unfold Lib.keeps at j9;have bf:=(of_decide_eq_true j9).resolve_left U;rw[y9 j iI,y9 (j - 1) U]at bf;rw[y9 i fs,y9 j iI];have h1:ms[i]<=ms[j - 1]:=by
   by_cases h:i=j - 1
   .subst h;exact Int.le_refl _
   .exact hle i (j - 1) U U
  have h2:=hle (j - 1) j U iI;omega
 .intro x;unfold Lib.compact Lib.compactUpTo;constructor
  .intro h;obtain ⟨j,hj,rfl⟩:=List.mem_map.1 h;have iI:=List.mem_range.1 (List.mem_filter.1 hj).1;rw[y9 j iI];exact List.getElem_mem _
  .intro h;obtain ⟨j,hj,rfl⟩:=List.getElem_of_mem h;have key:∀j (hj:j<ms.length),∃k,k∈(List.range ms.length).filter (Lib.keeps ms.toArray)/\ms.toArray[k]! = ms[j]:=by
    intro j
    induction j with
    |zero=>exact λhj=>⟨0,List.mem_filter.2 ⟨List.mem_range.2 hj,by unfold Lib.keeps;simp⟩,y9 0 hj⟩
    |succ j ih=>
     intro hj;by_cases he:ms[j+1]=ms[j]
     .obtain ⟨k,h1,h2⟩:=ih U;exact ⟨k,h1,by rw[h2,he]⟩
     .refine ⟨j+1,List.mem_filter.2 ⟨List.mem_range.2 hj,?_⟩,y9 _ hj⟩;unfold Lib.keeps;rw[y9 _ hj,Nat.add_sub_cancel,y9 j U];simp[he]
   obtain ⟨k,h1,h2⟩:=key j hj;exact List.mem_map.2 ⟨k,h1,h2⟩
theorem za(l:List Nat):∃r:List Nat,Lib.compact ((l.map λ(n:Nat)=>(n:Int)).mergeSort λx y=>decide (x<=y))=r.map (λ(n:Nat)=>(n:Int))/\my l r:=by
 have Ld:=List.mergeSort_perm (l.map λ(n:Nat)=>(n:Int)) (λx y=>decide (x<=y));have hs:((l.map λ(n:Nat)=>(n:Int)).mergeSort λx y=>decide (x<=y)).Pairwise (·<=·):=by
  have:=List.pairwise_mergeSort (le:=λ(x y:Int)=>decide (x<=y)) (λa b c h1 h2=>by simp at *;omega) (λa b=>ψ) (l.map λ(n:Nat)=>(n:Int))
  exact this.imp λh=>by simpa using h
 obtain ⟨h1,h2⟩:=uM hs;generalize Lib.compact ((l.map λ(n:Nat)=>(n:Int)).mergeSort λx y=>decide (x<=y))=c at *;have tS:∀x∈c,((x.toNat:Nat):Int)=x:=λx hx=>by
  obtain ⟨n,-,rfl⟩:=List.mem_map.1 ((Ld.mem_iff).1 ((h2 x).1 hx));simp
 refine ⟨c.map Int.toNat,?_,?_,λp=>?_⟩
 .rw[List.map_map]
  conv=>lhs;rw[<-List.map_id c]
  exact List.map_congr_left λx hx=>(tS x hx).symm
 .rw[List.pairwise_map];exact h1.imp_of_mem λ{a b} ha hb hab=>by have:=tS a ha;have:=tS b hb;omega
 .constructor
  .intro hp;obtain ⟨x,hx,rfl⟩:=List.mem_map.1 hp;obtain ⟨n,hn,rfl⟩:=List.mem_map.1 ((Ld.mem_iff).1 ((h2 x).1 hx));simpa using hn
  .intro hp;exact List.mem_map.2 ⟨(p:Int),(h2 _).2 ((Ld.mem_iff).2 (List.mem_map.2 ⟨p,hp,rfl⟩)),H⟩
theorem Le(l:List Nat):(l.map λ(n:Nat)=>(n:Int)).map (Value.int .i64)=b9 l:=by simp[b9]
theorem jR(v:Value)(l:List Nat)(w:World)(h:IL w v l)(hlen:l.length<=10000000000000):Calls Tryz.prog 22 #[v] w λe w'=>
  ∃v' r,e=.returned v'/\my l r/\w'.ownsRow w 3 1 v' r.length (b9 r)/\IL w' v' r/\Below w w w':=by
 rcases h with ⟨rfl,rfl⟩|⟨g,f,c,rfl,h0,hg,hc,ak⟩
 .go_enter Tryz.func22,Tryz.ntmps22
  go_wp2_with (first
   | (go_at_call 42;refine (Tryz.slices_Clone_int_nil _ _ _).mono ?_;rintro e w1 ⟨rfl,rfl⟩)
   | (go_at_call 43;refine (Tryz.slices_Sort_int_none _ _ _).mono ?_;rintro e w1 ⟨rfl,rfl⟩)
   | (go_at_call 44;refine (Tryz.slices_Compact_int_empty _ _ _).mono ?_;rintro e w1 ⟨rfl,rfl⟩))
  go_ret;exact ⟨_,[],rfl,⟨List.Pairwise.nil,λp=>Iff.rfl⟩,World.ownsRow_nil _ _ _ _,.inl ⟨rfl,rfl⟩,D⟩
 .have hz:l.length=(l.map λ(n:Nat)=>(n:Int)).length:=H;have dj:=Tryz.slices_Clone_int g f l.length c (l.map λ(n:Nat)=>(n:Int)) w H U (λj hj=>by
   have j9:j<l.length:=by simpa using hj
   rw[ak j j9];simp[List.getD,List.getElem?_eq_getElem j9])
  have nJ:=Y dj;have HPL:=Y (za l);have SV:l.length<=10000000000000:=hlen;have fH:0<l.length:=by cases l with|nil=>exact absurd rfl h0|cons a r=>simp
  clear dj ak h0 hz
  go_enter Tryz.func22,Tryz.ntmps22
  go_wp2_with fail;refine nJ.mono ?_;rintro e w1 ⟨v1,rfl,ao,bf,aM⟩;rw[List.take_of_length_le H]at ao;obtain ⟨g1,cap,rfl,Yh,aB,AG,tY,Yj,hH⟩:=Lib.holds_of_ownsRow ao bf;obtain ⟨ms,hms⟩:∃ms,((l.map λ(n:Nat)=>(n:Int)).mergeSort λx y=>decide (x<=y))=ms:=⟨_,rfl⟩;have SR:ms.length=l.length:=by rw[<-hms];simp
  have uN:=Tryz.slices_Sort_int g1 0 cap (l.map λ(n:Nat)=>(n:Int)) w1 hH aB ψ;rw[hms]at uN HPL;rw[Yj]at uN;have HSO:=Y uN;have wL:=Y ao;have cM:=Y aM;have UE:=Y SR;have apM:cap<=9223372036854775807:=by unfold maxLen at tY;omega
  have HCM:=Y tY;clear uN ao aM bf hms Yj hH SR tY;go_wp2_with fail;refine HSO.mono ?_;rintro e w2 ⟨rfl,q,os,eh⟩
  -- the sorted row
  have UF:w2.ownsRow w 3 1 (.slice (Z g1 0) l.length cap) l.length (ms.map (Value.int .i64)):=by
   have h1:=Lib.ownsRow_putRow (q:=q) (k:=l.length) (ys:=ms) wL.o UE.o V;rw[List.take_of_length_le (by rw[UE.o];exact V)]at h1
   rw[eh];exact ar h1 λk hk=>heap_grow_old _ _ (h1.lt k hk).2
  have aS:Below w w w2:=by
   rw[eh];have h1:=Lib.below_putRow (enc:=Value.int .i64) (q:=q) (d:=ms.toArray) cM.o Yh;exact h1.t ⟨rfl,rfl,rfl,by simp[grow],λk hk=>heap_grow_old _ _ (Nat.lt_of_lt_of_le hk h1.size)⟩
  obtain ⟨g9,apN,hv9,-,-,-,-,zc,hH2⟩:=Lib.holds_of_ownsRow (zs:=ms) UF H;injection hv9 with e1 e2 e3;injection e1 with e1;injection e1 with e1;subst e1 e3;have hco:=Tryz.slices_Compact_int g1 0 cap ms w2 hH2 (by rw[zc];omega) (by rw[zc];exact AG)
  rw[zc]at hco;obtain ⟨r,hr,nT⟩:=HPL.o;have dj:=Lib.compact_length_le ms;have HCO:=Y hco;have Db:=Y UF;have fS:=Y aS;have HR:=Y hr;have iy:(Lib.compact ms).length=r.length:=by rw[hr,List.length_map]
  rw[iy]at dj HCO;rw[zc]at dj;have HZ:=Y zc;have wG:=Y iy;clear hco UF aS hr zc hH2 eh iy;go_wp2_with fail;refine HCO.mono ?_;rintro e w3 ⟨rfl,q3,SW⟩;have ZK:w3.ownsRow w 3 1 (.slice (Z g1 0) r.length cap) r.length (b9 r):=by
   have h1:=Lib.ownsRow_putRow (q:=q3) (k:=r.length) (ys:=Lib.compact ms++List.replicate (l.length-r.length) 0) Db.o (by rw[List.length_append,List.length_replicate,wG.o];omega) dj
   rw[List.take_left' wG.o,HR.o,Le]at h1;rw[SW,HR.o];exact h1
  have pZ:Below w w w3:=by
   rw[SW];exact Lib.below_putRow fS.o Yh
  have HO3:=Y ZK;have oq:=Y pZ;clear ZK pZ SW;go_wp2_with fail;go_ret;refine ⟨_,r,rfl,nT,HO3.o,IL.ia HO3.o λ_ hre=>?_,oq.o⟩;subst hre
  cases l with
  |nil=>simp at fH
  |cons a l=>have:=(nT.2 a).2 H;cases this
end
end Go.Proofs.YthamegenljmgmaaGreatDoor
