/- Walk: machine.Reach. · entropy.Log, Counts, Measure. · entropy.Measure. · Walks: machine.least. Conditions: what machine.classes answers, as laid. · Walk: machine.Valid at a valid machine. · Walk: ref06.Valid at a valid machine. · Walk: ref06.Equal at valid machines. · Rows of bytes in which one byte is changed; a row of bytes as a slice that reads. · Walks: the reader of patterns at one text: its set. · Walks: the reader of patterns at one text: a set of digits. · Walks: the reader of patterns at one text: an item. · Walks: the reader of patterns at one text: an item. · Walks: the reader of patterns at one text: lists of one part, the sequence, the choice. · Walks: the reader of patterns at one text: the choice. -/
import Derived.Test.YtljgapfmgegifaaGreatDoorV16
import Derived.Test.YtljgapfmgegifaaGreatDoorV05
import Derived.Test.YtljgapfmgegifaaGreatDoorV19
import Derived.Test.YtljgapfmgegifaaGreatDoorV01
import Derived.Test.YtljgapfmgegifaaGreatDoorV14
import Derived.Test.YtljgapfmgegifaaGreatDoorV09
import Derived.Deep.WholeRow
import Derived.Laws.Rows
import Derived.Test.YtljgapfmgegifaaGreatDoorV04
import Derived.Test.YtljgapfmgegifaaGreatDoorV06
import Derived.Test.YtljgapfmgegifaaGreatDoorV15
import Derived.Test.YtljgapfmgegifaaGreatDoorV11
namespace Go.Proofs.YtljgapfmgegifaaGreatDoor
set_option linter.unusedVariables false
set_option linter.unusedSimpArgs false
set_option maxRecDepth 100000
open Go.RowKit
def inC (n:Nat):List Value:=[.int .i64 (n:Int)]
def ByIn (w:World) (v:Value) (l:List Nat):Prop:=∃A c,v = .slice A l.length c/\(l.length<=c/\c<=9223372036854775807)/\(l=[]\/∃g f,A=some ⟨g,f,none⟩/\g<w.heap.size/\∀i (h:i<l.length),w.cell? ⟨g,f+i,none⟩=some (.int .u8 (l[i]:Int)))
theorem ByIn.later {w w':World} {v:Value} {l:List Nat} (h:ByIn w v l) (hb:Below w.heap.size w w'):ByIn w' v l:=by
 obtain ⟨A,c,e,hc,h⟩:=h;refine ⟨A,c,e,hc,h.imp id ?_⟩;rintro ⟨g,f,h1,hg,hcell⟩;exact ⟨g,f,h1,Nat.lt_of_lt_of_le hg hb.size,λi hi=>(hb.cell (p:=⟨g,f+i,none⟩) hg).trans (hcell i hi)⟩
def RhPost (l:List Nat) (w:World) (e:Ending) (w':World):Prop:=∃rv,e = .returned rv/\OR 3 1 inC w.heap.size rv l w'/\Below w.heap.size w w'
structure RhW (w:World) (ve va v:Value) (o:List Nat) (wr:World):Prop where
 own:OR 3 1 inC (w.heap.size+1) v o wr
 bel:Below w.heap.size w wr
 siz:w.heap.size+1<=wr.heap.size
 box:wr.heap[w.heap.size]?=some (.cells #[ve,va] 85 (0,0))
def RhI (m:Mc) (bs:List Nat) (R:List Nat) (o:List Nat) (sx:Int) (k:Nat):Prop:=(sx=-1/\o=R)\/∃s:Nat,sx=(s:Int)/\s<m.ed.length/\k<=bs.length/\o++rchF m (bs.drop k) s k=R
set_option maxHeartbeats 4000000 in
theorem log_any (n:Nat) (w:World) (hn:n<=4611686018427387904):Calls Tryz.prog 62 #[.int .i64 (n:Int)] w λe w'=>e = .returned (.int .i64 ((logF n:Nat):Int))/\w'=w:=by
 by_cases h1:n<1
 .have d1:decide ((n:Int)<1)=true:=decide_eq_true (by omega)
  have hz:logF n=0:=by unfold logF;rw[if_pos (.inl h1)]
  rw[hz]
  go_enter Tryz.func62,Tryz.ntmps62
  go_wp2_with fail;go_ret;exact ⟨rfl,rfl⟩
 have d1:decide ((n:Int)<1)=false:=decide_eq_false (by omega)
 by_cases h2:1073741824<n
 .have d2:decide (1073741824<(n:Int))=true:=decide_eq_true (by omega)
  have hz:logF n=0:=by unfold logF;rw[if_pos (.inr h2)]
  rw[hz]
  go_enter Tryz.func62,Tryz.ntmps62
  go_wp2_with fail;go_ret;exact ⟨rfl,rfl⟩
 have d2:decide (1073741824<(n:Int))=false:=decide_eq_false (by omega)
 obtain ⟨y1,y2,y3,y4⟩:=lgY_is (n:=n) (by omega) (by omega)
 have hL:=inL_start (n:=n) (by omega) (by omega)
 have hlog:logF n=(itL 16 (lgY n,n*2 ^ (30-lgY n))).1:=by unfold logF;rw[if_neg (by omega)]
 have hbl:Lib.bitLen (n:Int).toNat=lgY n+1:=by rw[Int.toNat_natCast];exact y4
 rw[hlog];obtain ⟨y,hy⟩:∃y,lgY n=y:=⟨_,rfl⟩;rw[hy]at hL y3 hbl|-;obtain ⟨x,hx⟩:∃x,n*2 ^ (30-y)=x:=⟨_,rfl⟩;rw[hx]at hL|-;have HX:=Lib.hid (And.intro hx hL);have HB:=Lib.hid λW=>by have h:=Tryz.bits_Len (n:Int) W (by omega) (by omega);rw[hbl]at h;exact h
 have hsh:wrap64 ((n:Int)*2 ^ (30-y))=(x:Int):=by
  have e:(n:Int)*2 ^ (30-y)=(x:Int):=by rw[<-hx];push_cast;rfl
  rw[e];exact IntWalk.wrap64_in _ (by have:=hL.2;omega)
 clear hlog hbl y1 y2 y4 hL hx hy
 go_enter Tryz.func62,Tryz.ntmps62
 go_wp2_with fail;refine (HB.out w).mono ?_;rintro e w1 ⟨rfl,rfl⟩;go_wp2_with fail;rw[hsh];clear hsh
 go_loopw [3,4,19] (λyv xv iv wr=>∃k y1 x1:Nat,k<=16/\iv = .int .i64 (k:Int)/\yv = .int .i64 (y1:Int)/\xv = .int .i64 (x1:Int)/\Hid (InL x1/\y1+1<=31*2 ^ k/\itL (16-k) (y1,x1)=itL 16 (y,x))/\wr=w1) (λ_ _ iv _=>16 - (intOf iv).toNat)
 case atStart=>exact ⟨0,y,x,by omega,rfl,rfl,rfl,⟨HX.out.2,by omega,rfl⟩,rfl⟩
 case round=>
  obtain ⟨k,y1,x1,hk,rfl,rfl,rfl,HR,rfl⟩:=hrel;by_cases hlt:k<16
  .have hd:decide ((k:Int)<16)=true:=decide_eq_true (by omega)
   have hdn:decide (k<16)=true:=decide_eq_true hlt;obtain ⟨s1,s2,s3⟩:=inL_sq HR.out.1;have hpk:2 ^ k<=2 ^ 15:=Nat.pow_le_pow_right (by decide) (by omega)
   have hyb:=HR.out.2.1;have hstp:itL (16 - (k+1)) (stL (y1,x1))=itL 16 (y,x):=by rw[<-HR.out.2.2,show 16-k=(16 - (k+1))+1 by omega];rfl
   have hyk:2*y1+1+1<=31*2 ^ (k+1):=by rw[Nat.pow_succ];omega
   obtain ⟨q,hq⟩:∃q,x1*x1=q:=⟨_,rfl⟩;obtain ⟨d,hdv⟩:∃d,q / 1073741824=d:=⟨_,rfl⟩;have hqi:(x1:Int)*(x1:Int)=(q:Int):=by rw[<-hq];push_cast;rfl
   have hdi:(q:Int).tdiv 1073741824=(d:Int):=by rw[<-hdv];exact Int.ofNat_tdiv q 1073741824
   have hst:stL (y1,x1)=if 2147483648<=d then (2*y1+1,d / 2) else (2*y1,d):=by
    unfold stL;simp only[hq,hdv]
   have hin:=inL_step (p:=(y1,x1)) HR.out.1;rw[hst]at hstp hin;rw[hq]at s1 s2 s3;rw[hdv]at s1 s2;have hw1:wrap64 (q:Int)=(q:Int):=IntWalk.wrap64_in _ (by omega)
   have hw2:wrap64 (d:Int)=(d:Int):=IntWalk.wrap64_in _ (by omega)
   have hw3:wrap64 ((y1:Int)*2)=(y1:Int)*2:=IntWalk.wrap64_in _ (by omega)
   have hw4:wrap64 ((y1:Int)*2+1)=(y1:Int)*2+1:=IntWalk.wrap64_in _ (by omega)
   have HQ:=Lib.hid (And.intro hstp (And.intro hin hyk));have hyl:y1<=2000000:=by omega
   clear hst hstp hin hyk hyb hpk hq hdv s3;by_cases hc:2147483648<=d
   .have hdc:decide (2147483648<=(d:Int))=true:=decide_eq_true (by omega)
    have hdcn:decide (2147483648<=d)=true:=decide_eq_true hc;have HQ2:=HQ.out;rw[if_pos hc]at HQ2;have HQ3:=Lib.hid HQ2;have hd2:(d:Int).tdiv 2=((d / 2:Nat):Int):=Int.ofNat_tdiv d 2;obtain ⟨d2,hd2e⟩:∃d2,d / 2=d2:=⟨_,rfl⟩;rw[hd2e]at hd2;have hw5:wrap64 (d2:Int)=(d2:Int):=IntWalk.wrap64_in _ (by omega)
    have HD2:=Lib.hid hd2e;clear HQ2 hd2e;go_wp2_with fail;go_roundw
    case rel=>exact ⟨k+1,2*y1+1,d2,by omega,by go_num,by go_num,by rw[hw5],⟨by rw[<-HD2.out];exact HQ3.out.2.1,by have:=HQ3.out.2.2;omega,by rw[<-HD2.out];exact HQ3.out.1⟩,trivial⟩
    case measure=>simp[intOf];omega
   .have hdc:decide (2147483648<=(d:Int))=false:=decide_eq_false (by omega)
    have hdcn:decide (2147483648<=d)=false:=decide_eq_false hc;have HQ2:=HQ.out;rw[if_neg hc]at HQ2;have HQ3:=Lib.hid HQ2;clear HQ2;go_wp2_with fail;go_roundw
    case rel=>exact ⟨k+1,2*y1,d,by omega,by go_num,by go_num,rfl,⟨HQ3.out.2.1,by have:=HQ3.out.2.2;omega,HQ3.out.1⟩,trivial⟩
    case measure=>simp[intOf];omega
  .obtain rfl:k=16:=by omega
   have hR:=HR.out.2.2;rw[Nat.sub_self]at hR;have HF:=Lib.hid (show (itL 16 (y,x)).1=y1 by rw[<-hR];rfl)
   clear hR;go_wp2_with fail;go_ret;exact ⟨by rw[HF.out];rfl,rfl⟩
def cntV (l:List Nat):List Value:=(List.range 256).map λc=>.int .i64 ((l.count c:Nat):Int)
theorem cntV_len (l:List Nat):(cntV l).length=256:=by simp[cntV]
theorem cntV_at (l:List Nat) (c:Nat) (hc:c<256):(cntV l)[c]?=some (.int .i64 ((l.count c:Nat):Int)):=by
 unfold cntV;rw[List.getElem?_map,List.getElem?_range hc];rfl
theorem cntV_snoc (l:List Nat) (c:Nat) (hc:c<256):cntV (l++[c])=(cntV l).set c (.int .i64 ((l.count c:Nat)+1:Int)):=by
 refine List.ext_getElem? λi=>?_;by_cases hi:i<256
 .rw[cntV_at _ i hi,List.getElem?_set];by_cases h:c=i
  .subst h;rw[if_pos rfl,if_pos (by rw[cntV_len];exact hc)]
   simp
  .rw[if_neg h,cntV_at _ i hi,List.count_append];simp[List.count_singleton,h]
 .rw[List.getElem?_eq_none (by rw[cntV_len];omega),List.getElem?_eq_none (by rw[List.length_set,cntV_len];omega)]
theorem cntV_one (l:List Nat):∀v∈cntV l,v.oneCell'=true:=by
 intro v hv;unfold cntV at hv;obtain ⟨c,-,rfl⟩:=List.mem_map.1 hv
 rfl
theorem info_cnt:(Tryz.prog.info? 99).map (λi=>(i.zero,i.size))=some (some (.agg (Array.replicate 256 (.int .i64 0))),256):=by kernel_rfl
theorem cntV_nil:cntV []=List.replicate 256 (.int .i64 0):=by
 refine List.ext_getElem? λi=>?_;by_cases hi:i<256
 .rw[cntV_at _ i hi,List.getElem?_replicate,if_pos hi];rfl
 .rw[List.getElem?_eq_none (by rw[cntV_len];omega),List.getElem?_eq_none (by simp;omega)]
theorem st_row {W:World} {g:Nat} {old:Array Value} (l:List Value) (h:W.heap[g]?=some (.cells old 99 (0,0))) (ho:old.size=256) (hr:l.length=256) (h1:∀v∈l,v.oneCell'=true):(storeCells ⟨g,0,none⟩ l 0).run Tryz.prog W = .ok () (W.setRow g l.toArray):=by
 have hi:=(zero_of_info info_cnt).2;have:=run_storeVar_row (P:=Tryz.prog) W g 99 99 old l.toArray h (by simp only[List.size_toArray,hr];exact hi) (by simp;omega) (Array.all_eq_true_iff_forall_mem.2 λv hv=>h1 v (by simpa using hv))
 cases hq:Tryz.prog.info? 99 with
 | none=>simp[hq]at hi
 | some i=>
  have hs:l.length=i.size:=by simp[hq]at hi;omega
  simpa [storeVar,sizeOf,typeInfo,hq,Value.cells,hs] using this
set_option maxHeartbeats 4000000 in
theorem counts_any (A:Option Addr) (n c:Nat) (bs:List Nat) (w:World) (hb:ByIn w (.slice A n c) bs) (hn:bs.length=n) (hby:∀b∈bs,b<256):Calls Tryz.prog 61 #[.slice A n c] w λe w'=>e = .returned (.agg (cntV (if 65536<bs.length then [] else bs)).toArray)/\Below w.heap.size w w':=by
 have hzv:=(zero_of_info info_cnt).1;have hinf:=(zero_of_info info_cnt).2;have hnc:n<=c/\c<=9223372036854775807:=by
  obtain ⟨A',c',e,h1,-⟩:=hb;injection e with _ e2 e3;omega
 have hn63:(n:Int)<=9223372036854775807:=by omega
 obtain ⟨RR,hRR⟩:∃R,(if 65536<bs.length then [] else bs)=R:=⟨_,rfl⟩;rw[hRR];have HRS:=Lib.hid hRR;have HB:=Lib.hid (And.intro hb (And.intro hn hby));clear hb hn hby hRR
 go_enter Tryz.func61,Tryz.ntmps61
 go_upto_region 2 with fail
 refine wp_nm λW0 hW0=>?_;have hWa:W0=allocs w [(Array.replicate 256 (.int .i64 0),99),(Array.replicate 256 (.int .i64 0),99)]:=by rw[hW0];rfl
 have hA0:W0.heap[w.heap.size]?=some (.cells (Array.replicate 256 (.int .i64 0)) 99 (0,0)):=by rw[hWa];exact allocs_at 0 rfl
 have hA1:W0.heap[w.heap.size+1]?=some (.cells (cntV []).toArray 99 (0,0)):=by
  have e:(cntV []).toArray=Array.replicate 256 (.int .i64 0):=by rw[cntV_nil,List.toArray_replicate]
  rw[hWa,e];exact allocs_at 1 rfl
 have hb0:Below w.heap.size w W0:=by rw[hWa];exact allocs_below _ _
 clear hW0 hWa hzv;by_cases hbig:65536<n
 .have d:decide (65536<(n:Int))=true:=decide_eq_true (by omega)
  have H0:=Lib.hid (And.intro hA0 (And.intro hA1 hb0));clear hA0 hA1 hb0;go_wp2_with fail;refine wp_load_row 99 (.tmp 3) rfl (w.heap.size+1) rfl 99 (cntV []).toArray (0,0) _ H0.out.2.1 Tryz.underlying99 rfl (by simp only[List.size_toArray,cntV_len];exact hinf) ?_
  have hst:=st_row (cntV []) H0.out.1 (by simp) (cntV_len _) (cntV_one [])
  go_wp2_with fail;refine post_named λWf hWf=>?_;have hrow:Wf.heap[w.heap.size]?=some (.cells (cntV []).toArray 99 (0,0)):=by rw[hWf];exact setRow_heap _ _ _ _ _ _ H0.out.1
  refine bodyPost_ret (v:=.agg (cntV []).toArray) (results_cell_row (p:=2) rfl _ _ w.heap.size 99 _ (0,0) _ rfl hrow Tryz.underlying99 rfl (by simp only[List.size_toArray,cntV_len];exact hinf)) rfl ?_
  refine ⟨by rw[<-HRS.out,if_pos (by rw[HB.out.2.1];exact hbig)],?_⟩
  rw[hWf];exact ⟨H0.out.2.2.os,H0.out.2.2.tape,H0.out.2.2.output,by rw[setRow_size];exact H0.out.2.2.size,λk hk=>(setRow_other _ _ _ _ (by omega)).trans (H0.out.2.2.block k hk)⟩
 .have d:decide (65536<(n:Int))=false:=decide_eq_false (by omega)
  have l1:w.heap.size+1<W0.heap.size:=(Array.getElem?_eq_some_iff.1 hA1).1;have H0:=Lib.hid (And.intro hA0 (And.intro hA1 (And.intro hb0 l1)));clear hA0 hA1 hb0 l1;go_wp2_with fail
  go_loopw [12] (λi wr=>∃k:Nat,k<=n/\i = .int .i64 (k:Int)/\Hid (wr.heap[w.heap.size]?=some (.cells (Array.replicate 256 (.int .i64 0)) 99 (0,0))/\wr.heap[w.heap.size+1]?=some (.cells (cntV (bs.take k)).toArray 99 (0,0))/\Below w.heap.size w wr)) (λi _=>n - (intOf i).toNat)
  case atStart=>exact ⟨0,by omega,rfl,H0.out.1,H0.out.2.1,H0.out.2.2.1⟩
  case round=>
   obtain ⟨k,hk,rfl,HR⟩:=hrel;by_cases hlt:k<n
   .have hd:decide ((k:Int)<(n:Int))=true:=decide_eq_true (by omega)
    have hdn:decide (k<n)=true:=decide_eq_true hlt;have hkb:k<bs.length:=by have:=HB.out.2.1;omega
    obtain ⟨A',c',e0,-,hor⟩:=HB.out.1;injection e0 with e1 e2 e3;obtain ⟨g,f,hA,hg,hcl⟩:=hor.resolve_left (by rintro rfl;cases hkb)
    subst hA;subst e1;have q0:wr.cell? ⟨g,f+k,none⟩=some (.int .u8 ((bs[k]:Nat):Int)):=(HR.out.2.2.cell (p:=⟨g,f+k,none⟩) hg).trans (hcl k hkb);have hb256:bs[k]<256:=HB.out.2.2 _ (List.getElem_mem hkb);obtain ⟨x,hx⟩:∃x,bs[k]=x:=⟨_,rfl⟩;rw[hx]at q0 hb256;have hgr:g<wr.heap.size:=Nat.lt_of_lt_of_le hg HR.out.2.2.size;have hcx:wr.cell? ⟨w.heap.size+1,x,none⟩=some (.int .i64 (((bs.take k).count x:Nat):Int)):=by
     rw[cell_of_row _ _ _ _ _ _ HR.out.2.1];rw[List.getElem?_toArray,cntV_at _ x hb256]
    have hfx:wr.frozen? ⟨w.heap.size+1,x,none⟩=false:=frozen_of_row _ _ _ _ _ HR.out.2.1;have hxl:(x:Int)<256:=by omega
    have hcl':(bs.take k).count x<=65536:=by
     have:=List.count_le_length (a:=x) (l:=bs.take k);rw[List.length_take]at this;omega
    obtain ⟨y,hy⟩:∃y,(bs.take k).count x=y:=⟨_,rfl⟩;rw[hy]at hcx hcl';have hw1:wrap64 ((y:Int)+1)=(y:Int)+1:=IntWalk.wrap64_in _ (by omega)
    have lw:w.heap.size+1<wr.heap.size:=(Array.getElem?_eq_some_iff.1 HR.out.2.1).1;have HX:=Lib.hid (And.intro hx (And.intro hy hkb));clear hx hy hor hcl;go_wp2_with fail;go_roundw
    case rel=>exact ⟨k+1,by omega,by go_num,(Below.heap_setCell _ ⟨w.heap.size+1,x,none⟩ _ _ (by show w.heap.size≠w.heap.size+1;omega)).trans HR.out.1,by
     have h9:=set_row3 HR.out.2.1 x (.int .i64 ((y:Int)+1));rw[show bs.take (k+1)=bs.take k++[x] from by rw[<-HX.out.1];exact List.take_succ_eq_append_getElem HX.out.2.2,cntV_snoc _ x hb256,HX.out.2.1]
     simpa using h9,HR.out.2.2.setCell (p:=⟨w.heap.size+1,x,none⟩) (by show w.heap.size<=w.heap.size+1;omega) _⟩
    case measure=>simp[intOf];omega
   .obtain rfl:k=n:=by omega
    have hd:decide ((k:Int)<(k:Int))=false:=decide_eq_false (by omega)
    have hdn:decide (k<k)=false:=decide_eq_false (by omega)
    have htk:bs.take k=bs:=by rw[<-HB.out.2.1,List.take_length]
    have hR:=HR.out;rw[htk]at hR;have HRR:=Lib.hid hR;clear hR htk;go_wp2_with fail;refine wp_load_row 99 (.tmp 3) rfl (w.heap.size+1) rfl 99 (cntV bs).toArray (0,0) _ HRR.out.2.1 Tryz.underlying99 rfl (by simp only[List.size_toArray,cntV_len];exact hinf) ?_
    have hst:=st_row (cntV bs) HRR.out.1 (by simp) (cntV_len _) (cntV_one bs)
    go_wp2_with fail;refine post_named λWf hWf=>?_;have hrow:Wf.heap[w.heap.size]?=some (.cells (cntV bs).toArray 99 (0,0)):=by rw[hWf];exact setRow_heap _ _ _ _ _ _ HRR.out.1
    refine bodyPost_ret (v:=.agg (cntV bs).toArray) (results_cell_row (p:=2) rfl _ _ w.heap.size 99 _ (0,0) _ rfl hrow Tryz.underlying99 rfl (by simp only[List.size_toArray,cntV_len];exact hinf)) rfl ?_
    refine ⟨by rw[<-HRS.out,if_neg (by rw[HB.out.2.1];exact hbig)],?_⟩
    rw[hWf];exact ⟨HRR.out.2.2.os,HRR.out.2.2.tape,HRR.out.2.2.output,by rw[setRow_size];exact HRR.out.2.2.size,λk hk=>(setRow_other _ _ _ _ (by omega)).trans (HRR.out.2.2.block k hk)⟩
theorem idx_cnt (l:List Nat) (k:Nat) (hk:k<256) (w:World):(Instr.index 99 (.agg (cntV l).toArray) (.int .i64 (k:Int))).run Tryz.prog w = .ok (.int .i64 ((l.count k:Nat):Int)) w:=by
 have h:=cntV_at l k hk;have h2:(cntV l).toArray[k]?=some (.int .i64 ((l.count k:Nat):Int)):=by rw[List.getElem?_toArray];exact h
 have hs:(cntV l).toArray.size=256:=by simp[cntV_len]
 have h3:(cntV l)[k]'(by rw[cntV_len];exact hk) = .int .i64 ((l.count k:Nat):Int):=by
  have:=List.getElem?_eq_getElem (l:=cntV l) (i:=k) (by rw[cntV_len];exact hk)
  rw[this]at h;injection h
 have hp:(part 3 (cntV l).toArray k).run Tryz.prog w = .ok (.int .i64 ((l.count k:Nat):Int)) w:=by
  simp[part,Tryz.isAgg3,h2]
 simp[Instr.index,asIntOf,run_underlying Tryz.underlying99,hs,hk,h2,cntV_len,h3,hp]
theorem en_bd {s y k C:Nat} (h:s<=k*C) (hy:y<=C):s+y<=(k+1)*C:=by rw[Nat.succ_mul];exact Nat.add_le_add h hy
theorem en_top {s k C:Nat} (h:s<=k*C) (hk:k<=256) (hC:C<=1000000000000):s<=256000000000000:=Nat.le_trans h (Nat.mul_le_mul hk hC)
theorem en_w {s y:Nat} (h:s<=256000000000000) (h2:y<=1000000000000):wrap64 (y:Int)=(y:Int)/\wrap64 ((s:Int)+(y:Int))=(s:Int)+(y:Int):=⟨IntWalk.wrap64_in _ (by omega),IntWalk.wrap64_in _ (by omega)⟩
theorem en_C:∃C,C<=1000000000000/\∀len n,n<=65536->addE len n<=C:=⟨133143920640,by decide,λlen n h=>addE_le h⟩
set_option maxHeartbeats 4000000 in
theorem measure_any (A:Option Addr) (n c:Nat) (bs:List Nat) (w:World) (hb:ByIn w (.slice A n c) bs) (hn:bs.length=n) (hby:∀b∈bs,b<256) (hnl:n<=900000):Calls Tryz.prog 29 #[.slice A n c] w λe w'=>e = .returned (.int .i64 ((meaF bs:Nat):Int))/\Below w.heap.size w w':=by
 have HC:=Lib.hid (counts_any A n c bs w hb hn hby);obtain ⟨R,hR⟩:∃R,(if 65536<bs.length then [] else bs)=R:=⟨_,rfl⟩;rw[hR]at HC;have hcnt:∀k,R.count k=cntF bs k:=λk=>by
  rw[<-hR];unfold cntF;by_cases h:65536<bs.length
  .rw[if_pos h,if_pos h];simp
  .rw[if_neg h,if_neg h]
 have hpos:∀k,0<cntF bs k->bs.length<=65536:=λk h=>by
  unfold cntF at h;by_cases h2:65536<bs.length
  .rw[if_pos h2]at h;omega
  .omega
 have HK:=Lib.hid (And.intro hcnt (And.intro hpos hn));have HIX:=Lib.hid λ(k:Nat) (hk:k<256) (W:World)=>by have h:=idx_cnt R k hk W;rw[hcnt k]at h;exact h
 have hnc:n<=c/\c<=9223372036854775807:=by
  obtain ⟨A',c',e,h1,-⟩:=hb;injection e with _ e2 e3;omega
 have hn63:(n:Int)<=9223372036854775807:=by omega
 obtain ⟨M,hM⟩:∃M,meaF bs=M:=⟨_,rfl⟩;rw[hM];have HM:=Lib.hid hM;obtain ⟨C,hC⟩:=en_C;have HCC:=Lib.hid hC;clear hC;clear hb hby hR hcnt hpos hM hn
 go_enter Tryz.func29,Tryz.ntmps29
 go_wp2_with fail;refine HC.out.mono ?_;rintro e w1 ⟨rfl,hb1⟩;have HB1:=Lib.hid hb1;clear hb1;obtain ⟨AR,hAR⟩:∃a,Value.agg (cntV R).toArray=a:=⟨_,rfl⟩;rw[hAR];rw[hAR]at HIX;clear hAR;go_wp2_with fail
 go_loopw [3,8] (λsv iv wr=>∃k s:Nat,k<=256/\iv = .int .i64 (k:Int)/\sv = .int .i64 (s:Int)/\Hid (s<=k*C/\s+sumE (cntF bs) bs.length (256-k) k=M)/\wr=w1) (λ_ iv _=>256 - (intOf iv).toNat)
 case atStart=>exact ⟨0,0,by omega,rfl,rfl,⟨Nat.zero_le _,by rw[Nat.zero_add];exact HM.out⟩,rfl⟩
 case round=>
  obtain ⟨k,s,hk,rfl,rfl,HR,rfl⟩:=hrel;by_cases hlt:k<256
  .have hd:decide ((k:Int)<256)=true:=decide_eq_true (by omega)
   have hdn:decide (k<256)=true:=decide_eq_true hlt;have hix:=HIX.out k hlt;have hst:sumE (cntF bs) bs.length (256-k) k=addE bs.length (cntF bs k)+sumE (cntF bs) bs.length (256 - (k+1)) (k+1):=by rw[show 256-k=(256 - (k+1))+1 by omega];rfl
   have hle:=HCC.out.2 bs.length _ (cntF_le bs k).1;have hcl:=(cntF_le bs k).2;have hp:=HK.out.2.1 k;obtain ⟨q,hq⟩:∃q,cntF bs k=q:=⟨_,rfl⟩;rw[hq]at hix hst hle hcl hp;have hq6:q<=65536:=by rw[<-hq];exact (cntF_le bs k).1
   have hsb:=en_top HR.out.1 hk HCC.out.1;by_cases h0:0<q
   .have d0:decide ((0:Int)<(q:Int))=true:=decide_eq_true (by omega)
    have d0n:decide (0<q)=true:=decide_eq_true h0;have hln:=hp h0;have hmono:=logF_mono h0 (hcl hln) (by omega)
    have hlb:=logF_le bs.length;rw[HK.out.2.2]at hmono hlb hle hst;have L1:=Lib.hid λW=>log_any n W (by omega)
    have L2:=Lib.hid λW=>log_any q W (by omega)
    obtain ⟨a,ha⟩:∃a,logF n=a:=⟨_,rfl⟩;obtain ⟨b,hb⟩:∃b,logF q=b:=⟨_,rfl⟩;have hadd:addE n q=q*(a-b):=by unfold addE;rw[if_pos h0,ha,hb]
    rw[ha]at L1 hmono hlb;rw[hb]at L2 hmono;rw[hadd]at hle hst;obtain ⟨d,hdd⟩:∃d,a-b=d:=⟨_,rfl⟩;rw[hdd]at hle hst;have hw1:wrap64 ((a:Int) - (b:Int))=(d:Int):=by rw[IntWalk.wrap64_in _ (by omega)];omega
    obtain ⟨y,hy⟩:∃y,q*d=y:=⟨_,rfl⟩;rw[hy]at hle hst;have hyi:(q:Int)*(d:Int)=(y:Int):=by rw[<-hy];push_cast;rfl
    have hyC:y<=1000000000000:=Nat.le_trans hle HCC.out.1;obtain ⟨hw2,hw3⟩:=en_w hsb hyC;have hfin:=HR.out.2;rw[HK.out.2.2,hst,<-Nat.add_assoc]at hfin;have HF:=Lib.hid (And.intro (en_bd HR.out.1 hle) hfin);clear hst hle hcl hp hq hln hmono hlb ha hb hadd hdd hy hfin hsb hyC;go_wp2_with fail;refine (L1.out wr).mono ?_;rintro e w2 ⟨rfl,rfl⟩;go_wp2_with fail;refine (L2.out w2).mono ?_;rintro e w3 ⟨rfl,rfl⟩;go_wp2_with fail;go_roundw
    case rel=>exact ⟨k+1,s+y,by omega,by go_num,by go_num,⟨HF.out.1,by rw[HK.out.2.2];exact HF.out.2⟩,trivial⟩
    case measure=>simp[intOf];omega
   .obtain rfl:q=0:=by omega
    have hadd:addE bs.length 0=0:=by unfold addE;rw[if_neg (by decide)]
    have hfin:=HR.out.2;rw[hst,hadd,Nat.zero_add]at hfin;have HF:=Lib.hid (And.intro (en_bd (y:=0) HR.out.1 (Nat.zero_le _)) hfin);clear hst hle hcl hp hq hadd hfin hsb;go_wp2_with fail;go_roundw
    case rel=>exact ⟨k+1,s,by omega,by go_num,rfl,⟨HF.out.1,HF.out.2⟩,trivial⟩
    case measure=>simp[intOf];omega
  .obtain rfl:k=256:=by omega
   have hR:=HR.out.2;rw[Nat.sub_self,sumE,Nat.add_zero]at hR;have HF:=Lib.hid hR;clear hR;go_wp2_with fail;go_ret;exact ⟨by rw[<-HF.out];rfl,HB1.out⟩
end Go.Proofs.YtljgapfmgegifaaGreatDoor
namespace Go.Proofs.YtljgapfmgegifaaGreatDoor
set_option linter.unusedVariables false
set_option linter.unusedSimpArgs false
set_option maxRecDepth 100000
open Go.RowKit
open Go.Maps (Keyed)
theorem nil_cls {cs:List (Option Nat)} {m:Mc} (h:ClsOK m (clF cs)) (h1:1<=m.ed.length) (hc:clF cs 0=none):¬LiveS m 0:=(h.dead 0 (by omega)).1 hc
theorem mcsm_nil:McSm ⟨[[]],[false]⟩:=⟨λr hr e he=>(by simp at hr;subst hr;cases he),λr hr=>(by simp at hr;subst hr;simp),by simp⟩
theorem info_es:(Tryz.prog.info? 153).map (λi=>(i.zero,i.size,i.bytes))=some (some (.slice none 0 0),1,24):=by kernel_rfl
theorem own_at1 {w:World} {B n c:Nat} {e:TypeId} {xs:List Value} {A:Option Addr} (h:w.ownsRow B e 1 (.slice A n c) n xs) (hn:0<n):∃g,A=some ⟨g,0,none⟩/\B<=g/\g<w.heap.size/\∀i,i<n->w.cell? ⟨g,i,none⟩=xs[i]?:=by
 rcases h.2 with ⟨h1,h2⟩ | ⟨g,cap,cur,h1,hB,hg,-⟩
 .exfalso;injection h1 with h1 h1';omega
 .injection h1 with h1 _ h3;subst h1;exact ⟨g,rfl,hB,(Array.getElem?_eq_some_iff.1 hg).1,λi hi=>World.ownsRow.cellAt h i (by omega)⟩
def factL10 (M gs nst cst i s ge fe n ce nrow cr g3 cc:Nat) (Ar:Option Addr) (J:List Ed) (W:World):Nat->Nat->Value->World->Prop
 | c,0,x,w=>x = .pointer (some ⟨M,0,none⟩)
 | c,1,x,w=>x = .slice (some ⟨ge,fe,none⟩) n ce
 | c,2,x,w=>x = .slice (some ⟨gs,0,none⟩) nst cst
 | c,3,x,w=>x = .int .i64 (i:Int)
 | c,4,x,w=>x = .pointer (some ⟨gs,i,none⟩)
 | c,5,x,w=>x = .int .i64 (s:Int)
 | c,6,x,w=>x = .pointer (some ⟨ge,fe+s,none⟩)
 | c,7,x,w=>x = .slice Ar nrow cr
 | c,8,x,w=>x = .slice (some ⟨g3,0,none⟩) n cc
 | c,9,x,w=>1<=c->∃A c',x = .slice A J.length c'/\OR 184 3 edC W.heap.size x J w
 | _,_,_,_=>True
def factL21 (N M gs nst cst i s ga fa n ca nj cj cE cA B0:Nat) (AE AV Aj:Option Addr) (gv av:List Value) (a:Bool) (W:World):Nat->Nat->Value->World->Prop
 | c,0,x,w=>x = .pointer (some ⟨N,0,none⟩)
 | c,1,x,w=>x = .slice AE i cE
 | c,2,x,w=>x = .slice Aj nj cj
 | c,3,x,w=>∃g,x = .slice (some ⟨g,0,none⟩) 1 1/\W.heap.size<=g/\g<w.heap.size/\w.cell? ⟨g,0,none⟩=some (.slice Aj nj cj)
 | c,4,x,w=>1<=c->∃A c',x = .slice A (i+1) c'/\w.ownsRow B0 153 1 x (i+1) (gv++[.slice Aj nj cj])/\Fresh x (.slice AE i cE) W.heap.size
 | c,5,x,w=>x = .pointer (some ⟨N,1,none⟩)
 | c,6,x,w=>x = .slice AV i cA
 | c,7,x,w=>x = .pointer (some ⟨M,1,none⟩)
 | c,8,x,w=>x = .slice (some ⟨ga,fa,none⟩) n ca
 | c,9,x,w=>x = .slice (some ⟨gs,0,none⟩) nst cst
 | c,10,x,w=>x = .int .i64 (i:Int)
 | c,11,x,w=>x = .pointer (some ⟨gs,i,none⟩)
 | c,12,x,w=>x = .int .i64 (s:Int)
 | c,13,x,w=>x = .pointer (some ⟨ga,fa+s,none⟩)
 | c,14,x,w=>x = .bool a
 | c,15,x,w=>∃g,x = .slice (some ⟨g,0,none⟩) 1 1/\W.heap.size<=g/\g<w.heap.size/\w.cell? ⟨g,0,none⟩=some (.bool a)
 | c,16,x,w=>2<=c->∃A c',x = .slice A (i+1) c'/\w.ownsRow B0 4 1 x (i+1) (av++[.bool a])/\Fresh x (.slice AV i cA) W.heap.size
 | c,17,x,w=>x = .pointer (some ⟨N,0,none⟩)
 | c,18,x,w=>3<=c->∃A c',w.ownsRow B0 153 1 (.slice A (i+1) c') (i+1) (gv++[.slice Aj nj cj])/\Fresh (.slice A (i+1) c') (.slice AE i cE) W.heap.size/\w.heap[N]?=some (.cells #[.slice A (i+1) c', .slice AV i cA] 85 (0,0))
 | c,19,x,w=>x = .pointer (some ⟨N,1,none⟩)
 | _,_,_,_=>True
section
variable {N M gs nst cst i s ga fa n ca nj cj cE cA B0:Nat} {AE AV Aj:Option Addr} {gv av:List Value} {a:Bool} {W u u':World}
theorem factL21_bl (hb:Below u.heap.size u u') {c j:Nat} {x:Value} (h:factL21 N M gs nst cst i s ga fa n ca nj cj cE cA B0 AE AV Aj gv av a W c j x u):factL21 N M gs nst cst i s ga fa n ca nj cj cE cA B0 AE AV Aj gv av a W c j x u':=by
 match j with
 | 0 | 1 | 2 | 5 | 6 | 7 | 8 | 9 | 10 | 11 | 12 | 13 | 14 | 17 | 19=>exact h
 | 3 | 15=>
  obtain ⟨g,e,h1,hg,h0⟩:=h;exact ⟨g,e,h1,Nat.lt_of_lt_of_le hg hb.size,(hb.cell (p:=⟨g,0,none⟩) hg).trans h0⟩
 | 4 | 16=>
  intro hc;obtain ⟨A,c',e,ho,hf⟩:=h hc;exact ⟨A,c',e,own_later ho hb,hf⟩
 | 18=>
  intro hc;obtain ⟨A,c',ho,hf,hr⟩:=h hc;exact ⟨A,c',own_later ho hb,hf,(hb.block _ (Array.getElem?_eq_some_iff.1 hr).1).trans hr⟩
 | _+20=>exact trivial
theorem factL21_01 (hg:u.grownBy u' (Value.slice AE i cE).ownBlock) (hv:∀g,(Value.slice AE i cE).ownBlock=some g->g<W.heap.size) (j:Nat) (x:Value) (hj:j≠4) (h:factL21 N M gs nst cst i s ga fa n ca nj cj cE cA B0 AE AV Aj gv av a W 0 j x u):factL21 N M gs nst cst i s ga fa n ca nj cj cE cA B0 AE AV Aj gv av a W 1 j x u':=by
 match j with
 | 0 | 1 | 2 | 5 | 6 | 7 | 8 | 9 | 10 | 11 | 12 | 13 | 14 | 17 | 19=>exact h
 | 3 | 15=>exact f814 hg hv h
 | 4=>exact absurd rfl hj
 | 16 | 18=>exact λhc=>by omega
 | _+20=>exact trivial
theorem factL21_12 (hg:u.grownBy u' (Value.slice AV i cA).ownBlock) (hv:∀g,(Value.slice AV i cA).ownBlock=some g->g<W.heap.size) (hd:∀g,(Value.slice AV i cA).ownBlock=some g->(Value.slice AE i cE).ownBlock≠some g) (j:Nat) (x:Value) (hj:j≠16) (h:factL21 N M gs nst cst i s ga fa n ca nj cj cE cA B0 AE AV Aj gv av a W 1 j x u):factL21 N M gs nst cst i s ga fa n ca nj cj cE cA B0 AE AV Aj gv av a W 2 j x u':=by
 match j with
 | 0 | 1 | 2 | 5 | 6 | 7 | 8 | 9 | 10 | 11 | 12 | 13 | 14 | 17 | 19=>exact h
 | 3 | 15=>exact f814 hg hv h
 | 4=>
  intro _;obtain ⟨A,c',e,ho,hf⟩:=h (by decide)
  refine ⟨A,c',e,own_same ho λg hgx=>hg.block g (ho.lt g hgx).2 (λe2=>?_),hf⟩;rcases hf with hf | ⟨g',hf,h2⟩
  .rw[hf]at hgx;exact hd g e2.symm hgx
  .rw[hf]at hgx;injection hgx with hgx;have:=hv g e2.symm;omega
 | 16=>exact absurd rfl hj
 | 18=>exact λhc=>by omega
 | _+20=>exact trivial
theorem factL21_23 (hs:N<W.heap.size) (hsS:(Value.slice AE i cE).ownBlock≠some N) (hsF:(Value.slice AV i cA).ownBlock≠some N) (v:Value) (j:Nat) (x:Value) (hj:j≠18) (h:factL21 N M gs nst cst i s ga fa n ca nj cj cE cA B0 AE AV Aj gv av a W 2 j x u):factL21 N M gs nst cst i s ga fa n ca nj cj cE cA B0 AE AV Aj gv av a W 3 j x (u.setCell ⟨N,0,none⟩ v):=by
 have hset:∀k,k≠N->(u.setCell ⟨N,0,none⟩ v).heap[k]?=u.heap[k]?:=λk hk=>Below.heap_setCell _ _ _ _ hk
 match j with
 | 0 | 1 | 2 | 5 | 6 | 7 | 8 | 9 | 10 | 11 | 12 | 13 | 14 | 17 | 19=>exact h
 | 3 | 15=>
  obtain ⟨g,e,h1,h2,h3⟩:=h;exact ⟨g,e,h1,by simpa [World.setCell] using h2,(World.cell?_of_block (a:=⟨g,0,none⟩) (hset g (by omega))).trans h3⟩
 | 4=>
  intro _;obtain ⟨A,c',e,ho,hf⟩:=h (by decide)
  refine ⟨A,c',e,own_same ho λg hgx=>hset g (λe2=>?_),hf⟩;subst e2;rcases hf with hf | ⟨g',hf,h2⟩
  .rw[hf]at hgx;exact hsS hgx
  .rw[hf]at hgx;injection hgx with hgx;omega
 | 16=>
  intro _;obtain ⟨A,c',e,ho,hf⟩:=h (by decide)
  refine ⟨A,c',e,own_same ho λg hgx=>hset g (λe2=>?_),hf⟩;subst e2;rcases hf with hf | ⟨g',hf,h2⟩
  .rw[hf]at hgx;exact hsF hgx
  .rw[hf]at hgx;injection hgx with hgx;omega
 | 18=>exact absurd rfl hj
 | _+20=>exact trivial
end
set_option maxHeartbeats 16000000 in
theorem least_of (v:Value) (m:Mc) (w:World) (hm:McIn w v m) (hv:Vld m) (hsm:McSm m) (h1:1<=m.ed.length)
  (hal:∀W,Below w.heap.size w W->Calls Tryz.prog 158 #[v] W (ClPost m m.ed.length W)):Calls Tryz.prog 117 #[v] w (LePost m w):=by
 obtain ⟨ve,va,rfl,he,ha⟩:=hm;obtain ⟨Ae,ce,rfl,hce1,hce2⟩:=he.form;obtain ⟨Aa,ca,rfl,hca1,hca2⟩:=ha.form;obtain ⟨n,hn⟩:∃n,m.ed.length=n:=⟨_,rfl⟩;have hac:m.ac.length=n:=by rw[hv.len,hn]
 have hnn:=hsm.n;rw[hac]at ha hca1;rw[hn]at he hce1 h1 hnn;rw[hn,hac]at hal;have HAL:=Lib.hid hal;have HE:=Lib.hid he;have HA:=Lib.hid ha;have HV:=Lib.hid hv;have HSM:=Lib.hid hsm;have HN:=Lib.hid (And.intro hn hac);have HN1:=Lib.hid h1;have K:Keyed Tryz.prog 3:=Maps.int_keyed Tryz.underlying3;have hz:∀w,(zeroValue 3).run Tryz.prog w = .ok (.int .i64 0) w:=λ_=>by kernel_rfl
 have hmm:=@run_makeMap Tryz.prog;obtain ⟨ie,hie,he0,he1,he2⟩:=info_parts info_es;obtain ⟨ib,hib,hb0,hb1,hb2⟩:=info_parts info_bool;obtain ⟨ii,hii,hj0,hj1,hj2⟩:=info_parts info_int;rw[hac,hn];clear hal he ha hv hsm hn hac
 go_enter Tryz.func117,Tryz.ntmps117
 go_wp2_with fail;refine (HAL.out _ ?hb0).mono ?_
 case hb0=>exact ((Below.refl w.heap.size w).alloc (Nat.le_refl _) _).alloc (by simp) _
 rintro e w1 ⟨rv,cs,rfl,hown1,hb1,hl1,hok1,hlt1⟩;have hsz0:((w.alloc (.cells #[.slice Ae n ce, .slice Aa n ca] 85)).alloc (.cells #[.slice none 0 0, .slice none 0 0] 85)).heap.size=w.heap.size+2:=by simp
 rw[hsz0]at hown1 hb1;have hbx0:w1.heap[w.heap.size]?=some (.cells #[.slice Ae n ce, .slice Aa n ca] 85 (0,0)):=(hb1.block _ (by omega)).trans ((old_alloc _ _ _ (by simp)).trans (heap_alloc_new w _))
 have hbx1:w1.heap[w.heap.size+1]?=some (.cells #[.slice none 0 0, .slice none 0 0] 85 (0,0)):=(hb1.block _ (by omega)).trans (by simpa using heap_alloc_new (w.alloc (.cells #[.slice Ae n ce, .slice Aa n ca] 85)) (.cells #[.slice none 0 0, .slice none 0 0] 85))
 have hz1:=hb1.size;rw[hsz0]at hz1;have hbw1:Below w.heap.size w w1:=(((Below.refl w.heap.size w).alloc (Nat.le_refl _) _).alloc (by simp) _).trans (hb1.mono (by omega))
 obtain ⟨Ac,cc,rfl,hcc,-⟩:∃A c,rv = .slice A n c/\n<=c/\True:=by
  obtain ⟨A,c,e,h,-⟩:=hown1.cells clC_E;exact ⟨A,c,by rw[e,hl1],by omega,trivial⟩
 obtain ⟨g3,rfl⟩:∃g,Ac=some ⟨g,0,none⟩:=by
  obtain ⟨A,c,e,-,hor⟩:=hown1.cells clC_E;obtain ⟨g,hA,-⟩:=hor.resolve_left (by rintro rfl;simp at hl1;omega)
  injection e with e1 _ _;exact ⟨g,by rw[e1,hA]⟩
 obtain ⟨cc0,-⟩:=hown1.cellC 0 (by omega)
 have hg3:=hown1.lt1;have hd0:decide (0<n)=true:=decide_eq_true (by omega)
 have HC:=Lib.hid hown1;have HB1:=Lib.hid hbw1;have HX0:=Lib.hid hbx0;have HX1:=Lib.hid hbx1;have HCL:=Lib.hid (And.intro hl1 (And.intro hok1 hlt1));have lx1:w.heap.size+1<w1.heap.size:=by omega
 have lx2:w.heap.size+1<w1.heap.size+1:=by omega
 obtain ⟨r0,r1⟩:w1.cell? ⟨w.heap.size+1,0,none⟩=some (.slice none 0 0)/\w1.cell? ⟨w.heap.size+1,1,none⟩=some (.slice none 0 0):=by constructor <;> (rw[cell_of_row _ _ _ _ _ _ hbx1]; rfl)
 have fr0:w1.frozen? ⟨w.heap.size+1,0,none⟩=false:=by simp[World.frozen?,hbx1]
 have fr1:w1.frozen? ⟨w.heap.size+1,1,none⟩=false:=by simp[World.frozen?,hbx1]
 clear hown1 hb1 hsz0 hbx0 hbx1 hbw1 hl1 hok1 hlt1
 cases hc0:clF cs 0 with
 | none=>
  rw[hc0]at cc0;have cc1:w1.cell? ⟨g3,0,none⟩=some (.int .i64 (-1)):=cc0;have HC0:=Lib.hid hc0;clear cc0 hc0;go_wp2_with fail;refine post_named λWf hWf=>?_;refine bodyPost_ret (v:=.agg #[.slice (some ⟨w1.heap.size,0,none⟩) 1 1, .slice (some ⟨w1.heap.size+1,0,none⟩) 1 1]) (by rw[hWf];simp[results,Tryz.results117,go_sem,r0,r1,lx1,lx2];try rfl) rfl ?_
  have hg0:Wf.heap[w1.heap.size]?=some (.cells #[.slice none 0 0] 153 (0,0)):=by
   rw[hWf,old_alloc _ _ _ (by simp[World.setCell])]
   have h1:=heap_alloc_new ((w1.setCell ⟨w.heap.size+1,0,none⟩ (.slice (some ⟨w1.heap.size,0,none⟩) 1 1)).setCell ⟨w.heap.size+1,1,none⟩ (.slice (some ⟨w1.heap.size+1,0,none⟩) 1 1)) (.cells #[.slice none 0 0] 153);simpa [World.setCell] using h1
  have hg1:Wf.heap[w1.heap.size+1]?=some (.cells #[.bool false] 4 (0,0)):=by
   rw[hWf];have h1:=heap_alloc_new (((w1.setCell ⟨w.heap.size+1,0,none⟩ (.slice (some ⟨w1.heap.size,0,none⟩) 1 1)).setCell ⟨w.heap.size+1,1,none⟩ (.slice (some ⟨w1.heap.size+1,0,none⟩) 1 1)).alloc (.cells #[.slice none 0 0] 153)) (.cells #[.bool false] 4);simpa [World.setCell] using h1
  have hbf:Below w.heap.size w Wf:=by
   rw[hWf];exact (((HB1.out.setCell (p:=⟨w.heap.size+1,0,none⟩) (by show w.heap.size<=w.heap.size+1;omega) _).setCell (p:=⟨w.heap.size+1,1,none⟩) (by show w.heap.size<=w.heap.size+1;omega) _).alloc (by simp[World.setCell];omega) _).alloc (by simp[World.setCell];omega) _
  have hww1:=HB1.out.size;have hup:McUp w.heap.size Wf (.agg #[.slice (some ⟨w1.heap.size,0,none⟩) 1 1, .slice (some ⟨w1.heap.size+1,0,none⟩) 1 1]) ⟨[[]],[false]⟩:=λW' hk=>by
   have hg0':=(hk.blk w1.heap.size (Array.getElem?_eq_some_iff.1 hg0).1 (λh=>by have:=List.mem_range.1 h;omega)).trans hg0
   have hg1':=(hk.blk (w1.heap.size+1) (Array.getElem?_eq_some_iff.1 hg1).1 (λh=>by have:=List.mem_range.1 h;omega)).trans hg1
   refine ⟨_,_,rfl,⟨_,_,rfl,⟨by simp,by simp⟩, .inr ⟨w1.heap.size,0,rfl,(Array.getElem?_eq_some_iff.1 hg0').1,λi hi=>?_⟩⟩,⟨_,_,rfl,⟨by simp,by simp⟩, .inr ⟨w1.heap.size+1,0,rfl,(Array.getElem?_eq_some_iff.1 hg1').1,λi hi=>?_⟩⟩⟩
   .simp at hi;subst hi;exact ⟨_,by rw[cell_of_row _ _ _ _ _ _ hg0'];rfl,⟨none,0,rfl,⟨by simp,by simp⟩, .inl rfl⟩⟩
   .simp at hi;subst hi;rw[cell_of_row _ _ _ _ _ _ hg1'];rfl
  refine ⟨_,⟨[[]],[false]⟩,rfl,hup,hbf, .inr ⟨nil_cls HCL.out.2.1 (by rw[HN.out.1];exact HN1.out) HC0.out,rfl⟩,by simp;have:=HN1.out;have:=HN.out.1;omega,mcsm_nil⟩
 | some c0=>
  rw[hc0]at cc0;have cc1:w1.cell? ⟨g3,0,none⟩=some (.int .i64 (c0:Int)):=cc0;have hdc:decide ((c0:Int)<0)=false:=decide_eq_false (by omega)
  have HC0:=Lib.hid hc0;have hc0n:c0<n:=HCL.out.2.2 0 c0 hc0;have hkey0:keyOf Tryz.prog 3 (.int .i64 (c0:Int))=some (.int .i64 (c0:Int)):=Maps.keyOf_int_mk Tryz.underlying3 (WalkArith.wf_i64 (by omega))
  have hmv0:=MV.made Tryz.prog 3;clear cc0 hc0;go_wp2_with (refine wpList_ins_MV _ rfl _ _ _ 187 rfl 3 3 K Tryz.underlying187 w1.heap.size 0 (λ_=>none) rfl (hmv0 _) (by decide) _ _ (.int .i64 (c0:Int)) rfl rfl hkey0 trivial ?_)
  intro w2 hmv2 hg2;have hsz2:(w1.alloc (.map #[] 0)).heap.size=w1.heap.size+1:=by simp
  have hz2:=hg2.size;rw[hsz2]at hz2;have hb2:Below w1.heap.size w1 w2:=((Below.refl _ w1).alloc (Nat.le_refl _) (.map #[] 0)).grown hg2 (by omega) (λq hq=>by injection hq with hq;omega)
  have HMV2:=Lib.hid hmv2;have HB2:=Lib.hid hb2;clear hmv2 hg2 hb2 hsz2 hmv0;go_wp2_with fail;refine wp_named λW hW=>?_;have hbW:Below w2.heap.size w2 W:=by rw[hW];exact ((Below.refl _ _).alloc (Nat.le_refl _) _).alloc (by simp) _
  have hzW:W.heap.size=w2.heap.size+2:=by rw[hW];simp
  have hst0:OR 3 1 clC w2.heap.size (.slice (some ⟨w2.heap.size,0,none⟩) 1 1) [some 0] W:=by rw[hW];exact OR.later (zeros_new w2 1 (by omega)) ((Below.refl _ _).alloc (by simp) _)
  have hNW:W.heap[w2.heap.size+1]?=some (.cells #[.slice none 0 0, .slice none 0 0] 85 (0,0)):=by rw[hW];simpa using heap_alloc_new (w2.alloc _) (.cells #[.slice none 0 0, .slice none 0 0] 85)
  have hmb:=HMV2.out.lt;have hL0:LeS m (clF cs) w1.heap.size (w2.heap.size+1) w1.heap.size 0 [] [] [] (.slice none 0 0) (.slice none 0 0) [] [] 0 [0] (updV (λ_=>none) (.int .i64 (c0:Int)) (some (.int .i64 0))) (.slice (some ⟨w2.heap.size,0,none⟩) 1 1) W:=by
   refine ⟨⟨hNW,by omega,World.ownsRow_nil _ _ _ _,λi hi=>(by cases hi),OR.nil_ _ _ _,λk hk hx=>?_⟩,HMV2.out.kept (hbW.block _ hmb),Nat.le_refl _,SaysC.first HC0.out,?_,LeI.start (by rw[HC0.out];simp) (by rw[HN.out.1];exact HN1.out),rfl⟩
   .have h1:k=w2.heap.size+1:=by rcases mem_fpM.1 hk with h | h | h;exact h;cases h;cases h
    rcases List.mem_cons.1 hx with h | h
    .omega
    .simp[blk,Value.ownBlock]at h;omega
   .have:=(OR.mono hst0 (show w1.heap.size<=w2.heap.size by omega))
    exact this
  have HL0:=Lib.hid hL0;have HBW:=Lib.hid (HB2.out.trans (hbW.mono (by omega)))
  clear hW hbW hst0 hNW hL0 cc1 HC0 hdc hkey0 hd0;go_wp2_with fail
  go_loopw [7,5] (λiv vst wr=>∃(i:Nat) (st:List Nat) (rs:List (List Ed)) (acs:List Bool) (vE vA:Value) (gv:List Value) (t:Nat) (F:Lit->Option Value),iv = .int .i64 (i:Int)/\i<=n/\Hid (LeS m (clF cs) w1.heap.size (w2.heap.size+1) w1.heap.size i [] rs acs vE vA gv [] t st F vst wr)/\Hid (Below w1.heap.size w1 wr)) (λiv _ _=>n - (intOf iv).toNat)
  case atStart=>exact ⟨0,[0],[],[],_,_,[],0,_,rfl,Nat.zero_le _,HL0,HBW⟩
  case round=>
   obtain ⟨i,st,rs,acs,vE,vA,gv,t,F,rfl,hin,HL,HB⟩:=hrel;have hil:=HL.out.le.il;have hstn:=HL.out.le.nodup;rw[HN.out.1]at hstn;obtain ⟨As,cst,rfl,hcst,-⟩:=own_form HL.out.own;obtain ⟨nst,hnst⟩:∃x,st.length=x:=⟨_,rfl⟩;rw[hnst]at hil hstn hcst;have HNST:=Lib.hid hnst;rw[hnst]at HL|-;clear hnst;have hwr:=HB.out.size;by_cases hlt:i<nst
   .have hd:decide ((i:Int)<(nst:Int))=true:=decide_eq_true (by omega)
    have hdi:decide (i<nst)=true:=decide_eq_true hlt;obtain ⟨s,hs⟩:∃s,st[i]?=some s:=⟨_,List.getElem?_eq_getElem (show i<st.length by rw[HNST.out];exact hlt)⟩
    obtain ⟨hsn',-⟩:=HL.out.le.lv s (List.mem_of_getElem? hs);have hsn:s<n:=by rw[HN.out.1]at hsn';exact hsn'
    have hown:=HL.out.own;rw[HNST.out]at hown;obtain ⟨gs,rfl,hgsB,lgs,hgc⟩:=own_at1 hown (by omega)
    have xst:wr.cell? ⟨gs,i,none⟩=some (.int .i64 (s:Int)):=by rw[hgc i hlt];unfold ints;rw[List.getElem?_map,hs];rfl
    have hbw:Below w.heap.size w wr:=HB1.out.trans (HB.out.mono HB1.out.size);obtain ⟨ge,fe,rv0,rfl,-,hge,hce0,hed0⟩:=HE.out.at_ hsn';obtain ⟨ga,fa,rfl,-,hga,hca0⟩:=HA.out.at_ (show s<m.ac.length by rw[HN.out.2];exact hsn)
    have xrow:=(World.cell?_of_block (a:=⟨ge,fe+s,none⟩) (hbw.block ge hge)).trans hce0;have xac0:=(World.cell?_of_block (a:=⟨ga,fa+s,none⟩) (hbw.block ga hga)).trans hca0;have hed:=hed0.later hbw;obtain ⟨row,hrow⟩:∃r,m.ed[s]=r:=⟨_,rfl⟩;obtain ⟨a,haa⟩:∃b,m.ac[s]'(by rw[HN.out.2];exact hsn)=b:=⟨_,rfl⟩
    rw[hrow]at hed;rw[haa]at xac0;have hrm:row∈m.ed:=by rw[<-hrow];exact List.getElem_mem hsn'
    have hrM:rowM m s=row:=by unfold rowM;rw[List.getElem?_eq_getElem hsn',hrow];rfl
    have haM:(m.ac[s]?).getD false=a:=by rw[List.getElem?_eq_getElem (by rw[HN.out.2];exact hsn),haa];rfl
    have hjb:=joinF_by (cls:=clF cs) (HV.out.srt row hrm) (HSM.out.by_ row hrm);have HTO:=Lib.hid (show ∀e∈row,e.to<cs.length from λe he=>by rw[HCL.out.1,<-HN.out.1];exact HV.out.to row hrm e he)
    have HBY:=Lib.hid (HSM.out.by_ row hrm);obtain ⟨J,hJ⟩:∃J,joinF (clF cs) row=J:=⟨_,rfl⟩;have hJl:=Nat.le_trans (joinF_len (clF cs) row) (HSM.out.rl row hrm);rw[hJ]at hjb hJl;have HJB:=Lib.hid (show ∀e∈J,∃f,f<n/\clF cs f=some e.to from λe he=>by
     obtain ⟨-,-,f,hf,h3⟩:=hjb e he;exact ⟨f.to,by rw[<-HN.out.1];exact HV.out.to row hrm f hf,h3⟩)
    have HJE:=Lib.hid hJ;have hrl:=HSM.out.rl row hrm;obtain ⟨Ar,cr,hrf,-⟩:=hed.form;obtain ⟨nrow,hnrow⟩:∃n,row.length=n:=⟨_,rfl⟩;rw[hnrow]at hrf hrl;have HNR:=Lib.hid hnrow;subst hrf;have hed':EdIn wr (.slice Ar nrow cr) row:=hed;have hM:=(HB.out.block w.heap.size (by omega)).trans HX0.out
    obtain ⟨xm0,xm1⟩:wr.cell? ⟨w.heap.size,0,none⟩=some (.slice (some ⟨ge,fe,none⟩) n ce)/\wr.cell? ⟨w.heap.size,1,none⟩=some (.slice (some ⟨ga,fa,none⟩) n ca):=by constructor <;> (rw[cell_of_row _ _ _ _ _ _ hM]; rfl)
    have hwz:=hbw.size;have lM:w.heap.size<wr.heap.size:=(Array.getElem?_eq_some_iff.1 hM).1;have lge:ge<wr.heap.size:=by omega
    have lga:ga<wr.heap.size:=by omega
    have HED:=Lib.hid hed';have HCI:=Lib.hid ((ClIn.of_OR HC.out).later (HB.out.mono (Nat.le_refl _)));have hit:i<=t:=by have:=HL.out.le.top;have h9:t+1=st.length:=this;have:=HNST.out;omega
    have HS:=Lib.hid (And.intro hs (And.intro hrM (And.intro haM hit)));have HXA:=Lib.hid (And.intro xm1 xac0);have HGA:=Lib.hid (And.intro hga hgsB);obtain ⟨W,hWeq⟩:∃W:World,W=wr:=⟨_,rfl⟩;subst hWeq;have hS0:Below W.heap.size W W.drew:=(Below.refl _ _).drew;clear hsn' hown hgc hbw hge hga hce0 hca0 hed hed0 hed' hrow haa hrm hrM haM hjb hJ hnrow hM hs hgsB hit xm1 xac0;go_wp2_with fail;refine wp_region_chain 10 [9] (factL10 w.heap.size gs nst cst i s ge fe n ce nrow cr g3 cc Ar J W) (λ_ w'=>Below W.heap.size W w') (by kernel_rfl) (by kernel_rfl) (by kernel_rfl) (by kernel_rfl) (by kernel_rfl) (by kernel_rfl) (by decide) hS0 ?_ ?_
    .simp only[pq4,pq5];refine HSteps.pure (by decide) ?_ (HSteps.pure (by decide) ?_ (HSteps.pure (by decide) ?_ (HSteps.pure (by decide) ?_ (HSteps.pure (by decide) ?_ (HSteps.pure (by decide) ?_ (HSteps.pure (by decide) ?_ (HSteps.pure (by decide) ?_ (HSteps.pure (by decide) ?_ (HSteps.eff 0 rfl ?_ (HSteps.nil))))))))))
     all_goals first | (intro v wz c hlo hS hE K hK;simp only[putAll,Act.put,pq1,pq2,pq3,Nat.zero_add,Nat.reduceAdd,pq4,pq5]at hK|-) | (intro v wz hS hE K hK;simp only[putAll,Act.put,pq1,pq2,pq3,Nat.zero_add,Nat.reduceAdd,pq4,pq5]at hK|-)
     .have HX:=Lib.hid hS;clear hS hE hlo;go_wp2_with fail;exact hK.out _ rfl
     .have e0:v 0=_:=hE.1 rfl;rw[e0]at hK|-;have c1:=(hS.cell (p:=⟨w.heap.size,0,none⟩) lM).trans xm0;have l1:w.heap.size<wz.heap.size:=by have:=hS.size;omega
      have HX:=Lib.hid hS;clear hS hE hlo;go_wp2_with fail;exact hK.out _ rfl
     .have HX:=Lib.hid hS;clear hS hE hlo;go_wp2_with fail;exact hK.out _ rfl
     .have HX:=Lib.hid hS;clear hS hE hlo;go_wp2_with fail;exact hK.out _ rfl
     .have e2:v 2=_:=hE.1 rfl;have e3:v 3=_:=hE.2.1 rfl;rw[e2,e3]at hK|-;have HX:=Lib.hid hS;clear hS hE hlo;go_wp2_with fail;exact hK.out _ rfl
     .have e4:v 4=_:=hE.1 rfl;rw[e4]at hK|-;have c1:=(hS.cell (p:=⟨gs,i,none⟩) lgs).trans xst;have l1:gs<wz.heap.size:=by have:=hS.size;omega
      have HX:=Lib.hid hS;clear hS hE hlo;go_wp2_with fail;exact hK.out _ rfl
     .have e1:v 1=_:=hE.1 rfl;have e5:v 5=_:=hE.2.1 rfl;rw[e1,e5]at hK|-;have HX:=Lib.hid hS;clear hS hE hlo;go_wp2_with fail;exact hK.out _ rfl
     .have e6:v 6=_:=hE.1 rfl;rw[e6]at hK|-;have c1:=(hS.cell (p:=⟨ge,fe+s,none⟩) lge).trans xrow;have l1:ge<wz.heap.size:=by have:=hS.size;omega
      have HX:=Lib.hid hS;clear hS hE hlo;go_wp2_with fail;exact hK.out _ rfl
     .have HX:=Lib.hid hS;clear hS hE hlo;go_wp2_with fail;exact hK.out _ rfl
     .have e7:v 7=_:=hE.1 rfl;have e8:v 8=_:=hE.2.1 rfl;rw[e7,e8]at hK|-;have hcall:=joined_any (.slice Ar nrow cr) (.slice (some ⟨g3,0,none⟩) n cc) row cs wz (HED.out.later hS) (HCI.out.later hS) HTO.out HBY.out (by rw[HNR.out];omega)
      have HC:=Lib.hid hcall;have HX:=Lib.hid hS;clear hS hE hcall;go_wp2_with fail;refine HC.out.mono ?_;rintro e wy ⟨jv,rfl,ho,hb⟩;obtain ⟨Aj,cj,rfl,-⟩:=(EdIn.of_OR ho).form;have HBY2:=Lib.hid (HX.out.trans (hb.mono HX.out.size));have HJ:=Lib.hid (ho.mono HX.out.size);rw[HJE.out]at HJ|-;clear ho hb;go_wp2_with fail;refine hK.out _ _ (λj z hj h=>?_) HBY2.out (λ_=>⟨Aj,cj,rfl,HJ.out⟩)
      match j with
      | 0 | 1 | 2 | 3 | 4 | 5 | 6 | 7 | 8=>exact h
      | 9=>exact absurd rfl hj
      | _+10=>exact trivial
    .intro v wz hS hF;have e0:v 0=_:=hF 0 (by decide)
     have e1:v 1=_:=hF 1 (by decide)
     have e2:v 2=_:=hF 2 (by decide)
     have e3:v 3=_:=hF 3 (by decide)
     have e4:v 4=_:=hF 4 (by decide)
     have e5:v 5=_:=hF 5 (by decide)
     have e6:v 6=_:=hF 6 (by decide)
     have e7:v 7=_:=hF 7 (by decide)
     have e8:v 8=_:=hF 8 (by decide)
     have E9:=hF 9 (by decide)
     simp only[putAll,Act.put,pq1,pq2,pq3,Nat.zero_add,Nat.reduceAdd,pq4,pq5,List.drop_succ_cons,List.drop_zero,e0,e1,e2,e3,e4,e5,e6,e7,e8];clear hF e0 e1 e2 e3 e4 e5 e6 e7 e8;obtain ⟨Aj,cj,e9,hoj⟩:=E9 (Nat.le_refl _);rw[e9]at hoj|-;have hK0:=HL.out.begin hS HB.out hoj;obtain ⟨nj,hnj⟩:∃n,J.length=n:=⟨_,rfl⟩;rw[hnj]at hK0 hJl|-;have HK0:=Lib.hid hK0;have HNJ:=Lib.hid hnj;obtain ⟨BL,hBL⟩:∃B,W.heap.size=B:=⟨_,rfl⟩;rw[hBL]at HK0;clear hS hoj hK0 hnj e9 E9 xrow xst xm0 HL HB hS0 HED HCI HTO HBY;go_wp2_with fail
     go_loopw [46,5] (λkv vst wr=>∃(k:Nat) (st':List Nat) (F':Lit->Option Value),kv = .int .i64 (k:Int)/\k<=nj/\Hid (LeK m (clF cs) (w2.heap.size+1) w1.heap.size i BL rs acs vE vA gv J t st (.slice Aj nj cj) w1 k k st' F' vst wr)) (λkv _ _=>nj - (intOf kv).toNat)
     case atStart=>exact ⟨0,st,F,rfl,Nat.zero_le _,HK0⟩
     case round=>
      obtain ⟨k,st',F',rfl,hk,HK⟩:=hrel;have hstn2:=HK.out.le.le.nodup;rw[HN.out.1]at hstn2;have hwr2:=HK.out.bl.size;obtain ⟨As2,cst2,rfl,hcst2,-⟩:=own_form HK.out.le.own;obtain ⟨ns2,hns2⟩:∃x,st'.length=x:=⟨_,rfl⟩;have hown2:=HK.out.le.own;rw[hns2]at hown2 hcst2 hstn2 HK|-;have HOW:=Lib.hid hown2;have HNS:=Lib.hid hns2;clear hns2 hown2;by_cases hlt2:k<nj
      .have hd2:decide ((k:Int)<(nj:Int))=true:=decide_eq_true (by omega)
       have hkd:decide (k<nj)=true:=decide_eq_true hlt2;have hkJ:k<J.length:=by rw[HNJ.out];exact hlt2
       obtain ⟨gl,rfl⟩:∃g,Aj=some ⟨g,0,none⟩:=by
        obtain ⟨A,c,e,-,hor⟩:=HK.out.row.cells edC_E;obtain ⟨g,hA,-⟩:=hor.resolve_left (by intro e2;have:=ren_len (numC (clF cs) st') J k (by omega);rw[e2]at this;simp at this;omega)
        injection e with e1 _ _;exact ⟨g,by rw[e1,hA]⟩
       have HKJ:Hid (LeK m (clF cs) (w2.heap.size+1) w1.heap.size i BL rs acs vE vA gv J t st (.slice (some ⟨gl,0,none⟩) J.length cj) w1 k k st' F' (.slice As2 ns2 cst2) wr):=by rw[HNJ.out];exact HK
       obtain ⟨⟨e0,e1,e2⟩,ef,lgl⟩:=HKJ.out.cells hkJ;obtain ⟨q,hq⟩:∃e,J[k]=e:=⟨_,rfl⟩;have hqm:q∈J:=by rw[<-hq];exact List.getElem_mem hkJ
       obtain ⟨f0,hf0n,hf0⟩:=HJB.out q hqm;have hqc:=HCL.out.2.2 _ _ hf0;obtain ⟨lo,hi,cl⟩:=q;rw[hq]at e0 e1 e2;simp only at e0 e1 e2 hf0 hqc;have hb0:Below wr.heap.size wr (wr.alloc (.cells #[.int .u8 (lo:Int), .int .u8 (hi:Int), .int .i64 (cl:Int)] 184)):=(Below.refl _ _).alloc (Nat.le_refl _) _;have hK1:=HKJ.out.later hb0;have hkey:keyOf Tryz.prog 3 (.int .i64 (cl:Int))=some (.int .i64 (cl:Int)):=Maps.keyOf_int_mk Tryz.underlying3 (WalkArith.wf_i64 (by omega))
       have hmv:=hK1.le.mv;have hsy:=hK1.le.say cl;have hne3:gl≠wr.heap.size:=by omega
       have HQ:=Lib.hid hq;by_cases hinn:some cl∈st'.map (clF cs)
       .rw[if_pos hinn]at hsy;have hlook:(Instr.lookup 187 (.map (some w1.heap.size)) (.int .i64 (cl:Int)) true).run Tryz.prog (wr.alloc (.cells #[.int .u8 (lo:Int), .int .u8 (hi:Int), .int .i64 (cl:Int)] 184)) = .ok (.tuple #[.int .i64 ((numC (clF cs) st' cl:Nat):Int), .bool true]) (wr.alloc (.cells #[.int .u8 (lo:Int), .int .u8 (hi:Int), .int .i64 (cl:Int)] 184)):=by
         have h1:=hmv.look_ok K Tryz.underlying187 hz hkey trivial;rw[hsy]at h1;exact h1
        obtain ⟨x,hx⟩:∃x,numC (clF cs) st' cl=x:=⟨_,rfl⟩;rw[hx]at hlook;have hb9:Below (wr.setCell ⟨gl,k*3+2,none⟩ (.int .i64 (x:Int))).heap.size (wr.setCell ⟨gl,k*3+2,none⟩ (.int .i64 (x:Int))) ((wr.setCell ⟨gl,k*3+2,none⟩ (.int .i64 (x:Int))).alloc (.cells #[.int .u8 (lo:Int), .int .u8 (hi:Int), .int .i64 (cl:Int)] 184)):=(Below.refl _ _).alloc (Nat.le_refl _) _;have hK3:=((HKJ.out.old hkJ (by rw[hq];exact hinn)).put hkJ (x:=(x:Int)) (by rw[hq,<-hx])).later hb9
        rw[HNJ.out]at hK3;have HK3:=Lib.hid hK3;clear hK1 hmv hsy hinn hx hK3 hb9 hq hqm hf0 hf0n hb0 HKJ;go_wp2_with fail;go_roundw
        case rel=>exact ⟨k+1,st',F',by go_num,by omega,HK3⟩
        case measure=>simp[intOf];omega
       .rw[if_neg hinn]at hsy;have hlook:(Instr.lookup 187 (.map (some w1.heap.size)) (.int .i64 (cl:Int)) true).run Tryz.prog (wr.alloc (.cells #[.int .u8 (lo:Int), .int .u8 (hi:Int), .int .i64 (cl:Int)] 184)) = .ok (.tuple #[.int .i64 0, .bool false]) (wr.alloc (.cells #[.int .u8 (lo:Int), .int .u8 (hi:Int), .int .i64 (cl:Int)] 184)):=by
         have h1:=hmv.look_ok K Tryz.underlying187 hz hkey trivial;rw[hsy]at h1;exact h1
        have HMV:=Lib.hid hmv;have HK1:=Lib.hid hK1;have HNI:=Lib.hid hinn;have HEX:=Lib.hid (show ∃s,s<n/\clF cs s=some cl from ⟨f0,hf0n,hf0⟩);have hns0:st'.length<maxLen:=by unfold maxLen;have:=HNS.out;omega
        have hmv':MV Tryz.prog 3 w1.heap.size ns2 F' (wr.alloc (.cells #[.int .u8 (lo:Int), .int .u8 (hi:Int), .int .i64 (cl:Int)] 184)):=by rw[<-HNS.out];exact hmv
        have HMV':=Lib.hid hmv';have hownE:=World.ownsRow.alloc HOW.out (.cells #[.int .u8 (lo:Int), .int .u8 (hi:Int), .int .i64 (cl:Int)] 184);have HOE:=Lib.hid hownE;have hmlt:w1.heap.size<wr.heap.size:=HKJ.out.le.mv.lt;clear hK1 hmv hmv' hsy hinn hq hqm hf0 hf0n hb0 hownE hns0;go_wp2_with (at_mapUpdate;refine wpList_put_MV _ rfl _ _ _ 187 rfl 3 3 K Tryz.underlying187 w1.heap.size ns2 F' rfl HMV'.out (by unfold maxLen;omega) _ _ _ rfl rfl hkey trivial ?_)
        intro wm hmvm hgm;have hzm:=hgm.size;have hsz0:(wr.alloc (.cells #[.int .u8 (lo:Int), .int .u8 (hi:Int), .int .i64 (cl:Int)] 184)).heap.size=wr.heap.size+1:=by simp
        rw[hsz0]at hzm;have hec:wm.cell? ⟨wr.heap.size,2,none⟩=some (.int .i64 (cl:Int)):=(World.cell?_of_block (a:=⟨wr.heap.size,2,none⟩) (hgm.block _ (by simp) (λe=>by injection e with e;have e':wr.heap.size=w1.heap.size:=e;omega))).trans (by rw[cell_of_row _ _ _ _ _ _ (heap_alloc_new wr _)];rfl)
        have hownM:wm.ownsRow w1.heap.size 3 1 (.slice As2 ns2 cst2) ns2 (ints st'):=own_same HOE.out λg hg=>hgm.block g (HOE.out.lt g hg).2 λe=>mv_ne HMV'.out HOE.out (by rw[hg,e])
        have hbm:Below w1.heap.size w1 wm:=HK1.out.bl.grown hgm HK1.out.bl.size (λq hq=>by injection hq with hq;omega)
        have hix:=index_cls _ g3 n cc cl cs wm (OR.later HC.out hbm) HCL.out.1 (by omega) HEX.out
        have HIX:=Lib.hid hix;have HGM:=Lib.hid (And.intro hmvm hgm);have HOM:=Lib.hid hownM;clear hix hmvm hgm hownM hbm hsz0;go_wp2_with fail;refine HIX.out.mono ?_;rintro e wy ⟨s2,rfl,hwy,hs2n,hs2c⟩;rw[hwy];clear hwy;have hownA:=World.ownsRow.alloc HOM.out (.cells #[.int .i64 (s2:Int)] 3);have hcx:∀j u,([.int .i64 (s2:Int)]:List Value)[j]?=some u->(wm.alloc (.cells #[.int .i64 (s2:Int)] 3)).cell? ((⟨wm.heap.size,0,none⟩:Addr).add j)=some u:=λj u hj=>by
         match j,hj with
         | 0,hj=>simp at hj;rw[<-hj,Addr.add_lit,cell_of_row _ _ _ _ _ _ (heap_alloc_new wm _)];rfl
        have hbz:w1.heap.size<=(wm.alloc (.cells #[.int .i64 (s2:Int)] 3)).heap.size:=by simp;omega
        have HB7:=Lib.hid (show Below wm.heap.size wm (wm.alloc (.cells #[.int .i64 (s2:Int)] 3)) from (Below.refl _ _).alloc (Nat.le_refl _) _);go_wp2_with (at_builtin;refine appI_at rfl _ _ 22 rfl w1.heap.size 3 ii _ 1 8 Tryz.underlying22 hii hj0 hj1 hj2 rfl (by decide) _ ns2 (ints st') rfl hownA ⟨wm.heap.size,0,none⟩ 1 1 [.int .i64 (s2:Int)] rfl rfl hcx (by intro u hu;simp at hu;subst hu;rfl) (by unfold maxLen;omega) (by omega) hbz ?_)
        intro vst' w4 hown4 hg4 hf4;have hf4':Fresh vst' (.slice As2 ns2 cst2) (wm.alloc (.cells #[.int .i64 (s2:Int)] 3)).heap.size:=by rw[show (wm.alloc (.cells #[.int .i64 (s2:Int)] 3)).heap.size=wm.heap.size+1 by simp];exact hf4
        obtain ⟨hk5,hnum⟩:=HK1.out.new hkJ HGM.out.2 (by rw[HQ.out,HNS.out];exact HGM.out.1) HB7.out hg4 (by rw[HNS.out];exact hown4) hf4' (by rw[HQ.out];exact HNI.out) (by rw[HN.out.1];exact hs2n) (by rw[HQ.out];exact hs2c)
        rw[HNS.out]at hk5 hnum;obtain ⟨A4,c4,rfl,-,-⟩:=own_form hown4;obtain ⟨⟨-,-,f2⟩,ff,lgl4⟩:=hk5.cells hkJ;have hk6:=hk5.put hkJ (x:=(ns2:Int)) (by rw[hnum])
        rw[HNJ.out]at hk6;have HK6:=Lib.hid hk6;clear hown4 hg4 hf4 hf4' hk5 hnum hk6 hownA hcx hbz hec;go_wp2_with fail;go_roundw
        case rel=>exact ⟨k+1,st'++[s2],_,by go_num,by omega,HK6⟩
        case measure=>simp[intOf];omega
      .have hkn:k=nj:=by omega
       have hd2:decide ((k:Int)<(nj:Int))=false:=decide_eq_false (by omega)
       have hle:=HK.out.le;have hrow:=HK.out.row;rw[List.take_of_length_le (by rw[HNJ.out];omega)]at hle
       rw[List.take_of_length_le (by rw[HNJ.out];omega),List.drop_of_length_le (by rw[HNJ.out];omega),List.append_nil]at hrow
       have hpl:∃more,st'=st++more:=HK.out.pre;have hil2:=hle.le.il;have hs2:st'[i]?=some s:=by
        obtain ⟨more,e⟩:=hpl;rw[e,List.getElem?_append_left (by have:=HNST.out;omega)]
        exact HS.out.1
       have hrl2:rs.length=i:=by rw[hle.le.rows,List.length_map,List.length_take];omega
       have hal2:acs.length=i:=by rw[hle.ac,List.length_map,List.length_take];omega
       have hmkE:=hle.ma.own;have hmkA:wr.ownsRow w1.heap.size 4 1 vA acs.length (rowF bC acs):=hle.ma.acc;rw[hrl2]at hmkE;rw[hal2]at hmkA;obtain ⟨AE,cE,rfl,-,-⟩:=own_form hmkE;obtain ⟨AV,cA,rfl,-,-⟩:=own_form hmkA;obtain ⟨av,hav⟩:∃av,rowF bC acs=av:=⟨_,rfl⟩;rw[hav]at hmkA;have hi2:i<ns2:=by have:=(List.getElem?_eq_some_iff.1 hs2).1;rw[HNS.out]at this;exact this
       obtain ⟨gs2,rfl,-,lgs,hgc⟩:=own_at1 HOW.out (by omega)
       have xst:wr.cell? ⟨gs2,i,none⟩=some (.int .i64 (s:Int)):=by rw[hgc i (by omega)];unfold ints;rw[List.getElem?_map,hs2];rfl
       have hM:=(HK.out.bl.block w.heap.size (by omega)).trans HX0.out
       have xm1:wr.cell? ⟨w.heap.size,1,none⟩=some (.slice (some ⟨ga,fa,none⟩) n ca):=by rw[cell_of_row _ _ _ _ _ _ hM];rfl
       have hbw:Below w.heap.size w wr:=HB1.out.trans (HK.out.bl.mono HB1.out.size);have hacA:(m.ac[s]?).getD false=a:=HS.out.2.2.1;have hca0:w.cell? ⟨ga,fa+s,none⟩=some (.bool a):=by
        obtain ⟨ga',fa',e,-,-,h0⟩:=HA.out.at_ (show s<m.ac.length by rw[HN.out.2];exact hsn)
        injection e with e;injection e with e1 e2;rw[e1,e2,h0,<-hacA,List.getElem?_eq_getElem (by rw[HN.out.2];exact hsn)];rfl
       have xac:=(World.cell?_of_block (a:=⟨ga,fa+s,none⟩) (hbw.block ga HGA.out.1)).trans hca0;have hNr:=hle.ma.hN;obtain ⟨xn0,xn1⟩:wr.cell? ⟨w2.heap.size+1,0,none⟩=some (.slice AE i cE)/\wr.cell? ⟨w2.heap.size+1,1,none⟩=some (.slice AV i cA):=by constructor <;> (rw[cell_of_row _ _ _ _ _ _ hNr]; rfl)
       have hltM:=hle.ma.lt;have hwz2:=hbw.size;have hsl:w2.heap.size+1<wr.heap.size:=(hltM _ (mem_fpM.2 (.inl rfl))).2;have lM:w.heap.size<wr.heap.size:=(Array.getElem?_eq_some_iff.1 hM).1;have lga:ga<wr.heap.size:=by have:=HGA.out.1;omega
       have hww1:=HB1.out.size;have nM:w.heap.size∉(w2.heap.size+1)::(blk (.slice AE i cE)++blk (.slice AV i cA)):=λhm=>by have:=(hltM _ hm).1;omega
       have nga:ga∉(w2.heap.size+1)::(blk (.slice AE i cE)++blk (.slice AV i cA)):=λhm=>by have:=(hltM _ hm).1;have:=HGA.out.1;omega
       have ngs:gs2∉(w2.heap.size+1)::(blk (.slice AE i cE)++blk (.slice AV i cA)):=λhm=>hle.ma.out _ hm (by simp[blk,Value.ownBlock])
       have hne:(∀g,(Value.slice AE i cE).ownBlock=some g->g<wr.heap.size)/\(∀g,(Value.slice AV i cA).ownBlock=some g->g<wr.heap.size)/\(∀g,(Value.slice AV i cA).ownBlock=some g->(Value.slice AE i cE).ownBlock≠some g)/\(Value.slice AE i cE).ownBlock≠some (w2.heap.size+1)/\(Value.slice AV i cA).ownBlock≠some (w2.heap.size+1)/\(∀g,(Value.slice AV i cA).ownBlock=some g->(Value.slice AE i cE).ownBlock≠some g/\g<wr.heap.size):=by
        have hd:∀g,(Value.slice AV i cA).ownBlock=some g->(Value.slice AE i cE).ownBlock≠some g:=λg hg e=>hle.ma.neEA g e hg;exact ⟨λg hg=>(hmkE.lt g hg).2,λg hg=>(hmkA.lt g hg).2,hd,hle.ma.neE,hle.ma.neA,λg hg=>⟨hd g hg,(hmkA.lt g hg).2⟩⟩
       obtain ⟨W,hWeq⟩:∃W:World,W=wr:=⟨_,rfl⟩;subst hWeq;have hS0:StW6 (w2.heap.size+1) (.slice AE i cE) (.slice AV i cA) W 0 W.drew:=⟨(KeepF.of_below (Below.refl _ _).drew).weak,λ_=>rfl,λ_ _ _=>rfl,λ_=>(Below.refl _ _).drew⟩;have HNE:=Lib.hid hne;have HNB:=Lib.hid hNr;have HE1:=Lib.hid hmkE;have HV1:=Lib.hid hmkA;have HZ1:=Lib.hid hwr2;have HLE:=Lib.hid (And.intro hle (And.intro hrow hs2));have HBE:=Lib.hid (And.intro HK.out.bl HK.out.hB);have HAV:=Lib.hid (And.intro hav (And.intro hrl2 hal2));clear hle hrow hpl hil2 hs2 hrl2 hal2 hmkE hmkA hav hgc hM hbw hacA hca0 hNr hltM hne hkn hwr2;go_wp2_with fail;refine wp_region_chain 20 [4,16,18] (factL21 (w2.heap.size+1) w.heap.size gs2 ns2 cst2 i s ga fa n ca nj cj cE cA w1.heap.size AE AV Aj gv av a W) (λc w'=>StW6 (w2.heap.size+1) (.slice AE i cE) (.slice AV i cA) W c w') (by kernel_rfl) (by kernel_rfl) (by kernel_rfl) (by kernel_rfl) (by kernel_rfl) (by kernel_rfl) (by decide) hS0 ?_ ?_
       .simp only[pq4,pq5];refine HSteps.pure (by decide) ?_ (HSteps.pure (by decide) ?_ (HSteps.pure (by decide) ?_ (HSteps.free (by decide) ?_ (HSteps.eff 0 rfl ?_ (HSteps.pure (by decide) ?_ (HSteps.pure (by decide) ?_ (HSteps.pure (by decide) ?_ (HSteps.pure (by decide) ?_ (HSteps.pure (by decide) ?_ (HSteps.pure (by decide) ?_ (HSteps.pure (by decide) ?_ (HSteps.pure (by decide) ?_ (HSteps.pure (by decide) ?_ (HSteps.pure (by decide) ?_ (HSteps.free (by decide) ?_ (HSteps.eff 1 rfl ?_ (HSteps.pure (by decide) ?_ (HSteps.eff 2 rfl ?_ (HSteps.pure (by decide) ?_ (HSteps.nil))))))))))))))))))))
        all_goals first | (intro v wz c hlo hS hE K hK;simp only[putAll,Act.put,pq1,pq2,pq3,Nat.zero_add,Nat.reduceAdd,pq4,pq5]at hK|-) | (intro v wz hS hE K hK;simp only[putAll,Act.put,pq1,pq2,pq3,Nat.zero_add,Nat.reduceAdd,pq4,pq5]at hK|-)
        .have HX:=Lib.hid hS;clear hS hE hlo;go_wp2_with fail;exact hK.out _ rfl
        .have e0:v 0=_:=hE.1 rfl;rw[e0]at hK|-;have hle:=hlo 0 (by kernel_rfl)
         have c1:=(World.cell?_of_block (a:=⟨w2.heap.size+1,0,none⟩) (hS.2.1 (by omega))).trans xn0
         have l1:w2.heap.size+1<wz.heap.size:=by have:=hS.1.size;omega
         have HX:=Lib.hid hS;clear hS hE hlo;go_wp2_with fail;exact hK.out _ rfl
        .have HX:=Lib.hid hS;clear hS hE hlo;go_wp2_with fail;exact hK.out _ rfl
        .have e2:v 2=_:=hE.1 rfl;rw[e2]at hK|-;have hbz:Below wz.heap.size wz (wz.alloc (.cells #[.slice Aj nj cj] 153)):=(Below.refl _ _).alloc (Nat.le_refl _) _;have hzW:=hS.1.size;have HX:=Lib.hid hS;have HBZ:=Lib.hid hbz;clear hS hE hlo hbz;go_wp2_with fail;exact hK.out _ _ (λj y _ h=>factL21_bl HBZ.out h) (HX.out.later hsl HNE.out.2.1 HBZ.out) ⟨wz.heap.size,rfl,hzW,by simp,by go_simp⟩
        .have e1:v 1=_:=hE.1 rfl;rw[e1]at hK|-;have E3:=hE.2.1 rfl;obtain ⟨g,e3,hgW,hgl,hg0⟩:=E3;rw[e3]at hK|-;have hz:=hS.2.2.2 rfl;have hown:wz.ownsRow w1.heap.size 153 1 (.slice AE i cE) i gv:=own_later HE1.out hz;have hzz:=hz.size;clear hz;have hcell:∀j u,([.slice Aj nj cj]:List Value)[j]?=some u->wz.cell? ((⟨g,0,none⟩:Addr).add j)=some u:=λj u hj=>by
          match j,hj with
          | 0,hj=>simp at hj;rw[<-hj,Addr.add_lit];exact hg0
         have HX:=Lib.hid hS;clear hS hE;go_wp2_with (at_builtin;refine appI_at rfl _ _ 82 rfl w1.heap.size 153 ie (.slice none 0 0) 1 24 Tryz.underlying82 hie he0 he1 he2 rfl (by decide) _ i gv rfl hown ⟨g,0,none⟩ 1 1 [.slice Aj nj cj] rfl rfl hcell (by intro u hu;simp at hu;subst hu;rfl) (by unfold maxLen;omega) (by omega) (by have:=HZ1.out;omega) ?_)
         intro v' wx hown1 hg1 hfr;obtain ⟨A',c',rfl,-,-⟩:=own_form hown1;have hfr2:Fresh (.slice A' (i+1) c') (.slice AE i cE) W.heap.size:=hfr.imp id λ⟨g,h1,h2⟩=>⟨g,h1,Nat.le_trans hzz h2⟩;refine hK.out _ _ (factL21_01 hg1 HNE.out.1) (HX.out.s1 hsl hg1 HNE.out.2.2.2.1 HNE.out.2.2.2.2.2) (λ_=>⟨A',c',rfl,hown1,hfr2⟩)
        .have HX:=Lib.hid hS;clear hS hE hlo;go_wp2_with fail;exact hK.out _ rfl
        .have e5:v 5=_:=hE.1 rfl;rw[e5]at hK|-;have hle:=hlo 1 (by kernel_rfl)
         have c1:=(World.cell?_of_block (a:=⟨w2.heap.size+1,1,none⟩) (hS.2.1 (by omega))).trans xn1
         have l1:w2.heap.size+1<wz.heap.size:=by have:=hS.1.size;omega
         have HX:=Lib.hid hS;clear hS hE hlo;go_wp2_with fail;exact hK.out _ rfl
        .have HX:=Lib.hid hS;clear hS hE hlo;go_wp2_with fail;exact hK.out _ rfl
        .have e7:v 7=_:=hE.1 rfl;rw[e7]at hK|-;have c1:=(World.cell?_of_block (a:=⟨w.heap.size,1,none⟩) (hS.1.blk _ lM nM)).trans xm1;have l1:w.heap.size<wz.heap.size:=by have:=hS.1.size;omega
         have HX:=Lib.hid hS;clear hS hE hlo;go_wp2_with fail;exact hK.out _ rfl
        .have HX:=Lib.hid hS;clear hS hE hlo;go_wp2_with fail;exact hK.out _ rfl
        .have HX:=Lib.hid hS;clear hS hE hlo;go_wp2_with fail;exact hK.out _ rfl
        .have e9:v 9=_:=hE.1 rfl;have e10:v 10=_:=hE.2.1 rfl;rw[e9,e10]at hK|-;have HX:=Lib.hid hS;clear hS hE hlo;go_wp2_with fail;exact hK.out _ rfl
        .have e11:v 11=_:=hE.1 rfl;rw[e11]at hK|-;have c1:=(World.cell?_of_block (a:=⟨gs2,i,none⟩) (hS.1.blk _ lgs ngs)).trans xst;have l1:gs2<wz.heap.size:=by have:=hS.1.size;omega
         have HX:=Lib.hid hS;clear hS hE hlo;go_wp2_with fail;exact hK.out _ rfl
        .have e8:v 8=_:=hE.1 rfl;have e12:v 12=_:=hE.2.1 rfl;rw[e8,e12]at hK|-;have HX:=Lib.hid hS;clear hS hE hlo;go_wp2_with fail;exact hK.out _ rfl
        .have e13:v 13=_:=hE.1 rfl;rw[e13]at hK|-;have c1:=(World.cell?_of_block (a:=⟨ga,fa+s,none⟩) (hS.1.blk _ lga nga)).trans xac;have l1:ga<wz.heap.size:=by have:=hS.1.size;omega
         have HX:=Lib.hid hS;clear hS hE hlo;go_wp2_with fail;exact hK.out _ rfl
        .have e14:v 14=_:=hE.1 rfl;rw[e14]at hK|-;have hbz:Below wz.heap.size wz (wz.alloc (.cells #[.bool a] 4)):=(Below.refl _ _).alloc (Nat.le_refl _) _;have hzW:=hS.1.size;have HX:=Lib.hid hS;have HBZ:=Lib.hid hbz;clear hS hE hlo hbz;go_wp2_with fail;exact hK.out _ _ (λj y _ h=>factL21_bl HBZ.out h) (HX.out.later hsl HNE.out.2.1 HBZ.out) ⟨wz.heap.size,rfl,hzW,by simp,by go_simp⟩
        .have e6:v 6=_:=hE.1 rfl;rw[e6]at hK|-;have E15:=hE.2.1 rfl;obtain ⟨g,e15,hgW,hgl,hg0⟩:=E15;rw[e15]at hK|-;have hown:wz.ownsRow w1.heap.size 4 1 (.slice AV i cA) i av:=own_same HV1.out λg hg=>hS.2.2.1 (by decide) g hg
         have hzz:=hS.1.size;have hcell:∀j u,([.bool a]:List Value)[j]?=some u->wz.cell? ((⟨g,0,none⟩:Addr).add j)=some u:=λj u hj=>by
          match j,hj with
          | 0,hj=>simp at hj;rw[<-hj,Addr.add_lit];exact hg0
         have HX:=Lib.hid hS;clear hS hE;go_wp2_with (at_builtin;refine appI_at rfl _ _ 83 rfl w1.heap.size 4 ib (.bool false) 1 1 Tryz.underlying83 hib hb0 hb1 hb2 rfl (by decide) _ i av rfl hown ⟨g,0,none⟩ 1 1 [.bool a] rfl rfl hcell (by intro u hu;simp at hu;subst hu;rfl) (by unfold maxLen;omega) (by omega) (by have:=HZ1.out;omega) ?_)
         intro v' wx hown1 hg1 hfr;obtain ⟨A',c',rfl,-,-⟩:=own_form hown1;have hfr2:Fresh (.slice A' (i+1) c') (.slice AV i cA) W.heap.size:=hfr.imp id λ⟨g,h1,h2⟩=>⟨g,h1,Nat.le_trans hzz h2⟩;refine hK.out _ _ (factL21_12 hg1 HNE.out.2.1 HNE.out.2.2.1) (HX.out.s2 hsl hg1 HNE.out.2.2.2.2.1) (λ_=>⟨A',c',rfl,hown1,hfr2⟩)
        .have HX:=Lib.hid hS;clear hS hE hlo;go_wp2_with fail;exact hK.out _ rfl
        .have e17:v 17=_:=hE.1 rfl;rw[e17]at hK|-;have E4:=hE.2.1 rfl;obtain ⟨A,c',ev,ho,hfr⟩:=E4 (by decide)
         rw[ev]at hK ho hfr|-;have hrow:=(hS.2.1 (by decide)).trans HNB.out
         have cz:wz.cell? ⟨w2.heap.size+1,0,none⟩=some (.slice AE i cE):=by rw[cell_of_row _ _ _ _ _ _ hrow];rfl
         have fz:wz.frozen? ⟨w2.heap.size+1,0,none⟩=false:=by simp[World.frozen?,hrow]
         have HX:=Lib.hid hS;have HO:=Lib.hid (And.intro ho (And.intro hfr hrow));clear hS hE ho hfr hrow ev;go_wp2_with fail;have hns:∀g,(Value.slice A (i+1) c').ownBlock=some g->g≠w2.heap.size+1:=λg hg=>HO.out.2.1.elim (λe=>by rw[e]at hg;intro e2;subst e2;exact HNE.out.2.2.2.1 hg) λ⟨g',e,h2⟩=>by rw[e]at hg;injection hg with hg;omega
         refine hK.out undef _ (factL21_23 hsl HNE.out.2.2.2.1 HNE.out.2.2.2.2.1 _) (HX.out.s3 _) (λ_=>⟨A,c',own_same HO.out.1 λg hg=>Below.heap_setCell _ _ _ _ (hns g hg),HO.out.2.1,by have:=set_row3 HO.out.2.2 0 (.slice A (i+1) c');simpa using this⟩)
        .have HX:=Lib.hid hS;clear hS hE hlo;go_wp2_with fail;exact hK.out _ rfl
       .intro v wz hS hF;have e0:v 0=_:=hF 0 (by decide)
        have e1:v 1=_:=hF 1 (by decide)
        have e2:v 2=_:=hF 2 (by decide)
        have e5:v 5=_:=hF 5 (by decide)
        have e6:v 6=_:=hF 6 (by decide)
        have e7:v 7=_:=hF 7 (by decide)
        have e8:v 8=_:=hF 8 (by decide)
        have e9:v 9=_:=hF 9 (by decide)
        have e10:v 10=_:=hF 10 (by decide)
        have e11:v 11=_:=hF 11 (by decide)
        have e12:v 12=_:=hF 12 (by decide)
        have e13:v 13=_:=hF 13 (by decide)
        have e14:v 14=_:=hF 14 (by decide)
        have e17:v 17=_:=hF 17 (by decide)
        have e19:v 19=_:=hF 19 (by decide)
        have E3:=hF 3 (by decide)
        have E4:=hF 4 (by decide)
        have E15:=hF 15 (by decide)
        have E16:=hF 16 (by decide)
        have E18:=hF 18 (by decide)
        simp only[putAll,Act.put,pq1,pq2,pq3,Nat.zero_add,Nat.reduceAdd,pq4,pq5,List.drop_succ_cons,List.drop_zero,e0,e1,e2,e5,e6,e7,e8,e9,e10,e11,e12,e13,e14,e17,e19];clear hF e0 e1 e2 e5 e6 e7 e8 e9 e10 e11 e12 e13 e14 e17 e19;obtain ⟨A18,c18,ho18,hf18,hr18⟩:=E18 (by decide)
        obtain ⟨A16,c16,ev16,ho16,hf16⟩:=E16 (by decide)
        rw[ev16]at ho16 hf16|-;have hkz:=hS.1;have z1:wz.cell? ⟨w2.heap.size+1,1,none⟩=some (.slice AV i cA):=by rw[cell_of_row _ _ _ _ _ _ hr18];rfl
        have fz1:wz.frozen? ⟨w2.heap.size+1,1,none⟩=false:=by simp[World.frozen?,hr18]
        have lNz:w2.heap.size+1<wz.heap.size:=(Array.getElem?_eq_some_iff.1 hr18).1;have hset:∀k,k≠w2.heap.size+1->(wz.setCell ⟨w2.heap.size+1,1,none⟩ (.slice A16 (i+1) c16)).heap[k]?=wz.heap[k]?:=λk hk=>Below.heap_setCell _ _ _ _ hk;have hfr:∀{v v':Value},Fresh v' v W.heap.size->v.ownBlock≠some (w2.heap.size+1)->∀g,v'.ownBlock=some g->g≠w2.heap.size+1:=λhf hn g hg e=>by
         subst e;rcases hf with hf | ⟨g',hf,h2⟩
         .rw[hf]at hg;exact hn hg
         .rw[hf]at hg;injection hg with hg;omega
        have hks:KeepF (fpM (w2.heap.size+1) (.slice AE i cE) (.slice AV i cA)) [] W (wz.setCell ⟨w2.heap.size+1,1,none⟩ (.slice A16 (i+1) c16)):=
         KeepF.tr (show KeepF (fpM (w2.heap.size+1) (.slice AE i cE) (.slice AV i cA)) [] W wz from hkz) ⟨rfl,rfl,rfl,by simp[World.setCell],λk _ hn=>hset k (λe=>hn (mem_fpM.2 (.inl e))),λk hk=>by cases hk⟩
        have hfin:=HLE.out.1.rowDone HBE.out.2 HLE.out.2.1 hks (by have:=set_row3 hr18 1 (.slice A16 (i+1) c16);simpa using this) (by rw[HAV.out.2.1];exact own_same ho18 λg hg=>hset g (hfr hf18 HNE.out.2.2.2.1 g hg)) (a:=a) (by
         show World.ownsRow _ _ _ _ _ _ _;rw[List.length_append,rowF_app,rowF_single,HAV.out.1,HAV.out.2.2];exact own_same ho16 λg hg=>hset g (hfr hf16 HNE.out.2.2.2.2.1 g hg)) hf18 hf16 HS.out.2.2.2 HLE.out.2.2 (by rw[HS.out.2.1,HJE.out]) HS.out.2.2.1.symm
        have hbf:Below w1.heap.size w1 (wz.setCell ⟨w2.heap.size+1,1,none⟩ (.slice A16 (i+1) c16)):=HBE.out.1.trans (hks.below (λk hk=>(HLE.out.1.ma.lt k hk).1) HZ1.out);have HFIN:=Lib.hid hfin;have HBF:=Lib.hid hbf;clear hS hkz hset hfr hks hfin hbf ho18 hf18 hr18 ho16 hf16 ev16 E3 E4 E15 E16 E18;go_wp2_with fail;go_roundw
        case rel=>exact ⟨i+1,_,_,_,_,_,_,_,_,by go_num,by omega,HFIN,HBF⟩
        case measure=>simp[intOf];omega
   .have hie:i=nst:=by omega
    have hd:decide ((i:Int)<(nst:Int))=false:=decide_eq_false (by omega)
    have hle:=HL.out;have hlei:i=st.length:=by rw[HNST.out];exact hie
    have hmkE:=hle.ma.own;have hmkA:wr.ownsRow w1.heap.size 4 1 vA acs.length (rowF bC acs):=hle.ma.acc;obtain ⟨AE,cE,rfl,-,-⟩:=own_form hmkE;obtain ⟨AV,cA,rfl,-,-⟩:=own_form hmkA;obtain ⟨nE,hnE⟩:∃x,rs.length=x:=⟨_,rfl⟩;obtain ⟨nV,hnV⟩:∃x,acs.length=x:=⟨_,rfl⟩;rw[hnE,hnV]at HL;have hNr:=HL.out.ma.hN;obtain ⟨xn0,xn1⟩:wr.cell? ⟨w2.heap.size+1,0,none⟩=some (.slice AE nE cE)/\wr.cell? ⟨w2.heap.size+1,1,none⟩=some (.slice AV nV cA):=by constructor <;> (rw[cell_of_row _ _ _ _ _ _ hNr]; rfl)
    have hX1:=(HB.out.block (w.heap.size+1) lx1).trans HX1.out;obtain ⟨q0,q1⟩:wr.cell? ⟨w.heap.size+1,0,none⟩=some (.slice none 0 0)/\wr.cell? ⟨w.heap.size+1,1,none⟩=some (.slice none 0 0):=by constructor <;> (rw[cell_of_row _ _ _ _ _ _ hX1]; rfl)
    have g0:wr.frozen? ⟨w.heap.size+1,0,none⟩=false:=by simp[World.frozen?,hX1]
    have g1:wr.frozen? ⟨w.heap.size+1,1,none⟩=false:=by simp[World.frozen?,hX1]
    have lNr:w2.heap.size+1<wr.heap.size:=(Array.getElem?_eq_some_iff.1 hNr).1;have lXr:w.heap.size+1<wr.heap.size:=by omega
    have HEI:=Lib.hid (And.intro hlei (And.intro hnE hnV));clear hle hlei hmkE hmkA hNr hX1 hnE hnV hie;go_wp2_with fail;refine post_named λWf hWf=>?_;refine bodyPost_ret (v:=.agg #[.slice AE nE cE, .slice AV nV cA]) (by rw[hWf];simp[results,Tryz.results117,go_sem,q0,q1,lXr];try rfl) rfl ?_
    have hkl:KeepF [w.heap.size+1] [] wr Wf:=by
     rw[hWf];have hne:∀k,k∉[w.heap.size+1]->k≠w.heap.size+1:=λk hn e=>hn (List.mem_singleton.2 e);exact ⟨rfl,rfl,rfl,by simp[World.setCell],λk _ hn=>(Below.heap_setCell (wr.setCell ⟨w.heap.size+1,0,none⟩ (.slice AE nE cE)) ⟨w.heap.size+1,1,none⟩ (.slice AV nV cA) k (hne k hn)).trans (Below.heap_setCell wr ⟨w.heap.size+1,0,none⟩ (.slice AE nE cE) k (hne k hn)),λk hk=>by cases hk⟩
    have hmk:=HL.out.ma.low hkl (λk hk=>by rw[List.mem_singleton]at hk;omega)
    have hle:=HL.out.le;rw[HEI.out.1]at hle;obtain ⟨d1,d2,d3⟩:=hle.done HV.out HCL.out.2.1;have hac2:acs=(leastM m (clF cs) (numC (clF cs) st) st).ac:=by rw[HL.out.ac,HEI.out.1,List.take_length];rfl
    have hm':(⟨rs,acs⟩:Mc)=leastM m (clF cs) (numC (clF cs) st) st:=by rw[d1,hac2]
    have hww1:=HB1.out.size;have hbf:Below w.heap.size w Wf:=(HB1.out.trans (HB.out.mono HB1.out.size)).trans (hkl.below (λk hk=>by rw[List.mem_singleton]at hk;omega) (by omega))
    refine ⟨_,⟨rs,acs⟩,rfl,hmk.up.mono hww1,hbf, .inl ⟨?_,by rw[hm'];exact d2,by rw[hm'];exact d3⟩,?_,?_⟩
    .by_cases hx:LiveS m 0
     .exact hx
     .exact absurd ((HCL.out.2.1.dead 0 (by rw[HN.out.1];exact HN1.out)).2 hx) (HL.out.le.lv 0 (List.mem_of_getElem? HL.out.le.zero)).2
    .show rs.length<=_;rw[d1];unfold leastM;simp;exact HL.out.le.nodup
    .rw[hm'];have hr:∀r∈(leastM m (clF cs) (numC (clF cs) st) st).ed,∃s∈st,r=renE (numC (clF cs) st) (joinF (clF cs) (rowM m s)):=λr hr=>by
      unfold leastM at hr;obtain ⟨s,h1,h2⟩:=List.mem_map.1 hr;exact ⟨s,h1,h2.symm⟩
     have hrm:∀s∈st,rowM m s∈m.ed:=λs hs=>by
      obtain ⟨h1,-⟩:=HL.out.le.lv s hs;unfold rowM;rw[List.getElem?_eq_getElem h1];exact List.getElem_mem h1
     refine ⟨λr h e he=>?_,λr h=>?_,?_⟩
     .obtain ⟨s,h1,rfl⟩:=hr r h;unfold renE at he;obtain ⟨f,h2,rfl⟩:=List.mem_map.1 he;have:=joinF_by (cls:=clF cs) (HV.out.srt _ (hrm s h1)) (HSM.out.by_ _ (hrm s h1)) f h2;exact ⟨this.1,this.2.1⟩
     .obtain ⟨s,h1,rfl⟩:=hr r h;rw[renE_len];exact Nat.le_trans (joinF_len _ _) (HSM.out.rl _ (hrm s h1))
     .unfold leastM;simp;have:=HL.out.le.nodup;have:=HSM.out.n;omega
end Go.Proofs.YtljgapfmgegifaaGreatDoor
namespace Go.Proofs.YtljgapfmgegifaaGreatDoor
set_option linter.unusedVariables false
set_option linter.unusedSimpArgs false
set_option maxRecDepth 100000
open Go.RowKit
structure Bx (w:World) (a b c d:Value) (wr:World):Prop where
 bel:Below w.heap.size w wr
 siz:w.heap.size+2<=wr.heap.size
 r0:wr.heap[w.heap.size]?=some (.cells #[a,b] 85 (0,0))
 r1:wr.heap[w.heap.size+1]?=some (.cells #[c,d] 85 (0,0))
def rgC (r:Nat×Nat):List Value:=[.int .u8 (r.1:Int), .int .u8 (r.2:Int)]
theorem rgC_E:EncS rgC 2:=⟨by decide,λ_=>rfl,λx u hu=>by simp[rgC]at hu; rcases hu with rfl | rfl <;> rfl⟩
theorem info_rge:(Tryz.prog.info? 78).map (λi=>(i.zero,i.size,i.bytes))=some (some (.agg #[.int .u8 0, .int .u8 0]),2,2):=by kernel_rfl
theorem RgIn.of_OR {w:World} {B:Nat} {v:Value} {l:List (Nat×Nat)} (h:OR 78 2 rgC B v l w) (hb:∀r∈l,r.1<256/\r.2<256):RgIn w v l:=by
 obtain ⟨A,c,e,hc,hor⟩:=h.cells rgC_E;have hcm:c<=9223372036854775807:=by
  obtain ⟨A',c',e',-,h'⟩:=own_form (show w.ownsRow _ _ _ _ _ _ from h);rw[e]at e';injection e' with _ _ e3;rw[e3];exact h'
 refine ⟨A,c,e,⟨hc,hcm⟩,hor.imp id ?_⟩;rintro ⟨g,h1,-,hg,hcell⟩;refine ⟨g,0,h1,hg,λi hi=>?_⟩;have h0:=(hcell i hi 0 (by decide)).1
 have h2:=(hcell i hi 1 (by decide)).1
 rw[Nat.zero_add,Nat.add_zero]at *;exact ⟨⟨h0,h2⟩,hb l[i] (List.getElem_mem hi)⟩
theorem calls_named {P:Program} {f:FuncId} {args:Array Value} {Q:Ending->World->Prop} {w:World} (h:∀W,W=w->Calls P f args W Q):Calls P f args w Q:=h w rfl
set_option maxHeartbeats 4000000 in
theorem set_dg (rb:Nat) (d:Int) (w:World) (h:RdW rb ⟨#[48,45,57,93,123,50,125]⟩ false d w) :
  Calls Tryz.prog 199 #[.pointer (some ⟨rb,0,none⟩)] w λe w'=>∃v,e = .returned (.agg #[.int .i64 1,v, .slice none 0 0, .int .i64 0, .int .i64 0])/\OR 78 2 rgC w.heap.size v [(48,57)] w'/\RdW rb ⟨#[123,50,125]⟩ false d w'/\KfR rb w w':=by
 obtain ⟨⟨c0,c1,c2⟩,⟨f0,f1,f2⟩,hl⟩:=h.cells;obtain ⟨i3,hi3,hk0,hk1,hk2⟩:=info_parts info_rge;have HR:=Lib.hid h;clear h
 go_enter Tryz.func199,Tryz.ntmps199
 go_wp2_with fail;refine wp_loop_rounds 2 ?_;rw[rounds_succ];go_wp2_with fail;refine calls_named λW0 hW0=>?_;have hb0:Below w.heap.size w W0:=by rw[hW0];exact ((Below.refl _ _).alloc (Nat.le_refl _) _).alloc (by simp) _
 have hX:W0.heap[w.heap.size+1]?=some (.cells #[.int .i64 1, .slice none 0 0, .slice none 0 0, .int .i64 0, .int .i64 0] 31 (0,0)):=by rw[hW0];simpa using heap_alloc_new (w.alloc _) (.cells #[.int .i64 1, .slice none 0 0, .slice none 0 0, .int .i64 0, .int .i64 0] 31)
 have hY:W0.heap[w.heap.size]?=some (.cells #[.int .i64 0, .slice none 0 0, .slice none 0 0, .int .i64 0, .int .i64 0] 31 (0,0)):=by rw[hW0,old_alloc _ _ _ (by simp)];exact heap_alloc_new w _
 have hz0:W0.heap.size=w.heap.size+2:=by rw[hW0];simp
 have hT1:=take_any rb _ ⟨#[48,45,57,93,123,50,125]⟩ ⟨#[93]⟩ false false d W0 (HR.out.later hb0) rfl rfl;have HT1:=Lib.hid hT1;have H0:=Lib.hid (And.intro hb0 (And.intro hX hY));clear hW0 hb0 hX hY hT1 c0 c1 c2 f0 f1 f2;refine HT1.out.mono ?_;rintro e w1 ⟨rfl,hr1,hk1⟩;have hT2:=one_at rb _ ⟨#[45,57,93,123,50,125]⟩ 48 false d w1 hr1 rfl rfl (by decide) rfl (λ_=>by kernel_rfl) rfl
 have HT2:=Lib.hid hT2;have H1:=Lib.hid hk1;clear hr1 hk1 hT2;go_wp2_with fail;refine HT2.out.mono ?_;rintro e w2 ⟨rfl,hr2,hk2⟩;have H2:=Lib.hid (And.intro hr2 (H1.out.tr hk2));clear hr2 hk2;go_wp2_with fail;refine calls_named λW3 hW3=>?_;have hb3:Below w2.heap.size w2 W3:=by rw[hW3];exact (Below.refl _ _).alloc (Nat.le_refl _) _
 have hX3:W3.heap[w2.heap.size]?=some (.cells #[.int .u8 48, .int .u8 48] 78 (0,0)):=by rw[hW3];exact heap_alloc_new w2 _
 have hz2:=H2.out.2.size;have hT4:=take_any rb _ ⟨#[57,93,123,50,125]⟩ ⟨#[45]⟩ false true d W3 (H2.out.1.later hb3) rfl rfl;have HT4:=Lib.hid hT4;have H3:=Lib.hid (And.intro hX3 (H2.out.2.tr (kfr_below hb3)));have hz3:=hb3.size;have lX3:w2.heap.size<W3.heap.size:=(Array.getElem?_eq_some_iff.1 hX3).1;clear hW3 hb3 hX3 hT4;refine HT4.out.mono ?_;rintro e w4 ⟨rfl,hr4,hk4⟩;have hT5:=one_at rb _ ⟨#[93,123,50,125]⟩ 57 false d w4 hr4 rfl rfl (by decide) rfl (λ_=>by kernel_rfl) rfl
 have HT5:=Lib.hid hT5;have H4:=Lib.hid hk4;clear hr4 hk4 hT5;go_wp2_with fail;refine HT5.out.mono ?_;rintro e w5 ⟨rfl,hr5,hk5⟩;have hne:∀k,w.heap.size<=k->k∉[rb]:=λk hk hm=>by rw[List.mem_singleton]at hm;omega
 have hkk:=H4.out.tr hk5;have hX5:=(hkk.blk w2.heap.size lX3 (hne _ (by omega))).trans H3.out.1
 have hk05:=H3.out.2.tr hkk;have hN5:=(hk05.blk (w.heap.size+1) (by omega) (hne _ (by omega))).trans H0.out.2.1
 have hY5:=(hk05.blk w.heap.size (by omega) (hne _ (Nat.le_refl _))).trans H0.out.2.2
 obtain ⟨x0,x1⟩:w5.cell? ⟨w2.heap.size,0,none⟩=some (.int .u8 48)/\w5.cell? ⟨w2.heap.size,1,none⟩=some (.int .u8 48):=by constructor <;> (rw[cell_of_row _ _ _ _ _ _ hX5]; rfl)
 have fx1:w5.frozen? ⟨w2.heap.size,1,none⟩=false:=by simp[World.frozen?,hX5]
 obtain ⟨n0,n1,n2,n3,n4⟩:=cells5 hN5;have fn1:w5.frozen? ⟨w.heap.size+1,1,none⟩=false:=by simp[World.frozen?,hN5]
 have hz5:=hkk.size;have l2:w2.heap.size<w5.heap.size:=by omega
 have ln:w.heap.size+1<w5.heap.size:=by omega
 have ne1:¬w.heap.size+1=w2.heap.size:=by omega
 have ne2:¬w2.heap.size=w.heap.size+1:=by omega
 have H5:=Lib.hid (And.intro hr5 (And.intro hk05 (And.intro hN5 hY5)));have hown0:((w5.setCell ⟨w2.heap.size,1,none⟩ (.int .u8 57)).alloc (.cells #[.int .u8 48, .int .u8 57] 78)).ownsRow w.heap.size 78 2 (.slice none 0 0) 0 []:=World.ownsRow_nil _ _ _ _;have hcx:∀j u,([.int .u8 48, .int .u8 57]:List Value)[j]?=some u->((w5.setCell ⟨w2.heap.size,1,none⟩ (.int .u8 57)).alloc (.cells #[.int .u8 48, .int .u8 57] 78)).cell? ((⟨w5.heap.size,0,none⟩:Addr).add j)=some u:=λj u hj=>by
  have hrow:((w5.setCell ⟨w2.heap.size,1,none⟩ (.int .u8 57)).alloc (.cells #[.int .u8 48, .int .u8 57] 78)).heap[w5.heap.size]?=some (.cells #[.int .u8 48, .int .u8 57] 78 (0,0)):=by simpa [World.setCell] using heap_alloc_new (w5.setCell ⟨w2.heap.size,1,none⟩ (.int .u8 57)) (.cells #[.int .u8 48, .int .u8 57] 78)
  match j,hj with
  | 0,hj=>simp at hj;rw[<-hj,Addr.add_lit,cell_of_row _ _ _ _ _ _ hrow];rfl
  | 1,hj=>simp at hj;rw[<-hj,Addr.add_lit,cell_of_row _ _ _ _ _ _ hrow];rfl
 clear hr5 hk5 hkk hk05 hX5 hN5 hY5;go_wp2_with (at_builtin; refine appI_at rfl _ _ 28 rfl w.heap.size 78 i3 _ 2 2 Tryz.underlying28 hi3 hk0 hk1 hk2 rfl (by decide) _ 0 [] rfl hown0 ⟨w5.heap.size,0,none⟩ 1 1 [.int .u8 48, .int .u8 57] rfl rfl hcx (by intro u hu; simp at hu; rcases hu with rfl | rfl <;> rfl) (by decide) (by decide) (by simp[World.setCell]; omega) ?_)
 intro v' w6 hown6 hg6 hf6;obtain ⟨A6,c6,rfl,-,-⟩:=own_form hown6;have hzA:((w5.setCell ⟨w2.heap.size,1,none⟩ (.int .u8 57)).alloc (.cells #[.int .u8 48, .int .u8 57] 78)).heap.size=w5.heap.size+1:=by simp[World.setCell]
 have hz6:=hg6.size;rw[hzA]at hz6;have hf6':∀g,(Value.slice A6 1 c6).ownBlock=some g->w5.heap.size+1<=g:=λg hg=>by
  rcases hf6 with h | ⟨g',h,h2⟩
  .rw[h]at hg;cases hg
  .rw[h]at hg;injection hg with hg;first | omega | (simp[World.setCell]at h2;omega)
 have h56:∀k,k<w5.heap.size->k≠w2.heap.size->w6.heap[k]?=w5.heap[k]?:=λk hk hn=>(hg6.block k (by rw[hzA];omega) (by simp[Value.ownBlock])).trans ((old_alloc _ _ _ (by simp[World.setCell];exact hk)).trans (Below.heap_setCell w5 ⟨w2.heap.size,1,none⟩ (.int .u8 57) k hn))
 have hzz0:=H5.out.2.1.size;have hwr2:W0.heap.size<=w2.heap.size:=H2.out.2.size;have hk06:KfR rb W0 w6:=⟨hg6.os.trans H5.out.2.1.os,hg6.tape.trans H5.out.2.1.tape,hg6.output.trans H5.out.2.1.output,by omega,λk hk hn=>(h56 k (by omega) (by omega)).trans (H5.out.2.1.blk k hk hn),λk hk=>.inl hk⟩
 have hr6:=H5.out.1.keep (h56 rb (by omega) (by omega))
 have hN6:=(h56 (w.heap.size+1) ln ne1).trans H5.out.2.2.1;have hY6:=(h56 w.heap.size (by omega) (by omega)).trans H5.out.2.2.2
 have n61:w6.cell? ⟨w.heap.size+1,1,none⟩=some (.slice none 0 0):=by rw[cell_of_row _ _ _ _ _ _ hN6];rfl
 have fn6:w6.frozen? ⟨w.heap.size+1,1,none⟩=false:=by simp[World.frozen?,hN6]
 have ln6:w.heap.size+1<w6.heap.size:=by omega
 obtain ⟨⟨ra0,ra1,ra2⟩,-,lrb⟩:=hr6.cells;have nrb1:¬rb=w.heap.size+1:=by omega
 have nrb2:¬w.heap.size+1=rb:=by omega
 have H6:=Lib.hid (And.intro hown6 (And.intro hf6' (And.intro hk06 (And.intro hr6 (And.intro hN6 hY6)))));clear hown6 hg6 hf6 hf6' h56 hk06 hr6 hN6 hY6 hown0 hcx hzA x0 x1 fx1 n0 n1 n2 n3 n4 fn1;go_wp2_with fail;rw[rounds_succ];go_wp2_with fail;refine calls_named λW7 hW7=>?_;have hset:∀k,k≠w.heap.size+1->W7.heap[k]?=w6.heap[k]?:=λk hk=>by rw[hW7];exact Below.heap_setCell _ _ _ _ hk
 have hz7:W7.heap.size=w6.heap.size:=by rw[hW7];simp[World.setCell]
 have hN7:W7.heap[w.heap.size+1]?=some (.cells #[.int .i64 1, .slice A6 1 c6, .slice none 0 0, .int .i64 0, .int .i64 0] 31 (0,0)):=by
  rw[hW7];have:=set_row3 H6.out.2.2.2.2.1 1 (.slice A6 1 c6);simpa using this
 have hY7:=(hset w.heap.size (by omega)).trans H6.out.2.2.2.2.2
 have hr7:=H6.out.2.2.2.1.keep (hset rb (by omega))
 have ho7:W7.ownsRow w.heap.size 78 2 (.slice A6 1 c6) 1 [.int .u8 48, .int .u8 57]:=own_same H6.out.1 λg hg=>hset g (by have:=H6.out.2.1 g hg;omega)
 have hk7:KeepF [rb,w.heap.size+1] [] W0 W7:=by
  have h1:=H6.out.2.2.1;exact ⟨by rw[hW7];exact h1.os,by rw[hW7];exact h1.tape,by rw[hW7];exact h1.output,by rw[hz7];exact h1.size,λk hk hn=>(hset k (λe=>hn (by simp[e]))).trans (h1.blk k hk (λh=>hn (by simp at h|-;exact .inl h))),λk hk=>by cases hk⟩
 have hT8:=take_any rb _ ⟨#[123,50,125]⟩ ⟨#[93]⟩ false true d W7 hr7 rfl rfl;have HT8:=Lib.hid hT8;have H7:=Lib.hid (And.intro hN7 (And.intro hY7 (And.intro ho7 hk7)));clear hW7 hset hN7 hY7 hr7 ho7 hk7 hT8 n61 fn6;refine HT8.out.mono ?_;rintro e w8 ⟨rfl,hr8,hk8⟩;have hN8:=(hk8.blk (w.heap.size+1) (by omega) (hne _ (by omega))).trans H7.out.1
 have hY8:=(hk8.blk w.heap.size (by omega) (hne _ (Nat.le_refl _))).trans H7.out.2.1
 obtain ⟨n0,n1,n2,n3,n4⟩:=cells5 hN8;obtain ⟨y0,y1,y2,y3,y4⟩:=cells5 hY8;have fy0:w8.frozen? ⟨w.heap.size,0,none⟩=false:=by simp[World.frozen?,hY8]
 have fy1:w8.frozen? ⟨w.heap.size,1,none⟩=false:=by simp[World.frozen?,hY8]
 have fy2:w8.frozen? ⟨w.heap.size,2,none⟩=false:=by simp[World.frozen?,hY8]
 have fy3:w8.frozen? ⟨w.heap.size,3,none⟩=false:=by simp[World.frozen?,hY8]
 have fy4:w8.frozen? ⟨w.heap.size,4,none⟩=false:=by simp[World.frozen?,hY8]
 have hz8:=hk8.size;have l8:w.heap.size+1<w8.heap.size:=by omega
 have l80:w.heap.size<w8.heap.size:=by omega
 have H8:=Lib.hid (And.intro hr8 hk8);clear hr8 hk8 hN8 hY8;go_wp2_with fail;refine post_named λWf hWf=>?_;refine bodyPost_ret (v:=.agg #[.int .i64 1, .slice A6 1 c6, .slice none 0 0, .int .i64 0, .int .i64 0]) (by rw[hWf];simp[results,Tryz.results199,go_sem,y0,y1,y2,y3,y4,l80];try rfl) rfl ?_
 have hsetf:∀k,k≠w.heap.size->Wf.heap[k]?=w8.heap[k]?:=λk hk=>by
  rw[hWf];simp only[Below.heap_setCell _ _ _ _ (show k≠(⟨w.heap.size,0,none⟩:Addr).block from hk),Below.heap_setCell _ _ _ _ (show k≠(⟨w.heap.size,1,none⟩:Addr).block from hk),Below.heap_setCell _ _ _ _ (show k≠(⟨w.heap.size,2,none⟩:Addr).block from hk),Below.heap_setCell _ _ _ _ (show k≠(⟨w.heap.size,3,none⟩:Addr).block from hk),Below.heap_setCell _ _ _ _ (show k≠(⟨w.heap.size,4,none⟩:Addr).block from hk)]
 have hzf:Wf.heap.size=w8.heap.size:=by rw[hWf];simp[World.setCell]
 have hge:∀g,(Value.slice A6 1 c6).ownBlock=some g->w5.heap.size+1<=g:=H6.out.2.1;refine ⟨_,rfl,?_,H8.out.1.keep (hsetf rb (by omega)),?_⟩
 .have h1:=own_same H7.out.2.2.1 λg hg=>H8.out.2.blk g (H7.out.2.2.1.lt g hg).2 (hne _ (by have:=hge g hg;omega))
  exact own_same h1 λg hg=>hsetf g (by have:=hge g hg;omega)
 .have hk9:=H7.out.2.2.2;have h1:=H8.out.2;have hos:Wf.os=w8.os/\Wf.tape=w8.tape/\Wf.output=w8.output:=by rw[hWf];exact ⟨rfl,rfl,rfl⟩
  have hb:=H0.out.1;exact ⟨hos.1.trans (h1.os.trans (hk9.os.trans hb.os)),hos.2.1.trans (h1.tape.trans (hk9.tape.trans hb.tape)),hos.2.2.trans (h1.output.trans (hk9.output.trans hb.output)),by omega,λk hk hn=>by
   rw[hsetf k (by omega),h1.blk k (by omega) hn,hk9.blk k (by omega) (λhm=>by simp at hm;rcases hm with hm | hm;exact hn (by simp[hm]);omega),hb.block k hk],λk hk=>.inl hk⟩
theorem own_type' {w:World} {B k n:Nat} {e:TypeId} {v:Value} {xs:List Value} (h:w.ownsRow B e k v n xs):∀g,v.ownBlock=some g->∃cs m,w.heap[g]?=some (.cells cs e m):=λg hg=>by
 rcases h.2 with ⟨h1,-⟩ | ⟨g',cap,cur,h1,-,hg',-⟩
 .subst h1;simp[Value.ownBlock]at hg
 .subst h1;simp[Value.ownBlock]at hg;subst hg;exact ⟨_,_,hg'⟩
def ItP (B:Nat) (x:Value) (w':World):Prop:=∃g v,x = .agg #[.int .i64 4, .slice none 0 0, .slice (some ⟨g,0,none⟩) 1 1, .int .i64 2, .int .i64 2]/\B<=g/\w'.heap[g]?=some (.cells #[.int .i64 1,v, .slice none 0 0, .int .i64 0, .int .i64 0] 31 (0,0))/\OR 78 2 rgC B v [(97,98)] w'
def StI10 (rb:Nat) (d:Int) (W:World) (c:Nat) (w':World):Prop:=KfR rb W w'/\(c=0->RdW rb ⟨#[50,125]⟩ false d w')
def factI10 (rb:Nat) (d:Int) (v1:Value) (W:World):Nat->Nat->Value->World->Prop
 | c,0,x,w=>x = .agg #[.int .i64 1,v1, .slice none 0 0, .int .i64 0, .int .i64 0]
 | c,1,x,w=>∃g,x = .slice (some ⟨g,0,none⟩) 1 1/\W.heap.size<=g/\g<w.heap.size/\w.heap[g]?=some (.cells #[.int .i64 1,v1, .slice none 0 0, .int .i64 0, .int .i64 0] 31 (0,0))
 | c,2,x,w=>x = .pointer (some ⟨rb,0,none⟩)
 | c,3,x,w=>c=1->x = .int .i64 2/\RdW rb ⟨#[125]⟩ false d w
 | _,_,_,_=>True
set_option maxHeartbeats 4000000 in
theorem set5 {w Wf:World} {b:Nat} {a0 a1 a2 a3 a4:Value} (h:Wf=((((w.setCell ⟨b,0,none⟩ a0).setCell ⟨b,1,none⟩ a1).setCell ⟨b,2,none⟩ a2).setCell ⟨b,3,none⟩ a3).setCell ⟨b,4,none⟩ a4):(∀k,k≠b->Wf.heap[k]?=w.heap[k]?)/\Wf.heap.size=w.heap.size/\(Wf.os=w.os/\Wf.tape=w.tape/\Wf.output=w.output)/\
  ∀{o0 o1 o2 o3 o4:Value} {T:TypeId},w.heap[b]?=some (.cells #[o0,o1,o2,o3,o4] T (0,0))->Wf.heap[b]?=some (.cells #[a0,a1,a2,a3,a4] T (0,0)):=by
 subst h;refine ⟨λk hk=>?_,by simp[World.setCell],⟨rfl,rfl,rfl⟩,λ{o0 o1 o2 o3 o4 T} hb=>?_⟩
 .exact (Below.heap_setCell _ ⟨b,4,none⟩ _ k hk).trans ((Below.heap_setCell _ ⟨b,3,none⟩ _ k hk).trans ((Below.heap_setCell _ ⟨b,2,none⟩ _ k hk).trans ((Below.heap_setCell _ ⟨b,1,none⟩ _ k hk).trans (Below.heap_setCell _ ⟨b,0,none⟩ _ k hk))))
 .have:=set_row3 (set_row3 (set_row3 (set_row3 (set_row3 hb 0 a0) 1 a1) 2 a2) 3 a3) 4 a4;simpa using this
def ItD (B:Nat) (x:Value) (w':World):Prop:=∃g v,x = .agg #[.int .i64 4, .slice none 0 0, .slice (some ⟨g,0,none⟩) 1 1, .int .i64 2, .int .i64 2]/\B<=g/\w'.heap[g]?=some (.cells #[.int .i64 1,v, .slice none 0 0, .int .i64 0, .int .i64 0] 31 (0,0))/\OR 78 2 rgC B v [(48,57)] w'
theorem ItD.keep {B:Nat} {x:Value} {w w':World} {L L':List Nat} (h:ItD B x w) (hk:KeepF L L' w w') (hL:∀k∈L,k<B):ItD B x w':=by
 obtain ⟨g,v,h1,h2,h3,h4⟩:=h;exact ⟨g,v,h1,h2,(hk.blk g (Array.getElem?_eq_some_iff.1 h3).1 λhm=>by have:=hL g hm;omega).trans h3,OR.keep h4 λq hq=>hk.blk q (World.ownsRow.lt h4 q hq).2 λhm=>by have:=hL q hm;have:=(World.ownsRow.lt h4 q hq).1;omega⟩
theorem ItD.mono {B B':Nat} {x:Value} {w:World} (h:ItD B x w) (hB:B'<=B):ItD B' x w:=by
 obtain ⟨g,v,h1,h2,h3,h4⟩:=h;exact ⟨g,v,h1,Nat.le_trans hB h2,h3,OR.mono h4 hB⟩
def StJ10 (rb:Nat) (d:Int) (W:World) (c:Nat) (w':World):Prop:=KfR rb W w'/\(c=0->RdW rb ⟨#[50,125]⟩ false d w')
def factJ10 (rb:Nat) (d:Int) (v1:Value) (W:World):Nat->Nat->Value->World->Prop
 | c,0,x,w=>x = .agg #[.int .i64 1,v1, .slice none 0 0, .int .i64 0, .int .i64 0]
 | c,1,x,w=>∃g,x = .slice (some ⟨g,0,none⟩) 1 1/\W.heap.size<=g/\g<w.heap.size/\w.heap[g]?=some (.cells #[.int .i64 1,v1, .slice none 0 0, .int .i64 0, .int .i64 0] 31 (0,0))
 | c,2,x,w=>x = .pointer (some ⟨rb,0,none⟩)
 | c,3,x,w=>c=1->x = .int .i64 2/\RdW rb ⟨#[125]⟩ false d w
 | _,_,_,_=>True
set_option maxHeartbeats 4000000 in
theorem item_dg (rb:Nat) (d:Int) (w:World) (h:RdW rb ⟨#[91,48,45,57,93,123,50,125]⟩ false d w) :
  Calls Tryz.prog 170 #[.pointer (some ⟨rb,0,none⟩)] w λe w'=>∃x,e = .returned x/\ItD w.heap.size x w'/\RdW rb ⟨#[]⟩ false d w'/\KfR rb w w':=by
 obtain ⟨-,-,hl⟩:=h.cells;have HR:=Lib.hid h;clear h;have hne:∀k,w.heap.size<=k->k∉[rb]:=λk hk hm=>by rw[List.mem_singleton]at hm;omega
 go_enter Tryz.func170,Tryz.ntmps170
 go_wp2_with fail;refine calls_named λW0 hW0=>?_;have hb0:Below w.heap.size w W0:=by rw[hW0];exact ((Below.refl _ _).alloc (Nat.le_refl _) _).alloc (by simp) _
 have hX:W0.heap[w.heap.size+1]?=some (.cells #[.int .i64 0, .slice none 0 0, .slice none 0 0, .int .i64 0, .int .i64 0] 31 (0,0)):=by rw[hW0];simpa using heap_alloc_new (w.alloc _) (.cells #[.int .i64 0, .slice none 0 0, .slice none 0 0, .int .i64 0, .int .i64 0] 31)
 have hY:W0.heap[w.heap.size]?=some (.cells #[.int .i64 0, .slice none 0 0, .slice none 0 0, .int .i64 0, .int .i64 0] 31 (0,0)):=by rw[hW0,old_alloc _ _ _ (by simp)];exact heap_alloc_new w _
 have hz0:W0.heap.size=w.heap.size+2:=by rw[hW0];simp
 have hT1:=take_any rb _ ⟨#[91,48,45,57,93,123,50,125]⟩ ⟨#[40]⟩ false false d W0 (HR.out.later hb0) rfl rfl;have HT1:=Lib.hid hT1;have H0:=Lib.hid (And.intro hb0 (And.intro hX hY));clear hW0 hb0 hX hY hT1;refine HT1.out.mono ?_;rintro e w1 ⟨rfl,hr1,hk1⟩;have HT2:=Lib.hid (take_any rb _ ⟨#[48,45,57,93,123,50,125]⟩ ⟨#[91]⟩ false true d w1 hr1 rfl rfl);have H1:=Lib.hid hk1;clear hr1 hk1;go_wp2_with fail;refine HT2.out.mono ?_;rintro e w2 ⟨rfl,hr2,hk2⟩;have HT3:=Lib.hid (set_dg rb d w2 hr2);have hk02:=H1.out.tr hk2;have H2:=Lib.hid hk02;have hz2:=hk02.size;clear hr2 hk2 hk02;go_wp2_with fail;refine HT3.out.mono ?_;rintro e w3 ⟨v1,rfl,ho3,hr3,hk3⟩;obtain ⟨A1,c1,rfl,-,-⟩:=own_form (show w3.ownsRow _ _ _ _ _ _ from ho3);obtain ⟨n1,hn1⟩:∃n,[((48:Nat),(57:Nat))].length=n:=⟨_,rfl⟩;rw[hn1]at ho3|-;have hk03:=H2.out.tr hk3;have hX3:=(hk03.blk (w.heap.size+1) (by omega) (hne _ (by omega))).trans H0.out.2.1
 have hY3:=(hk03.blk w.heap.size (by omega) (hne _ (Nat.le_refl _))).trans H0.out.2.2
 obtain ⟨x0,x1,x2,x3,x4⟩:=cells5 hX3;have fx:∀j,j<5->w3.frozen? ⟨w.heap.size+1,j,none⟩=false:=λj _=>by simp[World.frozen?,hX3]
 have fx0:=fx 0 (by decide)
 have fx1:=fx 1 (by decide)
 have fx2:=fx 2 (by decide)
 have fx3:=fx 3 (by decide)
 have fx4:=fx 4 (by decide)
 have hz3:=hk03.size;have lX3:w.heap.size+1<w3.heap.size:=by omega
 have H3:=Lib.hid (And.intro ho3 (And.intro hr3 (And.intro hk03 (And.intro hX3 hY3))));clear ho3 hr3 hk3 hk03 hX3 hY3 fx hn1;go_wp2_with fail;refine calls_named λW4 hW4=>?_;obtain ⟨s1,s2,s3,s4⟩:=set5 hW4;have hX4:=s4 H3.out.2.2.2.1;have hY4:=(s1 w.heap.size (by omega)).trans H3.out.2.2.2.2
 have hr4:=H3.out.2.1.keep (s1 rb (by omega))
 have ho4:W4.ownsRow w2.heap.size 78 2 (.slice A1 n1 c1) _ _:=own_same H3.out.1 λg hg=>s1 g (by have:=(World.ownsRow.lt H3.out.1 g hg).1;omega)
 have HT5:=Lib.hid (take_any rb _ ⟨#[50,125]⟩ ⟨#[123]⟩ false true d W4 hr4 rfl rfl);have H4:=Lib.hid (And.intro hX4 (And.intro hY4 (And.intro (show OR 78 2 rgC w2.heap.size (.slice A1 n1 c1) [(48,57)] W4 from ho4) (And.intro s1 (And.intro s2 s3)))));clear hW4 s1 s3 s4 hX4 hY4 hr4 ho4 x0 x1 x2 x3 x4 fx0 fx1 fx2 fx3 fx4;refine HT5.out.mono ?_;rintro e W ⟨rfl,hrW,hkW⟩;have hXW:=(hkW.blk (w.heap.size+1) (by omega) (hne _ (by omega))).trans H4.out.1
 obtain ⟨m0,m1,m2,m3,m4⟩:=cells5 hXW;have hzW:=hkW.size;have lX:w.heap.size+1<W.heap.size:=by omega
 have nX:=hne (w.heap.size+1) (by omega)
 have hS0:StJ10 rb d W 0 W.drew:=⟨⟨rfl,rfl,rfl,Nat.le_refl _,λ_ _ _=>rfl,λ_ h=>.inl h⟩,λ_=>hrW⟩;have H5:=Lib.hid (And.intro hkW hXW);clear hrW hkW hXW;go_wp2_with fail;refine wp_region_chain 4 [3] (factJ10 rb d (.slice A1 n1 c1) W) (λc w'=>StJ10 rb d W c w') (by kernel_rfl) (by kernel_rfl) (by kernel_rfl) (by kernel_rfl) (by kernel_rfl) (by kernel_rfl) (by decide) hS0 ?_ ?_
 .simp only[pq4,pq5];refine HSteps.pure (by decide) ?_ (HSteps.free (by decide) ?_ (HSteps.pure (by decide) ?_ (HSteps.eff 0 rfl ?_ (HSteps.nil))))
  all_goals first | (intro v wz c hlo hS hE K hK;simp only[putAll,Act.put,pq1,pq2,pq3,Nat.zero_add,Nat.reduceAdd,pq4,pq5]at hK|-) | (intro v wz hS hE K hK;simp only[putAll,Act.put,pq1,pq2,pq3,Nat.zero_add,Nat.reduceAdd,pq4,pq5]at hK|-)
  .have y0:=(World.cell?_of_block (a:=⟨w.heap.size+1,0,none⟩) (hS.1.blk _ lX nX)).trans m0;have y1:=(World.cell?_of_block (a:=⟨w.heap.size+1,1,none⟩) (hS.1.blk _ lX nX)).trans m1;have y2:=(World.cell?_of_block (a:=⟨w.heap.size+1,2,none⟩) (hS.1.blk _ lX nX)).trans m2;have y3:=(World.cell?_of_block (a:=⟨w.heap.size+1,3,none⟩) (hS.1.blk _ lX nX)).trans m3;have y4:=(World.cell?_of_block (a:=⟨w.heap.size+1,4,none⟩) (hS.1.blk _ lX nX)).trans m4;have l1:w.heap.size+1<wz.heap.size:=by have:=hS.1.size;omega
   have HX:=Lib.hid hS;clear hS hE hlo;go_wp2_with fail;exact hK.out _ rfl
  .have e0:v 0=_:=hE.1 rfl;rw[e0]at hK|-;have hbz:Below wz.heap.size wz (wz.alloc (.cells #[.int .i64 1, .slice A1 n1 c1, .slice none 0 0, .int .i64 0, .int .i64 0] 31)):=(Below.refl _ _).alloc (Nat.le_refl _) _;have hzW:=hS.1.size;have hk1:KfR rb W (wz.alloc (.cells #[.int .i64 1, .slice A1 n1 c1, .slice none 0 0, .int .i64 0, .int .i64 0] 31)):=hS.1.tr (kfr_below hbz);have hr1:c=0->RdW rb ⟨#[50,125]⟩ false d (wz.alloc (.cells #[.int .i64 1, .slice A1 n1 c1, .slice none 0 0, .int .i64 0, .int .i64 0] 31)):=λh=>(hS.2 h).later hbz;have HX:=Lib.hid (And.intro hk1 hr1);have HBZ:=Lib.hid hbz;clear hS hE hlo hbz hk1 hr1;go_wp2_with fail;refine hK.out _ _ (λj z hj h=>?_) HX.out ⟨wz.heap.size,rfl,hzW,by simp,by simpa using heap_alloc_new wz (.cells #[.int .i64 1, .slice A1 n1 c1, .slice none 0 0, .int .i64 0, .int .i64 0] 31)⟩
   match j with
   | 0 | 2=>exact h
   | 1=>exact absurd rfl hj
   | 3=>exact λhc=>⟨(h hc).1,(h hc).2.later HBZ.out⟩
   | _+4=>exact trivial
  .have HX:=Lib.hid hS;clear hS hE hlo;go_wp2_with fail;exact hK.out _ rfl
  .have e2:v 2=_:=hE.1 rfl;rw[e2]at hK|-;have hcall:=number_2 rb d wz (hS.2 rfl);have HC:=Lib.hid hcall;have HX:=Lib.hid hS;clear hS hE hcall;go_wp2_with fail;refine HC.out.mono ?_;rintro e wy ⟨rfl,hr,hk⟩;have HP:=Lib.hid (And.intro hr hk);clear hr hk;go_wp2_with fail;refine hK.out _ _ (λj z hj h=>?_) ⟨HX.out.1.tr HP.out.2,λh=>by cases h⟩ (λ_=>⟨rfl,HP.out.1⟩)
   match j with
   | 0 | 2=>exact h
   | 1=>
    obtain ⟨g,e,h1,h2,h3⟩:=h;have hrW:=HX.out.1.size;exact ⟨g,e,h1,Nat.lt_of_lt_of_le h2 HP.out.2.size,(HP.out.2.blk g h2 (by rw[List.mem_singleton];omega)).trans h3⟩
   | 3=>exact absurd rfl hj
   | _+4=>exact trivial
 .intro v wz hS hF;have e0:v 0=_:=hF 0 (by decide)
  have e2:v 2=_:=hF 2 (by decide)
  have E1:=hF 1 (by decide)
  have E3:=hF 3 (by decide)
  simp only[putAll,Act.put,pq1,pq2,pq3,Nat.zero_add,Nat.reduceAdd,pq4,pq5,List.drop_succ_cons,List.drop_zero,e0,e2];clear hF e0 e2;obtain ⟨g1,e1',hg1,hg2,hg3⟩:=E1;obtain ⟨e3',hrz⟩:=E3 rfl;rw[e1',e3'];have hkz:=hS.1;have hXz:=(hkz.blk (w.heap.size+1) lX nX).trans H5.out.2;have hYW:=(H5.out.1.blk w.heap.size (by omega) (hne _ (Nat.le_refl _))).trans H4.out.2.1
  have hYz:=(hkz.blk w.heap.size (by omega) (hne _ (Nat.le_refl _))).trans hYW
  obtain ⟨x0,x1,x2,x3,x4⟩:=cells5 hXz;have fx:∀j,j<5->wz.frozen? ⟨w.heap.size+1,j,none⟩=false:=λj _=>by simp[World.frozen?,hXz]
  have fx0:=fx 0 (by decide)
  have fx1:=fx 1 (by decide)
  have fx2:=fx 2 (by decide)
  have fx3:=fx 3 (by decide)
  have fx4:=fx 4 (by decide)
  have hzz:=hkz.size;have lXz:w.heap.size+1<wz.heap.size:=by omega
  have ho5:OR 78 2 rgC (w.heap.size+1) (.slice A1 n1 c1) [(48,57)] wz:=by
   have hoW:=H4.out.2.2.1;have h1:=OR.keep hoW (w1:=W) λq hq=>H5.out.1.blk q (World.ownsRow.lt hoW q hq).2 (hne _ (by have:=(World.ownsRow.lt hoW q hq).1;omega))
   have h2:=OR.keep h1 (w1:=wz) λq hq=>hkz.blk q (World.ownsRow.lt h1 q hq).2 (hne _ (by have:=(World.ownsRow.lt h1 q hq).1;omega))
   exact OR.mono h2 (by omega)
  have H6:=Lib.hid (And.intro hkz (And.intro hXz (And.intro hYz (And.intro ho5 (And.intro hrz hg3)))));clear hS hkz hXz hYW hYz fx ho5 hrz hg3 e1' e3' E3 m0 m1 m2 m3 m4;go_wp2_with fail;refine calls_named λW8 hW8=>?_;obtain ⟨W7,hW7⟩:∃W7,W7=((((wz.setCell ⟨w.heap.size+1,0,none⟩ (.int .i64 4)).setCell ⟨w.heap.size+1,1,none⟩ (.slice none 0 0)).setCell ⟨w.heap.size+1,2,none⟩ (.slice (some ⟨g1,0,none⟩) 1 1)).setCell ⟨w.heap.size+1,3,none⟩ (.int .i64 2)).setCell ⟨w.heap.size+1,4,none⟩ (.int .i64 0):=⟨_,rfl⟩;rw[<-hW7]at hW8;obtain ⟨s1,s7,s3,s4⟩:=set5 hW7;have hX7:=s4 H6.out.2.1;have hX8:W8.heap[w.heap.size+1]?=some (.cells #[.int .i64 4, .slice none 0 0, .slice (some ⟨g1,0,none⟩) 1 1, .int .i64 2, .int .i64 2] 31 (0,0)):=by
   rw[hW8];have:=set_row3 hX7 4 (.int .i64 2);simpa using this
  have t1:∀k,k≠w.heap.size+1->W8.heap[k]?=wz.heap[k]?:=λk hk=>by rw[hW8];exact (Below.heap_setCell _ ⟨w.heap.size+1,4,none⟩ _ k hk).trans (s1 k hk)
  have t2:W8.heap.size=wz.heap.size:=by rw[hW8];simp[World.setCell];exact s7
  have t3:W8.os=wz.os/\W8.tape=wz.tape/\W8.output=wz.output:=by rw[hW8];exact s3
  have hr8:=H6.out.2.2.2.2.1.keep (t1 rb (by omega))
  have hY8:=(t1 w.heap.size (by omega)).trans H6.out.2.2.1
  have ho8:=OR.keep H6.out.2.2.2.1 (w1:=W8) λq hq=>t1 q (by
   intro e;obtain ⟨cs,md,h1⟩:=own_type' (show wz.ownsRow _ _ _ _ _ _ from H6.out.2.2.2.1) q hq;rw[e,H6.out.2.1]at h1;injection h1 with h1;injection h1 with _ h1 _;exact absurd h1 (by decide))
  have hg8:=(t1 g1 (by omega)).trans H6.out.2.2.2.2.2
  have HT9:=Lib.hid (take_any rb _ ⟨#[125]⟩ ⟨#[44]⟩ false false d W8 hr8 rfl rfl);have H8:=Lib.hid (And.intro hX8 (And.intro hY8 (And.intro ho8 (And.intro hg8 (And.intro t1 t3)))));clear hW7 hW8 s1 s3 s4 hX7 hX8 t1 t3 hr8 hY8 ho8 hg8 x0 x1 x2 x3 x4 fx0 fx1 fx2 fx3 fx4;refine HT9.out.mono ?_;rintro e w9 ⟨rfl,hr9,hk9⟩;have HT10:=Lib.hid (need_yes rb _ ⟨#[]⟩ ⟨#[125]⟩ false d w9 hr9 rfl rfl);have H9:=Lib.hid hk9;clear hr9 hk9;go_wp2_with fail;refine HT10.out.mono ?_;rintro e w10 ⟨rfl,hr10,hk10⟩;have hk8:=H9.out.tr hk10;have hz8:=hk8.size;have hX10:=(hk8.blk (w.heap.size+1) (by omega) (hne _ (by omega))).trans H8.out.1
  have hY10:=(hk8.blk w.heap.size (by omega) (hne _ (Nat.le_refl _))).trans H8.out.2.1
  obtain ⟨x0,x1,x2,x3,x4⟩:=cells5 hX10;obtain ⟨y0,y1,y2,y3,y4⟩:=cells5 hY10;have fy:∀j,j<5->w10.frozen? ⟨w.heap.size,j,none⟩=false:=λj _=>by simp[World.frozen?,hY10]
  have fy0:=fy 0 (by decide)
  have fy1:=fy 1 (by decide)
  have fy2:=fy 2 (by decide)
  have fy3:=fy 3 (by decide)
  have fy4:=fy 4 (by decide)
  have l10:w.heap.size+1<w10.heap.size:=by omega
  have l100:w.heap.size<w10.heap.size:=by omega
  have H10:=Lib.hid (And.intro hr10 hk8);clear hr10 hk10 hk8 hX10 hY10 fy;go_wp2_with fail;refine post_named λWf hWf=>?_;obtain ⟨u1,u2,u3,-⟩:=set5 hWf;refine bodyPost_ret (v:=.agg #[.int .i64 4, .slice none 0 0, .slice (some ⟨g1,0,none⟩) 1 1, .int .i64 2, .int .i64 2]) (by rw[hWf];simp[results,Tryz.results170,go_sem,y0,y1,y2,y3,y4,l100];try rfl) rfl ?_
  have hkf:KeepF [rb,w.heap.size] [] w10 Wf:=⟨u3.1,u3.2.1,u3.2.2,by omega,λk _ hn=>u1 k (λe=>hn (by simp[e])),λk hk=>by cases hk⟩
  have hit8:ItD (w.heap.size+1) (.agg #[.int .i64 4, .slice none 0 0, .slice (some ⟨g1,0,none⟩) 1 1, .int .i64 2, .int .i64 2]) W8:=⟨g1, .slice A1 n1 c1,rfl,by omega,H8.out.2.2.2.1,H8.out.2.2.1⟩
  have hitf:=(hit8.keep H10.out.2 (λk hk=>by rw[List.mem_singleton]at hk;omega)).keep hkf (λk hk=>by simp at hk;omega)
  have hs1:=H4.out.2.2.2.1;have hs2:=H4.out.2.2.2.2.2;have ht1:=H8.out.2.2.2.2.1;have ht3:=H8.out.2.2.2.2.2;have k1:=H3.out.2.2.1;have k2:=H5.out.1;have k3:=H6.out.1;have k4:=H10.out.2;have kb:=H0.out.1;refine ⟨_,rfl,hitf.mono (by omega),H10.out.1.keep (u1 rb (by omega)),?_⟩
  refine ⟨?_,?_,?_,by omega,λk hk hn=>?_,λk hk=>.inl hk⟩
  .rw[u3.1,k4.os,ht3.1,k3.os,k2.os,hs2.1,k1.os,kb.os]
  .rw[u3.2.1,k4.tape,ht3.2.1,k3.tape,k2.tape,hs2.2.1,k1.tape,kb.tape]
  .rw[u3.2.2,k4.output,ht3.2.2,k3.output,k2.output,hs2.2.2,k1.output,kb.output]
  .rw[u1 k (by omega),k4.blk k (by omega) hn,ht1 k (by omega),k3.blk k (by omega) hn,k2.blk k (by omega) hn,hs1 k (by omega),k1.blk k (by omega) hn,kb.block k hk]
def ListP (rb:Nat) (d:Int) (w:World) (e:Ending) (w':World):Prop:=∃x,e = .returned x/\ItP w.heap.size x w'/\RdW rb ⟨#[]⟩ false d w'/\KfR rb w w'
end Go.Proofs.YtljgapfmgegifaaGreatDoor
