/- Walks. -/
import Derived.Deep.RegionHeld3
import Derived.Shelf.SlSortCmp.NoneTotal
import Derived.LoopN
import Derived.Test.YtdmoogjddmdmbaaGreatDoorV37
import Derived.Test.YtdmoogjddmdmbaaGreatDoorV04
import Derived.Test.YtdmoogjddmdmbaaGreatDoorV05
import Derived.Test.YtdmoogjddmdmbaaGreatDoorV15
set_option maxRecDepth 100000
set_option maxHeartbeats 16000000
set_option linter.unusedVariables false
set_option linter.unusedSimpArgs false
namespace Go.Proofs.YtdmoogjddmdmbaaGreatDoor
open Go.RowKit
section
set_option linter.unusedVariables false
set_option linter.unusedSimpArgs false
open Go.RowKit
def cV (a:Mt):List Value:=[.int .i64 (a.k:Int), .int .i64 (a.f:Int), .int .i64 (a.t:Int)]
theorem uM:jg cV 3:=⟨by decide,λ_=>rfl,λx u hu=>by
 simp only[cV,List.mem_cons,List.not_mem_nil,or_false]at hu;rcases hu with rfl | rfl | rfl <;> rfl⟩
def Up (x y:Mt):Int:=if uw x.f y.f=0 then (if uw x.t y.t=0 then uw x.k y.k else uw x.t y.t) else uw x.f y.f
theorem SG (a b d:Int) (w:World) (g:Nat) (h0:w.cell? ⟨g,0,none⟩=some (.int .i64 a)) (h1:w.cell? ⟨g,1,none⟩=some (.int .i64 b)) (h2:w.cell? ⟨g,2,none⟩=some (.int .i64 d)) (c:Nat) :
  Calls Tryz.prog 79 #[.slice (some ⟨g,0,none⟩) 3 c] w λe w'=>e = .returned (.int .i64 (if a=0 then (if b=0 then d else b) else a))/\w=w':=by
 by_cases ha:a=0
 .rw[if_pos ha];subst ha;by_cases hb:b=0
  .rw[if_pos hb];subst hb;by_cases hd:d=0
   .subst hd
    go_enter Tryz.func79,Tryz.ntmps79
    go_wp2
    refine wp_loop_rounds 4 ?_;rw[rounds_succ]
    go_wp2
    rw[rounds_succ]
    go_wp2
    rw[rounds_succ]
    go_wp2
    rw[rounds_succ]
    go_wp2
    go_ret;exact ⟨rfl,rfl⟩
   .go_enter Tryz.func79,Tryz.ntmps79
    go_wp2
    refine wp_loop_rounds 3 ?_;rw[rounds_succ]
    go_wp2
    rw[rounds_succ]
    go_wp2
    rw[rounds_succ]
    go_wp2
    go_ret;exact ⟨rfl,rfl⟩
  .rw[if_neg hb]
   go_enter Tryz.func79,Tryz.ntmps79
   go_wp2
   refine wp_loop_rounds 2 ?_;rw[rounds_succ]
   go_wp2
   rw[rounds_succ]
   go_wp2
   go_ret;exact ⟨rfl,rfl⟩
 .rw[if_neg ha]
  go_enter Tryz.func79,Tryz.ntmps79
  go_wp2
  refine wp_loop_rounds 1 ?_;rw[rounds_succ]
  go_wp2
  go_ret;exact ⟨rfl,rfl⟩
set_option maxHeartbeats 2000000 in
theorem OA (x y:Mt) (W:World):Calls Tryz.prog 46 #[.agg (cV x).toArray, .agg (cV y).toArray] W λe w'=>e = .returned (.int .i64 (Up x y))/\∃q os',w'=Sort.grow (W.drewN q) os':=by
 obtain ⟨xc,xf,xt⟩:=x;obtain ⟨yc,yf,yt⟩:=y;unfold cV Up;simp only;generalize (xc:Int)=c1;generalize (xf:Int)=f1;generalize (xt:Int)=t1;generalize (yc:Int)=c2;generalize (yf:Int)=f2;generalize (yt:Int)=t2;obtain ⟨r1,kI⟩:∃r,uw f1 f2=r:=⟨_,rfl⟩;obtain ⟨r2,lu⟩:∃r,uw t1 t2=r:=⟨_,rfl⟩;obtain ⟨r3,GM⟩:∃r,uw c1 c2=r:=⟨_,rfl⟩;have C1:=λw=>zp f1 f2 w;have C2:=λw=>zp t1 t2 w;have C3:=λw=>zp c1 c2 w;rw[kI]at C1;rw[lu]at C2;rw[GM]at C3;rw[kI,lu,GM];have OR:=λw g h0 h1 h2 c=>SG r1 r2 r3 w g h0 h1 h2 c;obtain ⟨r,hr⟩:∃r,(if r1=0 then (if r2=0 then r3 else r2) else r1)=r:=⟨_,rfl⟩;rw[hr]at OR|-;have HO:=Lib.hid OR;clear kI lu GM hr OR
 go_enter Tryz.func46,Tryz.ntmps46
 go_wp2_with fail
 go_region_held3 (λw'=>w'.cell? ⟨W.heap.size,1,none⟩=some (.int .i64 f1)/\w'.cell? ⟨W.heap.size+1,1,none⟩=some (.int .i64 f2)/\w'.cell? ⟨W.heap.size,2,none⟩=some (.int .i64 t1)/\w'.cell? ⟨W.heap.size+1,2,none⟩=some (.int .i64 t2)/\w'.cell? ⟨W.heap.size,0,none⟩=some (.int .i64 c1)/\w'.cell? ⟨W.heap.size+1,0,none⟩=some (.int .i64 c2))
  (first | go_keep | (refine ⟨?_,?_,?_,?_,?_,?_⟩ <;> go_simp))
  (first
   | (go_at_call 80;(first | (with_reducible show Calls _ _ #[Value.int IntKind.i64 f1,Value.int IntKind.i64 f2] _ _;refine (C1 _).mono ?_) | (with_reducible show Calls _ _ #[Value.int IntKind.i64 t1,Value.int IntKind.i64 t2] _ _;refine (C2 _).mono ?_) | (with_reducible show Calls _ _ #[Value.int IntKind.i64 c1,Value.int IntKind.i64 c2] _ _;refine (C3 _).mono ?_));rintro e w1 ⟨rfl,rfl⟩)
   | (go_at_call 79;refine (HO.out _ _ (by go_simp) (by go_simp) (by go_simp) _).mono ?_;rintro e w1 ⟨rfl,rfl⟩))
 all_goals
  go_wp2
  go_ret;refine ⟨rfl,1,#[.cells #[.int .i64 c1, .int .i64 f1, .int .i64 t1] 36, .cells #[.int .i64 c2, .int .i64 f2, .int .i64 t2] 36, .cells #[.int .i64 r1, .int .i64 r2, .int .i64 r3] 3],?_⟩;show ((W.drew.alloc _).alloc _).alloc _=_;rw[Sort.alloc_eq_grow,Sort.alloc_eq_grow,Sort.alloc_eq_grow,Sort.grow_grow,Sort.grow_grow]
  rfl
theorem OC (blk off size:Nat) (w:World):CmpLays Tryz.prog 46 #[] cV 3 Up blk off size w:=λ_ _ _ _ x y=>OA x y _
theorem qF (x y:Mt):ltOf Up x y=Oy x y:=by
 unfold ltOf Up uw;rw[Bool.eq_iff_iff,mK];simp only[decide_eq_true_eq]
 split <;> (try split) <;> (try split) <;> (try split) <;> (try split) <;> (try split) <;> omega
theorem alE:Sort.SWO (ltOf Up) where
 irrefl x:=by rw[qF];cases h:Oy x x;rfl;rw[mK]at h;omega
 trans x y z h1 h2:=by rw[qF]at *;rw[mK]at *;omega
 ntrans x y z h1 h2:=by
  rw[qF]at *;rw[<-Bool.not_eq_true,mK]at *;omega
theorem Ki (blk cap:Nat) (d:Array Mt) (w:World) (hH:Sort.HoldsK cV 3 w blk 0 d) (hblk:blk<w.heap.size) (hsz:d.size<4611686018427387904) :
  Calls Tryz.prog 45 #[.slice (some ⟨blk,0,none⟩) d.size cap, .func (.func 46) #[] #[]] w λe w'=>
   e = .returned (.tuple #[])/\∃d' n os,Sort.PermIn 0 d.size d d'/\Sort.SortedIn (ltOf Up) 0 d.size d'/\w'=sortWorldK cV 3 w blk 0 n d' os:=
 AnyQ.slices_SortFunc Tryz.Ah 3 Tryz.isAgg36 Tryz.sizeOf36 cV (λ_=>rfl) (λx v hv=>uM.one x v hv) Up alE 46 #[] blk 0 cap d w (enters_of Tryz.func46 (by kernel_rfl) rfl) (OC blk 0 d.size w) hH hblk (by omega)
theorem r7 (w:World) (blk n:Nat) (d:Array Mt) (os:Array Obj) (hblk:blk<w.heap.size):w.grownBy (sortWorldK cV 3 w blk 0 n d os) (some blk):=by
 refine ⟨rfl,rfl,rfl,?_,λk hk hne=>?_⟩
 .show w.heap.size<=(w.heap.modify blk _++os).size;simp
 .show (w.heap.modify blk _++os)[k]?=w.heap[k]?;rw[Array.getElem?_append_left (by simpa using hk),Array.getElem?_modify,if_neg (by intro e;exact hne (by rw[e]))]
theorem xj {B:Nat} {g cap:Nat} {o:List Mt} {w:World} (h:OR 36 3 cV B (.slice (some ⟨g,0,none⟩) o.length cap) o w) (h0:o≠[]):Sort.HoldsK cV 3 w g 0 o.toArray:=by
 obtain ⟨A,c,hv,hc,hcell⟩:=OR.cells uM h;injection hv with e1 e2 e3;obtain ⟨g',hA,-,-,hcell⟩:=hcell.resolve_left h0;rw[hA]at e1;injection e1 with e1;injection e1 with e1;subst e1;intro j hj;rw[Sort.size_flatK]at hj;have hj':j<o.length*3:=by simpa using hj
 have hd:j / 3<o.length:=by omega
 obtain ⟨h1,h2⟩:=hcell (j / 3) hd (j % 3) (by omega)
 rw[show j / 3*3+j % 3=j by omega]at h1 h2
 rw[Nat.zero_add];refine ⟨?_,h2⟩;rw[h1,Sort.get_flatK _ _ _ _ hj];have e2:o.toArray[j / 3]! = o[j / 3]:=by simp[hd]
 rw[e2];have hl:(cV o[j / 3]).length=3:=rfl;simp only[id];rw[List.getElem?_eq_getElem (by rw[hl];omega)]
 simp[hl,show j % 3<3 by omega]
def sC (w:World) (v:Value) (l:List Mt):Prop:=∃A c,v = .slice A l.length c/\(l.length<=c/\c<=9223372036854775807)/\(l=[]\/∃g f,A=some ⟨g,f,none⟩/\g<w.heap.size/\∀i (h:i<l.length),∀j,j<3->w.cell? ⟨g,f+i*3+j,none⟩=(cV l[i])[j]?)
theorem sC.later {w w':World} {v:Value} {l:List Mt} (h:sC w v l) (hb:Below w.heap.size w w'):sC w' v l:=by
 obtain ⟨A,c,e,hc,h⟩:=h;refine ⟨A,c,e,hc,h.imp id ?_⟩;rintro ⟨g,f,h1,hg,hcell⟩;exact ⟨g,f,h1,Nat.lt_of_lt_of_le hg hb.size,λi hi j hj=>(hb.cell (p:=⟨g,f+i*3+j,none⟩) hg).trans (hcell i hi j hj)⟩
theorem xY (o:List Mt) (v:Value) (B:Nat) (W:World) (hown:OR 36 3 cV B v o W) (ho:o.length<=1000000) :
  Calls Tryz.prog 45 #[v, .func (.func 46) #[] #[]] W λe w'=>e = .returned (.tuple #[])/\∃o':List Mt,o'.Perm o/\o'.Pairwise mA/\sC w' v o'/\W.grownBy w' v.ownBlock:=by
 have h':=hown;rcases hown.2 with ⟨h1,h0⟩ | ⟨g,cap,cur,rfl,hB,hg,hle,Zr,-⟩
 .obtain rfl:o=[]:=List.length_eq_zero_iff.1 h0;subst h1;refine (AnyF.slices_SortFunc_none Tryz.Ah none 0 _ W).mono ?_;rintro e w' ⟨rfl,rfl⟩;exact ⟨rfl,[],List.Perm.refl _,List.Pairwise.nil,⟨none,0,rfl,⟨Nat.le_refl _,by decide⟩, .inl rfl⟩,World.grownBy.refl _ _⟩
 .have Bb:cap<=9223372036854775807:=by unfold maxLen at Zr;omega
  by_cases h0:o=[]
  .subst h0;refine (AnyF.slices_SortFunc_none Tryz.Ah _ _ _ W).mono ?_;rintro e w' ⟨rfl,rfl⟩;exact ⟨rfl,[],List.Perm.refl _,List.Pairwise.nil,⟨_,_,rfl,⟨Nat.zero_le _,Bb⟩, .inl rfl⟩,World.grownBy.refl _ _⟩
  have hblk:=(Array.getElem?_eq_some_iff.1 hg).1;have hH:=xj h' h0;have S:=Ki g cap o.toArray W hH hblk (by simp;omega)
  rw[show o.toArray.size=o.length from by simp]at S
  refine S.mono ?_;rintro e w' ⟨rfl,d',n,os,hp,hs,rfl⟩;obtain ⟨hsz,-,jS⟩:=hp;have aed:d'.size=o.length:=by simpa using hsz
  have hx:(d'.extract 0 o.length).toList=d'.toList:=by rw[<-aed];simp
  have iK:(o.toArray.extract 0 o.length).toList=o:=by simp
  rw[hx,iK]at jS;have hl:d'.toList.length=o.length:=by simpa using aed
  refine ⟨rfl,d'.toList,jS,?_,?_,r7 W g n d' os hblk⟩
  .rw[List.pairwise_iff_getElem];intro i j hi hj KT;have h:=hs i j (Nat.zero_le _) KT (by omega)
   rw[qF]at h;have hi':i<d'.size:=by simpa using hi
   have hj':j<d'.size:=by simpa using hj
   rw[getElem!_pos d' i hi',getElem!_pos d' j hj']at h;unfold mA;simpa using h
  .have hH2:=holdsK_sortWorldK_c (enc:=cV) (k:=3) (w:=W) (blk:=g) (off:=0) o.toArray d' n os hH hblk hsz;refine ⟨_,_,by rw[hl],⟨by rw[hl];exact hle,Bb⟩, .inr ⟨g,0,rfl,Nat.lt_of_lt_of_le hblk (r7 W g n d' os hblk).size,λi hi j hj=>?_⟩⟩
   have hi':i<d'.size:=by simpa using hi
   have e:d'[i]! = d'.toList[i]:=by rw[getElem!_pos d' i hi'];simp
   have q:=(Sort.HoldsK.cell hH2 (i:=i) (c:=j) hi' hj).1;rw[e]at q;rw[q];have Ry:(cV d'.toList[i]).length=3:=rfl;rw[List.getElem?_eq_getElem (show j<(cV d'.toList[i]).length by omega),getElem!_pos (cV d'.toList[i]) j (by omega)]
end
end Go.Proofs.YtdmoogjddmdmbaaGreatDoor
