/- Walks. -/
import Derived.Deep.RegionHeld3
import Derived.Shelf.SlSortCmp.NoneTotal
import Derived.LoopN
import Derived.Test.YtdmoogjddmdmbaaGreatDoorX28
import Derived.Test.YtdmoogjddmdmbaaGreatDoorX05
import Derived.Test.YtdmoogjddmdmbaaGreatDoorX01
import Derived.Test.YtdmoogjddmdmbaaGreatDoorX12
set_option maxRecDepth 100000
set_option maxHeartbeats 16000000
set_option linter.unusedVariables false
set_option linter.unusedSimpArgs false
namespace Go.Proofs.YtdmoogjddmdmbaaGreatDoor
open Go.RowKit
def fI(a:Mt):List Value:=[.int .i64 (a.k:Int),.int .i64 (a.f:Int),.int .i64 (a.t:Int)]
theorem EC:kz fI 3:=⟨O,λ_=>rfl,λx u hu=>by
 simp only[fI,List.mem_cons,List.not_mem_nil,or_false]at hu;rcases hu with rfl|rfl|rfl <;> rfl⟩
def Ux(x y:Mt):Int:=if uy x.f y.f=0 then (if uy x.t y.t=0 then uy x.k y.k else uy x.t y.t) else uy x.f y.f
theorem SV(a b d:Int)(w:World)(g:Nat)(h0:w.cell? ⟨g,0,none⟩=some (.int .i64 a))(h1:w.cell? ⟨g,1,none⟩=some (.int .i64 b))(h2:w.cell? ⟨g,2,none⟩=some (.int .i64 d))(c:Nat):
  Calls Tryz.prog 79 #[.slice (some ⟨g,0,none⟩) 3 c] w λe w'=>e=.returned (.int .i64 (if a=0 then (if b=0 then d else b) else a))/\w=w':=by
 by_cases ha:a=0
 .rw[if_pos ha];subst ha;by_cases hb:b=0
  .rw[if_pos hb];subst hb;by_cases hd:d=0
   .subst hd
    go_enter Tryz.func79,Tryz.ntmps79
    go_wp2
    refine wp_loop_rounds 4 ?_;rw[rounds_succ]
    go_wp2
    rw[rounds_succ]
    go_wp2
    rw[rounds_succ]
    go_wp2
    rw[rounds_succ]
    go_wp2
    go_ret;exact ⟨rfl,rfl⟩
   .go_enter Tryz.func79,Tryz.ntmps79
    go_wp2
    refine wp_loop_rounds 3 ?_;rw[rounds_succ]
    go_wp2
    rw[rounds_succ]
    go_wp2
    rw[rounds_succ]
    go_wp2
    go_ret;exact ⟨rfl,rfl⟩
  .rw[if_neg hb]
   go_enter Tryz.func79,Tryz.ntmps79
   go_wp2
   refine wp_loop_rounds 2 ?_;rw[rounds_succ]
   go_wp2
   rw[rounds_succ]
   go_wp2
   go_ret;exact ⟨rfl,rfl⟩
 .rw[if_neg ha]
  go_enter Tryz.func79,Tryz.ntmps79
  go_wp2
  refine wp_loop_rounds 1 ?_;rw[rounds_succ]
  go_wp2
  go_ret;exact ⟨rfl,rfl⟩
theorem Ox(x y:Mt)(W:World):Calls Tryz.prog 46 #[.agg (fI x).toArray,.agg (fI y).toArray] W λe w'=>e=.returned (.int .i64 (Ux x y))/\∃q os',w'=Sort.grow (W.drewN q) os':=by
 obtain ⟨xc,xf,xt⟩:=x;obtain ⟨yc,yf,yt⟩:=y;unfold fI Ux;simp only;generalize (xc:Int)=c1;generalize (xf:Int)=f1;generalize (xt:Int)=t1;generalize (yc:Int)=c2;generalize (yf:Int)=f2;generalize (yt:Int)=t2;obtain ⟨r1,nR⟩:∃r,uy f1 f2=r:=⟨_,rfl⟩;obtain ⟨r2,mP⟩:∃r,uy t1 t2=r:=⟨_,rfl⟩;obtain ⟨r3,Gh⟩:∃r,uy c1 c2=r:=⟨_,rfl⟩;have C1:=λw=>yT f1 f2 w;have C2:=λw=>yT t1 t2 w;have C3:=λw=>yT c1 c2 w;rw[nR]at C1;rw[mP]at C2;rw[Gh]at C3;rw[nR,mP,Gh];have OR:=λw g h0 h1 h2 c=>SV r1 r2 r3 w g h0 h1 h2 c;obtain ⟨r,hr⟩:∃r,(if r1=0 then (if r2=0 then r3 else r2) else r1)=r:=⟨_,rfl⟩;rw[hr]at OR|-;have HO:=Z OR;clear nR mP Gh hr OR
 go_enter Tryz.func46,Tryz.ntmps46
 go_wp2_with fail;go_region_held3 (λw'=>w'.cell? ⟨W.heap.size,1,none⟩=some (.int .i64 f1)/\w'.cell? ⟨W.heap.size+1,1,none⟩=some (.int .i64 f2)/\w'.cell? ⟨W.heap.size,2,none⟩=some (.int .i64 t1)/\w'.cell? ⟨W.heap.size+1,2,none⟩=some (.int .i64 t2)/\w'.cell? ⟨W.heap.size,0,none⟩=some (.int .i64 c1)/\w'.cell? ⟨W.heap.size+1,0,none⟩=some (.int .i64 c2))
  (first|go_keep | (refine ⟨?_,?_,?_,?_,?_,?_⟩ <;> go_simp))
  (first
   | (go_at_call 80;(first | (with_reducible show Calls _ _ #[Value.int IntKind.i64 f1,Value.int IntKind.i64 f2] _ _;refine (C1 _).mono ?_) | (with_reducible show Calls _ _ #[Value.int IntKind.i64 t1,Value.int IntKind.i64 t2] _ _;refine (C2 _).mono ?_) | (with_reducible show Calls _ _ #[Value.int IntKind.i64 c1,Value.int IntKind.i64 c2] _ _;refine (C3 _).mono ?_));rintro e w1 ⟨rfl,rfl⟩)
   | (go_at_call 79;refine (HO.out _ _ (by go_simp) (by go_simp) (by go_simp) _).mono ?_;rintro e w1 ⟨rfl,rfl⟩))
 all_goals
  go_wp2
  go_ret;refine ⟨rfl,1,#[.cells #[.int .i64 c1,.int .i64 f1,.int .i64 t1] 36,.cells #[.int .i64 c2,.int .i64 f2,.int .i64 t2] 36,.cells #[.int .i64 r1,.int .i64 r2,.int .i64 r3] 3],?_⟩;show ((W.drew.alloc _).alloc _).alloc _=_;rw[Sort.alloc_eq_grow,Sort.alloc_eq_grow,Sort.alloc_eq_grow,Sort.grow_grow,Sort.grow_grow]
  rfl
theorem Oy(blk off size:Nat)(w:World):CmpLays Tryz.prog 46 #[] fI 3 Ux blk off size w:=λ_ _ _ _ x y=>Ox x y _
theorem qz(x y:Mt):ltOf Ux x y=tP x y:=by
 unfold ltOf Ux uy;rw[Bool.eq_iff_iff,jX];simp only[decide_eq_true_eq];split <;> (try split) <;> (try split) <;> (try split) <;> (try split) <;> (try split) <;> omega
theorem aml:Sort.SWO (ltOf Ux) where
 irrefl x:=by rw[qz];cases h:tP x x;rfl;rw[jX]at h;omega
 trans x y z h1 h2:=by rw[qz]at *;rw[jX]at *;omega
 ntrans x y z h1 h2:=by
  rw[qz]at *;rw[<-Bool.not_eq_true,jX]at *;omega
theorem JY(blk cap:Nat)(d:Array Mt)(w:World)(hH:Sort.HoldsK fI 3 w blk 0 d)(hblk:blk<w.heap.size)(hsz:d.size<4611686018427387904):
  Calls Tryz.prog 45 #[.slice (some ⟨blk,0,none⟩) d.size cap,.func (.func 46) #[] #[]] w λe w'=>
   e=.returned (.tuple #[])/\∃d' n os,Sort.PermIn 0 d.size d d'/\Sort.SortedIn (ltOf Ux) 0 d.size d'/\w'=sortWorldK fI 3 w blk 0 n d' os:=
 AnyQ.slices_SortFunc Tryz.zH 3 Tryz.isAgg36 Tryz.sizeOf36 fI (λ_=>rfl) (λx v hv=>EC.one x v hv) Ux aml 46 #[] blk 0 cap d w (enters_of Tryz.func46 κ rfl) (Oy blk 0 d.size w) hH hblk Y
theorem sD(w:World)(blk n:Nat)(d:Array Mt)(os:Array Obj)(hblk:blk<w.heap.size):w.grownBy (sortWorldK fI 3 w blk 0 n d os) (some blk):=by
 refine ⟨rfl,rfl,rfl,?_,λk hk hne=>?_⟩
 .show w.heap.size<=(w.heap.modify blk _++os).size;simp
 .show (w.heap.modify blk _++os)[k]?=w.heap[k]?;rw[Array.getElem?_append_left (by simpa using hk),Array.getElem?_modify,if_neg (by intro e;exact hne (by rw[e]))]
theorem xe{B:Nat}{g cap:Nat}{o:List Mt}{w:World}(h:OR 36 3 fI B (.slice (some ⟨g,0,none⟩) o.length cap) o w)(h0:o≠[]):Sort.HoldsK fI 3 w g 0 o.toArray:=by
 obtain ⟨A,c,hv,hc,hcell⟩:=OR.cells EC h;injection hv with e1 e2 e3;obtain ⟨g',hA,-,-,hcell⟩:=hcell.resolve_left h0;rw[hA]at e1;injection e1 with e1;injection e1 with e1;subst e1;intro j hj;rw[Sort.size_flatK]at hj;have hj':j<o.length*3:=by simpa using hj
 have hd:j / 3<o.length:=Y;obtain ⟨h1,h2⟩:=hcell (j / 3) hd (j % 3) Y;rw[show j / 3*3+j % 3=j by omega]at h1 h2
 rw[Nat.zero_add];refine ⟨?_,h2⟩;rw[h1,Sort.get_flatK _ _ _ _ hj];have e2:o.toArray[j / 3]! = o[j / 3]:=by simp[hd]
 rw[e2];have hl:(fI o[j / 3]).length=3:=rfl;simp only[id];rw[List.getElem?_eq_getElem (by rw[hl];omega)]
 simp[hl,show j % 3<3 by omega]
def Q4(w:World)(v:Value)(l:List Mt):Prop:=∃A c,v=.slice A l.length c/\(l.length<=c/\c<=9223372036854775807)/\(l=[]\/∃g f,A=some ⟨g,f,none⟩/\g<w.heap.size/\∀i (h:i<l.length),∀j,j<3->w.cell? ⟨g,f+i*3+j,none⟩=(fI l[i])[j]?)
theorem Jc(o:List Mt)(v:Value)(B:Nat)(W:World)(hown:OR 36 3 fI B v o W)(ho:o.length<=1000000):
  Calls Tryz.prog 45 #[v,.func (.func 46) #[] #[]] W λe w'=>e=.returned (.tuple #[])/\∃o':List Mt,o'.Perm o/\o'.Pairwise wN/\Q4 w' v o'/\W.grownBy w' v.ownBlock:=by
 have h':=hown;rcases hown.2 with ⟨h1,h0⟩|⟨g,cap,cur,rfl,hB,hg,hle,Zi,-⟩
 .obtain rfl:o=[]:=List.length_eq_zero_iff.1 h0;subst h1;refine (AnyF.slices_SortFunc_none Tryz.zH none 0 _ W).mono ?_;rintro e w' ⟨rfl,rfl⟩;exact ⟨rfl,[],List.Perm.refl _,List.Pairwise.nil,⟨none,0,rfl,⟨I,O⟩,.inl rfl⟩,World.grownBy.refl _ _⟩
 .have Dh:cap<=9223372036854775807:=by unfold maxLen at Zi;omega
  by_cases h0:o=[]
  .subst h0;refine (AnyF.slices_SortFunc_none Tryz.zH _ _ _ W).mono ?_;rintro e w' ⟨rfl,rfl⟩;exact ⟨rfl,[],List.Perm.refl _,List.Pairwise.nil,⟨_,_,rfl,⟨Nat.zero_le _,Dh⟩,.inl rfl⟩,World.grownBy.refl _ _⟩
  have hblk:=(γ hg).1;have hH:=xe h' h0;have S:=JY g cap o.toArray W hH hblk ψ;rw[show o.toArray.size=o.length from ξ]at S;refine S.mono ?_;rintro e w' ⟨rfl,d',n,os,hp,hs,rfl⟩;obtain ⟨hsz,-,oo⟩:=hp;have ae5:d'.size=o.length:=by simpa using hsz
  have hx:(d'.extract 0 o.length).toList=d'.toList:=by rw[<-ae5];simp
  have fZ:(o.toArray.extract 0 o.length).toList=o:=ξ;rw[hx,fZ]at oo;have hl:d'.toList.length=o.length:=by simpa using ae5
  refine ⟨rfl,d'.toList,oo,?_,?_,sD W g n d' os hblk⟩
  .rw[List.pairwise_iff_getElem];intro i j hi hj DN;have h:=hs i j (Nat.zero_le _) DN Y;rw[qz]at h;have hi':i<d'.size:=by simpa using hi
   have hj':j<d'.size:=by simpa using hj
   rw[getElem!_pos d' i hi',getElem!_pos d' j hj']at h;unfold wN;simpa using h
  .have hH2:=holdsK_sortWorldK_c (enc:=fI) (k:=3) (w:=W) (blk:=g) (off:=0) o.toArray d' n os hH hblk hsz;refine ⟨_,_,by rw[hl],⟨by rw[hl];exact hle,Dh⟩,.inr ⟨g,0,rfl,Nat.lt_of_lt_of_le hblk (sD W g n d' os hblk).size,λi hi j hj=>?_⟩⟩
   have hi':i<d'.size:=by simpa using hi
   have e:d'[i]! = d'.toList[i]:=by rw[getElem!_pos d' i hi'];simp
   have q:=(Sort.HoldsK.cell hH2 (i:=i) (c:=j) hi' hj).1;rw[e]at q;rw[q];have Rk:(fI d'.toList[i]).length=3:=rfl;rw[List.getElem?_eq_getElem (show j<(fI d'.toList[i]).length by omega),getElem!_pos (fI d'.toList[i]) j Y]
end Go.Proofs.YtdmoogjddmdmbaaGreatDoor
