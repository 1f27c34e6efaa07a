/- Walks. -/
import Derived.Test.YthamegenljmgmaaGreatDoorY05
import Derived.Test.YthamegenljmgmaaGreatDoorY01
import Derived.Laws.AppendOwnNone
import Derived.Laws.OwnMore
import Derived.Deep.RegionHeld3
set_option maxRecDepth 100000
set_option maxHeartbeats 16000000
set_option linter.unusedVariables false
set_option linter.unusedSimpArgs false
namespace Go.Proofs.YthamegenljmgmaaGreatDoor
open Go.RowKit
def b9(l:List Nat):List Value:=l.map λ(n:Nat)=>Value.int .i64 (n:Int)
theorem jO(l:List Nat):(b9 l).length=l.length:=by simp[b9]
theorem jP(l r:List Nat):b9 (l++r)=b9 l++b9 r:=by simp[b9]
theorem qH(l:List Nat):∀u∈b9 l,u.oneCell'=true:=by
 intro u hu;obtain ⟨c,-,rfl⟩:=List.mem_map.1 hu;rfl
def IL(w:World)(v:Value)(l:List Nat):Prop:=(l=[]/\v=.slice none 0 0)\/∃g f c,v=.slice (Z g f) l.length c/\l≠[]/\g<w.heap.size/\(l.length<=c/\c<=9223372036854775807)/\∀i (h:i<l.length),w.cell? (Z g (f+i))=some (.int .i64 (l[i]:Int))
def aO(fp:List Nat)(v:Value):Prop:=∀g,v.ownBlock=some g->g∉fp
structure ab (fp fp':List Nat) (w w':World):Prop where
 os:w'.os=w.os
 tape:w'.tape=w.tape
 output:w'.output=w.output
 size:w.heap.size<=w'
 aq:∀k,k<w.heap.size->k∉fp->w'.heap[k]?=w.heap[k]?
 new:∀k∈fp',k∈fp\/w.heap.size<=k
theorem ab.refl(fp:List Nat)(w:World):ab fp fp w w:=⟨rfl,rfl,rfl,V,λ_ _ _=>rfl,λ_ h=>.inl h⟩
theorem ab.t{f1 f2 f3:List Nat}{a b c:World}(h:ab f1 f2 a b)(k:ab f2 f3 b c):ab f1 f3 a c:=
 ⟨k.os.t h.os,k.tape.t h.tape,k.output.t h.output,Nat.le_trans h.size k.size,λi hi hn=>(k.aq i (Nat.lt_of_lt_of_le hi h.size) λhm=>(h.new i hm).elim hn λh2=>U).t (h.aq i hi hn),λi hi=>(k.new i hi).elim (λh2=>h.new i h2) λh2=>.inr (Nat.le_trans h.size h2)⟩
theorem ab.aj{fp:List Nat}{w w':World}(h:Below w w w'):ab fp fp w w':=⟨h.os,h.tape,h.output,h.size,λk hk _=>h.block k hk,λ_ h=>.inl h⟩
theorem ab.below{fp fp':List Nat}{w w':World}{B:Nat}(h:ab fp fp' w w')(hB:∀k∈fp,B<=k)(hw:B<=w):Below B w w':=
 ⟨h.os,h.tape,h.output,h.size,λk hk=>h.aq k U λhm=>by have:=hB k hm;omega⟩
theorem IL.keep{fp fp':List Nat}{w w':World}{v:Value}{l:List Nat}(h:IL w v l)(ho:aO fp v)(hk:ab fp fp' w w'):IL w' v l/\aO fp' v:=by
 rcases h with ⟨h1,rfl⟩|⟨g,f,c,rfl,h0,hg,hc,ak⟩
 .exact ⟨.inl ⟨h1,rfl⟩,λg hg=>by simp[Value.ownBlock]at hg⟩
 .have C6:g∉fp:=ho g rfl;refine ⟨.inr ⟨g,f,c,rfl,h0,Nat.lt_of_lt_of_le hg hk.size,hc,λi hi=>?_⟩,λg' uH hm=>?_⟩
  .rw[<-ak i hi];exact χ g (f+i) (hk.aq g hg C6)
  .simp[Value.ownBlock]at uH;subst uH;exact (hk.new _ hm).elim C6 λh2=>U
theorem IL.later{w w':World}{v:Value}{l:List Nat}(h:IL w v l)(hb:Below w w w'):IL w' v l:=by
 rcases h with h|⟨g,f,c,rfl,h0,hg,hc,ak⟩
 .exact .inl h
 .exact .inr ⟨g,f,c,rfl,h0,Nat.lt_of_lt_of_le hg hb.size,hc,λi hi=>(hb.cl g (f+i) hg).t (ak i hi)⟩
theorem IL.form{w:World}{v:Value}{l:List Nat}(h:IL w v l):∃A c,v=.slice A l.length c/\(l.length<=c/\c<=9223372036854775807):=by
 rcases h with ⟨rfl,rfl⟩|⟨g,f,c,rfl,-,-,hc,-⟩
 .exact ⟨none,0,rfl,V,O⟩
 .exact ⟨_,c,rfl,hc⟩
theorem IL.ia{w:World}{B:Nat}{v:Value}{l:List Nat}{n:Nat}(h:w.ownsRow B 3 1 v n (b9 l))(hv:v≠.slice none 0 0->l≠[]):IL w v l:=by
 have hl:l.length=n:=by have:=h.1;rw[jO,Nat.mul_one]at this;exact this
 rcases h.2 with ⟨h1,h2⟩|⟨g,cap,cur,h1,-,hg,hle,hm,bH,ht⟩
 .exact .inl ⟨List.length_eq_zero_iff.1 U,h1⟩
 .subst h1;refine .inr ⟨g,0,cap,by rw[hl],hv H,(γ hg).1,by rw[hl];exact ⟨hle,by unfold maxLen at hm;omega⟩,λi hi=>?_⟩
  have:=h.cellAt i (by rw[<-hl,Nat.mul_one];exact hi)
  rw[Nat.zero_add,this];simp[b9,hi]
theorem rV{P:Program}{w w':World}{base:Nat}{t ty e:TypeId}{i:TypeInfo}{z:Value}{size bytes:Nat}(ht:P.underlying t=some (.slice e))(hi:P.info? e=some i)(hz:i.zero=some z)
  (lI:i.size=size) (jl:i.bytes=bytes) {v v':Value} {n:Nat} {xs:List Value} (ao:w.ownsRow base e size v n xs)
  {a:Addr} {m c:Nat} {news:List Value} (hl:news.length=m*size) (pG:∀j u,news[j]?=some u->w.cell? (a.add j)=some u) (h1:∀u∈news,u.oneCell'=true)
  (FQ:n+m<=maxLen) (ic:(n+m)*bytes<=140737488355328) (hr:(Builtin.append_ #[t,t] ty #[v,.slice (some a) m c]).run P w=.ok v' w'):v'.ownBlock=v.ownBlock\/∃g,v'.ownBlock=some g/\w.heap.size<=g:=by
 subst lI;subst jl;rcases ao.2 with ⟨rfl,hn⟩|⟨g,cap,cur,rfl,hb,hg,AG,tY,bH,tG⟩
 .subst hn;by_cases hm:m=0
  .subst hm;have hn:news=[]:=List.eq_nil_of_length_eq_zero (by simpa using hl)
   subst hn;have h2:(Builtin.append_ #[t,t] ty #[(),.slice (some a) 0 c]).run P w=.ok () w:=by
    simp[Builtin.append_,run_underlying ht,sizeOf,typeInfo,hi,Builtin.lenOf,Builtin.firstCells,loadCells,loadCellsFrom]
   rw[h2]at hr;injection hr with h3 h4;subst h3;exact .inl rfl
  .have h2:=run_append_nil (P:=P) w t ty e i z ht hi hz a m c news hl pG U (by unfold maxLen at FQ;omega) (by simp only[Nat.zero_add]at ic;omega)
   rw[h2]at hr;injection hr with h3 h4;subst h3;exact .inr ⟨_,rfl,V⟩
 .by_cases dG:n+m<=cap
  .have jQ:n*i.size+news.length<=cur.size:=by rw[hl,bH,<-Nat.add_mul];exact Nat.mul_le_mul_right _ dG
   have h2:=run_append_room (P:=P) w t ty e i ht hi g n cap cur hg a m c news hl pG h1 dG jQ;rw[h2]at hr;injection hr with h3 h4;subst h3;exact .inl rfl
  .have holds:∀j u,xs[j]?=some u->w.cell? (((Z g 0):Addr).add j)=some u:=ao.cells (g:=g) rfl;have h2:=run_append_grow (P:=P) w t ty e i z ht hi hz (Z g 0) n cap xs ao.1 holds a m c news hl pG U (by unfold maxLen at FQ;omega) (growslice_fits U ic)
   rw[h2]at hr;injection hr with h3 h4;subst h3;exact .inr ⟨_,rfl,V⟩
theorem bn{P:Program}{w:World}{ops:Array Oper}{rest:List Oper}{o:Oper}{a:Act}{Q:Exit->Act->World->Prop}(tE:o.guard=none)(s x:Operand)(t:TypeId)
  (ho:o.op=.call { callee:=.builtin .append,args:=#[s,x],argTypes:=#[t,t] })
  (base:Nat) (e:TypeId) (i:TypeInfo) (z:Value) (size bytes:Nat) (ht:P.underlying t=some (.slice e)) (hi:P.info? e=some i) (hz:i.zero=some z)
  (lI:i.size=size) (jl:i.bytes=bytes) (Uy:z.cells.size=size) (jn:0<size)
  (v:Value) (n:Nat) (xs:List Value) (hs:a.eval s=v) (ao:w.ownsRow base e size v n xs)
  (ad:Addr) (m c:Nat) (news:List Value) (hx:a.eval x=.slice (some ad) m c) (hl:news.length=m*size) (pG:∀j u,news[j]?=some u->w.cell? (ad.add j)=some u) (h1:∀u∈news,u.oneCell'=true)
  (FQ:n+m<=maxLen) (ic:(n+m)*bytes<=140737488355328) (KW:base<=w)
  (h:∀v' w',w'.ownsRow base e size v' (n+m) (xs++news)->w.grownBy w' v.ownBlock->(v'.ownBlock=v.ownBlock\/∃g,v'.ownBlock=some g/\w.heap.size<=g)->wpList P ops Q rest (a.put o.dst v') w'):wpList P ops Q (o::rest) a w:=by
 refine wpList_plain tE λK hK=>?_;obtain ⟨v',w',hr,h2,h3,h4⟩:=run_append_own (P:=P) w base t o.type e i z size bytes ht hi hz lI jl Uy jn v n xs ao ad m c news hl pG h1 FQ ic KW;have h5:=rV (P:=P) ht hi hz lI jl ao hl pG h1 FQ ic hr;unfold Oper.wp execOp;simp only[ho,resolve,invoke,builtin,Sem.run_bind,Sem.run_pure,Result.andThen_ok,List.map_toArray,List.map_cons,List.map_nil,hs,hx,hr];exact hK _ _ (h v' w' h2 h3 h5)
def aq(v:Value):List Nat:=v.ownBlock.toList
structure AY (w0:World) (s:Nat) (x2 x3 x4:Value) (b:Pb) (vs vf:Value) (rows sv:List Value) (w:World):Prop where
 nd:(s::(aq vs++(aq vf++rows.flatMap aq))).Nodup
 hs:w0<=s
 cs:w.heap[s]?=some (.cells #[vs,vf,x2,x3,x4] 54)
 sets:w.ownsRow w0 23 1 vs b.sets.length sv
 tB:∀i (h:i<b.sets.length),∃v,sv[i]?=some v/\gD w0 v b.sets[i]/\ep b.sets[i]=true
 fol:w.ownsRow w0 22 1 vf b.fol.length rows
 Dt:∀i (h:i<b.fol.length),∃v,rows[i]?=some v/\w.ownsRow w0 3 1 v b.fol[i].length (b9 b.fol[i])
 cW:Below w0 w0 w
def kY(s:Nat)(vs vf:Value)(rows:List Value):List Nat:=s::(aq vs++(aq vf++rows.flatMap aq))
def qs(w0:World)(s:Nat)(x2 x3 x4:Value)(b:Pb)(fp:List Nat)(w:World):Prop:=∃vs vf rows sv,fp=kY s vs vf rows/\AY w0 s x2 x3 x4 b vs vf rows sv w
theorem ar{w w':World}{B:Nat}{e:TypeId}{k:Nat}{v:Value}{n:Nat}{xs:List Value}(h:w.ownsRow B e k v n xs)(hk:∀g,v.ownBlock=some g->w'.heap[g]?=w.heap[g]?):w'.ownsRow B e k v n xs:=by
 refine ⟨h.1,?_⟩;rcases h.2 with h1|⟨g,cap,cur,h1,h2,h3,rest⟩
 .exact .inl h1
 .exact .inr ⟨g,cap,cur,h1,h2,(hk g (by rw[h1];rfl)).t h3,rest⟩
theorem af{v:Value}{g:Nat}:g∈aq v↔v.ownBlock=some g:=by unfold aq;simp
theorem AY.same{w0:World}{s:Nat}{x2 x3 x4:Value}{b:Pb}{vs vf:Value}{rows sv:List Value}{w w':World}(h:AY w0 s x2 x3 x4 b vs vf rows sv w)(hk:∀k∈kY s vs vf rows,w'.heap[k]?=w.heap[k]?)(hb:Below w0 w0 w'):AY w0 s x2 x3 x4 b vs vf rows sv w':=by
 refine ⟨h.nd,h.hs,(hk s (by simp[kY])).t h.cs,ar h.sets λg hg=>hk g (by simp[kY,af,hg]),h.tB,ar h.fol λg hg=>hk g (by simp[kY,af,hg]),λi hi=>?_,hb⟩
 obtain ⟨v,h1,h2⟩:=h.Dt i hi;exact ⟨v,h1,ar h2 λg hg=>hk g (by
  unfold kY;exact List.mem_cons_of_mem _ (List.mem_append_right _ (List.mem_append_right _ (List.mem_flatMap.2 ⟨v,List.mem_of_getElem? h1,af.2 hg⟩))))⟩
theorem AY.lt{w0:World}{s:Nat}{x2 x3 x4:Value}{b:Pb}{vs vf:Value}{rows sv:List Value}{w:World}(h:AY w0 s x2 x3 x4 b vs vf rows sv w):∀k∈kY s vs vf rows,w0.heap.size<=k/\k<w.heap.size:=by
 intro k hk;unfold kY at hk;rcases List.mem_cons.1 hk with rfl|hk
 .exact ⟨h.hs,(γ h.cs).1⟩
 .rcases List.mem_append.1 hk with hk|hk
  .exact h.sets.lt k (af.1 hk)
  .rcases List.mem_append.1 hk with hk|hk
   .exact h.fol.lt k (af.1 hk)
   .obtain ⟨v,hv,hg⟩:=List.mem_flatMap.1 hk;obtain ⟨i,hi,rfl⟩:=List.getElem_of_mem hv;have iy:rows.length=b.fol.length:=by have:=h.fol.1;omega
    obtain ⟨v,h1,h2⟩:=h.Dt i U;rw[List.getElem?_eq_getElem hi,Option.some.injEq]at h1;subst h1;exact h2.lt k (af.1 hg)
theorem qs.later{w0:World}{s:Nat}{x2 x3 x4:Value}{b:Pb}{fp:List Nat}{w w':World}(h:qs w0 s x2 x3 x4 b fp w)(hb:Below w w w'):qs w0 s x2 x3 x4 b fp w':=by
 obtain ⟨vs,vf,rows,sv,rfl,h⟩:=h;exact ⟨vs,vf,rows,sv,rfl,h.same (λk hk=>hb.block k (h.lt k hk).2) (h.cW.t (hb.mono h.cW.size))⟩
theorem qs.lt{w0:World}{s:Nat}{x2 x3 x4:Value}{b:Pb}{fp:List Nat}{w:World}(h:qs w0 s x2 x3 x4 b fp w):∀k∈fp,w0.heap.size<=k/\k<w.heap.size:=by
 obtain ⟨vs,vf,rows,sv,rfl,h⟩:=h;exact h.lt
theorem qs.cW{w0:World}{s:Nat}{x2 x3 x4:Value}{b:Pb}{fp:List Nat}{w:World}(h:qs w0 s x2 x3 x4 b fp w):Below w0 w0 w:=by
 obtain ⟨vs,vf,rows,sv,rfl,h⟩:=h;exact h.cW
theorem uI{rows:List Value}(h:(rows.flatMap aq).Nodup){i j:Nat}{u v:Value}(hi:rows[i]?=some u)(hj:rows[j]?=some v)(OJ:i≠j):∀g,u.ownBlock=some g->v.ownBlock≠some g:=by
 induction rows generalizing i j with
 |nil=>simp at hi
 |cons a r ih=>
  rw[List.flatMap_cons,List.nodup_append]at h;obtain ⟨h1,h2,h3⟩:=h;intro g hg dZ
  cases i with
  |zero=>
   simp only[List.getElem?_cons_zero,Option.some.injEq]at hi;subst hi
   cases j with
   |zero=>exact OJ rfl
   |succ j=>
    rw[List.getElem?_cons_succ]at hj;exact h3 g (af.2 hg) g (List.mem_flatMap.2 ⟨v,List.mem_of_getElem? hj,af.2 dZ⟩) rfl
  |succ i=>
   rw[List.getElem?_cons_succ]at hi
   cases j with
   |zero=>
    simp only[List.getElem?_cons_zero,Option.some.injEq]at hj;subst hj;exact h3 g (af.2 dZ) g (List.mem_flatMap.2 ⟨u,List.mem_of_getElem? hi,af.2 hg⟩) rfl
   |succ j=>
    rw[List.getElem?_cons_succ]at hj;exact ih h2 hi hj U g hg dZ
theorem xU{rows:List Value}{p:Nat}{v v':Value}{N:Nat}(h:(rows.flatMap aq).Nodup)(hv:rows[p]?=some v)(hf:v'.ownBlock=v.ownBlock\/∃g,v'.ownBlock=some g/\N<=g)(hN:∀k∈rows.flatMap aq,k<N):
  ((rows.set p v').flatMap aq).Nodup/\∀k∈(rows.set p v').flatMap aq,k∈rows.flatMap aq\/N<=k:=by
 induction rows generalizing p with
 |nil=>simp at hv
 |cons a r ih=>
  have h0:=h;rw[List.flatMap_cons,List.nodup_append]at h;obtain ⟨h1,h2,h3⟩:=h
  cases p with
  |zero=>
   simp only[List.getElem?_cons_zero,Option.some.injEq]at hv;subst hv;rw[List.set_cons_zero,List.flatMap_cons];rcases hf with hf|⟨g,hf,hg⟩
   .have e:aq v'=aq a:=by unfold aq;rw[hf]
    rw[e];exact ⟨h0,λk hk=>.inl hk⟩
   .have e:aq v'=[g]:=by unfold aq;rw[hf];rfl
    rw[e];refine ⟨?_,λk hk=>?_⟩
    .rw[List.nodup_append];refine ⟨H,h2,λx hx y hy=>?_⟩;rw[List.mem_singleton]at hx;subst hx;have:=hN y (by rw[List.flatMap_cons];exact List.mem_append_right _ hy)
     omega
    .rcases List.mem_append.1 hk with hk|hk
     .rw[List.mem_singleton]at hk;subst hk;exact .inr hg
     .exact .inl (by rw[List.flatMap_cons];exact List.mem_append_right _ hk)
  |succ p=>
   rw[List.getElem?_cons_succ]at hv;obtain ⟨i1,i2⟩:=ih h2 hv (λk hk=>hN k (by rw[List.flatMap_cons];exact List.mem_append_right _ hk))
   rw[List.set_cons_succ,List.flatMap_cons];refine ⟨?_,λk hk=>?_⟩
   .rw[List.nodup_append];refine ⟨h1,i1,λx hx y hy=>?_⟩;rcases i2 y hy with h4|h4
    .exact h3 x hx y h4
    .have:=hN x (by rw[List.flatMap_cons];exact List.mem_append_left _ hx)
     omega
   .rcases List.mem_append.1 hk with hk|hk
    .exact .inl (by rw[List.flatMap_cons];exact List.mem_append_left _ hk)
    .rcases i2 k hk with h4|h4
     .exact .inl (by rw[List.flatMap_cons];exact List.mem_append_right _ h4)
     .exact .inr h4
theorem AY.DC{w0:World}{s:Nat}{x2 x3 x4:Value}{b:Pb}{vs vf:Value}{rows sv:List Value}{w w1:World}(h:AY w0 s x2 x3 x4 b vs vf rows sv w){p:Nat}(hp:p<b.fol.length)(l:List Nat){v v':Value}(hv:rows[p]?=some v)
  (ao:w1.ownsRow w0 3 1 v' (b.fol[p].length+l.length) (b9 b.fol[p]++b9 l)) (hg:w.grownBy w1 v.ownBlock) (hf:v'.ownBlock=v.ownBlock\/∃g,v'.ownBlock=some g/\w.heap.size<=g) {gf cf:Nat} (OK:vf=.slice (Z gf 0) b.fol.length cf) :
  AY w0 s x2 x3 x4 ⟨b.sets,b.fol.set p (b.fol[p]++l)⟩ vs vf (rows.set p v') sv (w1.setCell (Z gf p) v')/\ab (kY s vs vf rows) (kY s vs vf (rows.set p v')) w (w1.setCell (Z gf p) v'):=by
 have aB:=h.lt;have aY:=h.nd;rw[List.nodup_cons,List.nodup_append]at aY;obtain ⟨n1,n2,n3,n4⟩:=aY;rw[List.nodup_append]at n3;obtain ⟨n5,n6,n7⟩:=n3;have PU:∀g,v.ownBlock=some g->g∈rows.flatMap aq:=λg hg=>List.mem_flatMap.2 ⟨v,List.mem_of_getElem? hv,af.2 hg⟩;have rK:gf∈aq vf:=af.2 (by rw[OK];rfl)
 obtain ⟨s1,s2⟩:=xU n6 hv hf (λk hk=>(aB k (by unfold kY;simp only[List.mem_cons,List.mem_append];exact .inr (.inr (.inr hk)))).2)
 have Bm:=hg.size
 -- what stays
 have pH:∀k,k<w.heap.size->k≠gf->v.ownBlock≠some k->(w1.setCell (Z gf p) v').heap[k]?=w.heap[k]?:=λk hk h1 h2=>by
  rw[Below.heap_setCell _ _ _ _ h1];exact hg.block k hk λe=>h2 e.symm
 have Uz:v.ownBlock≠some gf:=λe=>n7 gf rK gf (PU gf e) rfl;have UA:v'.ownBlock≠some gf:=by
  rcases hf with hf|⟨g,hf,dZ⟩
  .rw[hf];exact Uz
  .rw[hf];intro e;injection e with e;have:=(aB gf (by unfold kY;simp[rK])).2;omega
 have ob:s≠gf:=λe=>n1 (by rw[e];exact List.mem_append_right _ (List.mem_append_left _ rK))
 have OL:v.ownBlock≠some s:=λe=>n1 (List.mem_append_right _ (List.mem_append_right _ (PU s e)));have jC:ab (kY s vs vf rows) (kY s vs vf (rows.set p v')) w (w1.setCell (Z gf p) v'):=by
  refine ⟨hg.os,hg.tape,hg.output,by simp[World.setCell];exact Bm,λk hk hn=>pH k hk (λe=>hn ?_) (λe=>hn ?_),λk hk=>?_⟩
  .subst e;unfold kY;simp[rK]
  .unfold kY;simp only[List.mem_cons,List.mem_append];exact .inr (.inr (.inr (PU k e)))
  .unfold kY at hk|-;simp only[List.mem_cons,List.mem_append]at hk|-;rcases hk with hk|hk|hk|hk
   .exact .inl (.inl hk)
   .exact .inl (.inr (.inl hk))
   .exact .inl (.inr (.inr (.inl hk)))
   .exact (s2 k hk).imp (λh=>.inr (.inr (.inr h))) id
 have KX:w1.ownsRow w0 22 1 vf b.fol.length rows:=ar h.fol λg qu=>hg.block g (h.fol.lt g qu).2 λe=>n7 g (af.2 qu) g (PU g e.symm) rfl;subst OK;have fw:=(KX.stored p v').1;refine ⟨⟨?_,h.hs,?_,?_,h.tB,?_,λi hi=>?_,?_⟩,jC⟩
 .rw[List.nodup_cons,List.nodup_append,List.nodup_append];refine ⟨λhm=>?_,n2,⟨n5,s1,λx hx y hy=>?_⟩,λx hx y hy=>?_⟩
  .rcases List.mem_append.1 hm with hm|hm
   .exact n1 (List.mem_append_left _ hm)
   .rcases List.mem_append.1 hm with hm|hm
    .exact n1 (List.mem_append_right _ (List.mem_append_left _ hm))
    .rcases s2 s hm with hm|hm
     .exact n1 (List.mem_append_right _ (List.mem_append_right _ hm))
     .have:=(aB s (by simp[kY])).2;omega
  .rcases s2 y hy with hm|hm
   .exact n7 x hx y hm
   .have:=(aB x (by unfold kY;simp[hx])).2;omega
  .rcases List.mem_append.1 hy with hy|hy
   .exact n4 x hx y (List.mem_append_left _ hy)
   .rcases s2 y hy with hm|hm
    .exact n4 x hx y (List.mem_append_right _ hm)
    .have:=(aB x (by unfold kY;simp[hx])).2;omega
 .exact (pH s (aB s (by simp[kY])).2 ob OL).t h.cs
 .exact ar h.sets λg qu=>pH g (h.sets.lt g qu).2 (λe=>n4 g (af.2 qu) gf (List.mem_append_left _ rK) e) λe=>n4 g (af.2 qu) g (List.mem_append_right _ (PU g e)) rfl
 .rw[List.length_set];exact fw
 .rw[List.length_set]at hi;by_cases ZE:i=p
  .subst ZE;refine ⟨v',by rw[List.getElem?_set_self (by have:=(List.getElem?_eq_some_iff.1 hv).1;exact this)],?_⟩
   rw[List.getElem_set_self,List.length_append,jP];exact ar ao λg qu=>Below.heap_setCell _ _ _ _ λe=>UA (by rw[qu];show some g=some gf;rw[show g=gf from e])
  .obtain ⟨u,u1,u2⟩:=h.Dt i hi;refine ⟨u,by rw[List.getElem?_set_ne U];exact u1,?_⟩
   rw[List.getElem_set_ne U];have hu:∀g,u.ownBlock=some g->g∈rows.flatMap aq:=λg hg=>List.mem_flatMap.2 ⟨u,List.mem_of_getElem? u1,af.2 hg⟩;exact ar u2 λg qu=>pH g (u2.lt g qu).2 (λe=>n7 gf rK g (hu g qu) e.symm) (uI n6 u1 hv ZE g qu)
 .refine (h.cW.t (jC.below (λk hk=>(aB k hk).1) h.cW.size))
def X0(w:World)(e:Ending)(w':World):Prop:=(∃n:Nat,n<=1000/\e=.returned (.int .i64 (n:Int)))/\Below w w w'
theorem Mx:∀(m:Nat) (nd:Nd) (vs:List Value) (w:World),aA nd<=m->bY w nd vs->Calls Tryz.prog 5 #[.agg vs.toArray] w (X0 w):=by
 intro m
 induction m with
 |zero=>intro nd vs w h;cases nd;rw[aA]at h;omega
 |succ m ih=>
  rintro ⟨op,rs,kids,mn,mx⟩ vs w h hn;obtain ⟨v1,v2,rfl,hr,A,c,rfl,hc,hk⟩:=hn;obtain ⟨A1,c1,rfl,-,-⟩:=hr;have hb0:Below w w (w.alloc (.cells #[.int .i64 op,.slice A1 rs.length c1,.slice A kids.length c,.int .i64 mn,.int .i64 mx] 26)):=D.alloc V _;have pq:=heap_alloc_new w (.cells #[.int .i64 op,.slice A1 rs.length c1,.slice A kids.length c,.int .i64 mn,.int .i64 mx] 26);have IK:kids.length<=9223372036854775807:=U;have BB:=Y pq;have dA:=Y hb0;have hT:aA (.mk op rs kids mn mx)=1+a7 kids:=by rw[aA]
  rw[hT]at h;have HM:=Y h;clear hT h pq hb0
  go_enter Tryz.func5,Tryz.ntmps5
  go_wp2_with fail;go_loopw [3,4] (λov iv wr=>∃(k o:Nat),k<=kids.length/\iv=.int .i64 (k:Int)/\ov=.int .i64 (o:Int)/\o<=1000/\Hid (Below w w wr/\wr.heap[w.heap.size]?=some (.cells #[.int .i64 op,.slice A1 rs.length c1,.slice A kids.length c,.int .i64 mn,.int .i64 mx] 26))) (λ_ iv _=>kids.length - (intOf iv).toNat)
  case atStart=>exact ⟨0,1,U,rfl,rfl,U,dA.o,BB.o⟩
  case round=>
   obtain ⟨k,o,k6,rfl,rfl,ho,HR⟩:=hrel;obtain ⟨n0,n1,n2,n3,n4⟩:=aD HR.2;have lN:w.heap.size<wr:=(γ HR.2).1;by_cases C6:k<kids.length/\o<1000
   .obtain ⟨aB,uS⟩:=C6;have hd:decide ((k:Int)<(kids.length:Int))=true:=τ;have dV:decide (k<kids.length)=true:=decide_eq_true aB;have nw:decide ((o:Int)<1000)=true:=τ;have AN:decide (o<1000)=true:=decide_eq_true uS;obtain ⟨g,f,rfl,hg,bU⟩:=hk.resolve_left (by rintro rfl;simp at aB)
    obtain ⟨vs,dx,aY⟩:=bU.at k aB;have b7:=aQ (List.getElem_mem aB);obtain ⟨kd,cU⟩:=ν (kids[k]);rw[cU]at aY b7;obtain ⟨B1,e1,B2,e2,rfl,-,-,-⟩:=aY.form;have q:∀j,j<5->wr.cell? (Z g (f+k*5+j))=([.int .i64 kd.op,.slice B1 kd.rs.length e1,.slice B2 kd.kids.length e2,.int .i64 kd.mn,.int .i64 kd.mx]:List Value)[j]?:=λj hj=>(HR.1.cl g (f+k*5+j) hg).t (dx j hj);have q0:=q 0 U;have q1:=q 1 U;have q2:=q 2 U;have q3:=q 3 U;have q4:=q 4 U;simp only[Nat.add_zero,List.getElem?_cons_zero,List.getElem?_cons_succ]at q0 q1 q2 q3 q4;have lg:g<wr:=by have:=HR.1.size;omega
    have HI:=Y (ih kd _ wr (by have:=HM.o;omega) (aY.later HR.1))
    have ES:(k:Int)<(kids.length:Int):=U;clear q dx aY cU bU b7;go_wp2_with fail;refine HI.mono ?_;rintro e w1 ⟨⟨x,hx,rfl⟩,aM⟩;have fD:=(aM.block _ lN).t HR.2;have IX:=Y (I (HR.1.t (aM.mono HR.1.size)) fD);obtain ⟨y,hy⟩:∃y:Nat,y=min 1000 (o+x):=⟨_,rfl⟩;have rS:(if (o:Int)+(x:Int)<1000 then (o:Int)+(x:Int) else 1000)=(y:Int):=by split <;> omega
    have TH:y<=1000:=U;clear q0 q1 q2 q3 q4 n0 n1 n2 n3 n4 aM fD hy lN lg;go_wp2_with fail;go_roundw
    case rel=>exact ⟨k+1,y,U,by go_num,rfl,TH,IX.o⟩
    case measure=>exact μ
   .have py:∀z:Bool,decide (k<kids.length)=z->(z=true->decide (o<1000)=false):=λz hz cT=>by
     subst hz;have:=of_decide_eq_true cT;exact decide_eq_false (λh=>C6 ⟨this,h⟩)
    obtain ⟨z1,dh⟩:∃z,decide (k<kids.length)=z:=⟨_,rfl⟩;have auc:decide ((k:Int)<(kids.length:Int))=z1:=by rw[<-dh];exact decide_eq_decide.2 U
    have cT:=py z1 dh;clear py;by_cases Tx:0<mx
    .have hdm:decide (0<mx)=true:=decide_eq_true Tx;obtain ⟨z,hz⟩:∃z:Nat,(z:Int)=min mx 1000:=⟨(min mx 1000).toNat,U⟩;have hzm:(if 1000<mx then 1000 else mx)=(z:Int):=by split <;> omega
     have X1:z<=1000:=U;obtain ⟨P,hP⟩:=ν (o*z);have QY:P<=1000000:=by rw[<-hP];exact Nat.le_trans (Nat.mul_le_mul ho X1) O
     have hPi:(o:Int)*(z:Int)=(P:Int):=by rw[<-hP];exact (Int.natCast_mul _ _).symm
     obtain ⟨y,hy⟩:∃y:Nat,y=min 1000 P:=⟨_,rfl⟩;have rS:(if (P:Int)<1000 then (P:Int) else 1000)=(y:Int):=by split <;> omega
     have TH:y<=1000:=U;have HY:=Y TH;clear C6 hz hP hy TH
     cases z1 with
     |true=>
      have AN:=cT rfl;have nw:decide ((o:Int)<1000)=false:=by rw[<-AN];exact decide_eq_decide.2 U
      clear cT;go_wp2_with fail;go_ret;exact ⟨⟨y,HY.o,rfl⟩,HR.1⟩
     |false=>
      clear cT;go_wp2_with fail;go_ret;exact ⟨⟨y,HY.o,rfl⟩,HR.1⟩
    .have hdm:decide (0<mx)=false:=decide_eq_false Tx;have HO:=Y ho;clear C6
     cases z1 with
     |true=>
      have AN:=cT rfl;have nw:decide ((o:Int)<1000)=false:=by rw[<-AN];exact decide_eq_decide.2 U
      clear cT;go_wp2_with fail;go_ret;exact ⟨⟨o,HO.o,rfl⟩,HR.1⟩
     |false=>
      clear cT;go_wp2_with fail;go_ret;exact ⟨⟨o,HO.o,rfl⟩,HR.1⟩
end Go.Proofs.YthamegenljmgmaaGreatDoor
