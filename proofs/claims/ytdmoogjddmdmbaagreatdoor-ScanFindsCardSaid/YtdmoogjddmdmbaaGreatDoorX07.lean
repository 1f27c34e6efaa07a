/- Walks. -/
import Derived.Test.YtdmoogjddmdmbaaGreatDoorX06
import Derived.Test.YtdmoogjddmdmbaaGreatDoorX01
import Derived.Laws.AppendOwnNone
import Derived.Laws.OwnMore
set_option maxRecDepth 100000
set_option maxHeartbeats 16000000
set_option linter.unusedVariables false
set_option linter.unusedSimpArgs false
namespace Go.Proofs.YtdmoogjddmdmbaaGreatDoor
open Go.RowKit
def bV(l:List Nat):List Value:=l.map λ(n:Nat)=>Value.int .i64 (n:Int)
theorem iD(l:List Nat):(bV l).length=l.length:=by simp[bV]
theorem jO(l r:List Nat):bV (l++r)=bV l++bV r:=by simp[bV]
theorem pG(l:List Nat):∀u∈bV l,u.oneCell'=true:=by
 intro u hu;obtain ⟨c,-,rfl⟩:=List.mem_map.1 hu;rfl
def IL(w:World)(v:Value)(l:List Nat):Prop:=(l=[]/\v=.slice none 0 0)\/∃g f c,v=.slice (some ⟨g,f,none⟩) l.length c/\l≠[]/\g<w.heap.size/\(l.length<=c/\c<=9223372036854775807)/\∀i (h:i<l.length),w.cell? ⟨g,f+i,none⟩=some (.int .i64 (l[i]:Int))
def aL(fp:List Nat)(v:Value):Prop:=∀g,v.ownBlock=some g->g∉fp
structure aj (fp fp':List Nat) (w w':World):Prop where
 os:w'.os=w.os
 tape:w'.tape=w.tape
 output:w'.output=w.output
 size:w.heap.size<=w'.heap.size
 blk:∀k,k<w.heap.size->k∉fp->w'.heap[k]?=w.heap[k]?
 new:∀k∈fp',k∈fp\/w.heap.size<=k
theorem aj.refl(fp:List Nat)(w:World):aj fp fp w w:=⟨rfl,rfl,rfl,I,λ_ _ _=>rfl,λ_ h=>.inl h⟩
theorem aj.trans{f1 f2 f3:List Nat}{a b c:World}(h:aj f1 f2 a b)(k:aj f2 f3 b c):aj f1 f3 a c:=
 ⟨k.os.trans h.os,k.tape.trans h.tape,k.output.trans h.output,Nat.le_trans h.size k.size,λi hi hn=>(k.blk i (Nat.lt_of_lt_of_le hi h.size) λhm=>(h.new i hm).elim hn λh2=>Y).trans (h.blk i hi hn),λi hi=>(k.new i hi).elim (λh2=>h.new i h2) λh2=>.inr (Nat.le_trans h.size h2)⟩
theorem aj.aa{fp:List Nat}{w w':World}(h:Below w.heap.size w w'):aj fp fp w w':=⟨h.os,h.tape,h.output,h.size,λk hk _=>h.block k hk,λ_ h=>.inl h⟩
theorem aj.below{fp fp':List Nat}{w w':World}{B:Nat}(h:aj fp fp' w w')(hB:∀k∈fp,B<=k)(hw:B<=w.heap.size):Below B w w':=
 ⟨h.os,h.tape,h.output,h.size,λk hk=>h.blk k Y λhm=>by have:=hB k hm;omega⟩
theorem IL.keep{fp fp':List Nat}{w w':World}{v:Value}{l:List Nat}(h:IL w v l)(ho:aL fp v)(hk:aj fp fp' w w'):IL w' v l/\aL fp' v:=by
 rcases h with ⟨h1,rfl⟩|⟨g,f,c,rfl,h0,hg,hc,hcell⟩
 .exact ⟨.inl ⟨h1,rfl⟩,λg hg=>by simp[Value.ownBlock]at hg⟩
 .have O5:g∉fp:=ho g rfl;refine ⟨.inr ⟨g,f,c,rfl,h0,Nat.lt_of_lt_of_le hg hk.size,hc,λi hi=>?_⟩,λg' xk hm=>?_⟩
  .rw[<-hcell i hi];exact χ g (f+i) (hk.blk g hg O5)
  .simp[Value.ownBlock]at xk;subst xk;exact (hk.new _ hm).elim O5 λh2=>Y
theorem IL.later{w w':World}{v:Value}{l:List Nat}(h:IL w v l)(hb:Below w.heap.size w w'):IL w' v l:=by
 rcases h with h|⟨g,f,c,rfl,h0,hg,hc,hcell⟩
 .exact .inl h
 .exact .inr ⟨g,f,c,rfl,h0,Nat.lt_of_lt_of_le hg hb.size,hc,λi hi=>(hb.cl g (f+i) hg).trans (hcell i hi)⟩
theorem IL.form{w:World}{v:Value}{l:List Nat}(h:IL w v l):∃A c,v=.slice A l.length c/\(l.length<=c/\c<=9223372036854775807):=by
 rcases h with ⟨rfl,rfl⟩|⟨g,f,c,rfl,-,-,hc,-⟩
 .exact ⟨none,0,rfl,I,O⟩
 .exact ⟨_,c,rfl,hc⟩
theorem IL.fO{w:World}{B:Nat}{v:Value}{l:List Nat}{n:Nat}(h:w.ownsRow B 3 1 v n (bV l))(hv:v≠.slice none 0 0->l≠[]):IL w v l:=by
 have hl:l.length=n:=by have:=h.1;rw[iD,Nat.mul_one]at this;exact this
 rcases h.2 with ⟨h1,h2⟩|⟨g,cap,cur,h1,-,hg,hle,hm,hcs,ht⟩
 .exact .inl ⟨List.length_eq_zero_iff.1 Y,h1⟩
 .subst h1;refine .inr ⟨g,0,cap,by rw[hl],hv ξ,(γ hg).1,by rw[hl];exact ⟨hle,by unfold maxLen at hm;omega⟩,λi hi=>?_⟩
  have:=h.cellAt i (by rw[<-hl,Nat.mul_one];exact hi)
  rw[Nat.zero_add,this];simp[bV,hi]
theorem Ig{P:Program}{w w':World}{base:Nat}{t ty e:TypeId}{i:TypeInfo}{z:Value}{size bytes:Nat}(ht:P.underlying t=some (.slice e))(hi:P.info? e=some i)(hz:i.zero=some z)
  (FN:i.size=size) (dV:i.bytes=bytes) {v v':Value} {n:Nat} {xs:List Value} (hown:w.ownsRow base e size v n xs)
  {a:Addr} {m c:Nat} {news:List Value} (hl:news.length=m*size) (xm:∀j u,news[j]?=some u->w.cell? (a.add j)=some u) (h1:∀u∈news,u.oneCell'=true)
  (h63:n+m<=maxLen) (tU:(n+m)*bytes<=140737488355328) (hr:(Builtin.append_ #[t,t] ty #[v,.slice (some a) m c]).run P w=.ok v' w'):v'.ownBlock=v.ownBlock\/∃g,v'.ownBlock=some g/\w.heap.size<=g:=by
 subst FN;subst dV;rcases hown.2 with ⟨rfl,hn⟩|⟨g,cap,cur,rfl,hb,hg,yx,Dh,hcs,tV⟩
 .subst hn;by_cases hm:m=0
  .subst hm;have hn:news=[]:=List.eq_nil_of_length_eq_zero (by simpa using hl)
   subst hn;have h2:(Builtin.append_ #[t,t] ty #[.slice none 0 0,.slice (some a) 0 c]).run P w=.ok (.slice none 0 0) w:=by
    simp[Builtin.append_,run_underlying ht,sizeOf,typeInfo,hi,Builtin.lenOf,Builtin.firstCells,loadCells,loadCellsFrom]
   rw[h2]at hr;injection hr with h3 h4;subst h3;exact .inl rfl
  .have h2:=run_append_nil (P:=P) w t ty e i z ht hi hz a m c news hl xm Y (by unfold maxLen at h63;omega) (by simp only[Nat.zero_add]at tU;omega)
   rw[h2]at hr;injection hr with h3 h4;subst h3;exact .inr ⟨_,rfl,I⟩
 .by_cases jf:n+m<=cap
  .have ahl:n*i.size+news.length<=cur.size:=by rw[hl,hcs,<-Nat.add_mul];exact Nat.mul_le_mul_right _ jf
   have h2:=run_append_room (P:=P) w t ty e i ht hi g n cap cur hg a m c news hl xm h1 jf ahl;rw[h2]at hr;injection hr with h3 h4;subst h3;exact .inl rfl
  .have holds:∀j u,xs[j]?=some u->w.cell? ((⟨g,0,none⟩:Addr).add j)=some u:=hown.cells (g:=g) rfl;have h2:=run_append_grow (P:=P) w t ty e i z ht hi hz ⟨g,0,none⟩ n cap xs hown.1 holds a m c news hl xm Y (by unfold maxLen at h63;omega) (growslice_fits Y tU)
   rw[h2]at hr;injection hr with h3 h4;subst h3;exact .inr ⟨_,rfl,I⟩
theorem cQ{P:Program}{w:World}{ops:Array Oper}{rest:List Oper}{o:Oper}{a:Act}{Q:Exit->Act->World->Prop}(og:o.guard=none)(s x:Operand)(t:TypeId)
  (ho:o.op=.call { callee:=.builtin .append,args:=#[s,x],argTypes:=#[t,t] })
  (base:Nat) (e:TypeId) (i:TypeInfo) (z:Value) (size bytes:Nat) (ht:P.underlying t=some (.slice e)) (hi:P.info? e=some i) (hz:i.zero=some z)
  (FN:i.size=size) (dV:i.bytes=bytes) (Lj:z.cells.size=size) (hsz:0<size)
  (v:Value) (n:Nat) (xs:List Value) (hs:a.eval s=v) (hown:w.ownsRow base e size v n xs)
  (ad:Addr) (m c:Nat) (news:List Value) (hx:a.eval x=.slice (some ad) m c) (hl:news.length=m*size) (xm:∀j u,news[j]?=some u->w.cell? (ad.add j)=some u) (h1:∀u∈news,u.oneCell'=true)
  (h63:n+m<=maxLen) (tU:(n+m)*bytes<=140737488355328) (hbase:base<=w.heap.size)
  (h:∀v' w',w'.ownsRow base e size v' (n+m) (xs++news)->w.grownBy w' v.ownBlock->(v'.ownBlock=v.ownBlock\/∃g,v'.ownBlock=some g/\w.heap.size<=g)->wpList P ops Q rest (a.put o.dst v') w'):wpList P ops Q (o::rest) a w:=by
 refine wpList_plain og λK hK=>?_;obtain ⟨v',w',hr,h2,h3,h4⟩:=run_append_own (P:=P) w base t o.type e i z size bytes ht hi hz FN dV Lj hsz v n xs hown ad m c news hl xm h1 h63 tU hbase;have h5:=Ig (P:=P) ht hi hz FN dV hown hl xm h1 h63 tU hr;unfold Oper.wp execOp;simp only[ho,resolve,invoke,builtin,Sem.run_bind,Sem.run_pure,Result.andThen_ok,List.map_toArray,List.map_cons,List.map_nil,hs,hx,hr];exact hK _ _ (h v' w' h2 h3 h5)
def blk(v:Value):List Nat:=v.ownBlock.toList
structure Aw (w0:World) (s:Nat) (x2 x3 x4:Value) (b:Pb) (vs vf:Value) (rows sv:List Value) (w:World):Prop where
 nd:(s::(blk vs++(blk vf++rows.flatMap blk))).Nodup
 hs:w0.heap.size<=s
 cs:w.heap[s]?=some (.cells #[vs,vf,x2,x3,x4] 182 (0,0))
 sets:w.ownsRow w0.heap.size 38 1 vs b.sets.length sv
 Ax:∀i (h:i<b.sets.length),∃v,sv[i]?=some v/\jK w0 v b.sets[i]/\dU b.sets[i]=true
 fol:w.ownsRow w0.heap.size 22 1 vf b.fol.length rows
 DB:∀i (h:i<b.fol.length),∃v,rows[i]?=some v/\w.ownsRow w0.heap.size 3 1 v b.fol[i].length (bV b.fol[i])
 eP:Below w0.heap.size w0 w
def jE(s:Nat)(vs vf:Value)(rows:List Value):List Nat:=s::(blk vs++(blk vf++rows.flatMap blk))
def pq(w0:World)(s:Nat)(x2 x3 x4:Value)(b:Pb)(fp:List Nat)(w:World):Prop:=∃vs vf rows sv,fp=jE s vs vf rows/\Aw w0 s x2 x3 x4 b vs vf rows sv w
theorem aG{w w':World}{B:Nat}{e:TypeId}{k:Nat}{v:Value}{n:Nat}{xs:List Value}(h:w.ownsRow B e k v n xs)(hk:∀g,v.ownBlock=some g->w'.heap[g]?=w.heap[g]?):w'.ownsRow B e k v n xs:=by
 refine ⟨h.1,?_⟩;rcases h.2 with h1|⟨g,cap,cur,h1,h2,h3,rest⟩
 .exact .inl h1
 .exact .inr ⟨g,cap,cur,h1,h2,(hk g (by rw[h1];rfl)).trans h3,rest⟩
theorem aI{v:Value}{g:Nat}:g∈blk v↔v.ownBlock=some g:=by unfold blk;simp
theorem Aw.same{w0:World}{s:Nat}{x2 x3 x4:Value}{b:Pb}{vs vf:Value}{rows sv:List Value}{w w':World}(h:Aw w0 s x2 x3 x4 b vs vf rows sv w)(hk:∀k∈jE s vs vf rows,w'.heap[k]?=w.heap[k]?)(hb:Below w0.heap.size w0 w'):Aw w0 s x2 x3 x4 b vs vf rows sv w':=by
 refine ⟨h.nd,h.hs,(hk s (by simp[jE])).trans h.cs,aG h.sets λg hg=>hk g (by simp[jE,aI,hg]),h.Ax,aG h.fol λg hg=>hk g (by simp[jE,aI,hg]),λi hi=>?_,hb⟩
 obtain ⟨v,h1,h2⟩:=h.DB i hi;exact ⟨v,h1,aG h2 λg hg=>hk g (by
  unfold jE;exact List.mem_cons_of_mem _ (List.mem_append_right _ (List.mem_append_right _ (List.mem_flatMap.2 ⟨v,List.mem_of_getElem? h1,aI.2 hg⟩))))⟩
theorem Aw.lt{w0:World}{s:Nat}{x2 x3 x4:Value}{b:Pb}{vs vf:Value}{rows sv:List Value}{w:World}(h:Aw w0 s x2 x3 x4 b vs vf rows sv w):∀k∈jE s vs vf rows,w0.heap.size<=k/\k<w.heap.size:=by
 intro k hk;unfold jE at hk;rcases List.mem_cons.1 hk with rfl|hk
 .exact ⟨h.hs,(γ h.cs).1⟩
 .rcases List.mem_append.1 hk with hk|hk
  .exact h.sets.lt k (aI.1 hk)
  .rcases List.mem_append.1 hk with hk|hk
   .exact h.fol.lt k (aI.1 hk)
   .obtain ⟨v,hv,hg⟩:=List.mem_flatMap.1 hk;obtain ⟨i,hi,rfl⟩:=List.getElem_of_mem hv;have lA:rows.length=b.fol.length:=by have:=h.fol.1;omega
    obtain ⟨v,h1,h2⟩:=h.DB i Y;rw[List.getElem?_eq_getElem hi,Option.some.injEq]at h1;subst h1;exact h2.lt k (aI.1 hg)
theorem pq.later{w0:World}{s:Nat}{x2 x3 x4:Value}{b:Pb}{fp:List Nat}{w w':World}(h:pq w0 s x2 x3 x4 b fp w)(hb:Below w.heap.size w w'):pq w0 s x2 x3 x4 b fp w':=by
 obtain ⟨vs,vf,rows,sv,rfl,h⟩:=h;exact ⟨vs,vf,rows,sv,rfl,h.same (λk hk=>hb.block k (h.lt k hk).2) (h.eP.trans (hb.mono h.eP.size))⟩
theorem pq.lt{w0:World}{s:Nat}{x2 x3 x4:Value}{b:Pb}{fp:List Nat}{w:World}(h:pq w0 s x2 x3 x4 b fp w):∀k∈fp,w0.heap.size<=k/\k<w.heap.size:=by
 obtain ⟨vs,vf,rows,sv,rfl,h⟩:=h;exact h.lt
theorem pq.eP{w0:World}{s:Nat}{x2 x3 x4:Value}{b:Pb}{fp:List Nat}{w:World}(h:pq w0 s x2 x3 x4 b fp w):Below w0.heap.size w0 w:=by
 obtain ⟨vs,vf,rows,sv,rfl,h⟩:=h;exact h.eP
theorem DM{rows:List Value}(h:(rows.flatMap blk).Nodup){i j:Nat}{u v:Value}(hi:rows[i]?=some u)(hj:rows[j]?=some v)(DN:i≠j):∀g,u.ownBlock=some g->v.ownBlock≠some g:=by
 induction rows generalizing i j with
 |nil=>simp at hi
 |cons a r ih=>
  rw[List.flatMap_cons,List.nodup_append]at h;obtain ⟨h1,h2,h3⟩:=h;intro g hg mg
  cases i with
  |zero=>
   simp only[List.getElem?_cons_zero,Option.some.injEq]at hi;subst hi
   cases j with
   |zero=>exact DN rfl
   |succ j=>
    rw[List.getElem?_cons_succ]at hj;exact h3 g (aI.2 hg) g (List.mem_flatMap.2 ⟨v,List.mem_of_getElem? hj,aI.2 mg⟩) rfl
  |succ i=>
   rw[List.getElem?_cons_succ]at hi
   cases j with
   |zero=>
    simp only[List.getElem?_cons_zero,Option.some.injEq]at hj;subst hj;exact h3 g (aI.2 mg) g (List.mem_flatMap.2 ⟨u,List.mem_of_getElem? hi,aI.2 hg⟩) rfl
   |succ j=>
    rw[List.getElem?_cons_succ]at hj;exact ih h2 hi hj Y g hg mg
theorem Ih{rows:List Value}{p:Nat}{v v':Value}{N:Nat}(h:(rows.flatMap blk).Nodup)(hv:rows[p]?=some v)(hf:v'.ownBlock=v.ownBlock\/∃g,v'.ownBlock=some g/\N<=g)(hN:∀k∈rows.flatMap blk,k<N):
  ((rows.set p v').flatMap blk).Nodup/\∀k∈(rows.set p v').flatMap blk,k∈rows.flatMap blk\/N<=k:=by
 induction rows generalizing p with
 |nil=>simp at hv
 |cons a r ih=>
  have h0:=h;rw[List.flatMap_cons,List.nodup_append]at h;obtain ⟨h1,h2,h3⟩:=h
  cases p with
  |zero=>
   simp only[List.getElem?_cons_zero,Option.some.injEq]at hv;subst hv;rw[List.set_cons_zero,List.flatMap_cons];rcases hf with hf|⟨g,hf,hg⟩
   .have e:blk v'=blk a:=by unfold blk;rw[hf]
    rw[e];exact ⟨h0,λk hk=>.inl hk⟩
   .have e:blk v'=[g]:=by unfold blk;rw[hf];rfl
    rw[e];refine ⟨?_,λk hk=>?_⟩
    .rw[List.nodup_append];refine ⟨ξ,h2,λx hx y hy=>?_⟩;rw[List.mem_singleton]at hx;subst hx;have:=hN y (by rw[List.flatMap_cons];exact List.mem_append_right _ hy)
     omega
    .rcases List.mem_append.1 hk with hk|hk
     .rw[List.mem_singleton]at hk;subst hk;exact .inr hg
     .exact .inl (by rw[List.flatMap_cons];exact List.mem_append_right _ hk)
  |succ p=>
   rw[List.getElem?_cons_succ]at hv;obtain ⟨i1,i2⟩:=ih h2 hv (λk hk=>hN k (by rw[List.flatMap_cons];exact List.mem_append_right _ hk))
   rw[List.set_cons_succ,List.flatMap_cons];refine ⟨?_,λk hk=>?_⟩
   .rw[List.nodup_append];refine ⟨h1,i1,λx hx y hy=>?_⟩;rcases i2 y hy with h4|h4
    .exact h3 x hx y h4
    .have:=hN x (by rw[List.flatMap_cons];exact List.mem_append_left _ hx)
     omega
   .rcases List.mem_append.1 hk with hk|hk
    .exact .inl (by rw[List.flatMap_cons];exact List.mem_append_left _ hk)
    .rcases i2 k hk with h4|h4
     .exact .inl (by rw[List.flatMap_cons];exact List.mem_append_right _ h4)
     .exact .inr h4
theorem Aw.UQ{w0:World}{s:Nat}{x2 x3 x4:Value}{b:Pb}{vs vf:Value}{rows sv:List Value}{w w1:World}(h:Aw w0 s x2 x3 x4 b vs vf rows sv w){p:Nat}(hp:p<b.fol.length)(l:List Nat){v v':Value}(hv:rows[p]?=some v)
  (hown:w1.ownsRow w0.heap.size 3 1 v' (b.fol[p].length+l.length) (bV b.fol[p]++bV l)) (hg:w.grownBy w1 v.ownBlock) (hf:v'.ownBlock=v.ownBlock\/∃g,v'.ownBlock=some g/\w.heap.size<=g) {gf cf:Nat} (hvf:vf=.slice (some ⟨gf,0,none⟩) b.fol.length cf) :
  Aw w0 s x2 x3 x4 ⟨b.sets,b.fol.set p (b.fol[p]++l)⟩ vs vf (rows.set p v') sv (w1.setCell ⟨gf,p,none⟩ v')/\aj (jE s vs vf rows) (jE s vs vf (rows.set p v')) w (w1.setCell ⟨gf,p,none⟩ v'):=by
 have hlt:=h.lt;have bc:=h.nd;rw[List.nodup_cons,List.nodup_append]at bc;obtain ⟨n1,n2,n3,n4⟩:=bc;rw[List.nodup_append]at n3;obtain ⟨n5,n6,n7⟩:=n3;have gD:∀g,v.ownBlock=some g->g∈rows.flatMap blk:=λg hg=>List.mem_flatMap.2 ⟨v,List.mem_of_getElem? hv,aI.2 hg⟩;have Df:gf∈blk vf:=aI.2 (by rw[hvf];rfl)
 obtain ⟨s1,s2⟩:=Ih n6 hv hf (λk hk=>(hlt k (by unfold jE;simp only[List.mem_cons,List.mem_append];exact .inr (.inr (.inr hk)))).2)
 have Qf:=hg.size
 -- what stays
 have tW:∀k,k<w.heap.size->k≠gf->v.ownBlock≠some k->(w1.setCell ⟨gf,p,none⟩ v').heap[k]?=w.heap[k]?:=λk hk h1 h2=>by
  rw[Below.heap_setCell _ _ _ _ h1];exact hg.block k hk λe=>h2 e.symm
 have ahm:v.ownBlock≠some gf:=λe=>n7 gf Df gf (gD gf e) rfl;have ahn:v'.ownBlock≠some gf:=by
  rcases hf with hf|⟨g,hf,mg⟩
  .rw[hf];exact ahm
  .rw[hf];intro e;injection e with e;have:=(hlt gf (by unfold jE;simp[Df])).2;omega
 have tj:s≠gf:=λe=>n1 (by rw[e];exact List.mem_append_right _ (List.mem_append_left _ Df))
 have hsv:v.ownBlock≠some s:=λe=>n1 (List.mem_append_right _ (List.mem_append_right _ (gD s e)));have hkn:aj (jE s vs vf rows) (jE s vs vf (rows.set p v')) w (w1.setCell ⟨gf,p,none⟩ v'):=by
  refine ⟨hg.os,hg.tape,hg.output,by simp[World.setCell];exact Qf,λk hk hn=>tW k hk (λe=>hn ?_) (λe=>hn ?_),λk hk=>?_⟩
  .subst e;unfold jE;simp[Df]
  .unfold jE;simp only[List.mem_cons,List.mem_append];exact .inr (.inr (.inr (gD k e)))
  .unfold jE at hk|-;simp only[List.mem_cons,List.mem_append]at hk|-;rcases hk with hk|hk|hk|hk
   .exact .inl (.inl hk)
   .exact .inl (.inr (.inl hk))
   .exact .inl (.inr (.inr (.inl hk)))
   .exact (s2 k hk).imp (λh=>.inr (.inr (.inr h))) id
 have aaO:w1.ownsRow w0.heap.size 22 1 vf b.fol.length rows:=aG h.fol λg Bb=>hg.block g (h.fol.lt g Bb).2 λe=>n7 g (aI.2 Bb) g (gD g e.symm) rfl;subst hvf;have cB:=(aaO.stored p v').1;refine ⟨⟨?_,h.hs,?_,?_,h.Ax,?_,λi hi=>?_,?_⟩,hkn⟩
 .rw[List.nodup_cons,List.nodup_append,List.nodup_append];refine ⟨λhm=>?_,n2,⟨n5,s1,λx hx y hy=>?_⟩,λx hx y hy=>?_⟩
  .rcases List.mem_append.1 hm with hm|hm
   .exact n1 (List.mem_append_left _ hm)
   .rcases List.mem_append.1 hm with hm|hm
    .exact n1 (List.mem_append_right _ (List.mem_append_left _ hm))
    .rcases s2 s hm with hm|hm
     .exact n1 (List.mem_append_right _ (List.mem_append_right _ hm))
     .have:=(hlt s (by simp[jE])).2;omega
  .rcases s2 y hy with hm|hm
   .exact n7 x hx y hm
   .have:=(hlt x (by unfold jE;simp[hx])).2;omega
  .rcases List.mem_append.1 hy with hy|hy
   .exact n4 x hx y (List.mem_append_left _ hy)
   .rcases s2 y hy with hm|hm
    .exact n4 x hx y (List.mem_append_right _ hm)
    .have:=(hlt x (by unfold jE;simp[hx])).2;omega
 .exact (tW s (hlt s (by simp[jE])).2 tj hsv).trans h.cs
 .exact aG h.sets λg Bb=>tW g (h.sets.lt g Bb).2 (λe=>n4 g (aI.2 Bb) gf (List.mem_append_left _ Df) e) λe=>n4 g (aI.2 Bb) g (List.mem_append_right _ (gD g e)) rfl
 .rw[List.length_set];exact cB
 .rw[List.length_set]at hi;by_cases hip:i=p
  .subst hip;refine ⟨v',by rw[List.getElem?_set_self (by have:=(List.getElem?_eq_some_iff.1 hv).1;exact this)],?_⟩
   rw[List.getElem_set_self,List.length_append,jO];exact aG hown λg Bb=>Below.heap_setCell _ _ _ _ λe=>ahn (by rw[Bb];show some g=some gf;rw[show g=gf from e])
  .obtain ⟨u,u1,u2⟩:=h.DB i hi;refine ⟨u,by rw[List.getElem?_set_ne Y];exact u1,?_⟩
   rw[List.getElem_set_ne Y];have hu:∀g,u.ownBlock=some g->g∈rows.flatMap blk:=λg hg=>List.mem_flatMap.2 ⟨u,List.mem_of_getElem? u1,aI.2 hg⟩;exact aG u2 λg Bb=>tW g (u2.lt g Bb).2 (λe=>n7 gf Df g (hu g Bb) e.symm) (DM n6 u1 hv hip g Bb)
 .refine (h.eP.trans (hkn.below (λk hk=>(hlt k hk).1) h.eP.size))
end Go.Proofs.YtdmoogjddmdmbaaGreatDoor
