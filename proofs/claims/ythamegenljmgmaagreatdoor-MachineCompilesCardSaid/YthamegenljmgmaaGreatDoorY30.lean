/- Walks. -/
import Derived.WideKeyArr2
import Derived.Test.YthamegenljmgmaaGreatDoorY26
import Derived.Test.YthamegenljmgmaaGreatDoorY03
import Derived.ChangeKeys
import Derived.Test.YthamegenljmgmaaGreatDoorY15
import Derived.Test.YthamegenljmgmaaGreatDoorY24
import Derived.Test.YthamegenljmgmaaGreatDoorY04
set_option maxRecDepth 100000
set_option maxHeartbeats 16000000
set_option linter.unusedVariables false
set_option linter.unusedSimpArgs false
namespace Go.Proofs.YthamegenljmgmaaGreatDoor
open Go.RowKit
section
open Go.Maps (Keyed)
theorem oH:WideMaps.ArrKey Tryz.prog 121 3 257:=⟨R,R,R,R⟩
theorem vH:Keyed Tryz.prog 121:=Keyed.of_law oH.law
def vK(f:Nat->Int):Value:=.agg ((Array.range 257).map λi=>.int .i64 (f i))
def VR(f:Nat->Int):Lit:=.string (keyBytes ((List.range 257).map λi=>Lit.int .i64 (f i)))
theorem vI{α β:Type}{g:α->Option β}{h:α->β}:∀(L:List α),(∀i∈L,g i=some (h i))->L.mapM g=some (L.map h)
 | [],_=>rfl
 |a::r,hh=>by
  rw[List.mapM_cons,hh a H,vI r λi hi=>hh i (by simp[hi])]
  rfl
theorem QS(f:Nat->Int)(hf:∀i,i<257->-9223372036854775808<=f i/\f i<9223372036854775808):keyOf Tryz.prog 121 (vK f)=some (VR f):=by
 have hwf:∀i,i<257->(Lit.int .i64 (f i)).wf=true:=λi hi=>by
  have h1:IntKind.i64.min=-9223372036854775808:=O;have h2:IntKind.i64.max=9223372036854775807:=O;obtain ⟨q1,q2⟩:=hf i hi;simp[Lit.wf];omega
 have hkt:=oH.keyType ⟨Tryz.prog.types.size - 1,R⟩;have jn:Tryz.prog.types.size=(Tryz.prog.types.size - 1)+1:=R;have hn:((Array.range 257).map λi=>Value.int .i64 (f i)).size=257:=H;unfold keyOf vK;simp only[oH.hu];rw[if_pos (by simp[hkt,Value.formed,oH.hu,oH.size,hn])]
 rw[jn];unfold Program.keyLits;simp only[oH.hu,Value.cells];rw[if_pos (by rw[oH.size];simp)]
 rw[oH.one];rw[vI (h:=λi=>[Lit.int .i64 (f i)]) (List.range 257) (λi hi=>by
  have fQ:i<257:=by simpa using hi
  have hd:((((Array.range 257).map λi=>Value.int .i64 (f i)).toList.drop (i*1)).take 1)=[Value.int .i64 (f i)]:=by
   rw[Nat.mul_one];have hl:i<(((Array.range 257).map λi=>Value.int .i64 (f i)).toList).length:=by simpa using fQ
   rw[List.drop_eq_getElem_cons hl];simp
  rw[hd];have h0:∃d,Tryz.prog.types.size - 1=d+1:=⟨Tryz.prog.types.size - 2,R⟩;obtain ⟨d,Be⟩:=h0;rw[Be];unfold Program.keyLits;simp only[Tryz.underlying3];rw[if_pos ⟨trivial,hwf i fQ⟩])]
 have nO:∀L:List Nat,(L.map λi=>[Lit.int .i64 (f i)]).flatten=L.map λi=>Lit.int .i64 (f i):=λL=>by induction L with|nil=>rfl|cons a r ih=>simp[ih]
 simp only[Option.map_some,nO]
 rfl
end
def cF(cs:List Nat)(s:Nat):Nat:=(cs[s]?).getD 0
def kS(F:Nat->Nat->Int)(cs:List Nat)(s i:Nat):Int:=if i=256 then (cF cs s:Int) else if 0<=F s i then (cF cs (F s i).toNat:Int) else -1
def zY(F:Nat->Nat->Int)(cs:List Nat)(s:Nat):List Int:=(List.range 257).map (kS F cs s)
def sE(l:List Int):Lit:=.string (keyBytes (l.map (Lit.int .i64)))
theorem RE(f:Nat->Int):VR f=sE ((List.range 257).map f):=by
 unfold VR sE;rw[List.map_map];rfl
def Zc(l:List Int):Prop:=l.length=257/\∀x∈l,-9223372036854775808<=x/\x<9223372036854775808
theorem vX:∀{l l':List Int},l.length=l'.length->Alike (l.map (Lit.int .i64)) (l'.map (Lit.int .i64))
 | [],[],_=>trivial
 |a::l,[],h=>by simp at h
 | [],b::l',h=>by simp at h
 |a::l,b::l',h=>⟨rfl,vX (by simpa using h)⟩
theorem GX{l:List Int}(h:Zc l):∀a∈l.map (Lit.int .i64),a.keyWf:=by
 intro a ha;obtain ⟨x,hx,rfl⟩:=List.mem_map.1 ha;have h1:IntKind.i64.min=-9223372036854775808:=O;have h2:IntKind.i64.max=9223372036854775807:=O;obtain ⟨q1,q2⟩:=h.2 x hx;show (Lit.int .i64 x).wf=true;simp[Lit.wf];omega
theorem tq:∀{l l':List Int},l.map (Lit.int .i64)=l'.map (Lit.int .i64)->l=l'
 | [],[],_=>rfl
 |a::l,[],h=>by simp at h
 | [],b::l',h=>by simp at h
 |a::l,b::l',h=>by
  simp only[List.map_cons,List.cons.injEq,Lit.int.injEq,true_and]at h;rw[h.1,tq h.2]
theorem Nq{l l':List Int}(h:Zc l)(h':Zc l')(e:sE l=sE l'):l=l':=by
 unfold sE at e;injection e with e;exact tq (keyBytes_inj (vX (by rw[h.1,h'.1])) (GX h) (GX h') e)
theorem Nr{F:Nat->Nat->Int}{cs:List Nat}{s:Nat}(hc:∀t,cF cs t<1000000):Zc (zY F cs s):=by
 refine ⟨by simp[zY],λx hx=>?_⟩
 obtain ⟨i,-,rfl⟩:=List.mem_map.1 hx;unfold kS;have h1:=hc s;have h2:=hc (F s i).toNat;split
 .omega
 .split <;> omega
theorem WZ{F:Nat->Nat->Int}{cs:List Nat}{s t:Nat}:zY F cs s=zY F cs t↔cF cs s=cF cs t/\∀b,b<256->rA F (cF cs) s b=rA F (cF cs) t b:=by
 unfold zY;rw[List.map_inj_left];constructor
 .intro h;refine ⟨?_,λb hb=>?_⟩
  .have:=h 256 H;unfold kS at this;rw[if_pos rfl,if_pos rfl]at this;omega
  .have:=h b ψ;have iK:¬b=256:=U;unfold kS at this;rw[if_neg iK,if_neg iK]at this;unfold rA;by_cases h1:0<=F s b
   .rw[if_pos h1]at this|-;by_cases h2:0<=F t b
    .rw[if_pos h2]at this|-
     congr 1;omega
    .rw[if_neg h2]at this;omega
   .rw[if_neg h1]at this|-;by_cases h2:0<=F t b
    .rw[if_pos h2]at this;omega
    .rw[if_neg h2]
 .rintro ⟨h1,h2⟩ i hi;have fQ:i<257:=by simpa using hi
  unfold kS;by_cases he:i=256
  .rw[if_pos he,if_pos he,h1]
  .rw[if_neg he,if_neg he];have ek:i<256:=U;have:=h2 i ek;unfold rA at this;by_cases h3:0<=F s i
   .rw[if_pos h3]at this|-;by_cases h4:0<=F t i
    .rw[if_pos h4]at this|-;injection this with this;omega
    .rw[if_neg h4]at this;cases this
   .rw[if_neg h3]at this|-;by_cases h4:0<=F t i
    .rw[if_pos h4]at this;cases this
    .rw[if_neg h4]
structure vY (sg:Nat->List Int) (ds:List Nat) (seen:List (List Int)) (n k:Nat):Prop where
 len:ds.length=n
 nd:seen.Nodup
 jL:∀s,s<k->sg s∈seen/\cF ds s=seen.idxOf (sg s)
 Lh:∀x∈seen,∃s,s<k/\sg s=x
theorem vY.start(sg:Nat->List Int)(ds:List Nat):vY sg ds [] ds.length 0:=⟨rfl,List.nodup_nil,λs hs=>absurd hs (Nat.not_lt_zero _),λx hx=>by cases hx⟩
theorem Ns{ds:List Nat}{k x:Nat}(hk:k<ds.length)(s:Nat):cF (ds.set k x) s=if s=k then x else cF ds s:=by
 unfold cF;rw[List.getElem?_set];by_cases h:s=k
 .subst h;rw[if_pos rfl,if_pos rfl,if_pos hk];rfl
 .rw[if_neg (Ne.symm h),if_neg h]
section
variable {sg:Nat->List Int} {ds:List Nat} {seen:List (List Int)} {n k:Nat}
theorem vY.Li(h:vY sg ds seen n k)(hk:k<n)(bI:sg k∈seen):vY sg (ds.set k (seen.idxOf (sg k))) seen n (k+1):=by
 have hl:k<ds.length:=by rw[h.len];exact hk
 refine ⟨by rw[List.length_set];exact h.len,h.nd,λs hs=>?_,λx hx=>?_⟩
 .rw[Ns hl];by_cases e:s=k
  .subst e;rw[if_pos rfl];exact ⟨bI,rfl⟩
  .rw[if_neg e];exact h.jL s U
 .obtain ⟨s,h1,h2⟩:=h.Lh x hx;exact ⟨s,U,h2⟩
theorem vY.new(h:vY sg ds seen n k)(hk:k<n)(bI:sg k∉seen):vY sg (ds.set k seen.length) (seen++[sg k]) n (k+1):=by
 have hl:k<ds.length:=by rw[h.len];exact hk
 refine ⟨by rw[List.length_set];exact h.len,?_,λs hs=>?_,λx hx=>?_⟩
 .rw[List.nodup_append];exact ⟨h.nd,H,λx hx y hy=>by rw[List.mem_singleton]at hy;subst hy;rintro rfl;exact bI hx⟩
 .rw[Ns hl];by_cases e:s=k
  .subst e;rw[if_pos rfl,List.idxOf_append,if_neg bI];simp
  .rw[if_neg e];obtain ⟨h1,h2⟩:=h.jL s U;exact ⟨List.mem_append_left _ h1,by rw[h2,List.idxOf_append,if_pos h1]⟩
 .rcases List.mem_append.1 hx with hx|hx
  .obtain ⟨s,h1,h2⟩:=h.Lh x hx;exact ⟨s,U,h2⟩
  .rw[List.mem_singleton]at hx;exact ⟨k,U,hx.symm⟩
theorem vY.EV(h:vY sg ds seen n k):seen.length<=k:=by
 have:=gH (l:=seen) (r:=(List.range k).map sg) h.nd (λx hx=>by
  obtain ⟨s,h1,h3⟩:=h.Lh x hx;exact List.mem_map.2 ⟨s,List.mem_range.2 h1,h3⟩)
 simpa using this
theorem vY.eq(h:vY sg ds seen n n){s t:Nat}(hs:s<n)(ht:t<n):cF ds s=cF ds t↔sg s=sg t:=by
 obtain ⟨a1,a2⟩:=h.jL s hs;obtain ⟨b1,b2⟩:=h.jL t ht;rw[a2,b2];constructor
 .intro he;have e1:=(dB a1).2;have e2:=(dB b1).2;rw[he,e2]at e1;exact (Option.some.inj e1).symm
 .intro he;rw[he]
theorem vY.Xa(h:vY sg ds seen n n)(y:Nat):y<seen.length↔∃s,s<n/\cF ds s=y:=by
 constructor
 .intro hy;obtain ⟨s,h1,h3⟩:=h.Lh seen[y] (List.getElem_mem hy);refine ⟨s,h1,?_⟩;rw[(h.jL s h1).2,h3,h.nd.idxOf_getElem y hy]
 .rintro ⟨s,hs,hd⟩;obtain ⟨h1,h2⟩:=h.jL s hs;rw[h2]at hd;rw[<-hd];exact (dB h1).1
theorem vY.ZO(h:vY sg ds seen n n)(hn:0<n)(s:Nat):cF ds s<n:=by
 by_cases hs:s<n
 .have:=(h.Xa (cF ds s)).2 ⟨s,hs,rfl⟩;have:=h.EV;omega
 .unfold cF;rw[List.getElem?_eq_none (by rw[h.len];omega)]
  exact hn
end
structure oN (m:Mc) (cs:List Nat) (kn:Nat):Prop where
 len:cs.length=m.ed.length
 cl:xE m (cF cs)
 kn:kn=0\/(∀c,c<kn↔∃s,s<m.ed.length/\cF cs s=c)
 lt:∀s,cF cs s<2002
section
variable {m:Mc} {F:Nat->Nat->Int} {cs ds:List Nat} {seen:List (List Int)} {kn:Nat}
theorem vY.Nt(h:vY (zY F cs) ds seen m.ed.length m.ed.length):Nn m F (cF cs) (cF ds):=λs t hs ht=>(h.eq hs ht).t WZ
theorem oN.count(hh:oN m cs kn)(h1:1<=m.ed.length)(h:vY (zY F cs) ds seen m.ed.length m.ed.length):kn<=seen.length/\(kn=seen.length->∀s t,s<m.ed.length->t<m.ed.length->cF cs s=cF cs t->cF ds s=cF ds t):=by
 rcases hh.kn with h0|hp
 .subst h0;refine ⟨Nat.zero_le _,λhe s t hs ht _=>?_⟩;have:=(h.jL 0 U).1;rw[List.length_eq_zero_iff.1 he.symm]at this
  cases this
 .have Dd:=qJ (S:=List.range m.ed.length) (f:=cF cs) (g:=cF ds) (F:=List.range kn) (G:=List.range seen.length) List.nodup_range
   (λx=>by
    rw[List.mem_range,hp x];constructor
    .rintro ⟨s,h1,h2⟩;exact ⟨s,List.mem_range.2 h1,h2⟩
    .rintro ⟨s,h1,h2⟩;exact ⟨s,List.mem_range.1 h1,h2⟩)
   (λy=>by
    rw[List.mem_range,h.Xa y];constructor
    .rintro ⟨s,h1,h2⟩;exact ⟨s,List.mem_range.2 h1,h2⟩
    .rintro ⟨s,h1,h2⟩;exact ⟨s,List.mem_range.1 h1,h2⟩)
   (λs hs t ht he=>((h.Nt s t (List.mem_range.1 hs) (List.mem_range.1 ht)).1 he).1)
  simp only[List.length_range]at Dd;exact ⟨Dd.1,λhe s t hs ht hc=>Dd.2 he s (List.mem_range.2 hs) t (List.mem_range.2 ht) hc⟩
theorem oN.next{al:List Bool}(hv:jB m)(ha:nH m al)(hh:oN m cs kn)(h1:1<=m.ed.length)(h2:m.ed.length<=2000)(h:vY (zY (iC m al) cs) ds seen m.ed.length m.ed.length)(he:seen.length≠kn):oN m ds seen.length/\kn<seen.length/\seen.length<=m.ed.length:=by
 have:=(hh.count h1 h).1;exact ⟨⟨h.len,hh.cl.next hv ha h.Nt,.inr h.Xa,λs=>by have:=h.ZO U s;omega⟩,U,h.EV⟩
theorem oN.done{al:List Bool}(hv:jB m)(eg:iE m)(ha:nH m al)(hh:oN m cs kn)(h1:1<=m.ed.length)(h:vY (zY (iC m al) cs) ds seen m.ed.length m.ed.length)(he:seen.length=kn):∀s t,s<m.ed.length->t<m.ed.length->(cF ds s=cF ds t↔oJ m s t):=
 hh.cl.done hv eg ha h.Nt ((hh.count h1 h).2 he.symm)
end
def qo(ac:List Bool)(k n:Nat):List Nat:=(List.range n).map λs=>if s<k/\ac[s]?=some true then 1 else 0
theorem Jk(ac:List Bool)(n:Nat):qo ac 0 n=List.replicate n 0:=by
 unfold qo;rw[List.eq_replicate_iff];refine ⟨H,λx hx=>?_⟩;obtain ⟨s,-,rfl⟩:=List.mem_map.1 hx;rw[if_neg U]
theorem j5(ac:List Bool)(k n:Nat):(qo ac k n).length=n:=by simp[qo]
theorem rC(ac:List Bool)(k n s:Nat)(h:s<n):(qo ac k n)[s]?=some (if s<k/\ac[s]?=some true then 1 else 0):=by
 unfold qo;rw[List.getElem?_map,List.getElem?_range h];rfl
theorem EW{ac:List Bool}{k n:Nat}(h:ac[k]?=some false):qo ac (k+1) n=qo ac k n:=by
 unfold qo;refine List.map_congr_left λs _=>?_;by_cases e:s=k
 .subst e;rw[h];simp
 .congr 1
  simp only[eq_iff_iff];constructor <;> (rintro ⟨h1,h2⟩; exact ⟨U,h2⟩)
theorem Jl{ac:List Bool}{k n:Nat}(h:ac[k]?=some true):qo ac (k+1) n=(qo ac k n).set k 1:=by
 apply List.ext_getElem?;intro s;by_cases hs:s<n
 .rw[rC ac (k+1) n s hs,List.getElem?_set];by_cases e:k=s
  .subst e;rw[if_pos ⟨U,h⟩,if_pos rfl,if_pos (by rw[j5];exact hs)]
  .rw[if_neg e,rC ac k n s hs];by_cases hx:s<k/\ac[s]?=some true
   .rw[if_pos hx,if_pos ⟨U,hx.2⟩]
   .rw[if_neg hx,if_neg (λh=>hx ⟨U,h.2⟩)]
 .rw[List.getElem?_eq_none (by rw[j5];omega),List.getElem?_eq_none (by rw[List.length_set,j5];omega)]
theorem oN.first{m:Mc}(hl:m.ac.length=m.ed.length):oN m (qo m.ac m.ed.length m.ed.length) 0:=by
 refine ⟨j5 _ _ _,xE.start m _ λs hs=>?_,.inl rfl,λs=>?_⟩
 .unfold cF;rw[rC _ _ _ _ hs,List.getElem?_eq_getElem U]
  cases m.ac[s] <;> simp[hs]
 .unfold cF;by_cases hs:s<m.ed.length
  .rw[rC _ _ _ _ hs]; simp only[Option.getD_some]; split <;> omega
  .rw[List.getElem?_eq_none (by rw[j5];omega)];simp
def Jm(seen:List (List Int))(x:List Int):Option Value:=if x∈seen then some (.int .i64 ((seen.idxOf x:Nat):Int)) else none
def vZ(F:Lit->Option Value)(seen:List (List Int)):Prop:=∀x,Zc x->F (sE x)=Jm seen x
theorem vZ.nil:vZ (λ_=>none) []:=λx _=>rfl
theorem vZ.put{F:Lit->Option Value}{seen:List (List Int)}(h:vZ F seen)(x:List Int)(hw:Zc x)(hx:x∉seen)(n:Int)(hn:n=(seen.length:Int)):vZ (je F (sE x) (some (.int .i64 n))) (seen++[x]):=by
 intro y hy;subst hn;unfold je;by_cases e:y=x
 .subst e;rw[if_pos (by simp[sE,Lit.sameKey])]
  unfold Jm;rw[if_pos H,List.idxOf_append,if_neg hx];simp
 .rw[if_neg (by
   simp only[sE,Lit.sameKey,beq_iff_eq];intro he;exact e (Nq hy hw (by unfold sE;rw[he]))),h y hy]
  unfold Jm;by_cases hy:y∈seen
  .rw[if_pos hy,if_pos (by simp[hy]),List.idxOf_append,if_pos hy]
  .rw[if_neg hy,if_neg (by simp[hy,e])]
def GY(w:World)(g:Nat)(f:Nat->Int):Prop:=∃cs,w.heap[g]?=some (.cells cs 121 (0,0))/\cs.size=257/\∀i,i<257->cs[i]?=some (.int .i64 (f i))
def kX(f:Nat->Int)(i:Nat)(x:Int):Nat->Int:=λj=>if j=i then x else f j
theorem GY.cell{w:World}{g:Nat}{f:Nat->Int}(h:GY w g f){i:Nat}(hi:i<257):w.cell? (Z g i)=some (.int .i64 (f i))/\w.frozen? (Z g i)=false/\g<w:=by
 obtain ⟨cs,h1,h2,h3⟩:=h;refine ⟨?_,by simp[World.frozen?,h1],(γ h1).1⟩
 rw[Φ h1];exact h3 i hi
theorem GY.set{w:World}{g:Nat}{f:Nat->Int}(h:GY w g f){i:Nat}(hi:i<257)(x:Int):GY (w.setCell (Z g i) (.int .i64 x)) g (kX f i x):=by
 obtain ⟨cs,h1,h2,h3⟩:=h;refine ⟨cs.setIfInBounds i (.int .i64 x),by simp[World.setCell,Array.getElem?_modify,h1],by simpa using h2,λj hj=>?_⟩
 unfold kX;rw[Array.getElem?_setIfInBounds];by_cases he:j=i
 .subst he;rw[if_pos rfl,if_pos U,if_pos rfl]
 .rw[if_neg U,if_neg he];exact h3 j hj
theorem Nu{f g:Nat->Int}(h:∀i,i<257->f i=g i):vK f=vK g:=by
 unfold vK
 congr 1
 apply Array.ext
 .simp
 .intro i h1 h2;have:i<257:=by simpa using h1
  simp[h i this]
def cK(f:Nat->Int):Array Value:=(Array.range 257).map λi=>.int .i64 (f i)
theorem RF(f:Nat->Int):(cK f).size=257:=by simp[cK]
theorem RG:(Tryz.prog.info? 121).map (·.size)=some 257:=R
theorem GY.cells{w:World}{g:Nat}{f:Nat->Int}(h:GY w g f):w.heap[g]?=some (.cells (cK f) 121 (0,0)):=by
 obtain ⟨cs,h1,h2,h3⟩:=h;rw[h1]
 congr 2
 unfold cK;apply Array.ext
 .simpa using h2
 .intro i hi hj;have h4:i<257:=U;have:=h3 i h4;rw[Array.getElem?_eq_getElem hi]at this;injection this with this;rw[this];simp
theorem Nv{f g:Nat->Int}(h:∀i,i<257->f i=g i):cK f=cK g:=by
 have:=Nu h;unfold vK at this;injection this
theorem Nw{F:Nat->Nat->Int}{cs:List Nat}{s:Nat}(hc:∀t,cF cs t<1000000):keyOf Tryz.prog 121 (.agg (cK (kS F cs s)))=some (sE (zY F cs s)):=by
 have:=QS (kS F cs s) λi hi=>(Nr (F:=F) (s:=s) hc).2 _ (List.mem_map.2 ⟨i,List.mem_range.2 hi,rfl⟩);rw[RE]at this;exact this
def Xb(m:Mc)(n:Nat)(w:World)(e:Ending)(w':World):Prop:=∃g ds,e=.returned (.slice (Z g 0) n n)/\OR 3 1 qv w (.slice (Z g 0) n n) (ds.map some) w'/\Below w w w'/\ds.length=n/\(∀s t,s<n->t<n->(cF ds s=cF ds t↔oJ m s t))/\∀s,cF ds s<n
theorem rD{ds:List Nat}{s:Nat}(h:s<ds.length):cY (ds.map some) s=some (cF ds s):=by
 unfold cY cF;rw[List.getElem?_map,List.getElem?_eq_getElem h];rfl
section
open Go.Maps (Keyed)
structure Xf (sg:Nat->List Int) (WB:World) (ds:List Nat) (seen:List (List Int)) (F:Lit->Option Value) (n k:Nat) (wr:World):Prop where
 mn:MN Tryz.prog 121 WB seen.length F wr
 sy:vZ F seen
 own:OR 3 1 qv (WB+1) (.slice (Z (WB+1) 0) n n) (ds.map some) wr
 ri:vY sg ds seen n k
 bl:Below WB WB wr
theorem Xf.later{sg:Nat->List Int}{WB:World}{ds:List Nat}{seen:List (List Int)}{F:Lit->Option Value}{n k:Nat}{wr w':World}(h:Xf sg WB ds seen F n k wr)(hb:Below wr wr w'):Xf sg WB ds seen F n k w':=
 have h1:=h.own.JZ
 ⟨h.mn.iJ (hb.block _ U),h.sy,h.own.later hb,h.ri,h.bl.t (hb.mono h.bl.size)⟩
theorem acY:Tryz.zeroCells121=Array.replicate 257 (.int .i64 0):=R
theorem GY.new(w:World)(x:Int):GY (w.alloc (.cells (Tryz.zeroCells121.setIfInBounds 256 (.int .i64 x)) 121)) w (kX (λ_=>0) 256 x):=by
 rw[acY];refine ⟨_,heap_alloc_new w _,H,λi hi=>?_⟩;unfold kX;rw[Array.getElem?_setIfInBounds];by_cases he:256=i
 .subst he;simp
 .rw[if_neg he,if_neg (Ne.symm he),Array.getElem?_replicate,if_pos hi]
theorem zZ(v:Value)(m:Mc)(w:World)(gT:Nat)(al:List Bool)(hm:jb w v m)(hv:jB m)(eg:iE m)(h1:1<=m.ed.length)(h2:m.ed.length<=2000)(ha:nH m al)(ht:z8 w gT m.ed.length (iC m al)):
  Calls Tryz.prog 56 #[v,.slice (Z gT 0) m.ed.length m.ed.length] w (Xb m m.ed.length w):=by
 obtain ⟨Ae,ce,Aa,ca,rfl,ON,EX⟩:=mcf hm;obtain ⟨he,sF⟩:=rE hm;obtain ⟨n,hn⟩:=ν m.ed.length;have ej:m.ac.length=n:=by rw[hv.len,hn]
 have HA:=Y sF;have HV:=Y hv;have tT:=Y eg;have HN:=Y (I hn ej);have Yk:=Y ha;have hF:∀s c,iC m al s c=-1\/∃x,iC m al s c=((x:Nat):Int)/\x<n:=λs c=>by
  unfold iC
  cases htr:bA (aU m s) c with
  |none=>exact .inl rfl
  |some t=>
   simp only;split
   .exact .inr ⟨t,rfl,by rw[<-hn];exact hv.a6 htr⟩
   .exact .inl rfl
 have HF:=Y hF;rw[hn]at h1 h2 ON ht;rw[ej]at EX;have HT:=Y ht;have HTL:=Y (ht.cell (s:=0) (c:=0) U O).2.2;rw[ej,hn];have hz:∀w,(zeroValue 3).run Tryz.prog w=.ok (.int .i64 0) w:=λ_=>R;have qK:=uO n U;have Dw:=@run_makeMap Tryz.prog;clear he sF hv eg hm hn ej ha ht hF
 go_enter Tryz.func56,Tryz.ntmps56
 go_wp2_with fail;refine br λW0 cG=>?_;have hb0:Below w w W0:=by rw[cG];exact (D.alloc V _).alloc H _
 have Nz:W0.heap.size=w+2:=by rw[cG];simp
 have zK:W0.heap[w.heap.size]?=some (.cells #[.slice Ae n ce,.slice Aa n ca] 35):=by rw[cG];exact (az _ _ _ H).t (heap_alloc_new w _)
 have LH:OR 3 1 qv (w+1) (.slice (Z (w+1) 0) n n) ((qo m.ac 0 n).map some) W0:=by
  have hzero:=ig (w.alloc (.cells #[.slice Ae n ce,.slice Aa n ca] 35)) n U;have Bm:(w.alloc (.cells #[.slice Ae n ce,.slice Aa n ca] 35)).heap.size=w.heap.size+1:=H;rw[Bm]at hzero;rw[Jk,cG,List.map_replicate];exact hzero
 have dA:=Y hb0;have ajz:=Y zK;have U1:=Y LH;have Ze:=Y Nz;clear cG hb0 zK LH Nz;go_loopw [6] (λiv wr=>∃k:Nat,k<=n/\iv=.int .i64 (k:Int)/\Hid (OR 3 1 qv (w+1) (.slice (Z (w+1) 0) n n) ((qo m.ac k n).map some) wr)/\Hid (ab [w.heap.size+1] [] W0 wr)) (λiv _=>n - (intOf iv).toNat)
 case atStart=>exact ⟨0,Nat.zero_le _,rfl,U1,uq D⟩
 case round=>
  obtain ⟨k,hk,rfl,HC,HK⟩:=hrel;have Hj:=HK.size;have Nz:=Ze.o;by_cases aB:k<n
  .have hd:decide ((k:Int)<(n:Int))=true:=τ;have dV:decide (k<n)=true:=decide_eq_true aB;have nN:Below w w wr:=dA.t (HK.below (λq hq=>by rw[List.mem_singleton]at hq;omega) U)
   have aV:k<m.ac.length:=by rw[HN.2];exact aB
   obtain ⟨g,f,rfl,-,hg,c0'⟩:=HA.jL aV;have c0:=(nN.cl g (f+k) hg).t c0';have lg:g<wr:=U;have iw:=(HK.aq w U H).t ajz.o;obtain ⟨x0,x1⟩:wr.cell? (Z w 0)=some (.slice Ae n ce)/\wr.cell? (Z w 1)=some (.slice (Z g f) n ca):=by constructor <;> (rw[Φ iw]; rfl)
   have lx:w.heap.size<wr:=U;obtain ⟨q,hq⟩:=ν (m.ac[k]);rw[hq]at c0;have ZS:=Y (show m.ac[k]?=some q by rw[List.getElem?_eq_getElem aV,hq])
   obtain ⟨y0,y1⟩:=HC.gY k (by rw[List.length_map,j5];exact aB)
   have hgy:=HC.JZ;clear nN aV c0' iw hq
   cases q with
   |false=>
    go_wp2_with fail;go_roundw
    case rel=>exact ⟨k+1,U,by go_num,by rw[EW ZS.o];exact HC,HK⟩
    case measure=>exact μ
   |true=>
    have aH:=HC.xg (by rw[List.length_map,j5]) k (some 1)
    rw[<-List.map_set,<-Jl ZS.o]at aH;have AJ:=Y aH;have bE:ab [w.heap.size+1] [] W0 (wr.setCell (Z (w+1) k) (.int .i64 1)):=HK.tr ⟨rfl,rfl,rfl,by simp[World.setCell],λq _ hn=>Below.heap_setCell _ _ _ _ (λe=>hn (by simp[show q=w.heap.size+1 from e])),λk hk=>by cases hk⟩
    have ZT:=Y bE;clear aH bE;go_wp2_with fail;go_roundw
    case rel=>exact ⟨k+1,U,by go_num,AJ,ZT⟩
    case measure=>exact μ
  .obtain rfl:k=n:=U;have hd:decide ((k:Int)<(k:Int))=false:=θ;have dV:decide (k<k)=false:=θ;have pY:=Y (dA.t (HK.below (λq hq=>by rw[List.mem_singleton]at hq;omega) U))
   have UK:=oN.first (m:=m) (by rw[HN.1,HN.2])
   rw[HN.1]at UK;have HHD:=Y UK;have HCO:=Y (HC.mono (show w.heap.size<=w+1 by omega))
   clear UK;go_wp2_with fail
   go_loopg [5,7] (k+2) (λq cv kv wr=>∃(g3 kn:Nat) (cs:List Nat),cv=.slice (Z g3 0) k k/\kv=.int .i64 (kn:Int)/\q+kn=k+2/\kn<=k/\Hid (OR 3 1 qv w (.slice (Z g3 0) k k) (cs.map some) wr)/\Hid (oN m cs kn)/\Hid (Below w w wr))
   case atStart=>exact ⟨w.heap.size+1,0,qo m.ac k k,rfl,rfl,rfl,Nat.zero_le _,HCO,HHD,pY⟩
   case round=>
    obtain ⟨g3,kn,cs,rfl,rfl,hq,jC,wN,HH,pY⟩:=hrel;obtain ⟨WB,rfl⟩:∃W:World,W=wr:=⟨_,rfl⟩;have iF:=wN.JZ;have Lm:cs.length=k:=by rw[HH.len,HN.1]
    have Yl:=pY.size;have Ln:MN Tryz.prog 121 WB 0 (λ_=>none) (WB.alloc (.map #[] 0)):=MN.made _ _ _;have dY:=ig (WB.alloc (.map #[] 0)) k U;have DJ:(WB.alloc (.map #[] 0)).heap.size=WB.heap.size+1:=H;rw[DJ]at dY;have Hd:Xf (zY (iC m al) cs) WB (List.replicate k 0) [] (λ_=>none) k 0 ((WB.alloc (.map #[] 0)).alloc (.cells (Array.replicate k (.int .i64 0)) 3)):=
     ⟨Ln.iJ (az _ _ _ U),vZ.nil,by rw[List.map_replicate];exact dY,by have:=vY.start (zY (iC m al) cs) (List.replicate k 0);rwa [List.length_replicate]at this,((Below.refl _ WB).alloc V _).alloc U _⟩
    have ux:=Y Hd;have DK:=Y Lm;clear Ln dY DJ Hd Lm;go_wp2_with fail;go_loopw [10] (λiv wr=>∃(j:Nat) (ds:List Nat) (seen:List (List Int)) (F:Lit->Option Value),j<=k/\iv=.int .i64 (j:Int)/\Hid (Xf (zY (iC m al) cs) WB ds seen F k j wr)) (λiv _=>k - (intOf iv).toNat)
    case atStart=>exact ⟨0,_,[],_,Nat.zero_le _,rfl,ux⟩
    case round=>
     obtain ⟨j,ds,seen,F,hj,rfl,HR⟩:=hrel;have p5:=HR.bl.size;have eP:=HR.own.JZ;have FZ:ds.length=k:=HR.ri.len;by_cases aB:j<k
     .have hd:decide ((j:Int)<(k:Int))=true:=τ;have dV:decide (j<k)=true:=decide_eq_true aB;obtain ⟨sU,-⟩:=wN.gY j (by rw[List.length_map,DK.o];exact aB)
      rw[rD (by rw[DK.o];exact aB)]at sU
      have De:wr.cell? (Z g3 j)=some (.int .i64 ((cF cs j:Nat):Int)):=(HR.bl.cl g3 j iF).t sU;have ZW:g3<wr:=U;have DL:=Y FZ;clear sU FZ;go_wp2_with fail;refine br λW1 xb=>?_;have hkv:=GY.new wr (cF cs j:Int);rw[<-xb]at hkv;have aM:Below wr wr W1:=by rw[xb];exact D.alloc V _
      have IX:=Y (HR.later aM);have dc:=Y (pY.t ((HR.bl.t (aM.mono p5)).mono Yl));have pj:=Y (HR.bl.t (aM.mono p5));have Kb:=(hkv.cell (i:=0) O).2.2;obtain ⟨kb,wV⟩:∃x,wr.heap.size=x:=⟨_,rfl⟩;rw[wV]at hkv Kb p5|-;have asG:WB+1<kb:=U;have HKV:Hid (GY W1 kb (kX (λ_=>0) 256 (cF cs j))/\kX (λ_=>0) 256 (cF cs j:Int) 256=(cF cs j:Int)/\∀i,i<0->kX (λ_=>0) 256 (cF cs j:Int) i=kS (iC m al) cs j i):=⟨hkv,by simp[kX],λi hi=>absurd hi (Nat.not_lt_zero _)⟩
      clear xb aM hkv De ZW wV eP;go_loopw [12] (λv wr=>∃(c:Nat) (G:Nat->Int),c<=256/\v=.int .i64 (c:Int)/\Hid (GY wr kb G/\G 256=(cF cs j:Int)/\∀i,i<c->G i=kS (iC m al) cs j i)/\Hid (ab [kb] [] W1 wr)) (λv _=>256 - (intOf v).toNat)
      case atStart=>exact ⟨0,_,U,rfl,HKV,uq D⟩
      case round=>
       obtain ⟨c,G,hc,rfl,HG,GC⟩:=hrel;have asI:=GC.size;by_cases dj:c<256
       .have SY:decide ((c:Int)<256)=true:=τ;have NA:decide (c<256)=true:=decide_eq_true dj;obtain ⟨k0,k1,k2⟩:=HG.1.cell (show c<257 by omega)
        have Ki:c<257:=U;have hTl:gT<WB:=by have:=HTL.o;omega
        have bf:gT≠kb:=U;have htb:=HT.later pY.o;have tc0:wr.cell? (Z gT (j*256+c))=some (.int .i64 (iC m al j c)):=(χ gT (j*256+c) ((GC.aq gT (by have:=HTL.o;have:=dc.size;omega) ψ).t (pj.block gT hTl))).t (htb.cell aB dj).1
        have lT:gT<wr:=U;have kf2:∀x,ab [kb] [] W1 (wr.setCell (Z kb c) x):=λx=>GC.tr ⟨rfl,rfl,rfl,by simp[World.setCell],λq _ hn=>Below.heap_setCell _ _ _ _ (λe=>hn (by simp[show q=kb from e])),λk hk=>by cases hk⟩
        have kv2:∀(x:Int),x=kS (iC m al) cs j c->GY (wr.setCell (Z kb c) (.int .i64 x)) kb (kX G c x)/\kX G c x 256=(cF cs j:Int)/\∀i,i<c+1->kX G c x i=kS (iC m al) cs j i:=λx hx=>⟨HG.1.set Ki x,by unfold kX;rw[if_neg U];exact HG.2.1,λi hi=>by
         unfold kX;by_cases e:i=c
         .rw[if_pos e,e,hx]
         .rw[if_neg e];exact HG.2.2 i U⟩
        have KS:=Y kf2;have ajA:=Y kv2;have Tp:¬c=256:=U;clear htb kf2 kv2;rcases HF.o j c with dh|⟨x,dh,hxk⟩
        .rw[dh]at tc0;have tU:=Y (ajA (-1) (by unfold kS;rw[if_neg Tp,dh];rfl))
         have sR:=Y (KS (.int .i64 (-1)));clear dh;go_wp2_with fail;go_roundw
         case rel=>exact ⟨c+1,_,U,by go_num,tU,sR⟩
         case measure=>exact μ
        .rw[dh]at tc0;obtain ⟨sU,-⟩:=wN.gY x (by rw[List.length_map,DK.o];exact hxk)
         rw[rD (by rw[DK.o];exact hxk)]at sU
         have asK:g3<WB:=iF;have aiF:g3≠kb:=U;have De:wr.cell? (Z g3 x)=some (.int .i64 ((cF cs x:Nat):Int)):=(χ g3 x ((GC.aq g3 (by have:=pj.size;omega) ψ).t (pj.block g3 iF))).t sU
         have l3:g3<wr:=by have:=pj.size;omega
         have hxd:decide (x<k)=true:=decide_eq_true hxk;have Dl:(cF cs x:Int)=kS (iC m al) cs j c:=by unfold kS;rw[if_neg Tp,dh];simp
         have tU:Hid (GY ((wr.setCell (Z kb c) (.int .i64 (-1))).setCell (Z kb c) (.int .i64 (cF cs x:Int))) kb (kX (kX G c (-1)) c (cF cs x))/\kX (kX G c (-1)) c (cF cs x) 256=(cF cs j:Int)/\∀i,i<c+1->kX (kX G c (-1)) c (cF cs x) i=kS (iC m al) cs j i):=⟨(HG.1.set Ki (-1)).set Ki _,by unfold kX;rw[if_neg (Ne.symm Tp),if_neg (Ne.symm Tp)];exact HG.2.1,λi hi=>by
          unfold kX;by_cases e:i=c
          .rw[if_pos e,e,Dl]
          .rw[if_neg e,if_neg e];exact HG.2.2 i U⟩
         have sR:Hid (ab [kb] [] W1 ((wr.setCell (Z kb c) (.int .i64 (-1))).setCell (Z kb c) (.int .i64 (cF cs x:Int)))):=(KS (.int .i64 (-1))).tr ⟨rfl,rfl,rfl,by simp[World.setCell],λq _ hn=>Below.heap_setCell _ _ _ _ (λe=>hn (by simp[show q=kb from e])),λk hk=>by cases hk⟩
         clear dh sU Dl;go_wp2_with fail;go_roundw
         case rel=>exact ⟨c+1,_,U,by go_num,tU,sR⟩
         case measure=>exact μ
       .obtain rfl:c=256:=U;have SY:decide ((256:Int)<256)=false:=O;have NA:decide (256<256)=false:=O;have kR:=HG.1.cells;rw[Nv (g:=kS (iC m al) cs j) λi hi=>by
         by_cases e:i=256
         .rw[e,HG.2.1];unfold kS;rw[if_pos rfl]
         .exact HG.2.2 i U]at kR
        have Xg:=Y kR;have Xh:∀t,cF cs t<1000000:=λt=>by have:=HH.lt t;omega
        have p6:=Y (Nw (F:=iC m al) (s:=j) Xh);have HWF:=Y (Nr (F:=iC m al) (s:=j) Xh);obtain ⟨CK,hCK⟩:∃x,cK (kS (iC m al) cs j)=x:=⟨_,rfl⟩;have ac2:CK.size=257:=by rw[<-hCK,RF]
        rw[hCK]at Xg p6;obtain ⟨SG,hSG⟩:∃x,zY (iC m al) cs j=x:=⟨_,rfl⟩;rw[hSG]at p6 HWF;have HSG:=Y hSG;have aS:Below W1 W1 wr\/True:=.inr trivial;have Bz:MN Tryz.prog 121 WB seen.length F wr:=IX.mn.iJ (GC.aq _ U ψ);have UN:OR 3 1 qv (WB+1) (.slice (Z (WB+1) 0) k k) (ds.map some) wr:=OR.keep IX.own λg hg=>GC.aq g (World.ownsRow.lt IX.own g hg).2 (by have e:WB.heap.size+1=g:=Option.some.inj hg;simp;omega)
        have bw:Below WB WB wr:=pj.t (GC.below (λq hq=>by rw[List.mem_singleton]at hq;omega) pj.size)
        obtain ⟨Ym,Yn⟩:=UN.gY j (by rw[List.length_map,DL.o];exact aB)
        have hlz:WB.heap.size+1<wr:=U;have P3:=Y Bz;have P4:=Y UN;have iZ:=Y bw;have Lt:seen.length<=k:=by have:=HR.ri.EV;omega
        have TX:(Tryz.prog.info? 121).map (·.size)=some CK.size:=by rw[ac2];exact RG
        have ac4:=Y TX;clear kR Xh hCK ac2 hSG aS Bz UN bw TX;by_cases bI:zY (iC m al) cs j∈seen
        .have lJ:(Instr.lookup 120 (.map (some WB.heap.size)) (.agg CK) true).run Tryz.prog wr=.ok (.tuple #[.int .i64 ((seen.idxOf (zY (iC m al) cs j):Nat):Int),.bool true]) wr:=by
          have h1:=P3.mv.look_ok vH Tryz.underlying120 hz p6.o trivial;have h2:=HR.sy SG HWF.o;rw[h2,Jm,<-HSG.o,if_pos bI]at h1;exact h1
         obtain ⟨ix,OP⟩:∃i,seen.idxOf (zY (iC m al) cs j)=i:=⟨_,rfl⟩;rw[OP]at lJ;have aH:=P4.xg (by rw[List.length_map,DL.o]) j (some ix)
         rw[<-List.map_set]at aH;have AK:Xf (zY (iC m al) cs) WB (ds.set j ix) seen F k (j+1) (wr.setCell (Z (WB+1) j) (.int .i64 (ix:Int))):=
          ⟨P3.iJ (Below.heap_setCell _ _ _ _ (by show WB.heap.size≠WB+1;omega)),HR.sy,aH,by rw[<-OP];exact HR.ri.Li aB bI,iZ.sc (WB+1) j (by show WB.heap.size<=WB+1;omega) _⟩
         have pC:=Y AK;have BA:=Y bI;clear OP aH AK bI;go_wp2_with (refine wpList_load_row rfl 121 _ rfl kb rfl _ CK _ _ Xg.o Tryz.underlying121 rfl ac4.o ?_);go_roundw
         case rel=>exact ⟨j+1,_,_,_,U,by go_num,pC⟩
         case measure=>exact μ
        .have lJ:(Instr.lookup 120 (.map (some WB.heap.size)) (.agg CK) true).run Tryz.prog wr=.ok (.tuple #[(0:Int),.bool false]) wr:=by
          have h1:=P3.mv.look_ok vH Tryz.underlying120 hz p6.o trivial;have h2:=HR.sy SG HWF.o;rw[h2,Jm,<-HSG.o,if_neg bI]at h1;exact h1
         have Dc:F (sE SG)=none:=by
          have h2:=HR.sy SG HWF.o;rw[h2,Jm,<-HSG.o,if_neg bI]
         obtain ⟨sl,p7⟩:∃n,seen.length=n:=⟨_,rfl⟩;have Bz:=P3.o;rw[p7]at Bz Lt;have BA:=Y (I bI p7);have Lu:=Y Bz;have DE:=Y Dc;clear bI p7 Bz Dc;go_wp2_with (first
          | (refine wpList_load_row rfl 121 _ rfl kb rfl _ CK _ _ Xg.o Tryz.underlying121 rfl ac4.o ?_)
          | (at_len;refine eC rfl _ 120 rfl 121 3 Tryz.underlying120 WB sl F rfl Lu.o ?_)
          | (at_mapUpdate;refine kL wr rfl _ _ _ 120 rfl 121 3 vH Tryz.underlying120 WB sl F rfl Lu.o (by unfold maxLen;omega) _ _ _ rfl rfl p6.o trivial DE.o ?_))
         intro wm Lv kN;have hzm:=kN.size;have UO:OR 3 1 qv (WB+1) (.slice (Z (WB+1) 0) k k) (ds.map some) wm:=OR.keep P4.o λg hg=>kN.block g (World.ownsRow.lt P4.o g hg).2 (λe=>by
          have:=(World.ownsRow.lt P4.o g hg).1;injection e with e;omega)
         obtain ⟨ee0,ee1⟩:=UO.gY j (by rw[List.length_map,DL.o];exact aB)
         have Ui:WB.heap.size+1<wm:=U;have aH:=UO.xg (by rw[List.length_map,DL.o]) j (some sl)
         rw[<-List.map_set]at aH;have F0:Below WB WB wm:=iZ.grown kN U (λq hq=>by injection hq with hq;omega)
         have F5:=HR.sy.put SG HWF.o (by rw[<-HSG.o];exact BA.1) (sl:Int) (by rw[BA.2])
         have qA:=HR.ri.new aB BA.1;rw[BA.2,HSG.o]at qA;have AK:Xf (zY (iC m al) cs) WB (ds.set j sl) (seen++[SG]) (je F (sE SG) (some (.int .i64 (sl:Int)))) k (j+1) (wm.setCell (Z (WB+1) j) (.int .i64 (sl:Int))):=
          ⟨by rw[List.length_append,BA.2];exact Lv.iJ (Below.heap_setCell _ _ _ _ (by show WB.heap.size≠WB+1;omega)),F5,aH,qA,F0.sc (WB+1) j (by show WB.heap.size<=WB+1;omega) _⟩
         have pC:=Y AK;clear Lv kN UO aH F0 F5 qA AK Ym Yn;go_wp2_with fail;go_roundw
         case rel=>exact ⟨j+1,_,_,_,U,by go_num,pC⟩
         case measure=>exact μ
     .have Z2:j=k:=U;have hd:decide ((j:Int)<(k:Int))=false:=θ;have dV:decide (j<k)=false:=θ;have HJK:=Y Z2;clear Z2;obtain ⟨sl,p7⟩:∃n,seen.length=n:=⟨_,rfl⟩;have SJ:=HR.mn;rw[p7]at SJ;have Z3:=Y SJ;have DN:=Y p7;have qA:=HR.ri;rw[HJK.o]at qA;have OS:=Y qA;have nN:=pY.t (HR.bl.mono Yl);have dc:=Y nN;have Xi:=OS.o;rw[<-HN.1]at Xi;have ac5:=Y Xi;clear SJ p7 qA Xi nN FZ;by_cases he:sl=kn
      .have hde:((sl:Int) == (kn:Int))=true:=ψ;have DO:=Y he;clear he;go_wp2_with (at_len;refine eC rfl _ 120 rfl 121 3 Tryz.underlying120 WB sl F rfl Z3.o ?_);refine au λWf bG=>?_;subst bG;refine bodyPost_ret (v:=.slice (Z (WB+1) 0) k k) (by simp[results,Tryz.results56,go_sem];try rfl) rfl ?_
       have dV:=HH.done HV.o tT.o Yk.o (by rw[HN.1];exact h1) ac5.o (by rw[DN.o,DO.o])
       rw[HN.1]at dV;exact ⟨_,ds,rfl,HR.own.mono U,dc.o,OS.len,dV,λs=>OS.ZO U s⟩
      .have hde:((sl:Int) == (kn:Int))=false:=ψ;obtain ⟨ml,gG,Yr⟩:=HH.next HV.o Yk.o (by rw[HN.1];exact h1) (by rw[HN.1];exact h2) ac5.o (by rw[DN.o];exact he)
       rw[DN.o]at ml gG Yr;rw[HN.1]at Yr;have J0:=Y ml;clear ml he;go_wp2_with (at_len;refine eC rfl _ 120 rfl 121 3 Tryz.underlying120 WB sl F rfl Z3.o ?_)
       go_roundg (k+2-sl)
       case measure=>omega
       case rel=>exact ⟨WB.heap.size+1,sl,ds,rfl,rfl,U,U,HR.own.mono U,J0.o,dc.o⟩
end
theorem CQ:∀{q:List Ed} {f e:Ed},lh (q++[f])->¬(f.hi+1=e.lo/\f.to=e.to)->lh (q++[f]++[e])
 | [],_,_,_,h=>⟨h,trivial⟩
 | [a],f,e,h,h2=>⟨h.1,h2,trivial⟩
 |a::b::q,f,e,h,h2=>⟨h.1,CQ (q:=b::q) h.2 h2⟩
theorem yI:∀{q:List Ed} {f g:Ed},lh (q++[f])->g.lo=f.lo->g.to=f.to->lh (q++[g])
 | [],_,_,_,_,_=>trivial
 | [a],f,g,h,h1,h2=>⟨by rw[h1,h2];exact h.1,trivial⟩
 |a::b::q,f,g,h,h1,h2=>⟨h.1,yI (q:=b::q) h.2 h1 h2⟩
theorem yJ:∀{q:List Ed} {f g:Ed} {b:Nat},bK b (q++[f])->g.lo=f.lo->g.lo<=g.hi->bK b (q++[g])
 | [],_,_,_,h,h1,h2=>⟨by rw[h1];exact h.1,h2,trivial⟩
 |a::q,f,g,b,h,h1,h2=>⟨h.1,h.2.1,yJ (q:=q) h.2.2 h1 h2⟩
theorem CR:∀{q:List Ed} {f:Ed} {b:Nat},bK b (q++[f])->b<=f.lo/\f.lo<=f.hi/\(∀g∈q,g.hi<f.lo)
 | [],_,_,h=>⟨h.1,h.2.1,λg hg=>by cases hg⟩
 |a::q,f,b,h=>by
  obtain ⟨h1,h2,h3⟩:=CR (q:=q) h.2.2;have h4:=h.1;have h5:=h.2.1;refine ⟨U,h2,λg hg=>?_⟩;rcases List.mem_cons.1 hg with rfl|hg
  .omega
  .exact h3 g hg
structure mX (T:Nat->Option Nat) (b:Nat) (p:List Ed):Prop where
 kE:bK 0 p
 mx:lh p
 hi:∀e∈p,e.hi<b
 ok:∀x,bA p x=if x<b then T x else none
section
variable {T:Nat->Option Nat} {b k:Nat} {p q:List Ed}
theorem mX.start(T:Nat->Option Nat):mX T 0 []:=⟨trivial,trivial,λe he=>(by cases he),λx=>by rw[if_neg (Nat.not_lt_zero _)];rfl⟩
theorem mX.none_(h:mX T b p)(ht:T b=none):mX T (b+1) p:=⟨h.kE,h.mx,λe he=>by have:=h.hi e he;omega,λx=>by
 rw[h.ok x];by_cases hx:x<b
 .rw[if_pos hx,if_pos U]
 .rw[if_neg hx];by_cases h2:x<b+1
  .rw[if_pos h2,show x=b by omega,ht]
  .rw[if_neg h2]⟩
theorem mX.app(h:mX T b p)(ht:T b=some k)(hl:∀q f,p=q++[f]->¬(f.hi+1=b/\f.to=k)):mX T (b+1) (p++[⟨b,b,k⟩]):=by
 refine ⟨sq h.kE (λf hf=>h.hi f hf) (Nat.zero_le _) V,?_,λe he=>?_,λx=>?_⟩
 .rcases List.eq_nil_or_concat p with rfl|⟨q,f,rfl⟩
  .trivial
  .rw[List.concat_eq_append]at h hl|-;exact CQ h.mx (hl q f rfl)
 .rcases List.mem_append.1 he with he|he
  .have:=h.hi e he;omega
  .rw[List.mem_singleton]at he;subst he;exact Nat.lt_succ_self _
 .rw[oG (λf hf=>h.hi f hf),h.ok x];show (if b<=x/\x<=b then some k else _)=_;by_cases hx:x=b
  .subst hx;rw[if_pos ⟨V,V⟩,if_pos U,ht]
  .rw[if_neg U];by_cases h2:x<b
   .rw[if_pos h2,if_pos U]
   .rw[if_neg h2,if_neg U]
theorem mX.ext{f:Ed}(h:mX T b (q++[f]))(hb:f.hi+1=b)(ht:T b=some f.to):mX T (b+1) (q++[⟨f.lo,b,f.to⟩]):=by
 obtain ⟨h1,h2,h3⟩:=CR h.kE;refine ⟨yJ h.kE rfl (by show f.lo<=b;omega),yI h.mx rfl rfl,λe he=>?_,λx=>?_⟩
 .rcases List.mem_append.1 he with he|he
  .have:=h.hi e (List.mem_append_left _ he);omega
  .rw[List.mem_singleton]at he;subst he;exact Nat.lt_succ_self _
 .have h4:=h.ok x;rw[oG (e:=f) (λg hg=>h3 g hg)]at h4;rw[oG (e:=⟨f.lo,b,f.to⟩) (λg hg=>h3 g hg)];show (if f.lo<=x/\x<=b then some f.to else _)=_;by_cases hx:x=b
  .subst hx;rw[if_pos U,if_pos U,ht]
  .by_cases h5:f.lo<=x/\x<=f.hi
   .rw[if_pos h5]at h4;rw[if_pos U,h4,if_pos U,if_pos U]
   .rw[if_neg h5]at h4;rw[if_neg U,h4];by_cases h6:x<b
    .rw[if_pos h6,if_pos U]
    .rw[if_neg h6,if_neg U]
theorem mX.len(h:mX T b p):p.length<=b:=by
 have key:∀(p:List Ed) (a:Nat),bK a p->(∀e∈p,e.hi<b)->p=[]\/a+p.length<=b:=by
  intro p
  induction p with
  |nil=>intro a _ _;exact .inl rfl
  |cons e r ih=>
   intro a hs hh;have h1:=hs.1;have h2:=hs.2.1;have h3:=hh e List.mem_cons_self;rcases ih (e.hi+1) hs.2.2 (λf hf=>hh f (List.mem_cons_of_mem _ hf)) with h4|h4
   .right;rw[h4];simp;omega
   .right;simp;omega
 rcases key p 0 h.kE h.hi with h1|h1
 .rw[h1];exact Nat.zero_le _
 .omega
theorem mX.done{row:List Ed}{c:Nat->Option Nat}(h:mX (λx=>(bA row x).bind c) 256 p)(hs:bK 0 row)(hb:∀e∈row,e.lo<256/\e.hi<256):p=cD c row:=by
 obtain ⟨j1,j2,j3⟩:=gM (cls:=c) row 0 hs;refine zO p (cD c row) 0 h.kE j1 h.mx j2 λx=>?_;rw[h.ok x,j3 x];by_cases hx:x<256
 .rw[if_pos hx]
 .rw[if_neg hx]
  cases ht:bA row x with
  |none=>rfl
  |some t=>
   obtain ⟨e,he,h1,h2,-⟩:=gI ht;have:=hb e he;omega
end
theorem CT:∀{l l':List Ed} {m:Nat},l.map (·.to)=l'.map (·.to)->mZ m l->mZ m l'/\lp m l=lp m l'
 | [],[],_,_,_=>⟨trivial,rfl⟩
 | [],_::_,_,h,_=>by cases h
 |_::_,[],_,h,_=>by cases h
 |e::l,f::l',m,h,hm=>by
  rw[List.map_cons,List.map_cons]at h;injection h with h1 h2;obtain ⟨q1,q2⟩:=CT (m:=max m e.to) h2 hm.2;rw[h1]at q1 q2;exact ⟨⟨by have:=hm.1;rw[<-h1];exact this,q1⟩,by
   show lp (max m e.to) l=lp (max m f.to) l';rw[<-q2,h1]⟩
section
variable {m:Mc} {c:Nat->Option Nat} {st:List Nat} {i t:Nat} {rs:List (List Ed)} {p q:List Ed}
theorem su.ext{f:Ed}(h:su m c st i rs (q++[f]) t)(x:Nat):su m c st i rs (q++[⟨f.lo,x,f.to⟩]) t:=by
 obtain ⟨h1,h2⟩:=CT (l:=bO (aZ c st) (q++[f])) (l':=bO (aZ c st) (q++[⟨f.lo,x,f.to⟩])) (m:=t) (by simp[bO]) h.pm
 refine { h with ptg:=λe he=>?_,pm:=h1,top:=by rw[<-h2];exact h.top }
 rcases List.mem_append.1 he with he|he
 .exact h.ptg e (List.mem_append_left _ he)
 .rw[List.mem_singleton]at he;subst he;exact h.ptg f (List.mem_append_right _ List.mem_cons_self)
theorem N6{a b:Nat}(ha:some a∈st.map c)(hb:some b∈st.map c)(h:aZ c st a=aZ c st b):a=b:=by
 unfold aZ at h;have h1:=List.idxOf_lt_length_of_mem ha;have h2:=List.idxOf_lt_length_of_mem hb;have e1:=List.getElem_idxOf h1;have e2:=List.getElem_idxOf h2;have e3:(st.map c)[List.idxOf (some a) (st.map c)]=(st.map c)[List.idxOf (some b) (st.map c)]:=by congr 1
 rw[e1,e2]at e3;injection e3
end
def Kx(c:Nat->Option Nat)(st:List Nat)(n:Nat):List (Option Nat):=(List.range n).map λk=>if some k∈st.map c then some (aZ c st k) else none
theorem rG(c:Nat->Option Nat)(st:List Nat)(n:Nat):(Kx c st n).length=n:=by simp[Kx]
theorem N7{c:Nat->Option Nat}{st:List Nat}{n k:Nat}(h:k<n):cY (Kx c st n) k=if some k∈st.map c then some (aZ c st k) else none:=by
 unfold cY Kx;rw[List.getElem?_map,List.getElem?_range h];rfl
theorem G2{c:Nat->Option Nat}{st:List Nat}{n k s:Nat}(hk:k<n)(hc:c s=some k)(hn:¬some k∈st.map c):Kx c (st++[s]) n=(Kx c st n).set k (some st.length):=by
 apply List.ext_getElem?;intro j;rw[List.getElem?_set];by_cases hj:j<n
 .unfold Kx;rw[List.getElem?_map,List.getElem?_range hj];simp only[Option.map_some];by_cases e:k=j
  .subst e;rw[if_pos rfl,if_pos (show some k∈(st++[s]).map c by simp[hc]),vN hn hc,if_pos (by simpa using hk)]
  .rw[if_neg e,List.getElem?_map,List.getElem?_range hj];simp only[Option.map_some];by_cases h1:some j∈st.map c
   .rw[if_pos h1,if_pos (by rw[List.map_append];exact List.mem_append_left _ h1),oY s h1]
   .rw[if_neg h1,if_neg (by
     rw[List.map_append,List.mem_append];rintro (h2|h2)
     .exact h1 h2
     .simp[hc]at h2;exact e h2.symm)]
 .rw[List.getElem?_eq_none (by rw[rG];omega),if_neg U,List.getElem?_eq_none (by rw[rG];omega)]
structure j6 (m:Mc) (c:Nat->Option Nat) (B N gn n i:Nat) (lv:Value) (rs:List (List Ed)) (aN:List Bool) (vE vA:Value) (gv:List Value) (p q:List Ed) (t:Nat) (st:List Nat) (dP:Value) (w:World):Prop where
 ma:jt B N (gn::(aq dP++aq lv)) vE vA gv rs aN w
 nu:OR 3 1 qv B (.slice (Z gn 0) n n) (Kx c st n) w
 own:w.ownsRow B 3 1 dP st.length (b9 st)
 ap:dP.ownBlock≠some gn
 row:OR 74 3 gm B lv (bO (aZ c st) q) w
 le:su m c st i rs p t
 ac:aN=(st.take i).map λs=>(m.ac[s]?).getD false
section
variable {m:Mc} {c:Nat->Option Nat} {B N gn n i:Nat} {lv lv':Value} {rs:List (List Ed)} {aN:List Bool} {vE vA:Value} {gv:List Value} {p p' q q':List Ed} {t:Nat} {st:List Nat} {dP lZ:Value} {w w' w1 w2 w3:World}
theorem j6.tQ(h:j6 m c B N gn n i lv rs aN vE vA gv p q t st dP w):B<=gn/\gn<w:=World.ownsRow.lt h.nu gn rfl
theorem j6.later(h:j6 m c B N gn n i lv rs aN vE vA gv p q t st dP w)(hb:Below w w w'):j6 m c B N gn n i lv rs aN vE vA gv p q t st dP w':=
 ⟨h.ma.later hb,h.nu.later hb,aR h.own hb,h.ap,h.row.later hb,h.le,h.ac⟩
theorem j6.to(h:j6 m c B N gn n i lv rs aN vE vA gv p q t st dP w)(hp:su m c st i rs p' t):j6 m c B N gn n i lv rs aN vE vA gv p' q t st dP w:={ h with le:=hp }
theorem j6.iG(h:j6 m c B N gn n i lv rs aN vE vA gv [] q t st dP w):j6 m c B N gn n i () rs aN vE vA gv [] [] t st dP w:=
 ⟨h.ma.sub (λk hk=>by
  rcases List.mem_cons.1 hk with rfl|hk
  .simp
  .rcases List.mem_append.1 hk with hk|hk
   .simp[hk]
   .cases hk),h.nu,h.own,h.ap,OR.iG _ _ _,h.le,h.ac⟩
theorem j6.N8(h:j6 m c B N gn n i lv rs aN vE vA gv p q t st dP w):lv.ownBlock≠some gn/\(∀g,lv.ownBlock=some g->dP.ownBlock≠some g):=
 ⟨λhv=>l5 (show w.ownsRow _ _ _ _ _ _ from h.row) (show w.ownsRow _ _ _ _ _ _ from h.nu) O gn hv rfl,λg hg=>l5 (show w.ownsRow _ _ _ _ _ _ from h.row) h.own O g hg⟩
theorem j6.T5(h:j6 m c B N gn n i lv rs aN vE vA gv p q t st dP w)(hk:ab (aq lv) (aq lv') w w')(hr:OR 74 3 gm B lv' (bO (aZ c st) q') w'):j6 m c B N gn n i lv' rs aN vE vA gv p q' t st dP w':=by
 obtain ⟨h1,h2⟩:=h.N8;refine ⟨h.ma.keep ⟨hk.os,hk.tape,hk.output,hk.size,λk bQ hn=>hk.aq k bQ (λe=>hn (by simp[e])),λk bQ=>?_⟩,OR.keep h.nu λg hg=>hk.aq g (World.ownsRow.lt h.nu g hg).2 (λe=>h1 (by have e2:=af.1 e;rw[e2];exact hg.symm)),ar h.own λg hg=>hk.aq g (h.own.lt g hg).2 (λe=>h2 g (af.1 e) hg),h.ap,hr,h.le,h.ac⟩
 rcases List.mem_cons.1 bQ with rfl|bQ
 .exact .inl H
 .rcases List.mem_append.1 bQ with bQ|bQ
  .exact .inl (by simp[bQ])
  .exact (hk.new k bQ).imp (λe=>by simp[e]) id
theorem j6.XF(h:j6 m c B N gn n i lv rs aN vE vA gv p q t st dP w){e:Ed}(hb:Below w w w1)(hr:OR 74 3 gm B lv' (bO (aZ c st) (q++[e])) w2)(hg:w1.grownBy w2 lv.ownBlock)(hf:aT lv' lv w1):j6 m c B N gn n i lv' rs aN vE vA gv p (q++[e]) t st dP w2:=by
 have hz:=hb.size;have cT:=hg.size;refine h.T5 ⟨hg.os.t hb.os,hg.tape.t hb.tape,hg.output.t hb.output,U,λk hk hn=>(hg.block k U (λe=>hn (af.2 e.symm))).t (hb.block k hk),λk hk=>?_⟩ hr;exact (eZ hf (af.1 hk)).imp af.2 (λh=>U)
theorem j6.Eo{gl cc nq nl:Nat}{f:Ed}(x:Nat)(h:j6 m c B N gn n i (.slice (Z gl 0) nl cc) rs aN vE vA gv p (q++[f]) t st dP w)(hq:q.length=nq)(hl:nq+1=nl):j6 m c B N gn n i (.slice (Z gl 0) nl cc) rs aN vE vA gv p (q++[⟨f.lo,x,f.to⟩]) t st dP (w.setCell (Z gl (nq*3+1)) (.int .u8 (x:Int))):=by
 subst hq;refine h.T5 ⟨rfl,rfl,rfl,by simp[World.setCell],λk _ hn=>Below.heap_setCell _ _ _ _ (λe=>hn (af.2 (by rw[show k=gl from e];rfl))),λk hk=>.inl hk⟩ ?_
 have hl:(bO (aZ c st) (q++[f])).length=nl:=by rw[ez,List.length_append];exact hl
 have h2:OR 74 3 gm B (.slice (Z gl 0) (bO (aZ c st) (q++[f])).length cc) (bO (aZ c st) (q++[f])) w:=by rw[hl];exact h.row
 have hq:q.length<(bO (aZ c st) (q++[f])).length:=by rw[ez];simp
 have Es:(bO (aZ c st) (q++[f]))[q.length]=⟨f.lo,f.hi,aZ c st f.to⟩:=by
  simp[bO]
 have h3:=h2.setAt tc q.length 1 hq O ⟨f.lo,x,aZ c st f.to⟩ (.int .u8 (x:Int)) (by rw[Es];rfl)
 rw[hl]at h3;have h4:(bO (aZ c st) (q++[f])).set q.length ⟨f.lo,x,aZ c st f.to⟩=bO (aZ c st) (q++[⟨f.lo,x,f.to⟩]):=by
  rw[gh,gh,List.set_append_right _ _ (by rw[ez];exact V),ez,Nat.sub_self]
  rfl
 rw[h4]at h3;exact h3
theorem j6.Oa{A:Option Addr}{nl cc nq:Nat}{f:Ed}(h:j6 m c B N gn n i (.slice A nl cc) rs aN vE vA gv p (q++[f]) t st dP w)(hq:q.length=nq):
  ∃gl,A=some ⟨gl,0,none⟩/\(w.cell? (Z gl (nq*3+1))=some (.int .u8 (f.hi:Int))/\w.cell? (Z gl (nq*3+2))=some (.int .i64 ((aZ c st f.to:Nat):Int)))/\w.frozen? (Z gl (nq*3+1))=false/\gl<w.heap.size/\B<=gl:=by
 subst hq;have hq:q.length<(bO (aZ c st) (q++[f])).length:=by rw[ez];simp
 have Es:(bO (aZ c st) (q++[f]))[q.length]=⟨f.lo,f.hi,aZ c st f.to⟩:=by simp[bO]
 obtain ⟨A',c',e,-,dt⟩:=h.row.cells tc;obtain ⟨g',hA,hB,hg,nZ⟩:=dt.resolve_left (by intro e2;rw[e2]at hq;cases hq)
 injection e with e1 _ _;obtain ⟨h1,f1⟩:=nZ q.length hq 1 O;obtain ⟨h2,f2⟩:=nZ q.length hq 2 O;rw[Es]at h1 h2;exact ⟨g',by rw[e1,hA],⟨h1,h2⟩,f1,hg,hB⟩
theorem j6.meet{k s:Nat}(h:j6 m c B N gn n i lv rs aN vE vA gv p q t st dP w)(hk:k<n)(hc:c s=some k)(ew:¬some k∈st.map c)(hq:∀e∈q,some e.to∈st.map c)
  (aS:Below w (w.setCell (Z gn k) (.int .i64 (st.length:Int))) w2) (iF:w2.grownBy w3 dP.ownBlock) (Kl:w3.ownsRow B 3 1 lZ (st.length+1) (b9 st++[.int .i64 (s:Int)])) (yr:aT lZ dP w2)
  {p':List Ed} (hle:su m c (st++[s]) i rs p' t) (dE:i<=st.length):j6 m c B N gn n i lv rs aN vE vA gv p' q t (st++[s]) lZ w3:=by
 obtain ⟨n1,n2⟩:=h.N8;obtain ⟨g1,g2⟩:=h.tQ;have qB:(w.setCell (Z gn k) (.int .i64 (st.length:Int))).heap.size=w.heap.size:=by simp[World.setCell]
 have aH:∀j,j≠gn->(w.setCell (Z gn k) (.int .i64 (st.length:Int))).heap[j]?=w.heap[j]?:=λj hj=>Below.heap_setCell _ _ _ _ hj;have z2:=aS.size;have z3:=iF.size;rw[qB]at z2;have jr:ab (gn::(aq dP++aq lv)) (gn::(aq lZ++aq lv)) w w3:=by
  refine ⟨iF.os.t aS.os,iF.tape.t aS.tape,iF.output.t aS.output,U,λj hj hn=>?_,λj hj=>?_⟩
  .exact (iF.block j U (λe=>hn (by simp[af,e.symm]))).t ((aS.block j hj).t (aH j (λe=>hn (by simp[e]))))
  .rcases List.mem_cons.1 hj with rfl|hj
   .exact .inl H
   .rcases List.mem_append.1 hj with hj|hj
    .exact (eZ yr (af.1 hj)).imp (λh=>by simp[af,h]) (λh=>U)
    .exact .inl (by simp[hj])
 refine ⟨h.ma.keep jr,?_,by rw[jP,List.length_append];exact Kl,λhv=>?_,?_,hle,by rw[List.take_append_of_le_length dE];exact h.ac⟩
 .have h5:=h.nu.xg (by rw[rG]) k (some st.length)
  rw[<-G2 hk hc ew]at h5;exact OR.keep (OR.keep h5 λg hg=>aS.block g (by have e:gn=g:=Option.some.inj hg;omega)) λg hg=>by
   have e:gn=g:=Option.some.inj hg;exact iF.block g U (λe2=>h.ap (by rw[<-e2,e]))
 .rcases eZ yr hv with h1|h1
  .exact h.ap h1
  .omega
 .rw[ra s hq];refine OR.keep h.row λg hg=>(iF.block g (by have:=(World.ownsRow.lt h.row g hg).2;omega) (λe=>n2 g hg e.symm)).t ((aS.block g (World.ownsRow.lt h.row g hg).2).t (aH g (λe=>n1 (by rw[hg,e]))))
theorem j6.zI{oB qb:Value}{s:Nat}{a:Bool}(h:j6 m c B N gn n i lv rs aN vE vA gv p p t st dP w)(hk:ab (ki N vE vA) [] w w')
  (hN:w'.heap[N]?=some (.cells #[oB,qb] 35)) (hE:w'.ownsRow B 59 1 oB (rs.length+1) (gv++[lv])) (hA:OR 4 1 bC B qb (aN++[a]) w') (fE:aT oB vE w) (fA:aT qb vA w)
  (hit:i<=t) (hs:st[i]?=some s) (hp:p=cD c (aU m s)) (ha:a=(m.ac[s]?).getD false) :
  j6 m c B N gn n (i+1) () (rs++[bO (aZ c st) p]) (aN++[a]) oB qb (gv++[lv]) [] [] (lp t (bO (aZ c st) p)) st dP w':=by
 obtain ⟨n1,n2⟩:=h.N8;obtain ⟨g1,g2⟩:=h.tQ;have py:aO (ki N vE vA) lv:=λg hg hm=>h.ma.out g hm (by simp[af,hg])
 have hx:aO (gn::(aq dP++aq ())) lv:=λg hg hm=>by
  rcases List.mem_cons.1 hm with rfl|hm
  .exact n1 hg
  .rcases List.mem_append.1 hm with hm|hm
   .exact n2 g hg (af.1 hm)
   .cases hm
 have hl:∀g,lv.ownBlock=some g->B<=g/\g<w.heap.size:=λg hg=>World.ownsRow.lt h.row g hg;have qK:=h.ma.sub (fx':=gn::(aq dP++aq ())) (λk hk=>by
  rcases List.mem_cons.1 hk with rfl|hk
  .simp
  .rcases List.mem_append.1 hk with hk|hk
   .simp[hk]
   .cases hk)
 have kN:gn∉ki N vE vA:=λhm=>qK.out gn hm H;have hvm:∀k∈aq dP,k∉ki N vE vA:=λk hk hm=>qK.out k hm (by simp[hk])
 obtain ⟨q1,q2⟩:=qK.put (rs':=rs++[bO (aZ c st) p]) (λk hk=>by
  rcases List.mem_cons.1 hk with rfl|hk
  .exact g2
  .rcases List.mem_append.1 hk with hk|hk
   .exact (h.own.lt k (af.1 hk)).2
   .cases hk) hk hN (by rw[List.length_append];exact hE) hA fE fA (qK.zJ (eQ.eu h.row) py hx hl)
 refine ⟨q1,OR.keep h.nu λg hg=>by have e:gn=g:=Option.some.inj hg;exact hk.aq g U (by rw[<-e];exact kN),ar h.own λg hg=>hk.aq g (h.own.lt g hg).2 (hvm g (af.2 hg)),h.ap,OR.iG _ _ _,h.le.row hit hs hp,?_⟩
 rw[h.ac,ha,List.take_add_one,hs,List.map_append];rfl
end
structure Smx (m:Mc) (al:List Bool) (ds:List Nat) (m':Mc) (c:Nat->Option Nat):Prop where
 ac:m'.ac=m.ac
 len:m'.ed.length=m.ed.length
 c0:c 0=some (cF ds 0)
 stp:∀s,s<m.ed.length->c s≠none->∀b,b<256->match (bA (aU m' s) b).bind c with|none=>iC m al s b=-1|some k=>∃t,iC m al s b=((t:Nat):Int)/\t<m.ed.length/\c t=some k/\cF ds t=k
 row:∀s,bK 0 (aU m' s)/\(∀e∈aU m' s,e.lo<256/\e.hi<256)/\(aU m' s).length<=10000
 kl:∀s k,c s=some k->k<m.ed.length
 alt:(aW m 0/\m'=m/\sT m c)\/(¬aW m 0/\(∀s,aU m' s=[])/\∀s,c s≠none->s=0)
theorem XG{m:Mc}{al:List Bool}{ds:List Nat}(hv:jB m)(eg:iE m)(h1:1<=m.ed.length)(ha:nH m al)(hc:∀s t,s<m.ed.length->t<m.ed.length->(cF ds s=cF ds t↔oJ m s t))(hl:∀s,cF ds s<m.ed.length):∃m' c,Smx m al ds m' c:=by
 classical
 have fW:∀s,(bK 0 (aU m s))/\(∀e∈aU m s,e.lo<256/\e.hi<256)/\(aU m s).length<=10000:=λs=>by
  refine ⟨(hv.row s).1,?_⟩;unfold aU
  cases hs:m.ed[s]? with
  |none=>exact ⟨λe he=>(by cases he),H⟩
  |some r=>exact ⟨λe he=>eg.qM r (List.mem_of_getElem? hs) e he,eg.rl r (List.mem_of_getElem? hs)⟩
 by_cases h0:aW m 0
 .refine ⟨m,λs=>if aW m s then some (cF ds s) else none,rfl,rfl,if_pos h0,λs hs bH b hb=>?_,fW,λs k hk=>?_,.inl ⟨h0,rfl,⟨λs hs=>?_,λs t hs ht ls lt=>?_⟩⟩⟩
  .cases ht:bA (aU m s) b with
   |none=>exact vW ht
   |some t=>
    have Dj:=hv.a6 ht;rw[Option.bind_some];by_cases aB:aW m t
    .simp only[if_pos aB];exact ⟨t,by rw[oL hv ha ht,if_pos ((ha.2 t Dj).2 aB)],Dj,if_pos aB,rfl⟩
    .simp only[if_neg aB];rw[oL hv ha ht,if_neg (λh=>aB ((ha.2 t Dj).1 h))]
  .have hk:(if _ then _ else _)=some k:=hk;split at hk
   .injection hk with hk;rw[<-hk];exact hl s
   .cases hk
  .by_cases hx:aW m s
   .simp[hx]
   .simp[hx]
  .simp only[if_pos ls,if_pos lt];rw[Option.some.injEq];exact hc s t hs ht
 .refine ⟨⟨m.ed.map λ_=>[],m.ac⟩,λs=>if s=0 then some (cF ds 0) else none,rfl,H,rfl,λs hs bH b hb=>?_,λs=>?_,λs k hk=>?_,.inr ⟨h0,λs=>?_,λs hs=>?_⟩⟩
  .have Nz:s=0:=by
    by_cases e:s=0
    .exact e
    .simp[e]at bH
   subst Nz;have hr:aU ⟨m.ed.map λ_=>[],m.ac⟩ 0=[]:=by
    unfold aU; simp only[List.getElem?_map]; cases m.ed[0]? <;> rfl
   rw[hr];show iC m al 0 b=-1
   cases ht:bA (aU m 0) b with
   |none=>exact vW ht
   |some t=>
    have Dj:=hv.a6 ht;rw[oL hv ha ht,if_neg];intro h;obtain ⟨w,hw⟩:=(ha.2 t Dj).1 h;exact h0 ⟨b::w,by rw[cJ,ht];exact hw⟩
  .have hr:aU ⟨m.ed.map λ_=>[],m.ac⟩ s=[]:=by
    unfold aU; simp only[List.getElem?_map]; cases m.ed[s]? <;> rfl
   rw[hr];exact ⟨trivial,λe he=>(by cases he),H⟩
  .have hk:(if _ then _ else _)=some k:=hk;split at hk
   .injection hk with hk;rw[<-hk];exact hl 0
   .cases hk
  .unfold aU; simp only[List.getElem?_map]; cases m.ed[s]? <;> rfl
  .by_cases e:s=0
   .exact e
   .simp[e]at hs
theorem Ob{m m':Mc}{al:List Bool}{ds:List Nat}{c:Nat->Option Nat}{st:List Nat}{rs:List (List Ed)}{t:Nat}(hv:jB m)(eg:iE m)(h1:1<=m.ed.length)(hx:Smx m al ds m' c)(h:su m' c st st.length rs [] t):BN m ⟨rs,st.map λs=>(m'.ac[s]?).getD false⟩:=by
 rcases hx.alt with ⟨h0,rfl,xd⟩|⟨h0,hr,hs⟩
 .obtain ⟨d1,d2,d3⟩:=h.done hv xd;have V8:(⟨rs,st.map λs=>(m'.ac[s]?).getD false⟩:Mc)=cQ m' c (aZ c st) st:=by rw[d1];rfl
  refine ⟨.inl ⟨h0,by rw[V8];exact d2,by rw[V8];exact d3⟩,?_,?_⟩
  .show rs.length<=_;rw[d1];unfold cQ;simp;exact h.nodup
  .rw[V8];have Fa:∀r∈(cQ m' c (aZ c st) st).ed,∃s∈st,r=bO (aZ c st) (cD c (aU m' s)):=λr hr=>by
    unfold cQ at hr;obtain ⟨s,h1,h2⟩:=List.mem_map.1 hr;exact ⟨s,h1,h2.symm⟩
   refine ⟨λr h2 e he=>?_,λr h2=>?_,?_⟩
   .obtain ⟨s,h3,rfl⟩:=Fa r h2;unfold bO at he;obtain ⟨f,h4,rfl⟩:=List.mem_map.1 he;have:=qL (cls:=c) (hx.row s).1 (hx.row s).2.1 f h4;exact ⟨this.1,this.2.1⟩
   .obtain ⟨s,h3,rfl⟩:=Fa r h2;rw[ez];exact Nat.le_trans (oT _ _) (hx.row s).2.2
   .unfold cQ;simp;have:=h.nodup;have:=eg.n;have:=hv.len;omega
 .have fw:st=[0]:=by
   have hn:=mO h.nd;have hz:=h.zero
   match st,hn,hz,h.lv with
   | [],_,hz,_=>cases hz
   | [a],_,hz,_=>simp at hz;rw[hz]
   |a::b::r,hn,hz,yO=>
    have e1:=hs a (yO a H).2;have e2:=hs b (yO b H).2;rw[e1,e2]at hn;simp at hn
  subst fw;have lU:rs=[[]]:=by
   rw[h.rows];simp only[List.length_singleton,List.take_succ_cons,List.take_zero,List.map_cons,List.map_nil,hr]
   rfl
  have sF:(m'.ac[0]?).getD false=false:=by
   rw[hx.ac]
   cases e:(m.ac[0]?).getD false with
   |false=>rfl
   |true=>exact absurd ⟨[],e⟩ h0
  rw[lU];simp only[List.map_cons,List.map_nil,sF];exact ⟨.inr ⟨h0,rfl⟩,by simpa using h1,⟨λr hr e he=>(by simp at hr;subst hr;cases he),λr hr=>(by simp at hr;subst hr;simp),H⟩⟩
def wv(k n:Nat):List (Option Nat):=List.replicate k none++List.replicate (n-k) (some 0)
theorem JB(n:Nat):wv 0 n=List.replicate n (some 0):=by simp[wv]
theorem rH{k n:Nat}(h:k<=n):(wv k n).length=n:=by simp[wv];omega
theorem Oc{k n:Nat}(h:k<n):(wv k n).set k none=wv (k+1) n:=by
 unfold wv;rw[List.set_append_right _ _ H,List.length_replicate,Nat.sub_self];obtain ⟨j,hj⟩:∃j,n-k=j+1:=⟨n-k - 1,U⟩;rw[hj,List.replicate_succ,List.set_cons_zero,show n - (k+1)=j by omega,List.replicate_succ',List.append_assoc]
 rfl
theorem Od(c:Nat->Option Nat)(n:Nat):wv n n=Kx c [] n:=by
 unfold wv Kx;rw[Nat.sub_self,List.replicate_zero,List.append_nil,eq_comm,List.eq_replicate_iff];refine ⟨H,λx hx=>?_⟩;obtain ⟨s,-,rfl⟩:=List.mem_map.1 hx;simp
theorem JC{c:Nat->Option Nat}{n k:Nat}(hk:k<n)(hc:c 0=some k):(Kx c [] n).set k (some 0)=Kx c [0] n:=by
 have:=G2 (st:=[]) hk hc H;simpa using this.symm
section
variable {m:Mc} {c:Nat->Option Nat} {B N gn n i:Nat} {lv lv':Value} {rs:List (List Ed)} {aN:List Bool} {vE vA:Value} {gv:List Value} {p pp q:List Ed} {t:Nat} {st:List Nat} {dP:Value} {w w' w9:World}
theorem j6.Oe{b kc nu nl:Nat}{v9:Value}{ro:List Value}{X:Obj}(h:j6 m c B N gn n i lv rs aN vE vA gv pp p t st dP w)(mr:p.length=nl)(XH:aZ c st kc=nu)(xG:a8 gm (bO (aZ c st) p)=ro)
  (ao:w9.ownsRow B 74 3 v9 (nl+1) (ro++[.int .u8 (b:Int),.int .u8 (b:Int),.int .i64 (nu:Int)])) (hg:(w.alloc X).grownBy w9 lv.ownBlock) (hf:aT v9 lv (w.alloc X).heap.size) :
  j6 m c B N gn n i v9 rs aN vE vA gv pp (p++[⟨b,b,kc⟩]) t st dP w9/\Below B w w9:=by
 have hb:Below w w (w.alloc X):=D.alloc V _;obtain ⟨g1,g2⟩:=h.tQ;refine ⟨h.XF hb ?_ hg hf,(hb.mono U).grown hg ψ λg hg=>(World.ownsRow.lt h.row g hg).1⟩;show w9.ownsRow _ _ _ _ (bO (aZ c st) (p++[⟨b,b,kc⟩])).length (a8 gm (bO (aZ c st) (p++[⟨b,b,kc⟩])));rw[ez,List.length_append,mr,gh,bV,bF,xG];show w9.ownsRow _ _ _ _ (nl+1) (ro++[.int .u8 (b:Int),.int .u8 (b:Int),.int .i64 ((aZ c st kc:Nat):Int)]);rw[XH];exact ao
theorem j6.akJ{gl cc nq nl b:Nat}{f:Ed}(h:j6 m c B N gn n i (.slice (Z gl 0) nl cc) rs aN vE vA gv (q++[f]) (q++[f]) t st dP w)(hq:q.length=nq)(hl:nq+1=nl)(jm:B<=gl):
  j6 m c B N gn n i (.slice (Z gl 0) nl cc) rs aN vE vA gv (q++[⟨f.lo,b,f.to⟩]) (q++[⟨f.lo,b,f.to⟩]) t st dP (w.setCell (Z gl (nq*3+1)) (.int .u8 (b:Int)))/\Below B w (w.setCell (Z gl (nq*3+1)) (.int .u8 (b:Int))):=by
 exact ⟨(h.Eo b hq hl).to (h.le.ext b),D.sc gl (nq*3+1) jm _⟩
theorem j6.Of{b nu nl:Nat}{A:Option Addr}{cc:Nat}(h:j6 m c B N gn n i (.slice A nl cc) rs aN vE vA gv pp p t st dP w)(mr:p.length=nl)(X:Obj):
  (w.alloc X).ownsRow B 74 3 (.slice A nl cc) nl (a8 gm (bO (aZ c st) p)):=by
 have h1:w.ownsRow B 74 3 (.slice A nl cc) (bO (aZ c st) p).length (a8 gm (bO (aZ c st) p)):=h.row;rw[ez,mr]at h1;exact World.ownsRow.alloc h1 _
theorem j6.num{k nu:Nat}(h:j6 m c B N gn n i lv rs aN vE vA gv pp p t st dP w)(hk:k<n)(hm:some k∈st.map c)(XH:aZ c st k=nu):w.cell? (Z gn k)=some (.int .i64 (nu:Int)):=by
 obtain ⟨z0,-⟩:=h.nu.gY k (by rw[rG];exact hk)
 rw[N7 hk,if_pos hm,XH]at z0;exact z0
theorem j6.T6{k s ns b:Nat}{lZ:Value}{w2 w3:World}(h:j6 m c B N gn n i lv rs aN vE vA gv p p t st dP w)(qV:st.length=ns)(hk:k<n)(hs:s<m.ed.length)(hc:c s=some k)(ew:¬some k∈st.map c)
  (aS:Below w (w.setCell (Z gn k) (.int .i64 (ns:Int))) w2) (iF:w2.grownBy w3 dP.ownBlock) (Kl:w3.ownsRow B 3 1 lZ (ns+1) (b9 st++[.int .i64 (s:Int)])) (yr:aT lZ dP w2) :
  j6 m c B N gn n i lv rs aN vE vA gv (p++[⟨b,b,k⟩]) p t (st++[s]) lZ w3/\aZ c (st++[s]) k=ns/\Below B w w3:=by
 subst qV;obtain ⟨q1,q2⟩:=h.le.new ⟨b,b,k⟩ s ew hs hc;obtain ⟨g1,g2⟩:=h.tQ;refine ⟨h.meet hk hc ew (λe he=>h.le.ptg e he) aS iF Kl yr q1 h.le.il,q2,?_⟩;have hz:(w.setCell (Z gn k) (.int .i64 (st.length:Int))).heap.size=w.heap.size:=by simp[World.setCell]
 have h2:=aS.size;exact (((Below.refl B w).sc gn k g1 (.int .i64 (st.length:Int))).t (aS.mono U)).grown iF U (λg hg=>(h.own.lt g hg).1)
theorem R6{c:Nat->Option Nat}{st:List Nat}{a b s:Nat}(ha:some a∈st.map c)(hb:¬some b∈st.map c):aZ c (st++[s]) a<st.length:=by
 rw[oY s ha];exact GA ha
theorem Aw{f:Ed}{b k:Nat}(h:¬(f.hi+1=b/\f.to=k)):∀q' f',q++[f]=q'++[f']->¬(f'.hi+1=b/\f'.to=k):=λq' f' e=>by
 obtain ⟨-,e2⟩:=List.append_inj' e rfl;injection e2 with e2;rw[<-e2];exact h
theorem Og{b k:Nat}:∀q' f',([]:List Ed)=q'++[f']->¬(f'.hi+1=b/\f'.to=k):=λq' f' e=>by simp at e
end
end Go.Proofs.YthamegenljmgmaaGreatDoor
