/- Walks. -/
import Derived.Test.YthamegenljmgmaaGreatDoorY28
import Derived.Test.YthamegenljmgmaaGreatDoorY21
import Derived.Deep.CutRange
set_option maxRecDepth 100000
set_option maxHeartbeats 16000000
set_option linter.unusedVariables false
set_option linter.unusedSimpArgs false
namespace Go.Proofs.YthamegenljmgmaaGreatDoor
open Go.RowKit
def Xn(b:Pb)(x:cI)(w:World)(e:Ending)(w':World):Prop:=Below w w w'/\
 ((∃g1:List (List Nat),2000<g1.length/\(g1.Nodup/\g1[0]?=some []/\(∀g∈g1,g.Pairwise (·<·))/\∀j,0<j->j<g1.length->(g1[j]?).getD []≠[]/\∃w,∀p,p∈(g1[j]?).getD []↔qc b x w p)/\e=.returned (.tuple #[dK,.bool false]))\/
  ∃gs rows aN mv,uc b x gs rows aN gs.length/\gs.length<=2000/\e=.returned (.tuple #[mv,.bool true])/\jb w' mv ⟨rows,aN⟩)
theorem RL(w:World)(o0 o1 o2 o3 o4 o5 o6:Obj)(W:World)(hW:W=((((((w.alloc o0).alloc o1).alloc o2).alloc o3).alloc o4).alloc o5).alloc o6):
  W.heap[w.heap.size]?=some o0/\W.heap[w.heap.size+1]?=some o1/\W.heap[w.heap.size+1+1]?=some o2/\W.heap[w.heap.size+1+1+1]?=some o3/\W.heap[w.heap.size+1+1+1+1]?=some o4/\W.heap[w.heap.size+1+1+1+1+1]?=some o5/\W.heap[w.heap.size+1+1+1+1+1+1]?=some o6/\W.heap.size=w+7/\Below w w W:=by
 obtain ⟨W1,e1⟩:∃awN,w.alloc o0=awN:=⟨_,rfl⟩;have z1:W1.heap.size=w+1:=by rw[<-e1];simp
 have n0:W1.heap[w.heap.size]?=some o0:=by rw[<-e1,show w.heap.size=w by omega];exact heap_alloc_new _ _
 have t1:Below w w W1:=by rw[<-e1];exact D.alloc U _
 obtain ⟨W2,e2⟩:∃awN,W1.alloc o1=awN:=⟨_,rfl⟩;have z2:W2.heap.size=w+2:=by rw[<-e2];simp;omega
 have n1:W2.heap[w.heap.size+1]?=some o1:=by rw[<-e2,show w.heap.size+1=W1 by omega];exact heap_alloc_new _ _
 have t2:Below w w W2:=by rw[<-e2];exact t1.alloc U _
 obtain ⟨W3,e3⟩:∃awN,W2.alloc o2=awN:=⟨_,rfl⟩;have z3:W3.heap.size=w+3:=by rw[<-e3];simp;omega
 have n2:W3.heap[w.heap.size+1+1]?=some o2:=by rw[<-e3,show w.heap.size+1+1=W2 by omega];exact heap_alloc_new _ _
 have t3:Below w w W3:=by rw[<-e3];exact t2.alloc U _
 obtain ⟨W4,e4⟩:∃awN,W3.alloc o3=awN:=⟨_,rfl⟩;have z4:W4.heap.size=w+4:=by rw[<-e4];simp;omega
 have n3:W4.heap[w.heap.size+1+1+1]?=some o3:=by rw[<-e4,show w.heap.size+1+1+1=W3 by omega];exact heap_alloc_new _ _
 have t4:Below w w W4:=by rw[<-e4];exact t3.alloc U _
 obtain ⟨W5,e5⟩:∃awN,W4.alloc o4=awN:=⟨_,rfl⟩;have z5:W5.heap.size=w+5:=by rw[<-e5];simp;omega
 have n4:W5.heap[w.heap.size+1+1+1+1]?=some o4:=by rw[<-e5,show w.heap.size+1+1+1+1=W4 by omega];exact heap_alloc_new _ _
 have t5:Below w w W5:=by rw[<-e5];exact t4.alloc U _
 obtain ⟨W6,e6⟩:∃awN,W5.alloc o5=awN:=⟨_,rfl⟩;have z6:W6.heap.size=w+6:=by rw[<-e6];simp;omega
 have n5:W6.heap[w.heap.size+1+1+1+1+1]?=some o5:=by rw[<-e6,show w.heap.size+1+1+1+1+1=W5 by omega];exact heap_alloc_new _ _
 have t6:Below w w W6:=by rw[<-e6];exact t5.alloc U _
 obtain ⟨W7,e7⟩:∃awN,W6.alloc o6=awN:=⟨_,rfl⟩;have z7:W7.heap.size=w+7:=by rw[<-e7];simp;omega
 have n6:W7.heap[w.heap.size+1+1+1+1+1+1]?=some o6:=by rw[<-e7,show w.heap.size+1+1+1+1+1+1=W6 by omega];exact heap_alloc_new _ _
 have t7:Below w w W7:=by rw[<-e7];exact t6.alloc U _
 obtain rfl:W=W7:=by rw[hW,e1,e2,e3,e4,e5,e6,e7]
 have st:∀(awN V':World) (o:Obj),awN.alloc o=V'->∀q,q<awN.heap.size->V'.heap[q]?=awN.heap[q]?:=λawN V' o e q hq=>by rw[<-e];exact az _ _ _ hq
 exact ⟨(st _ _ _ e7 _ U).t ((st _ _ _ e6 _ U).t ((st _ _ _ e5 _ U).t ((st _ _ _ e4 _ U).t ((st _ _ _ e3 _ U).t ((st _ _ _ e2 _ U).t (n0)))))),(st _ _ _ e7 _ U).t ((st _ _ _ e6 _ U).t ((st _ _ _ e5 _ U).t ((st _ _ _ e4 _ U).t ((st _ _ _ e3 _ U).t (n1))))),(st _ _ _ e7 _ U).t ((st _ _ _ e6 _ U).t ((st _ _ _ e5 _ U).t ((st _ _ _ e4 _ U).t (n2)))),(st _ _ _ e7 _ U).t ((st _ _ _ e6 _ U).t ((st _ _ _ e5 _ U).t (n3))),(st _ _ _ e7 _ U).t ((st _ _ _ e6 _ U).t (n4)),(st _ _ _ e7 _ U).t (n5),n6,z7,t7⟩
theorem oD.start{B N:Nat}{ef:Bool}{W:World}(h2:W.heap[N+1+1]?=some (.map #[] 0))(h3:W.heap[N+1+1+1]?=some (.cells #[()] 22))(h4:W.heap[N+1+1+1+1]?=some (.cells #[()] 59))(h5:W.heap[N+1+1+1+1+1]?=some (.cells #[.bool ef] 4))
  (h6:W.heap[N+1+1+1+1+1+1]?=some (.cells #[.slice (Z (N+1+1+1+1) 0) 1 1,.slice (Z (N+1+1+1+1+1) 0) 1 1] 35)) (hB:B<=N) (w:World) (hm:W.heap[N+1+1]?=(w.alloc (.map #[] 0)).heap[w.heap.size]?) :
  oD 9 B (N+1+1) (N+1+1+1+1+1+1) (.slice (Z (N+1+1+1) 0) 1 1) (.slice (Z (N+1+1+1+1) 0) 1 1) (.slice (Z (N+1+1+1+1+1) 0) 1 1) [.slice none 0 0] [.slice none 0 0] [[]] [[]] [ef] 0 (λ_=>none) W:=by
 have aC:∀(g:Nat) (e:TypeId) (v:Value),B<=g->W.heap[g]?=some (.cells #[v] e (0,0))->W.ownsRow B e 1 (.slice (Z g 0) 1 1) 1 [v]:=λg e v hg hh=>⟨rfl,.inr ⟨g,1,#[v],rfl,hg,hh,V,O,rfl,rfl⟩⟩;have hMN:=MN.made Tryz.prog 9 w;obtain ⟨awP,⟨es,c,q1,q2⟩,q3⟩:=hMN;refine ⟨⟨awP,⟨es,c,hm.t q1,q2⟩,q3⟩,⟨?_,aC _ _ _ U h3,λi hi=>?_⟩,⟨?_,aC _ _ _ U h4,λi hi=>?_⟩,aC _ _ _ U h5,h6,U,U⟩
 .simp[gZ,aq,Value.ownBlock]
 .match i,hi with
  |0,_=>exact ⟨_,rfl,OR.iG _ _ _⟩
 .simp[gZ,aq,Value.ownBlock]
 .match i,hi with
  |0,_=>exact ⟨_,rfl,OR.iG _ _ _⟩
theorem Fc{w:World}{ty:TypeId}{v y:Value}{l r:List Nat}{B:Nat}(ao:OR 3 1 dM B v l w)(hy:JL w y r)(hl:l.length+r.length<=10000000000000)(hB:B<=w):
  ∃v' w',(Builtin.append_ #[22,22] ty #[v,y]).run Tryz.prog w=.ok v' w'/\OR 3 1 dM B v' (l++r) w'/\w.grownBy w' v.ownBlock/\(v'.ownBlock=v.ownBlock\/∃g,v'.ownBlock=some g/\w.heap.size<=g):=by
 obtain ⟨i,hi,hz,h1,h2⟩:=info_parts dF;obtain ⟨A,c,rfl,hc,dt⟩:=hy;have xC:∀u∈a8 dM r,u.oneCell'=true:=by
  rw[fj];intro u hu;obtain ⟨n,-,rfl⟩:=List.mem_map.1 hu
  rfl
 have key:∀ad:Addr,A=some ad->(∀j u,(a8 dM r)[j]?=some u->w.cell? (ad.add j)=some u)->∃v' w',(Builtin.append_ #[22,22] ty #[v,.slice A r.length c]).run Tryz.prog w=.ok v' w'/\OR 3 1 dM B v' (l++r) w'/\w.grownBy w' v.ownBlock/\(v'.ownBlock=v.ownBlock\/∃g,v'.ownBlock=some g/\w.heap.size<=g):=by
  rintro ad rfl ak;have jh:(a8 dM r).length=r.length*1:=by rw[fj];simp
  obtain ⟨v',w',hr,q2,q3,q4⟩:=run_append_own (P:=Tryz.prog) w B 22 ty 3 i (.int .i64 0) 1 8 Tryz.underlying22 hi hz h1 h2 rfl O v l.length _ ao ad r.length c _ jh ak xC (by unfold maxLen;omega) U hB
  have hf:=rV (P:=Tryz.prog) Tryz.underlying22 hi hz h1 h2 ao jh ak xC (by unfold maxLen;omega) U hr
  refine ⟨v',w',hr,?_,q3,hf⟩;show w'.ownsRow _ _ _ _ (l++r).length (a8 dM (l++r));rw[bV,List.length_append];exact q2
 rcases dt with ⟨rfl,hA⟩|⟨g,f,rfl,hg,ak⟩
 .cases A with
  |none=>
   rw[hA rfl];have hr:=run_append_owned_none (P:=Tryz.prog) (w:=w) B 22 ty 3 i 1 Tryz.underlying22 hi v l.length _ ao;exact ⟨v,w,hr,by rw[List.append_nil];exact ao,dQ _ _,.inl rfl⟩
  |some ad=>exact key ad rfl (λj u h=>by simp[a8]at h)
 .refine key _ rfl (λj u hj=>?_);rw[fj]at hj;obtain ⟨hU,rfl⟩:=List.getElem?_eq_some_iff.1 hj;rw[Addr.add_lit,ak j (by simpa using hU)]
  simp
theorem xF{w:World}{ops:Array Oper}{rest:List Oper}{o:Oper}{a:Act}{Q:Exit->Act->World->Prop}(s x:Operand)(v y:Value)(l r:List Nat)(B:Nat)(tE:o.guard=none)
  (ho:o.op=.call { callee:=.builtin .append,args:=#[s,x],argTypes:=#[22,22] }) (hs:a.eval s=v) (hx:a.eval x=y) (ao:OR 3 1 dM B v l w) (hy:JL w y r) (hl:l.length+r.length<=10000000000000) (hB:B<=w)
  (h:∀v' w1,OR 3 1 dM B v' (l++r) w1->w.grownBy w1 v.ownBlock->(v'.ownBlock=v.ownBlock\/∃g,v'.ownBlock=some g/\w.heap.size<=g)->wpList Tryz.prog ops Q rest (a.put o.dst v') w1):wpList Tryz.prog ops Q (o::rest) a w:=by
 refine wpList_plain tE λK hK=>?_;obtain ⟨v',w',hr,h2,h3,h4⟩:=Fc (ty:=o.type) ao hy hl hB;unfold Oper.wp execOp;simp only[ho,resolve,invoke,builtin,Sem.run_bind,Sem.run_pure,Result.andThen_ok,List.map_toArray,List.map_cons,List.map_nil,hs,hx,hr];exact hK _ _ (h v' w' h2 h3 h4)
theorem v8{l:List Nat}{n:Nat}(h:l.Pairwise (·<·))(hb:∀p∈l,p<n):l.length<=n:=by
 have:=gH (h.imp λh=>Nat.ne_of_lt h) (r:=List.range n) λp hp=>List.mem_range.2 (hb p hp);simpa using this
theorem wa{b:Pb}{K:Nat}(hK:∀l∈b.fol,l.length<=K):∀l:List Nat,(l.flatMap (cN b)).length<=l.length*K
 | []=>H
 |a::r=>by
  have h1:=wa hK r;have h2:(cN b a).length<=K:=by
   unfold cN
   cases hf:b.fol[a]? with
   |none=>simp
   |some l=>exact hK l (List.mem_of_getElem? hf)
  rw[List.flatMap_cons,List.length_append,List.length_cons,Nat.succ_mul];omega
theorem NG{b:Pb}{x:cI}{gs:List (List Nat)}{i:Nat}(hK:∀l∈b.fol,l.length<=10000000000)(h1:x.first.length<=600)(hg:∀g∈gs,g.length<=600):(fJ b x gs i).length<=10000000000000:=by
 unfold fJ;split
 .omega
 .have h2:=wa hK ((gs[i]?).getD []);have h3:((gs[i]?).getD []).length<=600:=by
   cases h:gs[i]? with
   |none=>simp
   |some g=>exact hg g (List.mem_of_getElem? h)
  have h4:=Nat.mul_le_mul_right 10000000000 h3;omega
theorem NH(b:Pb):(dO b).length<=257:=by
 have h1:(List.filter (λc=>decide (c∈oO b b.sets.length)) (List.range 256)).length<=(List.range 256).length:=List.length_filter_le _ _;unfold dO;rw[List.length_append];simp at h1|-;omega
theorem RM(l:List Nat)(k:Nat)(h:k<l.length):l[k]=fm l k:=by
 unfold fm;rw[List.getElem?_eq_getElem h];rfl
def Ah(s gL ng cL gF nF cF gU fU lu cu lr cr i k q B0 no co:Nat)(Ar Ao:Option Addr)(lo rr:List Nat):Nat->Nat->Value->World->Prop
 |c,0,x,w=>x=.slice Ao no co
 |c,1,x,w=>x=.pointer (Z s 0)
 |c,2,x,w=>x=.pointer (Z s 0)
 |c,3,x,w=>x=.pointer (Z s 1)
 |c,4,x,w=>x=.slice (Z gF 0) nF cF
 |c,5,x,w=>x=.slice (Z gL 0) ng cL
 |c,6,x,w=>x=.int .i64 (i:Int)
 |c,7,x,w=>x=.pointer (Z gL i)
 |c,8,x,w=>x=.slice (Z gU fU) lu cu
 |c,9,x,w=>x=.int .i64 (k:Int)
 |c,10,x,w=>x=.pointer (Z gU (fU+k))
 |c,11,x,w=>x=.int .i64 (q:Int)
 |c,12,x,w=>x=.pointer (Z gF q)
 |c,13,x,w=>x=.slice Ar lr cr
 |c,14,x,w=>c=1->OR 3 1 dM B0 x (lo++rr) w
 |_,_,_,_=>True
def StE(u:Value)(W:World)(c:Nat)(w':World):Prop:=ab (aq u) [] W w'/\(c=0->Below W W w')
theorem NI:(Tryz.prog.info? 59).map (λi=>(i.zero,i.size,i.bytes))=some (some (.slice none 0 0),1,24):=R
def jz(M B0 ne ce na ca:Nat)(Ae Aa:Option Addr)(yE:Bool)(bk:List Value)(aN:List Bool)(W:World):Nat->Nat->Value->World->Prop
 |c,0,x,w=>x=.pointer (Z M 0)
 |c,1,x,w=>x=.slice Ae ne ce
 |c,2,x,w=>∃g,x=.slice (Z g 0) 1 1/\W.heap.size<=g/\g<w.heap.size/\w.cell? (Z g 0)=some (.slice none 0 0)
 |c,3,x,w=>1<=c->∃A c',x=.slice A (ne+1) c'/\w.ownsRow B0 59 1 x (ne+1) (bk++[.slice none 0 0])/\aT x (.slice Ae ne ce) W
 |c,4,x,w=>x=.pointer (Z M 1)
 |c,5,x,w=>x=.slice Aa na ca
 |c,6,x,w=>x=.bool yE
 |c,7,x,w=>∃g,x=.slice (Z g 0) 1 1/\W.heap.size<=g/\g<w.heap.size/\w.cell? (Z g 0)=some (.bool yE)
 |c,8,x,w=>2<=c->∃A c',x=.slice A (na+1) c'/\w.ownsRow B0 4 1 x (na+1) (a8 bC aN++[.bool yE])/\aT x (.slice Aa na ca) W
 |c,9,x,w=>x=.pointer (Z M 0)
 |c,10,x,w=>3<=c->∃A c',w.ownsRow B0 59 1 (.slice A (ne+1) c') (ne+1) (bk++[.slice none 0 0])/\aT (.slice A (ne+1) c') (.slice Ae ne ce) W.heap.size/\w.heap[M]?=some (.cells #[.slice A (ne+1) c',.slice Aa na ca] 35)
 |c,11,x,w=>x=.pointer (Z M 1)
 |_,_,_,_=>True
section
variable {M B0 ne ce na ca:Nat} {Ae Aa:Option Addr} {yE:Bool} {bk:List Value} {aN:List Bool} {W u u':World}
theorem wb(hb:Below u u u'){c j:Nat}{x:Value}(h:jz M B0 ne ce na ca Ae Aa yE bk aN W c j x u):jz M B0 ne ce na ca Ae Aa yE bk aN W c j x u':=by
 match j with
 |0|1|4|5|6|9|11=>exact h
 |2|7=>
  obtain ⟨g,e,h1,hg,h0⟩:=h;exact ⟨g,e,h1,Nat.lt_of_lt_of_le hg hb.size,(hb.cl g 0 hg).t h0⟩
 |3|8=>
  intro hc;obtain ⟨A,c',e,ho,hf⟩:=h hc;exact ⟨A,c',e,aR ho hb,hf⟩
 |10=>
  intro hc;obtain ⟨A,c',ho,hf,hr⟩:=h hc;exact ⟨A,c',aR ho hb,hf,(hb.block _ (γ hr).1).t hr⟩
 |_+12=>exact trivial
theorem Fe(hg:u.grownBy u' (Value.slice Ae ne ce).ownBlock)(hv:∀g,(Value.slice Ae ne ce).ownBlock=some g->g<W.heap.size)(j:Nat)(x:Value)(hj:j≠3)(h:jz M B0 ne ce na ca Ae Aa yE bk aN W 0 j x u):jz M B0 ne ce na ca Ae Aa yE bk aN W 1 j x u':=by
 match j with
 |0|1|4|5|6|9|11=>exact h
 |2|7=>exact xy hg hv h
 |3=>exact absurd rfl hj
 |8|10=>exact λhc=>U
 |_+12=>exact trivial
theorem Ff(hg:u.grownBy u' (Value.slice Aa na ca).ownBlock)(hv:∀g,(Value.slice Aa na ca).ownBlock=some g->g<W.heap.size)(hd:∀g,(Value.slice Aa na ca).ownBlock=some g->(Value.slice Ae ne ce).ownBlock≠some g)(j:Nat)(x:Value)(hj:j≠8)(h:jz M B0 ne ce na ca Ae Aa yE bk aN W 1 j x u):jz M B0 ne ce na ca Ae Aa yE bk aN W 2 j x u':=by
 match j with
 |0|1|4|5|6|9|11=>exact h
 |2|7=>exact xy hg hv h
 |3=>
  intro _;obtain ⟨A,c',e,ho,hf⟩:=h O;refine ⟨A,c',e,ar ho λg bJ=>hg.block g (ho.lt g bJ).2 (λe2=>?_),hf⟩;rcases hf with hf|⟨g',hf,h2⟩
  .rw[hf]at bJ;exact hd g e2.symm bJ
  .rw[hf]at bJ;injection bJ with bJ;have:=hv g e2.symm;omega
 |8=>exact absurd rfl hj
 |10=>exact λhc=>U
 |_+12=>exact trivial
theorem Fg(hs:M<W)(Q5:(Value.slice Ae ne ce).ownBlock≠some M)(Q6:(Value.slice Aa na ca).ownBlock≠some M)(v:Value)(j:Nat)(x:Value)(hj:j≠10)(h:jz M B0 ne ce na ca Ae Aa yE bk aN W 2 j x u):jz M B0 ne ce na ca Ae Aa yE bk aN W 3 j x (u.setCell (Z M 0) v):=by
 have aH:∀k,k≠M->(u.setCell (Z M 0) v).heap[k]?=u.heap[k]?:=λk hk=>Below.heap_setCell _ _ _ _ hk
 match j with
 |0|1|4|5|6|9|11=>exact h
 |2|7=>
  obtain ⟨g,e,h1,h2,h3⟩:=h;exact ⟨g,e,h1,by simpa [World.setCell] using h2,(χ g 0 (aH g U)).t h3⟩
 |3=>
  intro _;obtain ⟨A,c',e,ho,hf⟩:=h O;refine ⟨A,c',e,ar ho λg bJ=>aH g (λe2=>?_),hf⟩;subst e2;rcases hf with hf|⟨g',hf,h2⟩
  .rw[hf]at bJ;exact Q5 bJ
  .rw[hf]at bJ;injection bJ with bJ;omega
 |8=>
  intro _;obtain ⟨A,c',e,ho,hf⟩:=h O;refine ⟨A,c',e,ar ho λg bJ=>aH g (λe2=>?_),hf⟩;subst e2;rcases hf with hf|⟨g',hf,h2⟩
  .rw[hf]at bJ;exact Q6 bJ
  .rw[hf]at bJ;injection bJ with bJ;omega
 |10=>exact absurd rfl hj
 |_+12=>exact trivial
end
def RN(M B0 gE nE cE gC fC nc cc i k cv hv tt lr cr:Nat)(Ar:Option Addr)(row:List Ed)(W:World):Nat->Nat->Value->World->Prop
 |c,0,x,w=>x=.pointer (Z M 0)
 |c,1,x,w=>x=.slice (Z gE 0) nE cE
 |c,2,x,w=>x=.int .i64 (i:Int)
 |c,3,x,w=>x=.pointer (Z M 0)
 |c,4,x,w=>x=.slice (Z gE 0) nE cE
 |c,5,x,w=>x=.int .i64 (i:Int)
 |c,6,x,w=>x=.pointer (Z gE i)
 |c,7,x,w=>x=.slice Ar lr cr
 |c,8,x,w=>x=.slice (Z gC fC) nc cc
 |c,9,x,w=>x=.int .i64 (k:Int)
 |c,10,x,w=>x=.pointer (Z gC (fC+k))
 |c,11,x,w=>x=.int .i64 (cv:Int)
 |c,12,x,w=>x=.int .u8 (cv:Int)
 |c,13,x,w=>x=.slice (Z gC fC) nc cc
 |c,14,x,w=>x=.int .i64 (k:Int)
 |c,15,x,w=>x=.int .i64 ((k:Int)+1)
 |c,16,x,w=>x=.pointer (Z gC (fC+(k+1)))
 |c,17,x,w=>x=.int .i64 ((hv:Int)+1)
 |c,18,x,w=>x=.int .i64 (hv:Int)
 |c,19,x,w=>x=.int .u8 (hv:Int)
 |c,20,x,w=>x=.agg #[.int .u8 (cv:Int),.int .u8 (hv:Int)]
 |c,21,x,w=>x=.int .i64 (tt:Int)
 |c,22,x,w=>x=.agg #[.int .u8 (cv:Int),.int .u8 (hv:Int),(tt:Int)]
 |c,23,x,w=>c=0->∃g,x=.slice (Z g 0) 1 1/\g<w.heap.size/\∀j,j<3->w.cell? (Z g j)=([.int .u8 (cv:Int),.int .u8 (hv:Int),.int .i64 (tt:Int)]:List Value)[j]?
 |c,24,x,w=>c=1->∃A c',x=.slice A (lr+1) c'/\OR 74 3 gm B0 (.slice A (lr+1) c') (row++[⟨cv,hv,tt⟩]) w/\aT (.slice A (lr+1) c') (.slice Ar lr cr) W
 |c,25,x,w=>x=.pointer (Z gE i)
 |_,_,_,_=>True
theorem Fh{s gL ng cL gF nF cF gU fU lu cu lr cr i k q B0 no co:Nat}{Ar Ao:Option Addr}{lo rr:List Nat}{u u':World}{j:Nat}{x:Value}(hj:j≠14)(h:Ah s gL ng cL gF nF cF gU fU lu cu lr cr i k q B0 no co Ar Ao lo rr 0 j x u):Ah s gL ng cL gF nF cF gU fU lu cu lr cr i k q B0 no co Ar Ao lo rr 1 j x u':=by
 match j with
 |0|1|2|3|4|5|6|7|8|9|10|11|12|13=>exact h
 |14=>exact absurd rfl hj
 |_+15=>exact trivial
theorem CF(w0:World)(s:Nat)(b:Pb)(fp:List Nat)(w:World)(x:cI)(v1 v2:Value)(fY:tO w0 s b fp w)(fk:JO w fp v1 x.first)(gO:JO w fp v2 x.last)(h1:∀p∈x.first,p<b.sets.length)(h2:∀p∈x.last,p<b.sets.length)(DY:∀l∈b.fol,∀p∈l,p<b.sets.length)
  (jh:b.sets.length=b.fol.length) (hn:b.sets.length<=600) (jl:∀rs∈b.sets,∀r∈rs,r.1<256/\r.2<256) (l1:x.first.length<=600) (l2:x.last.length<=600) (hK:∀l∈b.fol,l.length<=10000000000) :
  Calls Tryz.prog 27 #[.pointer (Z s 0),.agg #[.bool x.emp,v1,v2]] w (Xn b x w):=by
 obtain ⟨A1,c1,rfl,kr⟩:=fk.form;obtain ⟨A2,c2,rfl,jD⟩:=gO.form;obtain ⟨vs,vf,rows,sv,rfl,hb⟩:=fY;obtain ⟨As,cS,rfl,E0,Eb⟩:=ae hb.sets;have bH:=hb.cs;have eP:s<w:=(γ bH).1;have s0:w.cell? (Z s 0)=some (.slice As b.sets.length cS):=by rw[Φ bH];rfl
 obtain ⟨n,hN⟩:=ν b.sets.length;obtain ⟨ef,p9⟩:∃e,x.emp=e:=⟨_,rfl⟩;have HN:=Y (I hN (I p9 jh));have Bd:=Y hb;have HX:=Y (I fk gO);have Jq:=Y (I h1 (I h2 (I DY (I jl hK))));rw[hN]at hn s0 E0;have Ze:=Y s0;have qK:=uV n U;have Dw:=@run_makeMap Tryz.prog;rw[p9];clear hb bH hN p9 jh fk gO h1 h2 DY jl hK
 go_enter Tryz.func27,Tryz.ntmps27
 go_upto_region 4 with fail
 refine br λW hW=>?_;obtain ⟨b0,b1,b2,b3,b4,b5,b6,jc,du⟩:=RL w _ _ _ _ _ _ _ W hW;have hG0:=oD.start b2 b3 b4 b5 b6 V w (b2.t (heap_alloc_new w _).symm);have HGW:=Y hG0;obtain ⟨W1,xb⟩:=ν (W.alloc (.cells (Array.replicate n (.bool false)) 4));have aM:Below W W W1:=by rw[<-xb];exact D.alloc V _
 have dh:W1.heap.size=w+8:=by rw[<-xb];simp;omega
 have hA0:wW W1 W W n n (jS x.last n 0) W1:=by
  have h1:=r6 W n U;rw[xb]at h1;rw[uW];exact ⟨h1,ab.refl _ _⟩
 have po:Below w w W1:=du.t (aM.mono du.size);have uk:=HX.2.later po;have DQ:=Y uk;have US:=Y hA0;have P1:=Y po;have U4:=Y (hG0.later aM);have nK:W1.heap[w.heap.size]?=some (.cells #[.bool ef,.slice A1 x.first.length c1,.slice A2 x.last.length c2] 67):=(aM.block _ U).t b0;have adb:W1.heap[w.heap.size+1]?=some (.cells #[(),()] 35):=(aM.block _ U).t b1;have RO:=Y (I nK adb);have cs0:=(du.cl s 0 eP).t Ze.o;have asS:s<W:=U;have ajK:=Y xb;have HZW:=Y (I jc dh);have asT:w.heap.size+7<=W:=U;have aod:W.heap.size+1<=W1:=U;obtain ⟨nl,mr⟩:∃q,x.last.length=q:=⟨_,rfl⟩;obtain ⟨nf,pW⟩:∃q,x.first.length=q:=⟨_,rfl⟩;rw[pW]at l1 kr RO;rw[mr]at l2 jD DQ RO;have mo:=Y (I mr pW);clear hG0 hA0 aM po uk nK adb b0 b1 b2 b3 b4 b5 b6 hW du s0 xb Dw mr pW jc dh;go_wp2_with fail;rw[ajK.o];go_loopw [10] (λiv wr=>∃k:Nat,k<=nl/\iv=.int .i64 (k:Int)/\Hid (wW W1 W W n n (jS x.last n k) wr)) (λiv _=>nl - (intOf iv).toNat)
 case atStart=>exact ⟨0,Nat.zero_le _,rfl,US⟩
 case round=>
  obtain ⟨k,hk,rfl,HA⟩:=hrel;have asU:=HA.kf.size;have iw:=(HA.kf.aq w U ψ).t RO.1;obtain ⟨p0,p1,p2⟩:=aK iw;have lN:w.heap.size<wr:=U;have tX:=Y iw;clear iw;by_cases aB:k<nl
  .have hd:decide ((k:Int)<(nl:Int))=true:=τ;have dV:decide (k<nl)=true:=decide_eq_true aB;have aV:k<x.last.length:=by rw[mo.1];exact aB
   obtain ⟨⟨A,c,ev,-,dt⟩,YI⟩:=DQ.o;injection ev with e1 e2 e3;subst e1;obtain ⟨g,f,rfl,hg,ak⟩:=dt.resolve_left (λh=>by rw[h.1]at aV;simp at aV)
   obtain ⟨q,hq⟩:=ν (x.last[k]);have c0:=ak k aV;rw[hq]at c0;have rU:q<n:=by rw[<-hq,<-HN.1];exact Jq.2.1 _ (List.getElem_mem aV)
   have C6:g<w:=(HX.2.2 g rfl).2;have c0:=(χ g (f+k) (HA.kf.aq g U ψ)).t c0;have lg:g<wr:=U;obtain ⟨y0,y1,y2⟩:=HA.cell (iq x.last k rU);have aH:=HA.set (lK _ _ _) q;rw[<-hq,uX aV,hq]at aH;have RJ:=Y aH;have hpd:decide (q<n)=true:=decide_eq_true rU;have KR:(q:Int)<(n:Int):=U;have ES:(k:Int)<(nl:Int):=U;clear aH ak hq dt YI e2 e3;go_wp2_with fail;go_roundw
   case rel=>exact ⟨k+1,U,by go_num,RJ⟩
   case measure=>exact μ
  .obtain rfl:k=nl:=U;have hd:decide ((k:Int)<(k:Int))=false:=θ;have dV:decide (k<k)=false:=θ;have nN:Below W W1 wr:=HA.kf.below (λq hq=>by rw[List.mem_singleton]at hq;omega) U
   have CH:Below w w wr:=P1.t (nN.mono U);have Ps:wU w0 s b (.slice As b.sets.length cS) vf rows sv wr:=Bd.same (λq hq=>CH.block q (Bd.lt q hq).2) (Bd.cW.t (CH.mono Bd.cW.size));have yh:=Jp w0 s b _ _ _ _ wr Ps (by rw[HN.1];omega)
   rw[HN.1]at yh;have S8:=Y yh;have cs1:=(CH.cl s 0 eP).t Ze.o;have asV:s<wr:=U;have NJ:=Y (I nN CH);clear Ps yh nN CH cs0;go_wp2_with fail;refine S8.mono ?_;rintro e w2 ⟨u,rfl,kk,mH⟩;have HU:=Y (I kk mH);obtain ⟨Ac,cc,rfl,-,-⟩:=ae (show w2.ownsRow _ _ _ _ _ _ from kk);clear kk mH cs1 p0 p1 p2;have hG2:oD 9 w (w+1+1) (w+1+1+1+1+1+1) (.slice (Z (w+1+1+1) 0) 1 1) (.slice (Z (w+1+1+1+1) 0) 1 1) (.slice (Z (w+1+1+1+1+1) 0) 1 1) [.slice none 0 0] [.slice none 0 0] [[]] [[]] [ef] 0 (λ_=>none) w2:=(U4.same λq hq=>HA.kf.aq q (U4.lt q hq).2 (by have:=(HGW.lt q hq).2;simp;omega)).later HU.2
   have hO2:Mj b x [[]] [] [ef] 0:=by rw[<-HN.2.1];exact Mj.start b x
   have HG2:=Y hG2;have Db:=Y hO2;have ade:∀q∈(dX (w+1+1) (w+1+1+1+1+1+1) (.slice (Z (w+1+1+1) 0) 1 1) (.slice (Z (w+1+1+1+1) 0) 1 1) (.slice (Z (w+1+1+1+1+1) 0) 1 1) [.slice none 0 0] [.slice none 0 0]),w.heap.size+1+1<=q/\q<W.heap.size:=λq hq=>⟨by
    have:=(HGW.lt q hq).1;simp[dX,gZ,aq,Value.ownBlock]at hq;omega,(HGW.lt q hq).2⟩
   have Ai:=Y ade;have Q7:wr.heap.size<=w2:=HU.2.size;have hcut:∃gC fC,Ac=some ⟨gC,fC,none⟩/\gC<w2.heap.size/\gC∉(dX (w+1+1) (w+1+1+1+1+1+1) (.slice (Z (w+1+1+1) 0) 1 1) (.slice (Z (w+1+1+1+1) 0) 1 1) (.slice (Z (w+1+1+1+1+1) 0) 1 1) [.slice none 0 0] [.slice none 0 0])/\∀k,k<(dO b).length->w2.cell? (Z gC (fC+k))=some (.int .i64 (fm (dO b) k:Int)):=by
    obtain ⟨iI,j9⟩:=JL.eu HU.1;obtain ⟨A',c',e,-,dt⟩:=iI;injection e with e1 e2 e3;subst e1;obtain ⟨gC,fC,e4,hgC,dj⟩:=dt.resolve_left (λh=>by have:=(List.getElem?_eq_some_iff.1 (yD b)).1;rw[h.1]at this;simp at this)
    refine ⟨gC,fC,e4,hgC,λhm=>?_,λk hk=>by rw[<-RM _ _ hk];exact dj k hk⟩
    have h1:=(Ai _ hm).2;have h2:=(j9 gC (by rw[e4];rfl)).1
    have h3:=HA.kf.size;omega
   obtain ⟨gC,fC,rfl,lgC,ngC,hcC⟩:=hcut;obtain ⟨nc,AG⟩:∃q,(dO b).length=q:=⟨_,rfl⟩;rw[AG]at hcC|-;have ajO:1<=nc:=by have:=(List.getElem?_eq_some_iff.1 (yD b)).1;omega
   have asX:nc<=257:=by have:=NH b;omega
   have xr:=Y hcC;have Qz:=Y AG;have VC:=Y (HA.later HU.2);clear hcC AG;have adf:w2.heap[w.heap.size+1]?=some (.cells #[(),()] 35):=(HU.2.block _ U).t ((HA.kf.aq _ U ψ).t RO.2);have Uf:=(HU.2.block _ lN).t tX.o;have adg:=HA.later HU.2;have FW:=Y (I adf (I Uf adg));have RP:=Y (NJ.2.t (HU.2.mono (by have:=NJ.2.size;omega)))
   clear hG2 hO2 ade adf Uf adg U4 HGW;go_wp2_with fail;go_loopw [7,12] (λlvv iv wq=>∃(i:Nat) (lv ev av:Value) (cd bk:List Value) (gs:List (List Nat)) (rws:List (List Ed)) (aN:List Bool) (nm:Nat) (F:Lit->Option Value),i<=gs.length/\gs.length<=2000/\iv=.int .i64 (i:Int)/\lvv=lv/\Hid (oD 9 w (w+1+1) (w+1+1+1+1+1+1) lv ev av cd bk gs (rws++List.replicate (gs.length-i) []) aN nm F wq)/\Hid (ab (dX (w+1+1) (w+1+1+1+1+1+1) (.slice (Z (w+1+1+1) 0) 1 1) (.slice (Z (w+1+1+1+1) 0) 1 1) (.slice (Z (w+1+1+1+1+1) 0) 1 1) [.slice none 0 0] [.slice none 0 0]) (dX (w+1+1) (w+1+1+1+1+1+1) lv ev av cd bk) w2 wq)/\Hid (Mj b x gs rws aN i)/\Hid (QG gs F/\nm<=gs.length)) (λ_ iv _=>2001 - (intOf iv).toNat)
   case atStart=>
    exact ⟨0,_,_,_,_,_,[[]],[],[ef],0,λ_=>none,Nat.zero_le _,O,rfl,rfl,HG2.o,ab.refl _ _,Db.o,QG.start,Nat.zero_le _⟩
   case round=>
    obtain ⟨i,lv,ev,av,cd,bk,gs,rws,aN,nm,F,hi,jm,rfl,rfl,HG,HK,HO,S0⟩:=hrel;obtain ⟨Al,cl,rfl,-,-⟩:=ae HG.li.out;by_cases qa:i<gs.length
    .have hdo:decide ((i:Int)<(gs.length:Int))=true:=τ;have asY:decide (i<gs.length)=true:=decide_eq_true qa;have Wo:=HK.size;have Py:=(HK.aq w U (λhm=>by have:=(Ai _ hm).1;omega)).t FW.2.1
     obtain ⟨p0,p1,p2⟩:=aK Py;have lN2:w.heap.size<wr:=U;have adi:Below w w wr:=RP.t (HK.below (λk hk=>by have:=(Ai k hk).1;omega) U)
     have Xo:=Y adi;have adj:=HG.lt;have Tx:JO wr (dX (w+1+1) (w+1+1+1+1+1+1) (.slice Al gs.length cl) ev av cd bk) (.slice A1 nf c1) x.first:=⟨by have:=HX.1.1.later Xo.o;rwa [mo.2]at this,λg hg=>⟨λhm=>by have:=(adj g hm).1;have:=(HX.1.2 g (by rw[mo.2];exact hg)).2;omega,by have:=(HX.1.2 g (by rw[mo.2];exact hg)).2;omega⟩⟩
     have Wn:=Y Tx;clear Py adi adj Tx;obtain ⟨z,dY⟩:∃z,decide ((0:Int)<(i:Int))=z:=⟨_,rfl⟩;have dh:decide (0<i)=z:=by rw[<-dY];exact decide_eq_decide.2 U
     go_upto_if 62 with (fail)
     go_cut [13] from 53 to 180 (λmv wx=>∃Am lm cm,mv=.slice Am lm cm/\lm=(fJ b x gs i).length/\Hid (Below wr wr wx)/\Hid (JO wx (dX (w+1+1) (w+1+1+1+1+1+1) (.slice Al gs.length cl) ev av cd bk) mv (fJ b x gs i)))
     case first=>
      by_cases J6:i=0
      .obtain rfl:z=false:=by rw[<-dh,J6];rfl
       subst J6;go_wp2_with fail
       go_meet
       case rel=>exact ⟨A1,nf,c1,rfl,by rw[fJ,if_pos rfl,mo.2],D,Wn.o⟩
      .obtain rfl:z=true:=by rw[<-dh];exact τ
       obtain ⟨W5,rfl⟩:∃W:World,W=wr:=⟨_,rfl⟩;obtain ⟨gL,cL,eL,hgL,⟨asZ,as0⟩,hcL,-⟩:=HG.li.form U;obtain ⟨u,kk,cl1⟩:=hcL i qa;obtain ⟨u',Xp,dt⟩:=HG.li.row i qa;rw[kk,Option.some.injEq]at Xp;subst Xp;obtain ⟨Au,cu,rfl,yh,Xq⟩:=(JL.eu dt).1;injection eL with e1 e2 e3;subst e1 e3;obtain ⟨G,hGi⟩:=ν (gs[i]);rw[hGi]at cl1 yh Xq;obtain ⟨lu,hlu⟩:∃q,G.length=q:=⟨_,rfl⟩;rw[hlu]at cl1 yh;have Zu:fJ b x gs i=G.flatMap (cN b):=by rw[fJ,if_neg J6,List.getElem?_eq_getElem qa,hGi];rfl
       have HME:=Y (I Zu hlu);have HJU:=Y Xq;have hGm:G∈gs:=by rw[<-hGi];exact List.getElem_mem qa
       have HGP:=Y (λp hp=>HO.cm.gl G hGm p hp);have HGM:=Y hGm;have Mw:(i:Int)<(gs.length:Int):=U;have ajT:Hid (OR 3 1 dM W5 () ((G.take 0).flatMap (cN b)) W5):=by rw[List.take_zero];exact OR.iG _ _ _
       have aok:gs.length<=9223372036854775807:=U;clear hcL kk dt Xq Zu hGm hGi hlu e2;go_wp2_with fail;go_loopw [13,14] (λmv kv wr=>∃(k:Nat) (mm:Value),k<=lu/\kv=.int .i64 (k:Int)/\mv=mm/\Hid (OR 3 1 dM W5 mm ((G.take k).flatMap (cN b)) wr)/\Hid (Below W5 W5 wr)) (λ_ kv _=>lu - (intOf kv).toNat)
       case atStart=>exact ⟨0,_,Nat.zero_le _,rfl,rfl,ajT,D⟩
       case round=>
        obtain ⟨k,mm,hk,rfl,rfl,YR,js⟩:=hrel;have c19:=(js.cl gL i hgL).t cl1;have lgL:gL<wr:=by have:=js.size;omega
        by_cases aV:k<lu
        .have hd7:decide ((k:Int)<(lu:Int))=true:=τ;have hd8:decide (k<lu)=true:=decide_eq_true aV;have hkG:k<G.length:=by rw[HME.2];exact aV
         obtain ⟨gU,fU,rfl,hgU,hcU⟩:=HJU.resolve_left (λh=>by rw[h.1]at hkG;simp at hkG)
         obtain ⟨q,hq⟩:=ν (G[k]);have Ke:=hcU k hkG;rw[hq]at Ke;have rU:q<b.sets.length:=by rw[<-hq];exact HGP _ (List.getElem_mem hkG)
         have JX:q<b.fol.length:=by have:=HN.2.2;omega
         have NK:wU w0 s b (.slice As b.sets.length cS) vf rows sv W5:=Bd.same (λq hq=>Xo.block q (Bd.lt q hq).2) (Bd.cW.t (Xo.mono Bd.cW.size));obtain ⟨gF,cF,rfl,hgF,⟨adl,adm⟩,adn,-⟩:=NK.fol.form U;obtain ⟨rv,O5,cf1⟩:=adn q JX;obtain ⟨rv',ado,aC⟩:=NK.fol.row q JX;rw[O5,Option.some.injEq]at ado;subst ado;obtain ⟨rr,Fa⟩:=ν (b.fol[q]);rw[Fa]at aC;have hjr:=(JL.eu aC).1;obtain ⟨Ar,cr,rfl,-,-⟩:=id hjr;obtain ⟨lr,GM⟩:∃q,rr.length=q:=⟨_,rfl⟩;have HLR:=Y GM;have YE:Hid (JL W5 (.slice Ar lr cr) rr):=by rw[GM]at hjr;exact hjr
         rw[GM]at cf1;have cs1:W5.cell? (Z s 1)=some (.slice (Z gF 0) b.fol.length cF):=by rw[Φ NK.cs];rfl
         have hs:s<W5:=(γ NK.cs).1;obtain ⟨Ao,co,rfl,-,-⟩:=ae (show World.ownsRow _ _ _ _ _ _ _ from YR.o);obtain ⟨lo,bX⟩:=ν ((G.take k).flatMap (cN b));have adp:lo.length+rr.length<=10000000000000:=by
          have h1:=wa Jq.2.2.2.2 (G.take k);have h2:(G.take k).length<=600:=by
           have:=v8 (HO.cm.kE G HGM.o) HGP.o;have:=HN.1;rw[List.length_take];omega
          have h3:(G.take k).length*10000000000<=600*10000000000:=Nat.mul_le_mul_right _ h2;have h4:=Jq.2.2.2.2 rr (by rw[<-Fa];exact List.getElem_mem JX)
          rw[bX]at h1;omega
         have Ph:(G.take (k+1)).flatMap (cN b)=lo++rr:=by
          rw[List.take_succ_eq_append_getElem hkG,List.flatMap_append,bX,hq];simp[cN,List.getElem?_eq_getElem JX,Fa]
         rw[bX]at YR|-;have J0:=Y Ph;have ajU:=Y adp;have dN:Fi W5 wr 0 wr.drew:=⟨mi js.o 1,λ_=>D.drew⟩;have ES:(k:Int)<(lu:Int):=U;have KR:(q:Int)<(b.fol.length:Int):=U;clear hcU hq NK adn O5 aC Fa hjr GM bX adp Ph
         go_upto_region 19 with fail
         refine ay 15 [14] (Ah s gL gs.length cl gF b.fol.length cF gU fU lu cu lr cr i k q W5 lo.length co Ar Ao lo rr) (λc w'=>Fi W5 wr c w') R R R R R R O dN ?_ ?_
         .simp only[ck,ct];refine aa.pure O ?_ (aa.pure O ?_ (aa.pure O ?_ (aa.pure O ?_ (aa.pure O ?_ (aa.pure O ?_ (aa.pure O ?_ (aa.pure O ?_ (aa.pure O ?_ (aa.pure O ?_ (aa.pure O ?_ (aa.pure O ?_ (aa.pure O ?_ (aa.pure O ?_ (aa.jg 0 rfl ?_ (aa.nil)))))))))))))))
          all_goals first | (intro v wz c bX hS hE K hK;simp only[ah,Act.put,dk,dm,dn,Nat.zero_add,Nat.reduceAdd,ck,ct]at hK|-) | (intro v wz hS hE K hK;simp only[ah,Act.put,dk,dm,dn,Nat.zero_add,Nat.reduceAdd,ck,ct]at hK|-)
          .exact ζ
          .exact ζ
          .have e1:v 1=_:=hE.1 rfl;rw[e1]at hK|-;exact ζ
          .have e2:v 2=_:=hE.1 rfl;rw[e2]at hK|-;exact ζ
          .have e3:v 3=_:=hE.1 rfl;rw[e3]at hK|-;have cq:=(hS.1.cl s 1 hs).t cs1;have bw:s<wz:=by have:=hS.1.size;omega
           exact ζ
          .exact ζ
          .exact ζ
          .have e5:v 5=_:=hE.1 rfl;have e6:v 6=_:=hE.2.1 rfl;rw[e5,e6]at hK|-;exact ζ
          .have e7:v 7=_:=hE.1 rfl;rw[e7]at hK|-;have cq:=(hS.1.cl gL i hgL).t cl1;have bw:gL<wz:=by have:=hS.1.size;omega
           exact ζ
          .exact ζ
          .have e8:v 8=_:=hE.1 rfl;have e9:v 9=_:=hE.2.1 rfl;rw[e8,e9]at hK|-;exact ζ
          .have eR:v 10=_:=hE.1 rfl;rw[eR]at hK|-;have cq:=(hS.1.cl gU (fU+k) hgU).t Ke;have bw:gU<wz:=by have:=hS.1.size;omega
           exact ζ
          .have e4:v 4=_:=hE.1 rfl;have fZ:v 11=_:=hE.2.1 rfl;rw[e4,fZ]at hK|-;exact ζ
          .have fG:v 12=_:=hE.1 rfl;rw[fG]at hK|-;have cq:=(hS.1.cl gF q hgF).t cf1;have bw:gF<wz:=by have:=hS.1.size;omega
           exact ζ
          .have e0:v 0=_:=hE.1 rfl;have iH:v 13=_:=hE.2.1 rfl;rw[e0,iH]at hK|-;have bw:=hS.2 rfl;have ao:OR 3 1 dM W5 (.slice Ao lo.length co) lo wz:=YR.later bw;have hy:=YE.later hS.1;have Da:W5.heap.size<=wz:=hS.1.size;have nD:=Y hS;clear hS hE bw;go_wp2_with (at_builtin;refine xF _ _ _ _ lo rr W5 rfl rfl rfl rfl ao hy (by have:=ajU.o;omega) Da ?_)
           intro v' w1 ai bg dv;have aM:Below W5 W5 w1:=⟨bg.os.t nD.1.os,bg.tape.t nD.1.tape,bg.output.t nD.1.output,Nat.le_trans nD.1.size bg.size,λq hq=>(bg.block q (Nat.lt_of_lt_of_le hq nD.1.size) λe=>by have:=(World.ownsRow.lt ao q e.symm).1;omega).t (nD.1.block q hq)⟩
           have HF9:=Y (I ai aM);clear ai bg dv aM ao hy Da;go_wp2_with fail;refine hK.out _ _ (λj z hj h=>Fh hj h) ⟨HF9.2,λh=>(by cases h)⟩ (λ_=>HF9.1)
         .intro v wz hS hF;have e0:v 0=_:=hF 0 O;have e1:v 1=_:=hF 1 O;have e2:v 2=_:=hF 2 O;have e3:v 3=_:=hF 3 O;have e4:v 4=_:=hF 4 O;have e5:v 5=_:=hF 5 O;have e6:v 6=_:=hF 6 O;have e7:v 7=_:=hF 7 O;have e8:v 8=_:=hF 8 O;have e9:v 9=_:=hF 9 O;have eR:v 10=_:=hF 10 O;have fZ:v 11=_:=hF 11 O;have fG:v 12=_:=hF 12 O;have iH:v 13=_:=hF 13 O;have FP:=hF 14 O;simp only[ah,Act.put,dk,dm,dn,Nat.zero_add,Nat.reduceAdd,ck,ct,List.drop_succ_cons,List.drop_zero,e0,e1,e2,e3,e4,e5,e6,e7,e8,e9,eR,fZ,fG,iH];clear hF e0 e1 e2 e3 e4 e5 e6 e7 e8 e9 eR fZ fG iH;have ao:=FP rfl;obtain ⟨An,cn,jw,-,-⟩:=ae (show World.ownsRow _ _ _ _ _ _ _ from ao);have hb:=hS.1;rw[jw]at ao|-;have HN5:=Y (I ao hb);clear hS FP ao hb jw dN;go_wp2_with fail;go_roundw
          case rel=>exact ⟨k+1,_,U,by go_num,rfl,by rw[J0.o];exact HN5.1,HN5.2⟩
          case measure=>exact μ
        .have hd7:decide ((k:Int)<(lu:Int))=false:=θ;have hd8:decide (k<lu)=false:=decide_eq_false aV;have Jb:=YR.o;rw[show k=lu by omega,List.take_of_length_le (by rw[HME.2];exact V),<-HME.1]at Jb
         obtain ⟨iI,j9⟩:=JL.eu Jb;obtain ⟨Am,cm,rfl,-,-⟩:=id iI;have TV:JO wr (dX (w+1+1) (w+1+1+1+1+1+1) (.slice (Z gL 0) gs.length cl) ev av cd bk) (.slice Am (fJ b x gs i).length cm) (fJ b x gs i):=⟨iI,λg hg=>⟨λhm=>by have:=(HG.lt g hm).2;have:=(j9 g hg).1;omega,(j9 g hg).2⟩⟩
         have HJO:=Y TV;clear Jb iI j9 TV;go_wp2_with fail
         go_meet
         case rel=>exact ⟨Am,_,cm,rfl,rfl,js.o,HJO.o⟩
     case rest=>
      obtain ⟨Am,lm,cm,rfl,Ui,adq,HJO⟩:=hcut;clear p0 p1 p2 lN2 dY dh;obtain ⟨W5,rfl⟩:∃awN:World,awN=wr:=⟨_,rfl⟩;obtain ⟨W6,rfl⟩:∃awN:World,awN=wc:=⟨_,rfl⟩;have Q9:=HK.t (ab.aj adq.o);have iy:rws.length=i:=HO.cm.rl;have he6:rws++List.replicate (gs.length-i) ([]:List Ed)=rws++[[]]++List.replicate (gs.length - (i+1)) []:=by
       rw[show gs.length-i=(gs.length - (i+1))+1 by omega,List.replicate_succ];simp
      have GO:=HG.later adq.o;rw[he6]at GO;have HG6:=Y GO;have qy:=Y Q9;have wG:=Y iy;have SR:∀p∈fJ b x gs i,p<b.sets.length:=QJ Jq.1 Jq.2.2.1;have adr:(fJ b x gs i).length<=10000000000000:=NG Jq.2.2.2.2 (by have:=mo.2;omega) (λg hg=>by
       have h1:=v8 (HO.cm.kE g hg) (HO.cm.gl g hg);have h2:=HN.1;omega)
      have UE:=Y (I SR adr);have HLM:=Y Ui;have HN0:Hid (xt b x gs aN (fJ b x gs i) gs aN [] 0):=xt.start HO.o Jq.2.2.2.1 _;clear Q9 iy he6 GO SR adr Ui
      apply_assumption
      go_wp2_with fail;go_loopw [7,15] (λlvv kv wq=>∃(k:Nat) (l2 e2 a2:Value) (RQ Pm:List Value) (kj:List (List Nat)) (row:List Ed) (Kv:List Bool) (RS:Nat) (F2:Lit->Option Value),k+1<=nc/\gs.length<=kj.length/\kj.length<=2000/\kv=.int .i64 (k:Int)/\lvv=l2/\Hid (oD 9 w (w+1+1) (w+1+1+1+1+1+1) l2 e2 a2 RQ Pm kj (rws++[row]++List.replicate (kj.length - (i+1)) []) Kv RS F2 wq)/\Hid (ab (dX (w+1+1) (w+1+1+1+1+1+1) (.slice Al gs.length cl) ev av cd bk) (dX (w+1+1) (w+1+1+1+1+1+1) l2 e2 a2 RQ Pm) W6 wq)/\Hid (xt b x gs aN (fJ b x gs i) kj Kv row k)/\Hid (QG kj F2/\RS<=kj.length)) (λ_ kv _=>nc - (intOf kv).toNat)
      case atStart=>exact ⟨0,_,_,_,_,_,gs,[],aN,nm,F,ajO,V,jm,rfl,rfl,HG6.o,ab.refl _ _,HN0.o,S0.o⟩
      case round=>
       obtain ⟨k,l2,e2,a2,RQ,Pm,kj,row,Kv,RS,F2,hk,ajX,Qy,rfl,rfl,NL,HKq,Xr,Xs⟩:=hrel;obtain ⟨Al2,cl2,rfl,-,-⟩:=ae NL.li.out;have k6:=qy.t HKq.o;have Wo:=k6.size;have Df:=Y k6;have jl:Below w w wr:=RP.t (k6.below (λk hk=>by have:=(Ai k hk).1;omega) U)
       have wO:=Y jl;clear k6 jl;by_cases aB:k+1<nc
       .have hd9:decide ((k:Int)+1<(nc:Int))=true:=τ;have ajY:decide (k+1<nc)=true:=decide_eq_true aB;have hca:=lV b Jq.2.2.2.1 (fo:=Iu b (fJ b x gs i)) mK;have hvl:=hca.lt (i:=k) (by rw[Qz.o];exact aB)
        obtain ⟨cv,dx⟩:∃c,fm (dO b) k=c:=⟨_,rfl⟩;obtain ⟨cw,hcw⟩:∃c,fm (dO b) (k+1)=c:=⟨_,rfl⟩;rw[dx,hcw]at hvl;obtain ⟨hv,rfl⟩:∃hv,cw=hv+1:=⟨cw - 1,U⟩;have hhv:hv<256:=U;have ahZ:cv<256:=U;have kC:=Df.aq gC lgC ngC;have cC0:=(χ gC (fC+k) kC).t (xr k U);rw[dx]at cC0;have cC1:=(χ gC (fC+(k+1)) kC).t (xr (k+1) aB);rw[hcw]at cC1;have lgq:gC<wr:=U;have Ps:wU w0 s b (.slice As b.sets.length cS) vf rows sv wr:=Bd.same (λq hq=>wO.block q (Bd.lt q hq).2) (Bd.cW.t (wO.mono Bd.cW.size));have DZ:=HJO.keep HKq.o;have HJM:=Y DZ;have J0:=Y (Fj w0 s b _ wr (.slice Am lm cm) (fJ b x gs i) cv ⟨_,_,_,_,rfl,Ps⟩ DZ.1 UE.1 (by rw[HN.1];omega) UE.2)
        have G0:IntKind.u8.wrap (cv:Int)=(cv:Int):=IntWalk.u8_in _ U;have ES:(k:Int)<(nc:Int):=U;have NM:=Y (I dx hcw);have SU:=Y cC1;have Tk:=Y kC;clear hca hvl dx hcw kC Ps DZ cC1;go_wp2_with fail;refine J0.mono ?_;rintro e w3 ⟨u,rfl,kk,mH⟩;obtain ⟨Au,cu,rfl,-,-⟩:=ae (show w3.ownsRow _ _ _ _ _ _ from kk);obtain ⟨G,hG⟩:=ν (wR b (fJ b x gs i) cv);rw[hG]at kk|-;obtain ⟨lG,hlG⟩:∃q,G.length=q:=⟨_,rfl⟩;rw[hlG];have Zf:=Y (I kk mH);have CI:=Y (I hG hlG);have hGa:=v8 (l:=G) (n:=b.sets.length) (by rw[<-hG,jx];exact List.Pairwise.filter _ (zB _ _)) (λp hp=>by rw[<-hG,jx]at hp;exact mK p (List.mem_filter.1 hp).1)
        have as4:lG<=600:=by have:=HN.1;omega
        clear kk mH hG hlG hGa cC0 G0;by_cases bf:lG=0
        .have t0:((lG:Int) == 0)=true:=by simp[bf]
         have t1:(lG == 0)=true:=by simp[bf]
         have fP:wR b (fJ b x gs i) (fm (dO b) k)=[]:=by rw[NM.1,CI.1];exact List.eq_nil_of_length_eq_zero (CI.2.t bf)
         have sR:=Y (Xr.skip Jq.2.2.2.1 (by rw[Qz.o];exact aB) fP)
         have HG3:=Y (NL.later Zf.2);have YQ:=Y (HKq.t (ab.aj Zf.2));clear bf fP;go_wp2_with fail;go_roundw
         case rel=>exact ⟨k+1,_,_,_,_,_,kj,row,Kv,RS,F2,U,ajX,Qy,by go_num,rfl,HG3.o,YQ.o,sR.o,Xs.o⟩
         case measure=>exact μ
        .have t0:((lG:Int) == 0)=false:=ψ;have t1:(lG == 0)=false:=by simp;exact bf
         have RT:G≠[]:=by
          intro e;have:=CI.2;rw[e]at this;simp at this;omega
         have ml:wR b (fJ b x gs i) (fm (dO b) k)≠[]:=by rw[NM.1,CI.1];exact RT
         have hGb:∀p∈G,p<b.sets.length:=λp hp=>by rw[<-CI.1,jx]at hp;exact mK p (List.mem_filter.1 hp).1
         have RU:∀p∈G,p<65536:=λp hp=>by have:=hGb p hp;have:=HN.1;omega
         have Xq:JL w3 (.slice Au lG cu) G:=by rw[<-CI.2];exact (JL.eu Zf.1).1
         have hky:=CJ (.slice Au lG cu) G w3 Xq RU (by have:=CI.2;omega)
         obtain ⟨ks,Dl⟩:∃q,km G=q:=⟨_,rfl⟩;have adt:(bs ks).size<=maxLen:=by rw[mB,<-Dl,CL,CI.2];unfold maxLen;omega
         rw[Dl]at hky;have K9:Go.Maps.Keyed Tryz.prog 9:=Maps.string_keyed Tryz.underlying9;have hzi:∀w,(zeroValue 3).run Tryz.prog w=.ok (.int .i64 0) w:=λ_=>R;have jq:keyOf Tryz.prog 9 (.string (bs ks))=some (.string ks):=by
          have:=WideMaps.keyOf_string_mk (P:=Tryz.prog) (k:=9) Tryz.underlying9 (s:=bs ks) adt;rwa [zi]at this
         have uC:=Xs.1 G RU RT;rw[Dl]at uC;have HKY:=Y hky;have HJU:=Y Xq;have HKS:=Y Dl;have p6:=Y jq;have HF2:=Y uC;have Ht:=Y (I hGb (I RU (I ml RT)));clear RT ml hGb RU Xq hky Dl adt jq uC;go_wp2_with fail;refine HKY.mono ?_;rintro e w4 ⟨rfl,pE⟩;have Xt:Below w3 w3 w4:=pE;have Xu:Below wr wr w4:=Zf.2.t (Xt.mono Zf.2.size);have adu:=Y Xt;have Fk:=Y Xu;have Em:=NL.later Xu;have HG4:=Y Em;obtain ⟨r,q,lJ,Wh⟩:∃(r:Int) (q:Bool),(Instr.lookup 48 (.map (some (w.heap.size+1+1))) (.string (bs ks)) true).run Tryz.prog w4=.ok (.tuple #[.int .i64 r,.bool q]) w4/\((G∈kj/\r=((kj.idxOf G:Nat):Int)/\q=true)\/(G∉kj/\q=false/\F2 (.string ks)=none)):=by
          have h1:=Em.mp.mv.look_ok K9 Tryz.underlying48 hzi p6.o trivial;by_cases bI:G∈kj
          .rw[HF2.o,if_pos bI]at h1;exact ⟨_,true,h1,.inl ⟨bI,rfl,rfl⟩⟩
          .have h2:=HF2.o;rw[if_neg bI]at h2;rw[h2]at h1;exact ⟨0,false,h1,.inr ⟨bI,rfl,h2⟩⟩
         have HRQ:=Y Wh;have lmb:(w.heap.size+1+1)<w4.heap.size:=Em.mlt;clear pE Xt Xu Em Wh hzi;go_upto_if 113 with (fail)
         go_cut [7,17] from 114 to 154 (λlvv tv wx=>∃(l3 e3 a3:Value) (g3s e3s:List Value) (Jr:List (List Nat)) (ac3:List Bool) (nm3:Nat) (F3:Lit->Option Value) (tt:Nat),lvv=l3/\tv=.int .i64 (tt:Int)/\kj.length<=Jr.length/\Jr.length<=2000/\tt<Jr.length/\Hid (oD 9 w (w+1+1) (w+1+1+1+1+1+1) l3 e3 a3 g3s e3s Jr (rws++[row]++List.replicate (Jr.length - (i+1)) []) ac3 nm3 F3 wx)/\Hid (ab (dX (w+1+1) (w+1+1+1+1+1+1) (.slice Al2 kj.length cl2) e2 a2 RQ Pm) (dX (w+1+1) (w+1+1+1+1+1+1) l3 e3 a3 g3s e3s) wr wx)/\Hid (xt b x gs aN (fJ b x gs i) Jr ac3 (row++[⟨cv,hv,tt⟩]) (k+1))/\Hid (QG Jr F3/\nm3<=Jr.length))
         case first=>
          rcases HRQ.o with ⟨bI,rfl,rfl⟩|⟨bI,rfl,Dc⟩
          .have gG:=Xr.Li Jq.2.2.2.1 HO.cm.g0 (by rw[Qz.o];exact aB) Ht.2.2.1 (by rw[NM.1,CI.1];exact bI)
           rw[NM.1,NM.2,CI.1,Nat.add_sub_cancel]at gG;have sR:=Y gG;have dE:=List.idxOf_lt_length_of_mem bI;clear bI gG;go_wp2_with fail
           go_meet
           case rel=>exact ⟨_,_,_,_,_,kj,Kv,RS,F2,_,rfl,rfl,V,Qy,dE,HG4.o,ab.aj Fk.o,sR.o,Xs.o⟩
          .have BA:=Y bI;have DE:=Y Dc;clear bI Dc;by_cases Fl:kj.length=2000
           .have fD:=(Df.aq (w+1) U (λhm=>by have:=(Ai _ hm).1;omega)).t FW.1
            have I3:=(Fk.block (w+1) U).t fD;obtain ⟨y0,y1⟩:w4.cell? (Z (w+1) 0)=some (.slice none 0 0)/\w4.cell? (Z (w+1) 1)=some (.slice none 0 0):=by constructor <;> (rw[Φ I3]; rfl)
            have vl:w4.frozen? (Z (w+1) 0)=false:=Ψ I3
            have ug:w4.frozen? (Z (w+1) 1)=false:=Ψ I3
            have ly:w.heap.size+1<w4:=by have:=Fk.size;omega
            have t2:((kj.length:Int) == 2000)=true:=by rw[Fl];rfl
            have t3:(kj.length == 2000)=true:=by rw[Fl];rfl
            have aj5:=Y Fl;clear Fl fD I3;go_wp2_with fail;refine au λWf bG=>?_;refine bodyPost_ret (v:=.tuple #[dK,.bool false]) (by rw[bG];simp[results,Tryz.results27,go_sem,y0,y1,ly,dK];try rfl) rfl ?_
            refine ⟨?_,.inl ⟨_,?_,Xr.full HO.o qa Jq.2.2.2.1 UE.1 (by rw[Qz.o];exact aB) Ht.2.2.1 (by rw[NM.1,CI.1];exact BA.o) _ rfl,rfl⟩⟩
            .rw[bG];exact ((wO.t (Fk.mono (by have:=wO.size;omega))).sc (w+1) 0 (by show w.heap.size<=w+1;omega) _).sc (w+1) 1 (by show w.heap.size<=w+1;omega) _
            .rw[List.length_append,aj5.o,List.length_singleton];omega
           .have t2:((kj.length:Int) == 2000)=false:=ψ;have t3:(kj.length == 2000)=false:=by simp;exact Fl
            have adv:JL w4 (.slice Au lG cu) G:=HJU.later adu.o;have Xv:=CJ (.slice Au lG cu) G w4 adv Ht.2.1 (by have:=CI.2;omega)
            rw[HKS.o]at Xv;have aj6:=Y Xv;have S7:=Y Fl;clear adv Xv Fl;go_wp2_with fail;refine aj6.mono ?_;rintro e w5 ⟨rfl,mj⟩;have hg5:=HG4.later mj;have HG5:=Y hg5;have js:=Y mj;have as7:RS<=2000:=by have:=Xs.2;omega
            clear mj hg5;go_wp2_with (at_mapUpdate;refine kL w5 rfl _ _ _ 48 rfl 9 3 K9 Tryz.underlying48 (w+1+1) RS F2 rfl HG5.mp (by unfold maxLen;omega) _ _ _ rfl rfl p6.o trivial DE.o ?_)
            intro wm Dw kN;obtain ⟨GO,Q9⟩:=HG5.put Dw kN;have Bz:=kN.size;have Xp:OR 3 1 dM wr (.slice Au lG cu) G w5:=by
             have h1:=Zf.1;rw[CI.2]at h1;exact (h1.later adu.o).later js.o
            have hum:OR 3 1 dM wr (.slice Au lG cu) G wm:=Xp.keep λg hg=>kN.block g (World.ownsRow.lt Xp g hg).2 (λe=>HG5.mp.s6 (en (show World.ownsRow _ _ _ _ _ _ _ from Xp) hg) (by injection e))
            have aj8:w.heap.size<=wr:=wO.size;have as8:wr.heap.size<=w5:=by have:=Fk.size;have:=js.size;omega
            have HUM:=Y hum;have HG6:=Y GO;have aj9:=Y Q9;have dw:=GO.li.out;have bL:(wm.alloc (.cells #[.slice Au lG cu] 22)).ownsRow w 22 1 (.slice Al2 kj.length cl2) kj.length RQ:=World.ownsRow.alloc dw _;have iY:∀j u,([Value.slice Au lG cu]:List Value)[j]?=some u->(wm.alloc (.cells #[.slice Au lG cu] 22)).cell? (((Z wm 0):Addr).add j)=some u:=by
             intro j u hj;rw[Addr.add_lit,Nat.zero_add,World.cell?_alloc_mark];simpa using hj
            obtain ⟨i2,ek,aka,akb,akc⟩:=info_parts tR;have bw:w.heap.size<=(wm.alloc (.cells #[.slice Au lG cu] 22)).heap.size:=ψ;clear Dw kN GO Q9 Xp hum dw;go_wp2_with (at_builtin;refine bn rfl _ _ 50 rfl w 22 i2 () 1 24 Tryz.underlying50 ek aka akb akc rfl O _ kj.length RQ rfl bL (Z wm 0) 1 1 [.slice Au lG cu] rfl rfl iY (by intro u hu;simp at hu;subst hu;rfl) (by unfold maxLen;omega) U bw ?_)
            intro v' w7 NN Qb OY;have nz:Below wm wm (wm.alloc (.cells #[.slice Au lG cu] 22)):=D.alloc V _;obtain ⟨r7,zS⟩:=(HG6.later nz).push (lv':=v') (u:=.slice Au lG cu) (l:=G) NN Qb (OY.imp id λ⟨g,h1,h2⟩=>⟨g,h1,by simpa using h2⟩) ((HUM.mono aj8).later nz) (λg hg hm=>by
             have h1:=(World.ownsRow.lt HUM.o g hg).1;have h2:=(NL.lt g (by unfold dX;simp only[List.mem_cons,List.mem_append];exact .inr (.inr (.inl hm)))).2
             omega)
            obtain ⟨A7,c7,rfl,-,-⟩:=ae NN;have RV:OR 3 1 dM wr (.slice Au lG cu) G (wm.alloc (.cells #[.slice Au lG cu] 22)):=HUM.later nz;have adx:OR 3 1 dM wr (.slice Au lG cu) G w7:=RV.keep λg hg=>Qb.block g (World.ownsRow.lt RV g hg).2 (λe=>(en (show World.ownsRow _ _ _ _ _ _ _ from RV) hg).ne (en (show World.ownsRow _ _ _ _ _ _ _ from bL) e.symm) O rfl);have ady:ab (dX (w+1+1) (w+1+1+1+1+1+1) (.slice Al2 kj.length cl2) e2 a2 RQ Pm) (dX (w+1+1) (w+1+1+1+1+1+1) (.slice A7 (kj.length+1) c7) e2 a2 (RQ++[.slice Au lG cu]) Pm) wr w7:=by
             have h1:=(ab.aj (fp:=dX (w+1+1) (w+1+1+1+1+1+1) (.slice Al2 kj.length cl2) e2 a2 RQ Pm) (Fk.t (js.mono Fk.size))).t (aj9.t (ab.aj nz));refine ⟨zS.os.t h1.os,zS.tape.t h1.tape,zS.output.t h1.output,Nat.le_trans h1.size zS.size,λq hq hn=>(zS.aq q (Nat.lt_of_lt_of_le hq h1.size) (λhm=>?_)).t (h1.aq q hq hn),λq hq=>?_⟩
             .rcases List.mem_append.1 hm with hm|hm
              .exact hn ((h1.new q hm).resolve_right U)
              .have:=(World.ownsRow.lt HUM.o q (af.1 hm)).1;omega
             .rcases zS.new q hq with hm|hm
              .rcases List.mem_append.1 hm with hm|hm
               .exact h1.new q hm
               .exact .inr (World.ownsRow.lt HUM.o q (af.1 hm)).1
              .exact .inr (Nat.le_trans h1.size hm)
            have HG8:=Y r7;have HK8:=Y ady;have HU7:=Y adx;clear r7 zS ady adx RV nz NN Qb OY iY bL;obtain ⟨adz,adA⟩:=JL.eu HU7.o;obtain ⟨Aq,cq,eq1,-,hjq⟩:=adz;obtain ⟨gu,fu,rfl,VH,yh⟩:∃gu fu,Au=some ⟨gu,fu,none⟩/\gu<w7.heap.size/\∀j (h:j<G.length),w7.cell? (Z gu (fu+j))=some (.int .i64 (G[j]:Int)):=by
             injection eq1 with e1 _ _;subst e1;exact hjq.resolve_left (λh=>Ht.2.2.2 h.1)
            have akd:=Y yh;have hkE:=Df.t HK8.o;have adB:∀q',q'<n->w7.cell? (Z W q')=some (.bool (decide (q'∈x.last))):=λq' VE=>by
             have h1:=(VC.cell (iq x.last _ VE)).1;rw[List.take_of_length_le (by have:=mo.1;omega)]at h1
             have h2:=(VC.cell (iq x.last _ VE)).2.2;exact (χ W q' (hkE.aq W h2 (λhm=>by have:=(Ai _ hm).2;omega))).t h1
            have lW7:W.heap.size<w7:=by have h2:=(World.ownsRow.lt VC.own W rfl).2;have:=hkE.size;omega
            have akf:=Y adB;clear adA eq1 hjq yh hkE adB;go_wp2_with fail
            go_loop [19,20] (λav kv=>∃j:Nat,j<=lG/\kv=.int .i64 (j:Int)/\av=.bool (Iv x (G.take j))) (λ_ kv=>lG - (intOf kv).toNat)
            case atStart=>exact ⟨0,Nat.zero_le _,rfl,by rw[List.take_zero];rfl⟩
            case round=>
             obtain ⟨j,hj,rfl,rfl⟩:=hrel;by_cases hU:j<lG
             .have hjG:j<G.length:=by rw[CI.2];exact hU
              obtain ⟨q,hq⟩:=ν (G[j]);have u0:=akd j hjG;rw[hq]at u0;have rU:q<n:=by rw[<-hq,<-HN.1];exact Ht.1 _ (List.getElem_mem hjG)
              have u1:=akf q rU;obtain ⟨eb,Zg⟩:=ν (decide (q∈x.last));obtain ⟨zb,hzb⟩:=ν (Iv x (G.take j));have hsu:Iv x (G.take (j+1))=(zb || eb):=by
               rw[List.take_succ_eq_append_getElem hjG,Iv,List.any_append,<-Zg,<-hzb,hq];simp[Iv]
              rw[Zg]at u1;rw[hzb];have akh:decide ((j:Int)<(lG:Int))=true:=τ;have adC:decide (j<lG)=true:=decide_eq_true hU;have ata:(j:Int)<(lG:Int):=U;have KR:(q:Int)<(n:Int):=U;have hqd:decide (q<n)=true:=decide_eq_true rU;have HSU:=Y hsu;clear hq Zg hzb hsu
              cases zb with
              |true=>
               go_wp2_with fail
               go_round
               case rel=>exact ⟨j+1,U,by go_num,by rw[HSU.o];rfl⟩
               case measure=>exact μ
              |false=>
               go_wp2_with fail
               go_round
               case rel=>exact ⟨j+1,U,by go_num,by rw[HSU.o];simp⟩
               case measure=>exact μ
             .have akh:decide ((j:Int)<(lG:Int))=false:=θ;have adC:decide (j<lG)=false:=decide_eq_false hU;obtain ⟨yE,Xw⟩:∃a,Iv x G=a:=⟨_,rfl⟩;rw[List.take_of_length_le (by rw[CI.2];omega),Xw]
              have Yc:=Y Xw;clear Xw;have r7:=HG8.o;obtain ⟨Ae,ce,rfl,-,-⟩:=ae r7.ed.out;obtain ⟨Aa,ca,rfl,-,-⟩:=ae (show World.ownsRow _ _ _ _ _ _ _ from r7.ac);have iw:=r7.bx;have ni:=r7.ed.out;have ej:World.ownsRow _ _ _ _ _ _ _:=r7.ac;obtain ⟨ne,NO⟩:∃q,(rws++[row]++List.replicate (kj.length - (i+1)) ([]:List Ed)).length=q:=⟨_,rfl⟩;obtain ⟨na,NP⟩:∃q,Kv.length=q:=⟨_,rfl⟩;have Jf:ne=kj.length:=by rw[<-NO];simp;have:=wG.o;omega
              have adD:na=kj.length:=by rw[<-NP];exact Xr.ac.al
              have adE:=wG.o;rw[NO,NP]at iw;rw[NO]at ni;rw[NP]at ej;have htM:yi w7 (w+1+1+1+1+1+1) 35:=r7.YF;have bf:(∀g,(Value.slice Ae ne ce).ownBlock=some g->g<w7.heap.size)/\(∀g,(Value.slice Aa na ca).ownBlock=some g->g<w7.heap.size)/\(∀g,(Value.slice Aa na ca).ownBlock=some g->(Value.slice Ae ne ce).ownBlock≠some g)/\(Value.slice Ae ne ce).ownBlock≠some (w.heap.size+1+1+1+1+1+1)/\(Value.slice Aa na ca).ownBlock≠some (w.heap.size+1+1+1+1+1+1):=⟨λg hg=>(ni.lt g hg).2,λg hg=>(ej.lt g hg).2,λg hg e=>(en ej hg).ne (en ni e) O rfl,λe=>(en ni e).ne htM O rfl,λe=>(en ej e).ne htM O rfl⟩;have dr:=Y bf;have akj:=Y iw;have HS7:=Y ni;have HF7:=Y ej;have xM0:w7.cell? (Z (w+1+1+1+1+1+1) 0)=some (.slice Ae ne ce):=by rw[Φ iw];rfl
              have xM1:w7.cell? (Z (w+1+1+1+1+1+1) 1)=some (.slice Aa na ca):=by rw[Φ iw];rfl
              have lM7:(w.heap.size+1+1+1+1+1+1)<w7.heap.size:=(γ iw).1;have dN:iS (w+1+1+1+1+1+1) (.slice Ae ne ce) (.slice Aa na ca) w7 0 w7.drew:=⟨(ab.aj D.drew).gV,λ_=>rfl,λ_ _ _=>rfl,λ_=>D.drew⟩;obtain ⟨ie,nY,S1,DP,xi⟩:=info_parts NI;obtain ⟨ib,pe,hb0,aM,aS⟩:=info_parts ik;have jU:=Y (I NO (I NP (I Jf adD)));have ate:ne<=2000/\na<=2000:=U;have lw7:w.heap.size<=w7:=U;clear r7 iw ni ej NO NP Jf adD adE htM bf;go_wp2_with fail;refine ay 12 [3,8,10] (jz (w+1+1+1+1+1+1) w ne ce na ca Ae Aa yE Pm Kv w7) (λc w'=>iS (w+1+1+1+1+1+1) (.slice Ae ne ce) (.slice Aa na ca) w7 c w') R R R R R R O dN ?_ ?_
              .simp only[ck,ct];refine aa.pure O ?_ (aa.pure O ?_ (aa.gp O ?_ (aa.jg 0 rfl ?_ (aa.pure O ?_ (aa.pure O ?_ (aa.pure O ?_ (aa.gp O ?_ (aa.jg 1 rfl ?_ (aa.pure O ?_ (aa.jg 2 rfl ?_ (aa.pure O ?_ (aa.nil))))))))))))
               all_goals first | (intro v wz c bX hS hE K hK;simp only[ah,Act.put,dk,dm,dn,Nat.zero_add,Nat.reduceAdd,ck,ct]at hK|-) | (intro v wz hS hE K hK;simp only[ah,Act.put,dk,dm,dn,Nat.zero_add,Nat.reduceAdd,ck,ct]at hK|-)
               .exact ζ
               .have e0:v 0=_:=hE.1 rfl;rw[e0]at hK|-;have hle:=bX 2 R;have cq:=(χ (w+1+1+1+1+1+1) 0 (hS.2.1 U)).t xM0;have lz:(w.heap.size+1+1+1+1+1+1)<wz.heap.size:=by have:=hS.1.size;omega
                clear hle;exact ζ
               .have bw:Below wz wz (wz.alloc (.cells #[()] 59)):=D.alloc V _;have jc:=hS.1.size;have HX:=Y hS;have iZ:=Y bw;clear hS hE bX bw;go_wp2_with fail;exact hK.out _ _ (λj y _ h=>wb iZ.o h) (HX.later lM7 dr.2.1 iZ.o) ⟨wz.heap.size,rfl,jc,H,by go_simp⟩
               .have e1:v 1=_:=hE.1 rfl;rw[e1]at hK|-;have E2:=hE.2.1 rfl;obtain ⟨g,e2,zo,jm,oz⟩:=E2;rw[e2]at hK|-;have hz:=hS.2.2.2 rfl;have ao:wz.ownsRow w 59 1 (.slice Ae ne ce) ne Pm:=aR HS7.o hz;have iM:=hz.size;have ak:∀j u,([Value.slice none 0 0]:List Value)[j]?=some u->wz.cell? (((Z g 0):Addr).add j)=some u:=λj u hj=>by
                 match j,hj with
                 |0,hj=>simp at hj;rw[<-hj,Addr.add_lit];exact oz
                have HX:=Y hS;clear hS hE hz;go_wp2_with (at_builtin;refine bn rfl _ _ 32 rfl w 59 ie () 1 24 Tryz.underlying32 nY S1 DP xi rfl O _ ne Pm rfl ao (Z g 0) 1 1 [.slice none 0 0] rfl rfl ak (by intro u hu;simp at hu;subst hu;rfl) (by unfold maxLen;omega) U U ?_)
                intro v' w1 ai bg dv;obtain ⟨A',c',rfl,-,-⟩:=ae ai;have mP:aT (.slice A' (ne+1) c') (.slice Ae ne ce) w7.heap.size:=dv.imp id λ⟨g,h1,h2⟩=>⟨g,h1,Nat.le_trans iM h2⟩;refine hK.out _ _ (Fe bg dr.1) (HX.s1 lM7 bg dr.2.2.2.1 (λg hg=>⟨dr.2.2.1 g hg,dr.2.1 g hg⟩)) (λ_=>⟨A',c',rfl,ai,mP⟩)
               .exact ζ
               .have e4:v 4=_:=hE.1 rfl;rw[e4]at hK|-;have hle:=bX 2 R;have cq:=(χ (w+1+1+1+1+1+1) 1 (hS.2.1 U)).t xM1;have lz:(w.heap.size+1+1+1+1+1+1)<wz.heap.size:=by have:=hS.1.size;omega
                clear hle;exact ζ
               .exact ζ
               .have e6:v 6=_:=hE.1 rfl;rw[e6]at hK|-;have bw:Below wz wz (wz.alloc (.cells #[.bool yE] 4)):=D.alloc V _;have jc:=hS.1.size;have HX:=Y hS;have iZ:=Y bw;clear hS hE bX bw;go_wp2_with fail;exact hK.out _ _ (λj y _ h=>wb iZ.o h) (HX.later lM7 dr.2.1 iZ.o) ⟨wz.heap.size,rfl,jc,H,by go_simp⟩
               .have e5:v 5=_:=hE.1 rfl;rw[e5]at hK|-;have E7:=hE.2.1 rfl;obtain ⟨g,e7,zo,jm,oz⟩:=E7;rw[e7]at hK|-;have ao:wz.ownsRow w 4 1 (.slice Aa na ca) na (a8 bC Kv):=ar HF7.o λg hg=>hS.2.2.1 O g hg;have iM:=hS.1.size;have ak:∀j u,([Value.bool yE]:List Value)[j]?=some u->wz.cell? (((Z g 0):Addr).add j)=some u:=λj u hj=>by
                 match j,hj with
                 |0,hj=>simp at hj;rw[<-hj,Addr.add_lit];exact oz
                have HX:=Y hS;clear hS hE;go_wp2_with (at_builtin;refine bn rfl _ _ 33 rfl w 4 ib (.bool false) 1 1 Tryz.underlying33 pe hb0 aM aS rfl O _ na (a8 bC Kv) rfl ao (Z g 0) 1 1 [.bool yE] rfl rfl ak (by intro u hu;simp at hu;subst hu;rfl) (by unfold maxLen;omega) U U ?_)
                intro v' w1 ai bg dv;obtain ⟨A',c',rfl,-,-⟩:=ae ai;have mP:aT (.slice A' (na+1) c') (.slice Aa na ca) w7.heap.size:=dv.imp id λ⟨g,h1,h2⟩=>⟨g,h1,Nat.le_trans iM h2⟩;refine hK.out _ _ (Ff bg dr.2.1 dr.2.2.1) (HX.s2 lM7 bg dr.2.2.2.2) (λ_=>⟨A',c',rfl,ai,mP⟩)
               .exact ζ
               .have e9:v 9=_:=hE.1 rfl;rw[e9]at hK|-;have E3:=hE.2.1 rfl;obtain ⟨A,c',ev,ho,dv⟩:=E3 O;rw[ev]at hK ho dv|-;have aC:=(hS.2.1 O).t akj.o;have cz:wz.cell? (Z (w+1+1+1+1+1+1) 0)=some (.slice Ae ne ce):=by rw[Φ aC];rfl
                have fz:wz.frozen? (Z (w+1+1+1+1+1+1) 0)=false:=Ψ aC
                have HX:=Y hS;have Y6:=Y (I ho (I dv aC));clear hS hE ho dv aC ev;go_wp2_with fail;have qV:∀g,(Value.slice A (ne+1) c').ownBlock=some g->g≠(w.heap.size+1+1+1+1+1+1):=λg hg=>Y6.2.1.elim (λe=>by rw[e]at hg;intro e2;subst e2;exact dr.2.2.2.1 hg) λ⟨g',e,h2⟩=>by rw[e]at hg;injection hg with hg;omega
                refine hK.out undef _ (Fg lM7 dr.2.2.2.1 dr.2.2.2.2 _) (HX.s3 _) (λ_=>⟨A,c',ar Y6.1 λg hg=>Below.heap_setCell _ _ _ _ (qV g hg),Y6.2.1,by have:=aE Y6.2.2 0 (.slice A (ne+1) c');simpa using this⟩)
               .exact ζ
              .intro v wz hS hF;have e0:v 0=_:=hF 0 O;have e1:v 1=_:=hF 1 O;have e4:v 4=_:=hF 4 O;have e5:v 5=_:=hF 5 O;have e6:v 6=_:=hF 6 O;have e9:v 9=_:=hF 9 O;have fZ:v 11=_:=hF 11 O;have E2:=hF 2 O;have E3:=hF 3 O;have E7:=hF 7 O;have E8:=hF 8 O;have Mg:=hF 10 O;simp only[ah,Act.put,dk,dm,dn,Nat.zero_add,Nat.reduceAdd,ck,ct,List.drop_succ_cons,List.drop_zero,e0,e1,e4,e5,e6,e9,fZ];clear hF e0 e1 e4 e5 e6 e9 fZ;obtain ⟨A10,c10,adG,adH,Cz⟩:=Mg O;obtain ⟨A8,c8,ev8,O3,Gf⟩:=E8 O;rw[ev8]at O3 Gf|-;have z1:wz.cell? (Z (w+1+1+1+1+1+1) 1)=some (.slice Aa na ca):=by rw[Φ Cz];rfl
               have Qs:wz.frozen? (Z (w+1+1+1+1+1+1) 1)=false:=Ψ Cz
               have lMz:(w.heap.size+1+1+1+1+1+1)<wz.heap.size:=(γ Cz).1;have Ak:=Y (I hS.1 (I adG (I adH (I Cz (I O3 Gf)))));clear hS adG adH Cz O3 Gf ev8 E2 E3 E7 E8 Mg;go_wp2_with fail
               go_meet
               case rel=>
                have aH:∀g,g≠(w.heap.size+1+1+1+1+1+1)->(wz.setCell (Z (w+1+1+1+1+1+1) 1) (.slice A8 (na+1) c8)).heap[g]?=wz.heap[g]?:=λg hg=>Below.heap_setCell _ _ _ _ hg;have adI:=aE Ak.2.2.2.1 1 (.slice A8 (na+1) c8);have hnb:∀{T:TypeId} {v:Value} {B k m:Nat} {xs:List Value},wz.ownsRow B T k v m xs->T≠35->∀g,v.ownBlock=some g->g≠(w.heap.size+1+1+1+1+1+1):=λho hT g hg=>(en ho hg).ne ⟨_,Ak.2.2.2.1⟩ hT;have fw:=HG8.state (a:=yE) (W:=wz.setCell (Z (w+1+1+1+1+1+1) 1) (.slice A8 (na+1) c8)) (ev':=.slice A10 (ne+1) c10) (av':=.slice A8 (na+1) c8) (by
                 have h1:=Ak.1;rw[jU.1,jU.2.1];refine ⟨h1.os,h1.tape,h1.output,by simpa [World.setCell] using h1.size,λq hq hn=>(aH q (λe=>hn (by rw[e];exact List.mem_cons_self))).t (h1.aq q hq hn),λq hq=>by cases hq⟩) (by simpa using adI)
                 (by rw[jU.1];exact ar Ak.2.1 λg hg=>aH g (hnb Ak.2.1 O g hg))
                 (by
                  show World.ownsRow _ _ _ _ _ (Kv++[yE]).length (a8 bC (Kv++[yE]));rw[List.length_append,jU.2.1,bV,bF];exact ar Ak.2.2.2.2.1 λg hg=>aH g (hnb Ak.2.2.2.2.1 O g hg))
                 (by rw[jU.1];exact Ak.2.2.1) (by rw[jU.2.1];exact Ak.2.2.2.2.2)
                have Xx:rws++[row]++List.replicate (kj.length - (i+1)) ([]:List Ed)++[[]]=rws++[row]++List.replicate ((kj++[G]).length - (i+1)) []:=by
                 rw[List.length_append,List.length_singleton,show kj.length+1 - (i+1)=(kj.length - (i+1))+1 by omega,List.replicate_succ',List.append_assoc]
                have hnw:=Xr.new Jq.2.2.2.1 HO.cm.g0 (by rw[Qz.o];exact aB) Ht.2.2.1 (by rw[NM.1,CI.1];exact BA.o)
                rw[NM.1,NM.2,CI.1,Nat.add_sub_cancel,Yc.o]at hnw;have kN:=fw.1;rw[Xx]at kN;have MS:=Xs.1.add BA.o Ht.2.1;rw[HKS.o]at MS;exact ⟨_,_,_,_,_,kj++[G],_,RS+1,_,kj.length,rfl,rfl,H,by have:=S7.o;simp;omega,H,kN,HK8.t fw.2,hnw,MS,by have:=Xs.2;simp;omega⟩
         case rest=>
          obtain ⟨l3,e3,a3,g3s,e3s,Jr,ac3,nm3,F3,tt,rfl,rfl,ath,akk,jM,HG3,YQ,HN3,HM3⟩:=hcut;clear lmb lJ;obtain ⟨W8,rfl⟩:∃awN:World,awN=wc:=⟨_,rfl⟩;obtain ⟨es,Xx⟩:∃q,rws++[row]++List.replicate (Jr.length - (i+1)) ([]:List Ed)=q:=⟨_,rfl⟩;have adJ:es.length=Jr.length:=by rw[<-Xx];simp;have:=wG.o;omega
          have RW:i<es.length:=U;have Xy:es[i]=row:=by
           have h1:es[i]?=some row:=by
            rw[<-Xx,List.append_assoc,List.getElem?_append_right (by have:=wG.o;omega),wG.o,Nat.sub_self];rfl
           rw[List.getElem?_eq_getElem RW]at h1;exact Option.some.inj h1
          have r7:=HG3.o;rw[Xx]at r7;obtain ⟨gE,cE,rfl,Ta,-,tC,hfE⟩:=r7.ed.form U;obtain ⟨u8,hu8,Ku⟩:=tC i RW;obtain ⟨TQ,adK,DX⟩:=r7.ed.row i RW;rw[hu8,Option.some.injEq]at adK;subst adK;rw[Xy]at DX;obtain ⟨Ar,cr,rfl,-,-⟩:=ae (show World.ownsRow _ _ _ _ _ _ _ from DX);obtain ⟨lr,GM⟩:∃q,row.length=q:=⟨_,rfl⟩;obtain ⟨nE,BI⟩:∃q,es.length=q:=⟨_,rfl⟩;have k7:lr<=300:=by have h1:=Xr.rl;rw[GM]at h1;omega
          have RX:=r7.bx;rw[BI]at RX RW;rw[GM]at Ku;have xM0:W8.cell? (Z (w+1+1+1+1+1+1) 0)=some (.slice (Z gE 0) nE cE):=by rw[Φ RX];rfl
          have lM8:(w.heap.size+1+1+1+1+1+1)<W8.heap.size:=(γ RX).1;have Js:=Df.t YQ.o;have kC8:=Js.aq gC lgC ngC;have cC0:W8.cell? (Z gC (fC+k))=some (.int .i64 (cv:Int)):=by
           have h1:=xr k U;rw[NM.1]at h1;exact (χ gC (fC+k) kC8).t h1
          have cC1:W8.cell? (Z gC (fC+(k+1)))=some (.int .i64 ((hv:Int)+1)):=by
           have h1:=xr (k+1) aB;rw[NM.2]at h1;exact (χ gC (fC+(k+1)) kC8).t h1
          have lC8:gC<W8:=by have:=Js.size;omega
          have nP:World.ownsRow W8 w 74 3 (.slice Ar row.length cr) row.length (a8 gm row):=DX;have tyR:∀g,(Value.slice Ar row.length cr).ownBlock=some g->yi W8 g 74:=λg hg=>en nP hg;have nM8:(w.heap.size+1+1+1+1+1+1)∉aq (.slice Ar row.length cr):=λhm=>(tyR _ (af.1 hm)).ne r7.YF O rfl;have nE8:gE∉aq (.slice Ar row.length cr):=λhm=>(tyR _ (af.1 hm)).ne (en r7.ed.out rfl) O rfl;have nC8:gC∉aq (.slice Ar row.length cr):=λhm=>by
           rcases Js.new gC (by
            unfold dX gZ;simp only[List.mem_cons,List.mem_append];exact .inr (.inr (.inr (.inl (.inr (List.mem_flatMap.2 ⟨_,List.mem_of_getElem? hu8,hm⟩)))))) with h2|h2
           .exact ngC h2
           .omega
          have dN:StE (.slice Ar row.length cr) W8 0 W8.drew:=⟨⟨rfl,rfl,rfl,V,λ_ _ _=>rfl,λ_ h=>by cases h⟩,λ_=>D.drew⟩
          obtain ⟨i3,BZ,mJ,bQ,bE⟩:=info_parts uh;have G0:IntKind.u8.wrap (cv:Int)=(cv:Int):=IntWalk.u8_in _ U;have hwv:IntKind.u8.wrap (hv:Int)=(hv:Int):=IntWalk.u8_in _ U;have ES:(k:Int)<(nc:Int):=U;have ati:(k:Int)+1<(nc:Int):=U;have Mw:(i:Int)<(nE:Int):=U;have lw8:w.heap.size<=W8:=by have:=Js.size;have:=RP.size;omega
          have RY:=Y (I r7 (I hu8 (I Xx (I adJ (I Xy (I BI GM))))));have HFE:=Y hfE;have HOR:=Y nP;have atj:=Y Js;clear Xx adJ Xy r7 tC hfE hu8 DX nP BI RX Js kC8 tyR;rw[GM]at HOR dN nM8 nE8 nC8;clear GM
          apply_assumption
          go_wp2_with fail;refine ay 26 [24] (RN (w+1+1+1+1+1+1) w gE nE cE gC fC nc cc i k cv hv tt lr cr Ar row W8) (λc w'=>StE (.slice Ar lr cr) W8 c w') R R R R R R O dN ?_ ?_
          .simp only[ck,ct];refine aa.pure O ?_ (aa.pure O ?_ (aa.pure O ?_ (aa.pure O ?_ (aa.pure O ?_ (aa.pure O ?_ (aa.pure O ?_ (aa.pure O ?_ (aa.pure O ?_ (aa.pure O ?_ (aa.pure O ?_ (aa.pure O ?_ (aa.pure O ?_ (aa.pure O ?_ (aa.pure O ?_ (aa.pure O ?_ (aa.pure O ?_ (aa.pure O ?_ (aa.pure O ?_ (aa.pure O ?_ (aa.pure O ?_ (aa.pure O ?_ (aa.pure O ?_ (aa.gp O ?_ (aa.jg 0 rfl ?_ (aa.pure O ?_ (aa.nil))))))))))))))))))))))))))
           all_goals first | (intro v wz c bX hS hE K hK;simp only[ah,Act.put,dk,dm,dn,Nat.zero_add,Nat.reduceAdd,ck,ct]at hK|-) | (intro v wz hS hE K hK;simp only[ah,Act.put,dk,dm,dn,Nat.zero_add,Nat.reduceAdd,ck,ct]at hK|-)
           .exact ζ
           .have e0:v 0=_:=hE.1 rfl;rw[e0]at hK|-;have cq:=(χ (w+1+1+1+1+1+1) 0 (hS.1.aq (w+1+1+1+1+1+1) lM8 nM8)).t xM0;have lz:(w.heap.size+1+1+1+1+1+1)<wz.heap.size:=by have:=hS.1.size;omega
            exact ζ
           .exact ζ
           .exact ζ
           .have e3:v 3=_:=hE.1 rfl;rw[e3]at hK|-;have cq:=(χ (w+1+1+1+1+1+1) 0 (hS.1.aq (w+1+1+1+1+1+1) lM8 nM8)).t xM0;have lz:(w.heap.size+1+1+1+1+1+1)<wz.heap.size:=by have:=hS.1.size;omega
            exact ζ
           .exact ζ
           .have e4:v 4=_:=hE.1 rfl;have e5:v 5=_:=hE.2.1 rfl;rw[e4,e5]at hK|-;exact ζ
           .have e6:v 6=_:=hE.1 rfl;rw[e6]at hK|-;have cq:=(χ gE i (hS.1.aq gE Ta nE8)).t Ku;have lz:gE<wz:=by have:=hS.1.size;omega
            exact ζ
           .exact ζ
           .exact ζ
           .have e8:v 8=_:=hE.1 rfl;have e9:v 9=_:=hE.2.1 rfl;rw[e8,e9]at hK|-;exact ζ
           .have eR:v 10=_:=hE.1 rfl;rw[eR]at hK|-;have cq:=(χ gC (fC+k) (hS.1.aq gC lC8 nC8)).t cC0;have lz:gC<wz:=by have:=hS.1.size;omega
            exact ζ
           .have fZ:v 11=_:=hE.1 rfl;rw[fZ]at hK|-;exact ζ
           .exact ζ
           .exact ζ
           .have jw:v 14=_:=hE.1 rfl;rw[jw]at hK|-;exact ζ
           .have iH:v 13=_:=hE.1 rfl;have pF:v 15=_:=hE.2.1 rfl;rw[iH,pF]at hK|-;exact ζ
           .have oV:v 16=_:=hE.1 rfl;rw[oV]at hK|-;have cq:=(χ gC (fC+(k+1)) (hS.1.aq gC lC8 nC8)).t cC1;have lz:gC<wz:=by have:=hS.1.size;omega
            exact ζ
           .have nR:v 17=_:=hE.1 rfl;rw[nR]at hK|-;exact ζ
           .have B3:v 18=_:=hE.1 rfl;rw[B3]at hK|-;exact ζ
           .have fG:v 12=_:=hE.1 rfl;have wS:v 19=_:=hE.2.1 rfl;rw[fG,wS]at hK|-;exact ζ
           .exact ζ
           .have AP:v 20=_:=hE.1 rfl;have Kq:v 21=_:=hE.2.1 rfl;rw[AP,Kq]at hK|-;exact ζ
           .have YX:v 22=_:=hE.1 rfl;rw[YX]at hK|-;have bw:Below wz wz (wz.alloc (.cells #[.int .u8 (cv:Int),.int .u8 (hv:Int),(tt:Int)] 74)):=D.alloc V _;have HX:=Y hS;have iZ:=Y bw;clear hS hE bX bw;go_wp2_with fail;refine hK.out _ _ (λj z hj h=>?_) ⟨HX.1.tr (ab.aj iZ.o).gV,λhc=>(HX.2 hc).t (iZ.mono (HX.2 hc).size)⟩ (λ_=>⟨wz.heap.size,rfl,H,λj hj=>by rw[World.cell?_alloc_mark];simp⟩)
            match j with
            |0|1|2|3|4|5|6|7|8|9|10|11|12|13|14|15|16|17|18|19|20|21|22|25=>exact h
            |23=>exact absurd rfl hj
            |24=>
             intro hc;obtain ⟨A,c',e,h1,h2⟩:=h hc;exact ⟨A,c',e,OR.later h1 iZ.o,h2⟩
            |_+26=>exact trivial
           .have e7:v 7=_:=hE.1 rfl;rw[e7]at hK|-;have E23:=hE.2.1 rfl;obtain ⟨g,YY,jm,Kh⟩:=E23 rfl;rw[YY]at hK|-;have ao:wz.ownsRow w 74 3 (.slice Ar lr cr) lr (a8 gm row):=aR HOR.o (hS.2 rfl);have iM:=hS.1.size;have ak:∀j u,([.int .u8 (cv:Int),.int .u8 (hv:Int),.int .i64 (tt:Int)]:List Value)[j]?=some u->wz.cell? (((Z g 0):Addr).add j)=some u:=λj u hj=>by
             have h3:=(List.getElem?_eq_some_iff.1 hj).1;rw[Addr.add_lit,Nat.zero_add,Kh j h3];exact hj
            have HX:=Y hS;clear hS hE E23 Kh;go_wp2_with (at_builtin; refine bn rfl _ _ 59 rfl w 74 i3 _ 3 16 Tryz.underlying59 BZ mJ bQ bE rfl O _ lr (a8 gm row) rfl ao (Z g 0) 1 1 [.int .u8 (cv:Int),.int .u8 (hv:Int),.int .i64 (tt:Int)] rfl rfl ak (by intro u hu; simp at hu; rcases hu with rfl|rfl|rfl <;> rfl) (by unfold maxLen; omega) U U ?_)
            intro v' w1 ai bg dv;obtain ⟨A',c',rfl,-,-⟩:=ae ai;refine hK.out _ _ (λj z hj h=>?_) ⟨⟨bg.os.t HX.1.os,bg.tape.t HX.1.tape,bg.output.t HX.1.output,Nat.le_trans HX.1.size bg.size,λq h1 h2=>(bg.block q (Nat.lt_of_lt_of_le h1 HX.1.size) (λe=>h2 (af.2 e.symm))).t (HX.1.aq q h1 h2),λq hq=>by cases hq⟩,λhc=>by cases hc⟩ (λ_=>⟨A',c',rfl,?_,?_⟩)
            .match j with
             |0|1|2|3|4|5|6|7|8|9|10|11|12|13|14|15|16|17|18|19|20|21|22|25=>exact h
             |23=>exact λhc=>by cases hc
             |24=>exact absurd rfl hj
             |_+26=>exact trivial
            .show w1.ownsRow _ _ _ _ (row++[_]).length (a8 gm (row++[_]));rw[bV,bF,List.length_append,RY.2.2.2.2.2.2];exact ai
            .exact dv.imp id λ⟨g,h1,h2⟩=>⟨g,h1,Nat.le_trans iM h2⟩
           .have e1:v 1=_:=hE.1 rfl;have e2:v 2=_:=hE.2.1 rfl;rw[e1,e2]at hK|-;exact ζ
          .intro v wz hS hF;have e0:v 0=_:=hF 0 O;have e1:v 1=_:=hF 1 O;have e2:v 2=_:=hF 2 O;have e3:v 3=_:=hF 3 O;have e4:v 4=_:=hF 4 O;have e5:v 5=_:=hF 5 O;have e6:v 6=_:=hF 6 O;have e7:v 7=_:=hF 7 O;have e8:v 8=_:=hF 8 O;have e9:v 9=_:=hF 9 O;have eR:v 10=_:=hF 10 O;have fZ:v 11=_:=hF 11 O;have fG:v 12=_:=hF 12 O;have iH:v 13=_:=hF 13 O;have jw:v 14=_:=hF 14 O;have pF:v 15=_:=hF 15 O;have oV:v 16=_:=hF 16 O;have nR:v 17=_:=hF 17 O;have B3:v 18=_:=hF 18 O;have wS:v 19=_:=hF 19 O;have AP:v 20=_:=hF 20 O;have Kq:v 21=_:=hF 21 O;have YX:v 22=_:=hF 22 O;have e25:v 25=_:=hF 25 O;have E23:=hF 23 O;have E24:=hF 24 O;simp only[ah,Act.put,dk,dm,dn,Nat.zero_add,Nat.reduceAdd,ck,ct,List.drop_succ_cons,List.drop_zero,e0,e1,e2,e3,e4,e5,e6,e7,e8,e9,eR,fZ,fG,iH,jw,pF,oV,nR,B3,wS,AP,Kq,YX,e25];clear hF e0 e1 e2 e3 e4 e5 e6 e7 e8 e9 eR fZ fG iH jw pF oV nR B3 wS AP Kq YX e25;obtain ⟨A9,c9,e9,Jd,kT⟩:=E24 rfl;rw[e9];have pR:=hS.1;have kEz:=pR.aq gE Ta nE8;have cEz:=(χ gE i kEz).t Ku;have fEz:wz.frozen? (Z gE i)=false:=by
            have h1:=HFE i;unfold World.frozen? at h1|-;rw[kEz];exact h1
           have lEz:gE<wz:=by have:=pR.size;omega
           have Xz:=Y (I pR (I Jd kT));clear hS pR kEz Jd kT e9 E23 E24;go_wp2_with fail;go_roundw
           case rel=>
            have GM:=RY.2.2.2.2.2.2;have kZ:W8.grownBy wz (Value.slice Ar row.length cr).ownBlock:=by
             have h1:=Xz.1;rw[<-GM]at h1;exact ⟨h1.os,h1.tape,h1.output,h1.size,λq hq hn=>h1.aq q hq (λhm=>hn (af.1 hm).symm)⟩
            have fw:=RY.1.VI (s:=i) (e:=⟨cv,hv,tt⟩) (u':=.slice A9 (lr+1) c9) (W:=wz) (gf:=gE) (cf:=cE) (by have:=RY.2.2.2.2.2.1;omega) RY.2.1 (by rw[RY.2.2.2.2.1];exact Xz.2.1) kZ (by rw[GM];exact Xz.2.2) rfl
            have xi:es.set i (es[i]'(by have:=RY.2.2.2.2.2.1;omega)++[⟨cv,hv,tt⟩])=rws++[row++[⟨cv,hv,tt⟩]]++List.replicate (Jr.length - (i+1)) []:=by
             rw[RY.2.2.2.2.1,<-RY.2.2.1,List.append_assoc,List.append_assoc,List.set_append_right _ _ (by have:=wG.o;omega),wG.o,Nat.sub_self];rfl
            have kN:=fw.1;rw[xi]at kN;have pr:=fw.2;have oy:=YQ.o;exact ⟨k+1,_,_,_,_,_,Jr,_,ac3,nm3,F3,U,U,akk,by go_num,rfl,kN,HKq.t (oy.t pr),HN3.o,HM3.o⟩
           case measure=>exact μ
       .have hd9:decide ((k:Int)+1<(nc:Int))=false:=θ;have ajY:decide (k+1<nc)=false:=decide_eq_false aB;have Db:=Y (Xr.next HO.o qa Jq.2.2.2.1 UE.1 (by rw[Qz.o];omega))
        go_wp2_with fail;go_roundw
        case rel=>exact ⟨i+1,_,_,_,_,_,kj,rws++[row],Kv,RS,F2,U,Qy,by go_num,rfl,NL.o,Df.o,Db.o,Xs.o⟩
        case measure=>exact μ
    .have dE:i=gs.length:=U;obtain ⟨q,hq⟩:=ν gs.length;have hG:=HG.o;have hO:=HO.o;rw[dE,Nat.sub_self,List.replicate_zero,List.append_nil]at hG;rw[dE]at hO|-;obtain ⟨Ae,ce,rfl,-,-⟩:=ae hG.ed.out;obtain ⟨Aa,ca,rfl,-,-⟩:=ae (show World.ownsRow _ _ _ _ _ _ _ from hG.ac);obtain ⟨x0,x1⟩:wr.cell? (Z (w+1+1+1+1+1+1) 0)=some (.slice Ae rws.length ce)/\wr.cell? (Z (w+1+1+1+1+1+1) 1)=some (.slice Aa aN.length ca):=by constructor <;> (rw[Φ hG.bx]; rfl)
     have Wo:=HK.size;have fD:=(HK.aq (w+1) U (λhm=>by have:=(Ai _ hm).1;omega)).t FW.1
     obtain ⟨y0,y1⟩:wr.cell? (Z (w+1) 0)=some (.slice none 0 0)/\wr.cell? (Z (w+1) 1)=some (.slice none 0 0):=by constructor <;> (rw[Φ fD]; rfl)
     have vl:wr.frozen? (Z (w+1) 0)=false:=Ψ fD
     have ug:wr.frozen? (Z (w+1) 1)=false:=Ψ fD
     have lx:w.heap.size+1+1+1+1+1+1<wr:=U;have ly:w.heap.size+1<wr:=U;have AN:decide ((gs.length:Int)<(gs.length:Int))=false:=θ;have To:decide (gs.length<gs.length)=false:=θ;have tY:=hO.end_ (by have:=(List.getElem?_eq_some_iff.1 hO.cm.g0).1;omega)
     have j7:Below w w wr:=RP.t (HK.below (λk hk=>by have:=(Ai k hk).1;omega) U)
     have bf:∀g∈dX (w+1+1) (w+1+1+1+1+1+1) (.slice Al gs.length cl) (.slice Ae rws.length ce) (.slice Aa aN.length ca) cd bk,g≠w.heap.size+1:=λg hg=>(HK.new g hg).elim (λh=>by have:=(Ai g h).1;omega) (λh=>U)
     have HE:=Y (I tY (I hG (I j7 (I jm bf))));clear hq hG hO tY j7 dE fD bf;go_wp2_with fail;refine au λWf bG=>?_;refine bodyPost_ret (v:=.tuple #[.agg #[.slice Ae rws.length ce,.slice Aa aN.length ca],.bool true]) (by rw[bG];simp[results,Tryz.results27,go_sem,y0,y1,ly];try rfl) rfl ?_
     have DD:Below w w Wf:=by
      rw[bG];exact (HE.2.2.1.sc (w+1) 0 (by show w.heap.size<=w+1;omega) _).sc (w+1) 1 (by show w.heap.size<=w+1;omega) _
     have hGf:=HE.2.1.same (W:=Wf) λg hg=>by
      rw[bG,Below.heap_setCell _ _ _ _ (HE.2.2.2.2 g hg),Below.heap_setCell _ _ _ _ (HE.2.2.2.2 g hg)]
     exact ⟨DD,.inr ⟨gs,rws,aN,_,HE.1,HE.2.2.2.1,rfl,hGf.mc⟩⟩
end Go.Proofs.YthamegenljmgmaaGreatDoor
