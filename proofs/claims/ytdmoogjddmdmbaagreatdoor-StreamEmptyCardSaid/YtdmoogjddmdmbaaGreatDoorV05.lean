/- Walks. -/
set_option maxRecDepth 100000
set_option maxHeartbeats 16000000
set_option linter.unusedVariables false
set_option linter.unusedSimpArgs false
namespace Go.Proofs.YtdmoogjddmdmbaaGreatDoor
section
set_option linter.unusedVariables false
set_option linter.unusedSimpArgs false
structure Pb where
 sets:List (List (Nat×Nat))
 fol:List (List Nat)
structure dw where
 first:List Nat
 last:List Nat
 emp:Bool
def yR (l:List (Nat×Nat)) (c:Nat):Bool:=l.any λr=>decide (r.1<=c) && decide (c<=r.2)
def bU (b:Pb) (q c:Nat):Bool:=yR ((b.sets[q]?).getD []) c
def de (b:Pb) (q:Nat):List Nat:=(b.fol[q]?).getD []
def wk (b:Pb) (last:List Nat):List Nat->Nat->Prop
 | [],q=>q∈last
 | c::w,q=>∃q'∈de b q,bU b q' c=true/\wk b last w q'
def LP (b:Pb) (x:dw):List Nat->Prop
 | []=>x.emp=true
 | c::w=>∃q∈x.first,bU b q c=true/\wk b x.last w q
def kz (l:List Nat):List Nat->List (List Nat)->List (List Nat)
 | [],fol=>fol
 | p::r,fol=>kz l r (fol.set p ((fol[p]?).getD []++l))
theorem iJ (l:List Nat):∀(ps:List Nat) (fol:List (List Nat)),(kz l ps fol).length=fol.length
 | [],_=>rfl
 | p::r,fol=>by rw[kz,iJ l r];simp
theorem CH (l:List Nat):∀(ps:List Nat) (fol:List (List Nat)) (p q:Nat),(∀x∈ps,x<fol.length)->(q∈((kz l ps fol)[p]?).getD []↔q∈(fol[p]?).getD []\/(p∈ps/\q∈l))
 | [],fol,p,q,_=>by simp[kz]
 | a::r,fol,p,q,h=>by
  rw[kz,CH l r _ p q (λx hx=>by simpa using h x (by simp[hx]))]
  have ha:=h a (by simp)
  by_cases hp:a=p
  .subst hp;rw[List.getElem?_set_self ha];simp only[Option.getD_some,List.mem_append,List.mem_cons,true_or,true_and];constructor
   .rintro ((h | h) | ⟨-,h⟩)
    .exact .inl h
    .exact .inr h
    .exact .inr h
   .rintro (h | h)
    .exact .inl (.inl h)
    .exact .inl (.inr h)
  .rw[List.getElem?_set_ne hp];simp only[List.mem_cons];constructor
   .rintro (h | ⟨h1,h2⟩)
    .exact .inl h
    .exact .inr ⟨.inr h1,h2⟩
   .rintro (h | ⟨rfl | h1,h2⟩)
    .exact .inl h
    .exact absurd rfl hp
    .exact .inr ⟨h1,h2⟩
def cY (b:Pb) (x y:dw):Pb:={ b with fol:=kz y.first x.last b.fol }
def bp (x y:dw):dw:={ first:=if x.emp then x.first++y.first else x.first,last:=if y.emp then x.last++y.last else y.last,emp:=x.emp && y.emp }
def lV (x y:dw):dw:={ first:=x.first++y.first,last:=x.last++y.last,emp:=x.emp || y.emp }
structure dY (b:Pb) (s e:Nat) (x:dw):Prop where
 se:s<=e
 size:e<=b.fol.length
 fst:∀p∈x.first,s<=p/\p<e
 kj:∀p∈x.last,s<=p/\p<e
 cls:∀p,s<=p->p<e->∀q∈de b p,s<=q/\q<e
theorem gq {b:Pb} {x y:dw} (h:∀p∈x.last,p<b.fol.length) (p q:Nat):q∈de (cY b x y) p↔q∈de b p\/(p∈x.last/\q∈y.first):=CH _ _ _ _ _ h
theorem qi {b b':Pb} {s e:Nat} {last:List Nat} (hl:∀p∈last,s<=p/\p<e) (bg:∀p,s<=p->p<e->∀c,bU b' p c=bU b p c)
  (dk:∀p,s<=p->p<e->∀q,s<=q->q<e->(q∈de b' p↔q∈de b p)) (bD:∀p,s<=p->p<e->∀q∈de b p,s<=q/\q<e)
  (vZ:∀p,s<=p->∀q∈de b' p,s<=q) (hout:∀p,e<=p->∀q∈de b' p,e<=q):∀(w:List Nat) (q:Nat),s<=q->(wk b' last w q↔(q<e/\wk b last w q))
 | [],q,_=>⟨λh=>⟨(hl q h).2,h⟩,λh=>h.2⟩
 | c::w,q,hq=>by
  unfold wk;constructor
  .rintro ⟨q',h1,h2,h3⟩;have hs:=vZ q hq q' h1;obtain ⟨hlt,h4⟩:=(qi hl bg dk bD vZ hout w q' hs).1 h3;have Lf:q<e:=by
    by_cases Lf:q<e
    .exact Lf
    .have:=hout q (by omega) q' h1;omega
   exact ⟨Lf,q',(dk q hq Lf q' hs hlt).1 h1,by rw[<-bg q' hs hlt];exact h2,h4⟩
  .rintro ⟨Lf,q',h1,h2,h3⟩;obtain ⟨hs,hlt⟩:=bD q hq Lf q' h1;exact ⟨q',(dk q hq Lf q' hs hlt).2 h1,by rw[bg q' hs hlt];exact h2,(qi hl bg dk bD vZ hout w q' hs).2 ⟨hlt,h3⟩⟩
theorem iE {b:Pb} {s m e:Nat} {x y:dw} (hx:dY b s m x) (hy:dY b m e y):∀(w:List Nat) (q:Nat),m<=q->q<e->(wk (cY b x y) (bp x y).last w q↔wk b y.last w q)
 | [],q,h1,_=>by
  unfold wk bp;simp only
  cases y.emp with
  | false=>simp
  | true=>
   simp only[if_true,List.mem_append];exact ⟨λh=>h.elim (λh=>by have:=(hx.kj q h).2;omega) id, .inr⟩
 | c::w,q,h1,h2=>by
  unfold wk;constructor
  .rintro ⟨q',g1,g2,g3⟩;rcases (gq (λp hp=>by have:=(hx.kj p hp).2;have:=hx.size;omega) q q').1 g1 with g | ⟨g,-⟩
   .obtain ⟨i1,i2⟩:=hy.cls q h1 h2 q' g;exact ⟨q',g,g2,(iE hx hy w q' i1 i2).1 g3⟩
   .have:=(hx.kj q g).2;omega
  .rintro ⟨q',g1,g2,g3⟩;obtain ⟨i1,i2⟩:=hy.cls q h1 h2 q' g1;exact ⟨q',(gq (λp hp=>by have:=(hx.kj p hp).2;have:=hx.size;omega) q q').2 (.inl g1),g2,(iE hx hy w q' i1 i2).2 g3⟩
theorem qj {b:Pb} {s m e:Nat} {x y:dw} (hx:dY b s m x) (hy:dY b m e y):∀(w:List Nat) (q:Nat),s<=q->q<m->(wk (cY b x y) (bp x y).last w q↔∃u v,w=u++v/\wk b x.last u q/\LP b y v)
 | [],q,_,h2=>by
  unfold wk bp;simp only;constructor
  .intro h
   cases he:y.emp with
   | false=>
    rw[he]at h;have:=(hy.kj q (by simpa using h)).1
    omega
   | true=>
    rw[he]at h;simp only[if_true,List.mem_append]at h;refine ⟨[],[],rfl,?_,he⟩;exact h.elim id λh=>by have:=(hy.kj q h).1;omega
  .rintro ⟨u,v,h,h3,h4⟩;obtain ⟨rfl,rfl⟩:=List.append_eq_nil_iff.1 h.symm;have he:y.emp=true:=h4;rw[he];simp only[if_true,List.mem_append];exact .inl h3
 | c::w,q,h1,h2=>by
  have yS:=gq (b:=b) (x:=x) (y:=y) (λp hp=>by have:=(hx.kj p hp).2;have:=hx.size;have:=hx.se;omega) q
  constructor
  .intro h;unfold wk at h;obtain ⟨q',g1,g2,g3⟩:=h;rcases (yS q').1 g1 with g | ⟨g,g'⟩
   .obtain ⟨i1,i2⟩:=hx.cls q h1 h2 q' g;obtain ⟨u,v,rfl,j1,j2⟩:=(qj hx hy w q' i1 i2).1 g3;exact ⟨c::u,v,rfl,⟨q',g,g2,j1⟩,j2⟩
   .obtain ⟨i1,i2⟩:=hy.fst q' g';exact ⟨[],c::w,rfl,g,q',g',g2,(iE hx hy w q' i1 i2).1 g3⟩
  .rintro ⟨u,v,h,j1,j2⟩;unfold wk
   cases u with
   | nil=>
    rw[List.nil_append]at h;subst h;obtain ⟨q',g1,g2,g3⟩:=j2;obtain ⟨i1,i2⟩:=hy.fst q' g1;exact ⟨q',(yS q').2 (.inr ⟨j1,g1⟩),g2,(iE hx hy w q' i1 i2).2 g3⟩
   | cons a u=>
    injection h with h3 h4;subst h3 h4;obtain ⟨q',g1,g2,g3⟩:=j1;obtain ⟨i1,i2⟩:=hx.cls q h1 h2 q' g1;exact ⟨q',(yS q').2 (.inl g1),g2,(qj hx hy _ q' i1 i2).2 ⟨u,v,rfl,g3,j2⟩⟩
theorem BF {b:Pb} {s m e:Nat} {x y:dw} (hx:dY b s m x) (hy:dY b m e y):dY (cY b x y) s e (bp x y):=by
 have h1:=hx.se;have h2:=hy.se;refine ⟨by omega,by unfold cY;rw[iJ];exact hy.size,λp hp=>?_,λp hp=>?_,λp hp1 JF q hq=>?_⟩
 .unfold bp at hp;simp only at hp
  split at hp
  .rcases List.mem_append.1 hp with h | h
   .have:=hx.fst p h;omega
   .have:=hy.fst p h;omega
  .have:=hx.fst p hp;omega
 .unfold bp at hp;simp only at hp
  split at hp
  .rcases List.mem_append.1 hp with h | h
   .have:=hx.kj p h;omega
   .have:=hy.kj p h;omega
  .have:=hy.kj p hp;omega
 .rcases (gq (λp hp=>by have:=(hx.kj p hp).2;have:=hx.size;omega) p q).1 hq with h | ⟨h,h'⟩
  .by_cases LQ:p<m
   .have:=hx.cls p hp1 LQ q h;omega
   .have:=hy.cls p (by omega) JF q h;omega
  .have:=hy.fst q h';omega
theorem Nr {b:Pb} {s m e:Nat} {x y:dw} (hx:dY b s m x) (hy:dY b m e y) (w:List Nat):LP (cY b x y) (bp x y) w↔∃u v,w=u++v/\LP b x u/\LP b y v:=by
 cases w with
 | nil=>
  show (x.emp && y.emp)=true↔_;rw[Bool.and_eq_true];constructor
  .rintro ⟨h1,h2⟩;exact ⟨[],[],rfl,h1,h2⟩
  .rintro ⟨u,v,h,h1,h2⟩;obtain ⟨rfl,rfl⟩:=List.append_eq_nil_iff.1 h.symm;exact ⟨h1,h2⟩
 | cons c w=>
  have hf:∀q,q∈(bp x y).first↔q∈x.first\/(x.emp=true/\q∈y.first):=λq=>by
   unfold bp;simp only
   cases x.emp <;> simp
  constructor
  .rintro ⟨q,h1,h2,h3⟩;rcases (hf q).1 h1 with h | ⟨h,h'⟩
   .obtain ⟨i1,i2⟩:=hx.fst q h;obtain ⟨u,v,rfl,j1,j2⟩:=(qj hx hy w q i1 i2).1 h3;exact ⟨c::u,v,rfl,⟨q,h,h2,j1⟩,j2⟩
   .obtain ⟨i1,i2⟩:=hy.fst q h';exact ⟨[],c::w,rfl,h,q,h',h2,(iE hx hy w q i1 i2).1 h3⟩
  .rintro ⟨u,v,h,j1,j2⟩
   cases u with
   | nil=>
    rw[List.nil_append]at h;subst h;obtain ⟨q,g1,g2,g3⟩:=j2;obtain ⟨i1,i2⟩:=hy.fst q g1;exact ⟨q,(hf q).2 (.inr ⟨j1,g1⟩),g2,(iE hx hy w q i1 i2).2 g3⟩
   | cons a u=>
    injection h with h3 h4;subst h3 h4;obtain ⟨q,g1,g2,g3⟩:=j1;obtain ⟨i1,i2⟩:=hx.fst q g1;exact ⟨q,(hf q).2 (.inl g1),g2,(qj hx hy _ q i1 i2).2 ⟨u,v,rfl,g3,j2⟩⟩
end
section
set_option linter.unusedVariables false
set_option linter.unusedSimpArgs false
structure Au where
 em:Prop
 P:List Nat->Prop
 fi:List Nat->Prop
 la:List Nat->Prop
 fo:List Nat->List Nat->Prop
 sr:List Nat->Nat->Prop
instance amP:Inhabited Au:=⟨⟨False,λ_=>False,λ_=>False,λ_=>False,λ_ _=>False,λ_ _=>False⟩⟩
def Bz (rs:List (Nat×Nat)):Au:=⟨False,λπ=>π=[],λπ=>π=[],λπ=>π=[],λ_ _=>False,λπ c=>π=[]/\yR rs c=true⟩
def eT (n:Nat) (F:Nat->Au):Au where
 em:=∀k,k<n->(F k).em
 P | []=>False | k::π=>k<n/\(F k).P π
 fi | []=>False | k::π=>k<n/\(F k).fi π/\∀j,j<k->(F j).em
 la | []=>False | k::π=>k<n/\(F k).la π/\∀j,k<j->j<n->(F j).em
 fo | k::π,l::ρ=>k<n/\l<n/\((k=l/\(F k).fo π ρ)\/(k<l/\(F k).la π/\(F l).fi ρ/\∀j,k<j->j<l->(F j).em)) | _,_=>False
 sr | [],_=>False | k::π,c=>k<n/\(F k).sr π c
def su (n:Nat) (F:Nat->Au):Au where
 em:=∃k,k<n/\(F k).em
 P | []=>False | k::π=>k<n/\(F k).P π
 fi | []=>False | k::π=>k<n/\(F k).fi π
 la | []=>False | k::π=>k<n/\(F k).la π
 fo | k::π,l::ρ=>k<n/\k=l/\(F k).fo π ρ | _,_=>False
 sr | [],_=>False | k::π,c=>k<n/\(F k).sr π c
def IC (mn n i:Nat) (A:Au):Au where
 em:=A.em\/mn<=i
 P | []=>False | k::π=>i<=k/\k<n/\A.P π
 fi | []=>False | k::π=>i<=k/\k<n/\A.fi π/\(k=i\/A.em)
 la | []=>False | k::π=>i<=k/\k<n/\A.la π/\(mn<=k+1\/A.em)
 fo | k::π,l::ρ=>i<=k/\l<n/\((k=l/\A.fo π ρ)\/(k<l/\A.la π/\A.fi ρ/\(l=k+1\/A.em))) | _,_=>False
 sr | [],_=>False | k::π,c=>i<=k/\k<n/\A.sr π c
structure tK (L:Nat->List Nat) (b:Pb) (s e:Nat) (x:dw) (A:Au):Prop where
 inj:∀p q,s<=p->p<e->s<=q->q<e->L p=L q->p=q
 onto:∀π,A.P π->∃p,s<=p/\p<e/\L p=π
 pos:∀p,s<=p->p<e->A.P (L p)
 em:x.emp=true↔A.em
 fi:∀p,s<=p->p<e->(p∈x.first↔A.fi (L p))
 la:∀p,s<=p->p<e->(p∈x.last↔A.la (L p))
 fo:∀p q,s<=p->p<e->s<=q->q<e->(q∈de b p↔A.fo (L p) (L q))
 sr:∀p c,s<=p->p<e->(bU b p c=true↔A.sr (L p) c)
def Qj (L1 L2:Nat->List Nat) (m n:Nat) (p:Nat):List Nat:=if p<m then L1 p else n::L2 p
theorem tK.glue {L1 L2:Nat->List Nat} {b1 b2 b:Pb} {s m e n:Nat} {x y z:dw} {A1 A2 B:Au} (h1:tK L1 b1 s m x A1) (h2:tK L2 b2 m e y A2)
  (hP:∀π,B.P π↔A1.P π\/∃ρ,π=n::ρ/\A2.P ρ) (hd:∀ρ,¬A1.P (n::ρ)) (eQ:s<=m) (hme:m<=e)
  (KQ:z.emp=true↔B.em)
  (fi1:∀p,s<=p->p<m->(p∈z.first↔B.fi (L1 p))) (fi2:∀p,m<=p->p<e->(p∈z.first↔B.fi (n::L2 p)))
  (la1:∀p,s<=p->p<m->(p∈z.last↔B.la (L1 p))) (la2:∀p,m<=p->p<e->(p∈z.last↔B.la (n::L2 p)))
  (agT:∀p q,s<=p->p<m->s<=q->q<m->(q∈de b p↔B.fo (L1 p) (L1 q))) (agU:∀p q,s<=p->p<m->m<=q->q<e->(q∈de b p↔B.fo (L1 p) (n::L2 q)))
  (agV:∀p q,m<=p->p<e->s<=q->q<m->(q∈de b p↔B.fo (n::L2 p) (L1 q))) (agW:∀p q,m<=p->p<e->m<=q->q<e->(q∈de b p↔B.fo (n::L2 p) (n::L2 q)))
  (sr1:∀p c,s<=p->p<m->(bU b p c=true↔B.sr (L1 p) c)) (sr2:∀p c,m<=p->p<e->(bU b p c=true↔B.sr (n::L2 p) c)):tK (Qj L1 L2 m n) b s e z B:=by
 have g1:∀p,p<m->Qj L1 L2 m n p=L1 p:=λp h=>if_pos h;have g2:∀p,m<=p->Qj L1 L2 m n p=n::L2 p:=λp h=>if_neg (by omega)
 refine ⟨λp q p1 p2 q1 q2 h=>?_,λπ h=>?_,λp p1 p2=>?_,KQ,λp p1 p2=>?_,λp p1 p2=>?_,λp q p1 p2 q1 q2=>?_,λp c p1 p2=>?_⟩
 .by_cases hp:p<m
  .by_cases hq:q<m
   .rw[g1 p hp,g1 q hq]at h;exact h1.inj p q p1 hp q1 hq h
   .rw[g1 p hp,g2 q (by omega)]at h
    exact absurd (h▸h1.pos p p1 hp) (hd _)
  .by_cases hq:q<m
   .rw[g1 q hq,g2 p (by omega)]at h
    exact absurd (h.symm▸h1.pos q q1 hq) (hd _)
   .rw[g2 p (by omega),g2 q (by omega)]at h
    injection h with _ h;exact h2.inj p q (by omega) p2 (by omega) q2 h
 .rcases (hP π).1 h with h | ⟨ρ,rfl,hρ⟩
  .obtain ⟨p,p1,p2,p3⟩:=h1.onto π h;exact ⟨p,p1,by omega,by rw[g1 p p2];exact p3⟩
  .obtain ⟨p,p1,p2,p3⟩:=h2.onto ρ hρ;exact ⟨p,by omega,p2,by rw[g2 p p1,p3]⟩
 .by_cases hp:p<m
  .rw[g1 p hp];exact (hP _).2 (.inl (h1.pos p p1 hp))
  .rw[g2 p (by omega)];exact (hP _).2 (.inr ⟨_,rfl,h2.pos p (by omega) p2⟩)
 .by_cases hp:p<m
  .rw[g1 p hp];exact fi1 p p1 hp
  .rw[g2 p (by omega)];exact fi2 p (by omega) p2
 .by_cases hp:p<m
  .rw[g1 p hp];exact la1 p p1 hp
  .rw[g2 p (by omega)];exact la2 p (by omega) p2
 .by_cases hp:p<m
  .by_cases hq:q<m
   .rw[g1 p hp,g1 q hq];exact agT p q p1 hp q1 hq
   .rw[g1 p hp,g2 q (by omega)];exact agU p q p1 hp (by omega) q2
  .by_cases hq:q<m
   .rw[g2 p (by omega),g1 q hq];exact agV p q (by omega) p2 q1 hq
   .rw[g2 p (by omega),g2 q (by omega)];exact agW p q (by omega) p2 (by omega) q2
 .by_cases hp:p<m
  .rw[g1 p hp];exact sr1 p c p1 hp
  .rw[g2 p (by omega)];exact sr2 p c (by omega) p2
structure Mk (b b':Pb) (x:dw) (A:Au):Prop where
 len:b'.sets.length=b'.fol.length
 sets:∃ns,b'.sets=b.sets++ns
 fol:∃nf,b'.fol=b.fol++nf
 good:dY b' b.fol.length b'.fol.length x
 A0:∃L,tK L b' b.fol.length b'.fol.length x A
section
variable {b b1 b2 b':Pb} {x y:dw} {A A':Au} {n:Nat} {F:Nat->Au}
theorem Mk.ky (h:Mk b b' x A) (hl:b.sets.length=b.fol.length) {p:Nat} (hp:p<b.fol.length) (c:Nat):bU b' p c=bU b p c:=by
 obtain ⟨ns,hs⟩:=h.sets;unfold bU;rw[hs,List.getElem?_append_left (by omega)]
theorem Mk.jA (h:Mk b b' x A) {p:Nat} (hp:p<b.fol.length):de b' p=de b p:=by
 obtain ⟨nf,hf⟩:=h.fol;unfold de;rw[hf,List.getElem?_append_left hp]
theorem dY.LN {z:dw} {s e:Nat} (hx:dY b s e z) (h:Mk b b' x A) (he:e=b.fol.length):dY b' s e z:=by
 have hg:=h.good.size;have hs:=h.good.se;refine ⟨hx.se,by omega,hx.fst,hx.kj,λp h1 h2 q hq=>?_⟩
 rw[h.jA (by omega)]at hq
 exact hx.cls p h1 h2 q hq
theorem Mk.set (b:Pb) (hl:b.sets.length=b.fol.length) (rs:List (Nat×Nat)):Mk b ⟨b.sets++[rs],b.fol++[[]]⟩ ⟨[b.sets.length],[b.sets.length],false⟩ (Bz rs):=by
 have bg:∀c,bU ⟨b.sets++[rs],b.fol++[[]]⟩ b.sets.length c=yR rs c:=λc=>by unfold bU;simp
 have yS:de ⟨b.sets++[rs],b.fol++[[]]⟩ b.sets.length=[]:=by unfold de;simp[hl]
 have one:∀p,b.fol.length<=p->p<(⟨b.sets++[rs],b.fol++[[]]⟩:Pb).fol.length->p=b.sets.length:=λp h1 h2=>by simp at h2;omega
 refine ⟨by simp[hl],⟨_,rfl⟩,⟨_,rfl⟩,⟨by simp,by simp,by simp[hl],by simp[hl],λp h1 h2 q hq=>?_⟩,λ_=>[],λp q p1 p2 q1 q2 _=>?_,λπ h=>⟨b.sets.length,by omega,by simp[hl],h.symm⟩,λp _ _=>rfl,by simp[Bz],λp p1 p2=>?_,λp p1 p2=>?_,λp q p1 p2 q1 q2=>?_,λp c p1 p2=>?_⟩
 .rw[one p h1 h2,yS]at hq;cases hq
 .rw[one p p1 p2,one q q1 q2]
 .simp[Bz,one p p1 p2]
 .simp[Bz,one p p1 p2]
 .rw[one p p1 p2,yS];simp[Bz]
 .rw[one p p1 p2,bg];simp[Bz]
theorem Mk.nil (b:Pb) (hl:b.sets.length=b.fol.length) (hA:∀π,¬A.P π) (he:A.em):Mk b b ⟨[],[],true⟩ A:=
 ⟨hl,⟨[],by simp⟩,⟨[],by simp⟩,⟨Nat.le_refl _,Nat.le_refl _,by simp,by simp,λp h1 h2=>by omega⟩,λ_=>[],λp q p1 p2=>by omega,λπ h=>absurd h (hA π),λp p1 p2=>by omega,by simp[he],λp p1 p2=>by omega,λp p1 p2=>by omega,λp q p1 p2=>by omega,λp c p1 p2=>by omega⟩
theorem BA (l:List Nat) (k:Nat):∀(ps:List Nat) (fol:List (List Nat)),(∀p∈ps,k<=p)->(kz l ps fol).take k=fol.take k
 | [],_,_=>rfl
 | a::r,fol,h=>by rw[kz,BA l k r _ (λp hp=>h p (by simp[hp])),List.take_set_of_le (h a (by simp))]
theorem Qk {k:Nat} (hl:k<=b2.fol.length) (h:∀p∈x.last,k<=p) {f:List (List Nat)} (hf:b2.fol.take k=f):(cY b2 x y).fol=f++(cY b2 x y).fol.drop k:=by
 have:(cY b2 x y).fol.take k=f:=by unfold cY;rw[BA _ _ _ _ h];exact hf
 rw[<-this,List.take_append_drop]
theorem BB (b:Pb) (x y:dw) (p c:Nat):bU (cY b x y) p c=bU b p c:=rfl
theorem BC {x y:dw} {p:Nat}:p∈(bp x y).first↔p∈x.first\/(x.emp=true/\p∈y.first):=by
 unfold bp; simp only; cases x.emp <;> simp
theorem BD {x y:dw} {p:Nat}:p∈(bp x y).last↔p∈y.last\/(y.emp=true/\p∈x.last):=by
 unfold bp; simp only; cases y.emp <;> simp[or_comm]
theorem tK.Ql {L1 L2:Nat->List Nat} {s m e:Nat} (h1:tK L1 b1 s m x (eT n F)) (h2:tK L2 b2 m e y (F n)) (g1:dY b2 s m x) (g2:dY b2 m e y)
  (hf:∀p,p<m->de b2 p=de b1 p) (hs:∀p c,p<m->bU b2 p c=bU b1 p c):tK (Qj L1 L2 m n) (cY b2 x y) s e (bp x y) (eT (n+1) F):=by
 have fo:=gq (b:=b2) (x:=x) (y:=y) (λp hp=>by have:=(g1.kj p hp).2;have:=g2.size;have:=g2.se;omega)
 have hx:∀p,s<=p->p<m->∃k π,L1 p=k::π/\k<n/\(F k).P π:=λp p1 p2=>by
  have:=h1.pos p p1 p2
  cases hL:L1 p with
  | nil=>rw[hL]at this;exact this.elim
  | cons k π=>rw[hL]at this;exact ⟨k,π,rfl,this⟩
 have ny:∀{p},p<m->p∉y.first:=λhp h=>by have:=(g2.fst _ h).1;omega
 have ny':∀{p},p<m->p∉y.last:=λhp h=>by have:=(g2.kj _ h).1;omega
 have nx:∀{p},m<=p->p∉x.first:=λhp h=>by have:=(g1.fst _ h).2;omega
 have YL:∀{p},m<=p->p∉x.last:=λhp h=>by have:=(g1.kj _ h).2;omega
 refine tK.glue h1 h2 (λπ=>?_) (λρ h=>by have:=h.1;omega) g1.se g2.se ?_ (λp p1 p2=>?_) (λp p1 p2=>?_) (λp p1 p2=>?_) (λp p1 p2=>?_) (λp q p1 p2 q1 q2=>?_) (λp q p1 p2 q1 q2=>?_) (λp q p1 p2 q1 q2=>?_) (λp q p1 p2 q1 q2=>?_) (λp c p1 p2=>?_) (λp c p1 p2=>?_)
 .cases π with
  | nil=>simp[eT]
  | cons k π=>
   simp only[eT,List.cons.injEq];constructor
   .rintro ⟨h,h3⟩;by_cases hk:k=n
    .subst hk;exact .inr ⟨π,⟨rfl,rfl⟩,h3⟩
    .exact .inl ⟨by omega,h3⟩
   .rintro (⟨h,h3⟩ | ⟨ρ,⟨rfl,rfl⟩,h3⟩)
    .exact ⟨by omega,h3⟩
    .exact ⟨by omega,h3⟩
 .show (x.emp && y.emp)=true↔_;rw[Bool.and_eq_true,h1.em,h2.em];constructor
  .rintro ⟨h3,h4⟩ k hk;by_cases hkn:k=n
   .subst hkn;exact h4
   .exact h3 k (by omega)
  .exact λh=>⟨λk hk=>h k (by omega),h n (by omega)⟩
 .rw[BC,h1.fi p p1 p2];obtain ⟨k,π,hL,hk,-⟩:=hx p p1 p2;rw[hL];simp only[eT];constructor
  .rintro (⟨-,h⟩ | ⟨-,h⟩)
   .exact ⟨by omega,h⟩
   .exact absurd h (ny p2)
  .exact λh=>.inl ⟨hk,h.2⟩
 .rw[BC,h2.fi p p1 p2,h1.em];simp only[eT];constructor
  .rintro (h | ⟨h,h3⟩)
   .exact absurd h (nx p1)
   .exact ⟨by omega,h3,h⟩
  .exact λh=>.inr ⟨h.2.2,h.2.1⟩
 .rw[BD,h1.la p p1 p2,h2.em];obtain ⟨k,π,hL,hk,-⟩:=hx p p1 p2;rw[hL];simp only[eT];constructor
  .rintro (h | ⟨h,h3,h4,h5⟩)
   .exact absurd h (ny' p2)
   .refine ⟨by omega,h4,λj h6 h7=>?_⟩
    by_cases hj:j=n
    .subst hj;exact h
    .exact h5 j h6 (by omega)
  .exact λ⟨_,h4,h5⟩=>.inr ⟨h5 n (by omega) (by omega),hk,h4,λj h6 h7=>h5 j h6 (by omega)⟩
 .rw[BD,h2.la p p1 p2];simp only[eT];constructor
  .rintro (h | ⟨-,h⟩)
   .exact ⟨by omega,h,λj h6 h7=>by omega⟩
   .exact absurd h (YL p1)
  .exact λh=>.inl h.2.1
 .rw[fo,hf p p2,h1.fo p q p1 p2 q1 q2];obtain ⟨k,π,hL,hk,-⟩:=hx p p1 p2;obtain ⟨l,ρ,hM,hl,-⟩:=hx q q1 q2;rw[hL,hM];simp only[eT];constructor
  .rintro (h | ⟨-,h⟩)
   .exact ⟨by omega,by omega,h.2.2⟩
   .exact absurd h (ny q2)
  .exact λh=>.inl ⟨hk,hl,h.2.2⟩
 .rw[fo,h1.la p p1 p2,h2.fi q q1 q2];obtain ⟨k,π,hL,hk,-⟩:=hx p p1 p2;rw[hL];simp only[eT];constructor
  .rintro (h | ⟨⟨-,h3,h4⟩,h⟩)
   .have:=(g1.cls p p1 p2 q h).2;omega
   .exact ⟨by omega,by omega, .inr ⟨hk,h3,h,h4⟩⟩
  .rintro ⟨-,-,⟨h,-⟩ | ⟨-,h3,h,h4⟩⟩
   .omega
   .exact .inr ⟨⟨hk,h3,h4⟩,h⟩
 .obtain ⟨l,ρ,hM,hl,-⟩:=hx q q1 q2;rw[hM,fo];simp only[eT];constructor
  .rintro (h | ⟨h,-⟩)
   .have:=(g2.cls p p1 p2 q h).1;omega
   .exact absurd h (YL p1)
  .rintro ⟨-,-,⟨h,-⟩ | ⟨h,-⟩⟩ <;> omega
 .rw[fo,h2.fo p q p1 p2 q1 q2];simp only[eT];constructor
  .rintro (h | ⟨h,-⟩)
   .exact ⟨by omega,by omega, .inl ⟨trivial,h⟩⟩
   .exact absurd h (YL p1)
  .rintro ⟨-,-,⟨-,h⟩ | ⟨h,-⟩⟩
   .exact .inl h
   .omega
 .rw[BB,hs p c p2,h1.sr p c p1 p2];obtain ⟨k,π,hL,hk,-⟩:=hx p p1 p2;rw[hL];simp only[eT];exact ⟨λh=>⟨by omega,h.2⟩,λh=>⟨hk,h.2⟩⟩
 .rw[BB,h2.sr p c p1 p2];simp only[eT];exact ⟨λh=>⟨by omega,h⟩,λh=>h.2⟩
theorem tK.UJ {L1 L2:Nat->List Nat} {s m e:Nat} (h1:tK L1 b1 s m x (su n F)) (h2:tK L2 b2 m e y (F n)) (g1:dY b2 s m x) (g2:dY b2 m e y)
  (hf:∀p,p<m->de b2 p=de b1 p) (hs:∀p c,p<m->bU b2 p c=bU b1 p c):tK (Qj L1 L2 m n) b2 s e (lV x y) (su (n+1) F):=by
 have hx:∀p,s<=p->p<m->∃k π,L1 p=k::π/\k<n/\(F k).P π:=λp p1 p2=>by
  have:=h1.pos p p1 p2
  cases hL:L1 p with
  | nil=>rw[hL]at this;exact this.elim
  | cons k π=>rw[hL]at this;exact ⟨k,π,rfl,this⟩
 refine tK.glue h1 h2 (λπ=>?_) (λρ h=>by have:=h.1;omega) g1.se g2.se ?_ (λp p1 p2=>?_) (λp p1 p2=>?_) (λp p1 p2=>?_) (λp p1 p2=>?_) (λp q p1 p2 q1 q2=>?_) (λp q p1 p2 q1 q2=>?_) (λp q p1 p2 q1 q2=>?_) (λp q p1 p2 q1 q2=>?_) (λp c p1 p2=>?_) (λp c p1 p2=>?_)
 .cases π with
  | nil=>simp[su]
  | cons k π=>
   simp only[su,List.cons.injEq];constructor
   .rintro ⟨h,h3⟩;by_cases hk:k=n
    .subst hk;exact .inr ⟨π,⟨rfl,rfl⟩,h3⟩
    .exact .inl ⟨by omega,h3⟩
   .rintro (⟨h,h3⟩ | ⟨ρ,⟨rfl,rfl⟩,h3⟩)
    .exact ⟨by omega,h3⟩
    .exact ⟨by omega,h3⟩
 .show (x.emp || y.emp)=true↔_;rw[Bool.or_eq_true,h1.em,h2.em];constructor
  .rintro (⟨k,h3,h4⟩ | h)
   .exact ⟨k,by omega,h4⟩
   .exact ⟨n,by omega,h⟩
  .rintro ⟨k,hk,h⟩;by_cases hkn:k=n
   .subst hkn;exact .inr h
   .exact .inl ⟨k,by omega,h⟩
 .obtain ⟨k,π,hL,hk,-⟩:=hx p p1 p2;show p∈x.first++y.first↔_;rw[List.mem_append,h1.fi p p1 p2,hL];exact ⟨λh=>h.elim (λh=>⟨by omega,h.2⟩) λh=>by have:=(g2.fst p h).1;omega,λh=>.inl ⟨hk,h.2⟩⟩
 .show p∈x.first++y.first↔_;rw[List.mem_append,h2.fi p p1 p2];exact ⟨λh=>h.elim (λh=>by have:=(g1.fst p h).2;omega) λh=>⟨by omega,h⟩,λh=>.inr h.2⟩
 .obtain ⟨k,π,hL,hk,-⟩:=hx p p1 p2;show p∈x.last++y.last↔_;rw[List.mem_append,h1.la p p1 p2,hL];exact ⟨λh=>h.elim (λh=>⟨by omega,h.2⟩) λh=>by have:=(g2.kj p h).1;omega,λh=>.inl ⟨hk,h.2⟩⟩
 .show p∈x.last++y.last↔_;rw[List.mem_append,h2.la p p1 p2];exact ⟨λh=>h.elim (λh=>by have:=(g1.kj p h).2;omega) λh=>⟨by omega,h⟩,λh=>.inr h.2⟩
 .rw[hf p p2,h1.fo p q p1 p2 q1 q2];obtain ⟨k,π,hL,hk,-⟩:=hx p p1 p2;obtain ⟨l,ρ,hM,hl,-⟩:=hx q q1 q2;rw[hL,hM];exact ⟨λh=>⟨by omega,h.2⟩,λh=>⟨hk,h.2⟩⟩
 .obtain ⟨k,π,hL,hk,-⟩:=hx p p1 p2;rw[hL];exact ⟨λh=>by have:=(g1.cls p p1 p2 q h).2;omega,λh=>by have:=h.2.1;omega⟩
 .obtain ⟨l,ρ,hM,hl,-⟩:=hx q q1 q2;rw[hM];exact ⟨λh=>by have:=(g2.cls p p1 p2 q h).1;omega,λh=>by have:=h.2.1;omega⟩
 .rw[h2.fo p q p1 p2 q1 q2];exact ⟨λh=>⟨by omega,rfl,h⟩,λh=>h.2.2⟩
 .rw[hs p c p2,h1.sr p c p1 p2];obtain ⟨k,π,hL,hk,-⟩:=hx p p1 p2;rw[hL];exact ⟨λh=>⟨by omega,h.2⟩,λh=>⟨hk,h.2⟩⟩
 .rw[h2.sr p c p1 p2];exact ⟨λh=>⟨by omega,h⟩,λh=>h.2⟩
theorem Mk.Ql (h1:Mk b b1 x (eT n F)) (h2:Mk b1 b2 y (F n)):Mk b (cY b2 x y) (bp x y) (eT (n+1) F):=by
 have hx:=h1.good.LN h2 rfl;obtain ⟨UK,vS⟩:=h1.sets;obtain ⟨Ba,xu⟩:=h2.sets;obtain ⟨nf1,gI⟩:=h1.fol;obtain ⟨nf2,eg⟩:=h2.fol;obtain ⟨L1,l1⟩:=h1.A0;obtain ⟨L2,l2⟩:=h2.A0;have q1:=h1.good.se;have q2:=h2.good.se;have hlen:(cY b2 x y).fol.length=b2.fol.length:=by unfold cY;rw[iJ]
 refine ⟨by rw[hlen];exact h2.len,⟨UK++Ba,by show b2.sets=_;rw[xu,vS,List.append_assoc]⟩,⟨_,Qk (by omega) (λp hp=>(h1.good.kj p hp).1) (f:=b.fol) (by rw[eg,gI,List.append_assoc,List.take_left])⟩,by rw[hlen];exact BF hx h2.good,Qj L1 L2 b1.fol.length n,?_⟩
 rw[hlen];exact l1.Ql l2 hx h2.good (λp hp=>h2.jA hp) (λp c hp=>h2.ky h1.len hp c)
theorem Mk.UJ (h1:Mk b b1 x (su n F)) (h2:Mk b1 b2 y (F n)):Mk b b2 (lV x y) (su (n+1) F):=by
 have hx:=h1.good.LN h2 rfl;have hy:=h2.good;obtain ⟨UK,vS⟩:=h1.sets;obtain ⟨Ba,xu⟩:=h2.sets;obtain ⟨nf1,gI⟩:=h1.fol;obtain ⟨nf2,eg⟩:=h2.fol;obtain ⟨L1,l1⟩:=h1.A0;obtain ⟨L2,l2⟩:=h2.A0;have q1:=hx.se;have q2:=hy.se;refine ⟨h2.len,⟨UK++Ba,by rw[xu,vS,List.append_assoc]⟩,⟨nf1++nf2,by rw[eg,gI,List.append_assoc]⟩,⟨by omega,Nat.le_refl _,λp hp=>?_,λp hp=>?_,λp p1 p2 q hq=>?_⟩,_,l1.UJ l2 hx hy (λp hp=>h2.jA hp) (λp c hp=>h2.ky h1.len hp c)⟩
 .rcases List.mem_append.1 hp with h | h
  .have:=hx.fst p h;omega
  .have:=hy.fst p h;omega
 .rcases List.mem_append.1 hp with h | h
  .have:=hx.kj p h;omega
  .have:=hy.kj p h;omega
 .by_cases LQ:p<b1.fol.length
  .have:=hx.cls p p1 LQ q hq;omega
  .have:=hy.cls p (by omega) p2 q hq;omega
def orP (x:dw) (e:Bool):dw:={ x with emp:=x.emp || e }
theorem tK.rep {L:Nat->List Nat} {s e mn:Nat} {z:dw} (h:tK L b s e x (eT n λ_=>A)) (hmn:mn<=n) (hn:0<n) (he:z.emp=true↔A.em\/mn=0) (Em:∀p,s<=p->p<e->(p∈z.first↔p∈x.first))
  (gu:∀p,s<=p->p<e->(p∈z.last↔(IC mn n 0 A).la (L p))):tK L b s e z (IC mn n 0 A):=by
 refine ⟨h.inj,λπ hπ=>h.onto π ?_,λp p1 p2=>?_,?_,λp p1 p2=>?_,gu,λp q p1 p2 q1 q2=>?_,λp c p1 p2=>?_⟩
 .cases π with
  | nil=>exact hπ
  | cons k π=>exact hπ.2
 .have:=h.pos p p1 p2
  cases hL:L p with
  | nil=>rw[hL]at this;exact this
  | cons k π=>rw[hL]at this;exact ⟨Nat.zero_le _,this⟩
 .rw[he];simp only[IC];exact ⟨λh=>h.imp id λh=>by omega,λh=>h.imp id λh=>by omega⟩
 .rw[Em p p1 p2,h.fi p p1 p2]
  cases hL:L p with
  | nil=>exact Iff.rfl
  | cons k π=>
   simp only[eT,IC];constructor
   .rintro ⟨h1,h2,h3⟩;refine ⟨Nat.zero_le _,h1,h2,?_⟩;by_cases hk:k=0
    .exact .inl hk
    .exact .inr (h3 0 (by omega))
   .rintro ⟨-,h1,h2,h3⟩;exact ⟨h1,h2,λj hj=>h3.resolve_left (by omega)⟩
 .rw[h.fo p q p1 p2 q1 q2]
  cases hL:L p with
  | nil=>exact Iff.rfl
  | cons k π=>
   cases hM:L q with
   | nil=>exact Iff.rfl
   | cons l ρ=>
    simp only[eT,IC];constructor
    .rintro ⟨h1,h2,h3 | ⟨h3,h4,h5,h6⟩⟩
     .exact ⟨Nat.zero_le _,h2, .inl h3⟩
     .refine ⟨Nat.zero_le _,h2, .inr ⟨h3,h4,h5,?_⟩⟩;by_cases hl:l=k+1
      .exact .inl hl
      .exact .inr (h6 (k+1) (by omega) (by omega))
    .rintro ⟨-,h2,h3 | ⟨h3,h4,h5,h6⟩⟩
     .exact ⟨by omega,h2, .inl h3⟩
     .exact ⟨by omega,h2, .inr ⟨h3,h4,h5,λj j1 j2=>h6.resolve_left (by omega)⟩⟩
 .rw[h.sr p c p1 p2]
  cases hL:L p with
  | nil=>exact Iff.rfl
  | cons k π=>exact ⟨λh=>⟨Nat.zero_le _,h⟩,λh=>h.2⟩
theorem tK.one {L:Nat->List Nat} {s e:Nat} (h:tK L b s e x A) (hF:F 0=A):tK (λp=>0::L p) b s e x (su 1 F):=by
 subst hF;refine ⟨λp q p1 p2 q1 q2 e=>h.inj p q p1 p2 q1 q2 (by injection e),λπ hπ=>?_,λp p1 p2=>⟨Nat.one_pos,h.pos p p1 p2⟩,h.em.trans ⟨λh=>⟨0,Nat.one_pos,h⟩,λ⟨k,hk,h⟩=>?_⟩,λp p1 p2=>(h.fi p p1 p2).trans ⟨λh=>⟨Nat.one_pos,h⟩,λh=>h.2⟩,λp p1 p2=>(h.la p p1 p2).trans ⟨λh=>⟨Nat.one_pos,h⟩,λh=>h.2⟩,λp q p1 p2 q1 q2=>(h.fo p q p1 p2 q1 q2).trans ⟨λh=>⟨Nat.one_pos,rfl,h⟩,λh=>h.2.2⟩,λp c p1 p2=>(h.sr p c p1 p2).trans ⟨λh=>⟨Nat.one_pos,h⟩,λh=>h.2⟩⟩
 .cases π with
  | nil=>exact hπ.elim
  | cons k π=>
   obtain ⟨hk,hπ⟩:=hπ;obtain rfl:k=0:=by omega
   obtain ⟨p,p1,p2,p3⟩:=h.onto π hπ;exact ⟨p,p1,p2,by rw[p3]⟩
 .obtain rfl:k=0:=by omega
  exact h
end
end
section
set_option linter.unusedVariables false
set_option linter.unusedSimpArgs false
theorem eI (b:Pb) (l1 l2:List Nat):∀(w:List Nat) (q:Nat),wk b (l1++l2) w q↔wk b l1 w q\/wk b l2 w q
 | [],q=>by unfold wk;exact List.mem_append
 | c::w,q=>by
  unfold wk;constructor
  .rintro ⟨q',h1,h2,h3⟩;rcases (eI b l1 l2 w q').1 h3 with h | h
   .exact .inl ⟨q',h1,h2,h⟩
   .exact .inr ⟨q',h1,h2,h⟩
  .rintro (⟨q',h1,h2,h3⟩ | ⟨q',h1,h2,h3⟩)
   .exact ⟨q',h1,h2,(eI b l1 l2 w q').2 (.inl h3)⟩
   .exact ⟨q',h1,h2,(eI b l1 l2 w q').2 (.inr h3)⟩
theorem zF {b:Pb} {l1 l2:List Nat} (h:∀p,p∈l1↔p∈l2):∀(w:List Nat) (q:Nat),wk b l1 w q↔wk b l2 w q
 | [],q=>h q
 | c::w,q=>by
  unfold wk;exact ⟨λ⟨q',h1,h2,h3⟩=>⟨q',h1,h2,(zF h w q').1 h3⟩,λ⟨q',h1,h2,h3⟩=>⟨q',h1,h2,(zF h w q').2 h3⟩⟩
theorem Fg {b:Pb} {s e:Nat} {last:List Nat} (bD:∀p,s<=p->p<e->∀q∈de b p,s<=q/\q<e):∀(w:List Nat) (q:Nat),s<=q->q<e->wk b last w q->∃p∈last,s<=p/\p<e
 | [],q,h1,h2,h=>⟨q,h,h1,h2⟩
 | c::w,q,h1,h2,h=>by
  unfold wk at h;obtain ⟨q',g1,-,g3⟩:=h;obtain ⟨i1,i2⟩:=bD q h1 h2 q' g1;exact Fg bD w q' i1 i2 g3
structure LA where
 l:List Nat->Prop
 a:Au
structure Wr (b b':Pb) (x:dw) (K:LA):Prop where
 len:b'.sets.length=b'.fol.length
 sets:∃ns,b'.sets=b.sets++ns
 fol:∃nf,b'.fol=b.fol++nf
 good:dY b' b.fol.length b'.fol.length x
 iu:∀w,LP b' x w↔K.l w
 A0:∃L,tK L b' b.fol.length b'.fol.length x K.a
theorem Wr.mk' {b b':Pb} {x:dw} {K:LA} (h:Wr b b' x K):Mk b b' x K.a:=⟨h.len,h.sets,h.fol,h.good,h.A0⟩
theorem Wr.ky {b b':Pb} {x:dw} {K:LA} (h:Wr b b' x K) (hl:b.sets.length=b.fol.length) {p:Nat} (hp:p<b.fol.length) (c:Nat):bU b' p c=bU b p c:=by
 obtain ⟨ns,hs⟩:=h.sets;unfold bU;rw[hs,List.getElem?_append_left (by omega)]
theorem Wr.jA {b b':Pb} {x:dw} {K:LA} (h:Wr b b' x K) {p:Nat} (hp:p<b.fol.length):de b' p=de b p:=by
 obtain ⟨nf,hf⟩:=h.fol;unfold de;rw[hf,List.getElem?_append_left hp]
theorem qk {b:Pb} {p:Nat} (h:b.fol.length<=p):de b p=[]:=by
 unfold de;rw[List.getElem?_eq_none h]
 rfl
theorem dY.later {b b':Pb} {x y:dw} {K:LA} {s e:Nat} (hx:dY b s e x) (h:Wr b b' y K) (he:e=b.fol.length):dY b' s e x:=by
 have hg:=h.good.size;have hs:=h.good.se;refine ⟨hx.se,by omega,hx.fst,hx.kj,λp h1 h2 q hq=>?_⟩
 rw[h.jA (by omega)]at hq
 exact hx.cls p h1 h2 q hq
theorem LP.later {b b':Pb} {x y:dw} {K:LA} {s e:Nat} (hx:dY b s e x) (h:Wr b b' y K) (hl:b.sets.length=b.fol.length) (he:e=b.fol.length) (w:List Nat):LP b' x w↔LP b x w:=by
 have Pq:=hx.se
 cases w with
 | nil=>exact Iff.rfl
 | cons c w=>
  have Ns:=qi (b:=b) (b':=b') (s:=s) (e:=e) (last:=x.last) hx.kj (λp h1 h2 c=>h.ky hl (by omega) c) (λp h1 h2 q _ _=>by rw[h.jA (by omega)]) hx.cls
   (λp h1 q hq=>by
    by_cases hp:p<e
    .rw[h.jA (by omega)]at hq;exact (hx.cls p h1 hp q hq).1
    .by_cases JF:p<b'.fol.length
     .have:=(h.good.cls p (by omega) JF q hq).1;omega
     .rw[qk (by omega)]at hq;cases hq)
   (λp h1 q hq=>by
    by_cases JF:p<b'.fol.length
    .have:=(h.good.cls p (by omega) JF q hq).1;omega
    .rw[qk (by omega)]at hq;cases hq)
  unfold LP;constructor
  .rintro ⟨q,h1,h2,h3⟩;obtain ⟨i1,i2⟩:=hx.fst q h1;exact ⟨q,h1,by rw[<-h.ky hl (by omega)];exact h2,((Ns w q i1).1 h3).2⟩
  .rintro ⟨q,h1,h2,h3⟩;obtain ⟨i1,i2⟩:=hx.fst q h1;exact ⟨q,h1,by rw[h.ky hl (by omega)];exact h2,(Ns w q i1).2 ⟨i2,h3⟩⟩
theorem Wr.set (b:Pb) (hl:b.sets.length=b.fol.length) (rs:List (Nat×Nat)):Wr b ⟨b.sets++[rs],b.fol++[[]]⟩ ⟨[b.sets.length],[b.sets.length],false⟩ ⟨λw=>∃c,w=[c]/\yR rs c=true,Bz rs⟩:=by
 have bg:∀c,bU ⟨b.sets++[rs],b.fol++[[]]⟩ b.sets.length c=yR rs c:=λc=>by unfold bU;simp
 have yS:de ⟨b.sets++[rs],b.fol++[[]]⟩ b.sets.length=[]:=by unfold de;simp[hl]
 refine ⟨by simp[hl],⟨_,rfl⟩,⟨_,rfl⟩,⟨by simp,by simp,by simp[hl],by simp[hl],λp h1 h2 q hq=>?_⟩,λw=>?_,(Mk.set b hl rs).A0⟩
 .have:p=b.sets.length:=by simp at h2;omega
  subst this;rw[yS]at hq
  cases hq
 .cases w with
  | nil=>simp[LP]
  | cons c w=>
   cases w with
   | nil=>simp[LP,wk,bg]
   | cons d w=>simp[LP,wk,yS]
theorem Wr.nil (b:Pb) (hl:b.sets.length=b.fol.length) (F:Nat->Au):Wr b b ⟨[],[],true⟩ ⟨λw=>w=[],eT 0 F⟩:=by
 refine ⟨hl,⟨[],by simp⟩,⟨[],by simp⟩,⟨Nat.le_refl _,Nat.le_refl _,by simp,by simp,λp h1 h2=>by omega⟩,λw=>?_,(Mk.nil b hl (λπ h=>by cases π with | nil=>exact h | cons k π=>exact absurd h.1 (Nat.not_lt_zero _)) (λk h=>absurd h (Nat.not_lt_zero _))).A0⟩
 cases w <;> simp[LP]
theorem Wr.beh {b b1 b2:Pb} {x y:dw} {K L:LA} {n:Nat} {F:Nat->Au} (h1:Wr b b1 x K) (h2:Wr b1 b2 y L) (e1:K.a=eT n F) (e2:L.a=F n):Wr b (cY b2 x y) (bp x y) ⟨λw=>∃u v,w=u++v/\K.l u/\L.l v,eT (n+1) F⟩:=by
 have hx:=h1.good.later h2 rfl;obtain ⟨UK,vS⟩:=h1.sets;obtain ⟨Ba,xu⟩:=h2.sets;obtain ⟨nf1,gI⟩:=h1.fol;obtain ⟨nf2,eg⟩:=h2.fol;have hlen:(cY b2 x y).fol.length=b2.fol.length:=by unfold cY;rw[iJ]
 refine ⟨by rw[hlen];exact h2.len,⟨UK++Ba,by show b2.sets=_;rw[xu,vS,List.append_assoc]⟩,⟨(cY b2 x y).fol.drop b.fol.length,?_⟩,by rw[hlen];exact BF hx h2.good,λw=>?_,(Mk.Ql (e1▸h1.mk') (e2▸h2.mk')).A0⟩
 ·-- the elder positions are untouched
  have dT:(cY b2 x y).fol.take b.fol.length=b.fol:=by
   have gen:∀(ps:List Nat) (fol:List (List Nat)),(∀p∈ps,b.fol.length<=p)->(kz y.first ps fol).take b.fol.length=fol.take b.fol.length:=by
    intro ps
    induction ps with
    | nil=>intro fol _;rfl
    | cons a r ih=>
     intro fol h;rw[kz,ih _ (λp hp=>h p (by simp[hp])),List.take_set_of_le (h a (by simp))]
   unfold cY;simp only;rw[gen _ _ (λp hp=>(h1.good.kj p hp).1),eg,gI,List.append_assoc,List.take_left]
  rw[<-List.take_append_drop b.fol.length (cY b2 x y).fol,dT];simp
 .rw[Nr hx h2.good];constructor
  .rintro ⟨u,v,e,g1,g2⟩;exact ⟨u,v,e,(h1.iu u).1 ((LP.later h1.good h2 h1.len rfl u).1 g1),(h2.iu v).1 g2⟩
  .rintro ⟨u,v,e,g1,g2⟩;exact ⟨u,v,e,(LP.later h1.good h2 h1.len rfl u).2 ((h1.iu u).2 g1),(h2.iu v).2 g2⟩
theorem Wr.eit {b b1 b2:Pb} {x y:dw} {K L:LA} {n:Nat} {F:Nat->Au} (h1:Wr b b1 x K) (h2:Wr b1 b2 y L) (e1:K.a=su n F) (e2:L.a=F n):Wr b b2 (lV x y) ⟨λw=>K.l w\/L.l w,su (n+1) F⟩:=by
 have hx:=h1.good.later h2 rfl;have hy:=h2.good;obtain ⟨UK,vS⟩:=h1.sets;obtain ⟨Ba,xu⟩:=h2.sets;obtain ⟨nf1,gI⟩:=h1.fol;obtain ⟨nf2,eg⟩:=h2.fol;have q1:=hx.se;have q2:=hy.se;refine ⟨h2.len,⟨UK++Ba,by rw[xu,vS,List.append_assoc]⟩,⟨nf1++nf2,by rw[eg,gI,List.append_assoc]⟩,⟨by omega,Nat.le_refl _,λp hp=>?_,λp hp=>?_,λp p1 p2 q hq=>?_⟩,λw=>?_,(Mk.UJ (e1▸h1.mk') (e2▸h2.mk')).A0⟩
 .rcases List.mem_append.1 hp with h | h
  .have:=hx.fst p h;omega
  .have:=hy.fst p h;omega
 .rcases List.mem_append.1 hp with h | h
  .have:=hx.kj p h;omega
  .have:=hy.kj p h;omega
 .by_cases LQ:p<b1.fol.length
  .have:=hx.cls p p1 LQ q hq;omega
  .have:=hy.cls p (by omega) p2 q hq;omega
 .cases w with
  | nil=>
   have e1:=h1.iu [];have e2:=h2.iu [];show (x.emp || y.emp)=true↔_;rw[Bool.or_eq_true];exact ⟨λh=>h.imp e1.1 e2.1,λh=>h.imp e1.2 e2.2⟩
  | cons c w=>
   have e1:LP b2 x (c::w)↔K.l (c::w):=(LP.later h1.good h2 h1.len rfl _).trans (h1.iu _);have e2:=h2.iu (c::w);show _↔(K.l (c::w)\/L.l (c::w));rw[<-e1,<-e2];constructor
   .rintro ⟨q,g1,g2,g3⟩;rcases List.mem_append.1 g1 with g | g
    .obtain ⟨i1,i2⟩:=hx.fst q g;rcases (eI b2 x.last y.last w q).1 g3 with k | k
     .exact .inl ⟨q,g,g2,k⟩
     .obtain ⟨p,p1,p2,p3⟩:=Fg hx.cls w q i1 i2 k;have:=(hy.kj p p1).1;omega
    .obtain ⟨i1,i2⟩:=hy.fst q g;rcases (eI b2 x.last y.last w q).1 g3 with k | k
     .obtain ⟨p,p1,p2,p3⟩:=Fg hy.cls w q i1 i2 k;have:=(hx.kj p p1).2;omega
     .exact .inr ⟨q,g,g2,k⟩
   .rintro (⟨q,g1,g2,g3⟩ | ⟨q,g1,g2,g3⟩)
    .exact ⟨q,List.mem_append_left _ g1,g2,(eI b2 x.last y.last w q).2 (.inl g3)⟩
    .exact ⟨q,List.mem_append_right _ g1,g2,(eI b2 x.last y.last w q).2 (.inr g3)⟩
def zw (K:List Nat->Prop):Nat->List Nat->Prop
 | 0,w=>w=[]
 | k+1,w=>∃u v,w=u++v/\zw K k u/\K v
def MW (K:LA) (i:Nat):LA:=⟨zw K.l i,eT i λ_=>K.a⟩
structure zq (b b':Pb) (K:LA) (j i:Nat) (out all:dw):Prop where
 wr:Wr b b' out (MW K i)
 fst:∀p∈all.first,p∈out.first
 kj:∀p∈all.last,b.fol.length<=p/\p<b'.fol.length
 emp:all.emp=true↔∃k,j<=k/\k<=i/\zw K.l k []
 to:∀c w q,q∈out.first->bU b' q c=true->wk b' all.last w q->∃k,j<=k/\k<=i/\zw K.l k (c::w)
 of:∀c w k,j<=k->k<=i->zw K.l k (c::w)->LP b' all (c::w)
 em:all.emp=true↔K.a.em
 A0:∃L,tK L b' b.fol.length b'.fol.length out (eT i λ_=>K.a)/\(∀p∈out.first,p∈all.first)/\∀p,b.fol.length<=p->p<b'.fol.length->(p∈all.last↔(IC j i 0 K.a).la (L p))
theorem zq.start {b b':Pb} {K:LA} {j:Nat} {out:dw} (h:Wr b b' out (MW K j)) (hj:1<=j):zq b b' K j j out out:=by
 obtain ⟨L,hL⟩:=h.A0;refine ⟨h,λ_ h=>h,h.good.kj,?_,λc w q h1 h2 h3=>⟨j,Nat.le_refl _,Nat.le_refl _,(h.iu _).1 ⟨q,h1,h2,h3⟩⟩,λc w k h1 h2 h3=>?_,hL.em.trans ⟨λh=>h 0 (by omega),λh _ _=>h⟩,L,hL,λ_ h=>h,λp p1 p2=>(hL.la p p1 p2).trans ?_⟩
 .constructor
  .intro he;exact ⟨j,Nat.le_refl _,Nat.le_refl _,(h.iu []).1 he⟩
  .rintro ⟨k,h1,h2,h3⟩;have:k=j:=by omega
   subst this;exact (h.iu []).2 h3
 .have:k=j:=by omega
  subst this;exact (h.iu _).2 h3
 .cases hp:L p with
  | nil=>exact Iff.rfl
  | cons k π=>
   simp only[eT,IC];constructor
   .rintro ⟨h1,h2,h3⟩;refine ⟨Nat.zero_le _,h1,h2,?_⟩;by_cases hk:j<=k+1
    .exact .inl hk
    .exact .inr (h3 (k+1) (by omega) (by omega))
   .rintro ⟨-,h1,h2,h3⟩;exact ⟨h1,h2,λl l1 l2=>h3.resolve_left (by omega)⟩
theorem zq.step {b b1 b2:Pb} {K:LA} {j i:Nat} {out all y:dw} (h:zq b b1 K j i out all) (hy:Wr b1 b2 y K) (Gk:j<=i) (hj:1<=j):zq b (cY b2 out y) K j (i+1) (bp out y) (lV all (bp out y)):=by
 have hb:=h.wr.beh hy (n:=i) (F:=λ_=>K.a) rfl rfl;have hw:Wr b (cY b2 out y) (bp out y) (MW K (i+1)):=⟨hb.len,hb.sets,hb.fol,hb.good,λw=>hb.iu w,hb.A0⟩;have hx:=h.wr.good.later hy rfl;have hlen:(cY b2 out y).fol.length=b2.fol.length:=by unfold cY;rw[iJ]
 have hlt:∀p∈out.last,p<b2.fol.length:=λp hp=>by have:=(hx.kj p hp).2;have:=hy.good.se;have:=hy.good.size;omega
 have Fh:∀p∈out.first,p∈(bp out y).first:=λp hp=>by
  unfold bp;simp only
  split
  .exact List.mem_append_left _ hp
  .exact hp
 have hq:=hy.good.se
 -- what lies within the elder copies reads as it did
 have Ns:=qi (b:=b1) (b':=cY b2 out y) (s:=b.fol.length) (e:=b1.fol.length) (last:=all.last) h.kj
  (λp h1 h2 c=>hy.ky h.wr.len h2 c)
  (λp h1 h2 q h3 h4=>by
   rw[gq hlt,hy.jA h2];exact ⟨λg=>g.elim id λg=>by have:=(hy.good.fst q g.2).1;omega, .inl⟩)
  h.wr.good.cls
  (λp h1 q TU=>by
   rcases (gq hlt p q).1 TU with g | g
   .by_cases hp:p<b1.fol.length
    .rw[hy.jA hp]at g;exact (h.wr.good.cls p h1 hp q g).1
    .by_cases JF:p<b2.fol.length
     .have:=(hy.good.cls p (by omega) JF q g).1;have:=h.wr.good.se;omega
     .rw[qk (by omega)]at g;cases g
   .have:=(hy.good.fst q g.2).1;have:=h.wr.good.se;omega)
  (λp h1 q TU=>by
   rcases (gq hlt p q).1 TU with g | g
   .by_cases JF:p<b2.fol.length
    .exact (hy.good.cls p h1 JF q g).1
    .rw[qk (by omega)]at g;cases g
   .exact (hy.good.fst q g.2).1)
 have bg:∀q c,q<b1.fol.length->bU (cY b2 out y) q c=bU b1 q c:=λq c h2=>hy.ky h.wr.len h2 c;obtain ⟨L,l1,l2,l3⟩:=h.A0;obtain ⟨L2,m1⟩:=hy.A0;have lem:=l1.Ql m1 hx hy.good (λp hp=>hy.jA hp) (λp c hp=>hy.ky h.wr.len hp c);refine ⟨hw,λp hp=>?_,λp hp=>?_,?_,λc w q h1 h2 h3=>?_,λc w k h1 h2 h3=>?_,?_,Qj L L2 b1.fol.length i,by rw[hlen];exact lem,λp hp=>List.mem_append_right _ hp,λp p1 p2=>?_⟩
 .rcases List.mem_append.1 hp with g | g
  .exact Fh p (h.fst p g)
  .exact g
 .rw[hlen];rcases List.mem_append.1 hp with g | g
  .have:=h.kj p g;omega
  .have:=hw.good.kj p g;rw[hlen]at this;exact this
 .show (all.emp || (bp out y).emp)=true↔_;rw[Bool.or_eq_true,h.emp];constructor
  .rintro (⟨k,g1,g2,g3⟩ | g)
   .exact ⟨k,g1,by omega,g3⟩
   .exact ⟨i+1,by omega,Nat.le_refl _,(hw.iu []).1 g⟩
  .rintro ⟨k,g1,g2,g3⟩;by_cases hk:k<=i
   .exact .inl ⟨k,g1,hk,g3⟩
   .have:k=i+1:=by omega
    subst this;exact .inr ((hw.iu []).2 g3)
 .rcases (eI _ all.last (bp out y).last w q).1 h3 with g | g
  ·-- it ends in an elder copy: so it begins in one
   have hq1:b.fol.length<=q:=(hw.good.fst q h1).1;obtain ⟨hlt',g'⟩:=(Ns w q hq1).1 g;have hqo:q∈out.first:=by
    unfold bp at h1;simp only at h1
    split at h1
    .rcases List.mem_append.1 h1 with k | k
     .exact k
     .have:=(hy.good.fst q k).1;omega
    .exact h1
   obtain ⟨k,k1,k2,k3⟩:=h.to c w q hqo (by rw[<-bg q c hlt'];exact h2) g'
   exact ⟨k,k1,by omega,k3⟩
  .exact ⟨i+1,by omega,Nat.le_refl _,(hw.iu _).1 ⟨q,h1,h2,g⟩⟩
 .by_cases hk:k<=i
  .obtain ⟨q,g1,g2,g3⟩:=h.of c w k h1 hk h3;obtain ⟨i1,i2⟩:=h.wr.good.fst q (h.fst q g1);exact ⟨q,List.mem_append_left _ g1,by rw[bg q c i2];exact g2,(eI _ _ _ w q).2 (.inl ((Ns w q i1).2 ⟨i2,g3⟩))⟩
  .have:k=i+1:=by omega
   subst this;obtain ⟨q,g1,g2,g3⟩:=(hw.iu _).2 h3;exact ⟨q,List.mem_append_right _ g1,g2,(eI _ _ _ w q).2 (.inr g3)⟩
 .show (all.emp || (bp out y).emp)=true↔_;rw[Bool.or_eq_true,h.em,lem.em];exact ⟨λh=>h.elim id λh=>h 0 (by omega), .inl⟩
 .rw[hlen]at p2;show p∈all.last++(bp out y).last↔_;rw[List.mem_append,lem.la p p1 p2];by_cases hp:p<b1.fol.length
  .rw[l3 p p1 hp,Qj,if_pos hp];have hP:=l1.pos p p1 hp
   cases hL:L p with
   | nil=>rw[hL]at hP;exact hP.elim
   | cons k π=>
    rw[hL]at hP;have hk:=hP.1;simp only[eT,IC];constructor
    .rintro (⟨-,-,h3⟩ | ⟨-,h2,h3⟩)
     .exact ⟨Nat.zero_le _,by omega,h3⟩
     .exact ⟨Nat.zero_le _,by omega,h2, .inr (h3 i hk (by omega))⟩
    .exact λh=>.inl ⟨Nat.zero_le _,hk,h.2.2⟩
  .rw[Qj,if_neg hp];simp only[eT,IC];constructor
   .rintro (h3 | ⟨-,h2,-⟩)
    .have:=(h.kj p h3).2;omega
    .exact ⟨Nat.zero_le _,by omega,h2, .inl (by omega)⟩
   .exact λh=>.inr ⟨by omega,h.2.2.1,λl l1 l2=>by omega⟩
theorem zq.done {b b':Pb} {K:LA} {j i:Nat} {out all:dw} (h:zq b b' K j i out all) (x:dw) (hf:∀p,p∈x.first↔p∈all.first) (hl:∀p,p∈x.last↔p∈all.last) (mn:Nat) (hj:j=max mn 1) (Gk:j<=i) (he:x.emp=(all.emp || mn == 0)) :
  Wr b b' x ⟨λw=>∃k,mn<=k/\k<=i/\zw K.l k w,IC mn i 0 K.a⟩:=by
 have hg:=h.wr.good;obtain ⟨L,l1,l2,l3⟩:=h.A0;refine ⟨h.wr.len,h.wr.sets,h.wr.fol,⟨hg.se,hg.size,λp hp=>hg.fst p (h.fst p ((hf p).1 hp)),λp hp=>h.kj p ((hl p).1 hp),hg.cls⟩,λw=>?_,L,l1.rep (by omega) (by omega) ?_ (λp _ _=>(hf p).trans ⟨h.fst p,l2 p⟩) (λp p1 p2=>(hl p).trans ((l3 p p1 p2).trans ?_))⟩
 cases w with
 | nil=>
  show x.emp=true↔_;rw[he,Bool.or_eq_true,h.emp];constructor
  .rintro (⟨k,g1,g2,g3⟩ | g)
   .exact ⟨k,by omega,g2,g3⟩
   .exact ⟨0,by simp at g;omega,Nat.zero_le _,rfl⟩
  .rintro ⟨k,g1,g2,g3⟩;by_cases hm:mn=0
   .right;simp[hm]
   .left;exact ⟨k,by omega,g2,g3⟩
 | cons c w=>
  constructor
  .rintro ⟨q,g1,g2,g3⟩;obtain ⟨k,k1,k2,k3⟩:=h.to c w q (h.fst q ((hf q).1 g1)) g2 ((zF hl w q).1 g3);exact ⟨k,by omega,k2,k3⟩
  .rintro ⟨k,g1,g2,g3⟩;have hk:j<=k:=by
    by_cases h0:k=0
    .subst h0;cases g3
    .omega
   obtain ⟨q,q1,q2,q3⟩:=h.of c w k hk g2 g3;exact ⟨q,(hf q).2 q1,q2,(zF hl w q).2 q3⟩
 .rw[he,Bool.or_eq_true,h.em,beq_iff_eq]
 .cases hp:L p with
  | nil=>exact Iff.rfl
  | cons k π=>
   simp only[IC];exact ⟨λh=>⟨h.1,h.2.1,h.2.2.1,h.2.2.2.imp (λh=>by omega) id⟩,λh=>⟨h.1,h.2.1,h.2.2.1,h.2.2.2.imp (λh=>by omega) id⟩⟩
end
section
set_option linter.unusedVariables false
set_option linter.unusedSimpArgs false
inductive Nd where
 | mk (op:Int) (rs:List (Nat×Nat)) (kids:List Nd) (mn mx:Int)
def Nd.op:Nd->Int | .mk o _ _ _ _=>o
def Nd.rs:Nd->List (Nat×Nat) | .mk _ r _ _ _=>r
def Nd.kids:Nd->List Nd | .mk _ _ k _ _=>k
def Nd.mn:Nd->Int | .mk _ _ _ m _=>m
def Nd.mx:Nd->Int | .mk _ _ _ _ m=>m
mutual
def aC:Nd->Nat
 | .mk _ _ kids _ _=>1+bF kids
def bF:List Nd->Nat
 | []=>0
 | k::r=>aC k+bF r
end
mutual
def cC:Nd->Nat
 | .mk _ _ kids _ _=>1+dJ kids
def dJ:List Nd->Nat
 | []=>0
 | k::r=>max (cC k) (dJ r)
end
def fN:List (Nat×Nat)->Bool
 | []=>true
 | [a]=>decide (a.1<=a.2)
 | a::c::r=>decide (a.1<=a.2) && (decide (a.2+2<=c.1) && fN (c::r))
def dr:Nd->Bool
 | .mk op rs kids mn mx=>
  if op=1 then !rs.isEmpty && (fN rs && (kids.isEmpty && (decide (mn=0) && decide (mx=0))))
  else if op=2\/op=3 then decide (2<=kids.length) && (rs.isEmpty && (decide (mn=0) && (decide (mx=0) && !(kids.any λk=>k.op == op))))
  else if op=4 then decide (kids.length=1) && (rs.isEmpty && (decide (0<=mn) && (decide (1<=mx) && (decide (mn<=mx) && (decide (mx<=64) && !(decide (mn=1) && decide (mx=1)))))))
  else false
mutual
def aE:Nd->Bool
 | .mk op rs kids mn mx=>dr (.mk op rs kids mn mx) && gm kids
def gm:List Nd->Bool
 | []=>true
 | k::r=>aE k && gm r
end
-- The greatest number of bytes, at most 1025.
mutual
def aN:Nd->Nat
 | .mk op _ kids _ mx=>min (if op=1 then 1 else if op=2 then fI kids else if op=3 then gD kids else mx.toNat*mD kids) 1025
def fI:List Nd->Nat
 | []=>0
 | k::r=>aN k+fI r
def gD:List Nd->Nat
 | []=>0
 | k::r=>max (aN k) (gD r)
def mD:List Nd->Nat
 | []=>0
 | k::_=>aN k
end
-- The number of positions, at most 601.
mutual
def aK:Nd->Nat
 | .mk op _ kids _ mx=>min (if op=1 then 1 else if op=4 then mx.toNat*zv kids else bK kids) 601
def bK:List Nd->Nat
 | []=>0
 | k::r=>aK k+bK r
def zv:List Nd->Nat
 | []=>0
 | k::_=>aK k
end
-- What belongs to a pattern.
mutual
def cI:Nd->List Nat->Prop
 | .mk op rs kids mn mx=>λw=>if op=1 then ∃c,w=[c]/\yR rs c=true else if op=2 then mE kids w else if op=3 then j9 kids w else ∃j:Nat,mn<=(j:Int)/\(j:Int)<=mx/\zw (MY kids) j w
def mE:List Nd->List Nat->Prop
 | []=>λw=>w=[]
 | k::r=>λw=>∃u v,w=u++v/\cI k u/\mE r v
def j9:List Nd->List Nat->Prop
 | []=>λ_=>False
 | k::r=>λw=>cI k w\/j9 r w
def MY:List Nd->List Nat->Prop
 | []=>λ_=>False
 | k::_=>cI k
end
-- The places of a pattern.
def wX (l:List Au) (k:Nat):Au:=(l[k]?).getD default
mutual
def TN:Nd->Au
 | .mk op rs kids mn mx=>if op=1 then Bz rs else if op=2 then eT kids.length (wX (N1 kids)) else if op=3 then su kids.length (wX (N1 kids)) else IC mn.toNat mx.toNat 0 (wX (N1 kids) 0)
def N1:List Nd->List Au
 | []=>[]
 | k::r=>TN k::N1 r
end
theorem qc:∀{l:List Nd} {k:Nat} {kd:Nd},l[k]?=some kd->wX (N1 l) k=TN kd
 | a::l,0,kd,h=>by injection h with h;subst h;unfold wX;rw[N1];rfl
 | a::l,k+1,kd,h=>by
  have:=qc (l:=l) (k:=k) (kd:=kd) h;unfold wX at this|-;rw[N1];exact this
def gN (nd:Nd):LA:=⟨cI nd,TN nd⟩
def gS (kids:List Nd) (k:Nat):LA:=⟨mE (kids.take k),eT k (wX (N1 kids))⟩
def gC (kids:List Nd) (k:Nat):LA:=⟨j9 (kids.take k),su k (wX (N1 kids))⟩
theorem oV (k:Nd):∀(l:List Nd) (w:List Nat),mE (l++[k]) w↔∃u v,w=u++v/\mE l u/\cI k v
 | [],w=>by
  show (∃u v,w=u++v/\cI k u/\mE [] v)↔_;constructor
  .rintro ⟨u,v,rfl,h,h2⟩;have:v=[]:=h2;subst this;exact ⟨[],u,by simp,rfl,h⟩
  .rintro ⟨u,v,rfl,h,h2⟩;have:u=[]:=h;subst this;exact ⟨v,[],by simp,h2,rfl⟩
 | a::l,w=>by
  show (∃u v,w=u++v/\cI a u/\mE (l++[k]) v)↔∃u v,w=u++v/\(∃u1 v1,u=u1++v1/\cI a u1/\mE l v1)/\cI k v;constructor
  .rintro ⟨u,v,rfl,h1,h2⟩;obtain ⟨x,y,rfl,h3,h4⟩:=(oV k l v).1 h2;exact ⟨u++x,y,by simp,⟨u,x,rfl,h1,h3⟩,h4⟩
  .rintro ⟨_,v,rfl,⟨u1,v1,rfl,h1,h2⟩,h3⟩;exact ⟨u1,v1++v,by simp,h1,(oV k l _).2 ⟨v1,v,rfl,h2,h3⟩⟩
theorem vk (k:Nd):∀(l:List Nd) (w:List Nat),j9 (l++[k]) w↔j9 l w\/cI k w
 | [],w=>by show (cI k w\/j9 [] w)↔_;simp[j9]
 | a::l,w=>by
  show (cI a w\/j9 (l++[k]) w)↔(cI a w\/j9 l w)\/cI k w;rw[vk k l w,or_assoc]
theorem iY (n:Nd):aE n=true↔dr n=true/\∀k∈n.kids,aE k=true:=by
 cases n with
 | mk op rs kids mn mx=>
  have gen:∀l:List Nd,gm l=true↔∀k∈l,aE k=true:=by
   intro l
   induction l with
   | nil=>simp[gm]
   | cons k r ih=>rw[gm,Bool.and_eq_true,ih];simp
  rw[aE,Bool.and_eq_true,gen]
  rfl
def Jn (b:Pb) (x:dw) (gs:List (List Nat)) (i:Nat) (w:List Nat):Prop:=
 if i=0 then LP b x w else ∃p∈(gs[i]?).getD [],wk b x.last w p
def nT (b:Pb) (x:dw) (gs:List (List Nat)) (i:Nat) (p:Nat):Prop:=
 if i=0 then p∈x.first else ∃q∈(gs[i]?).getD [],p∈de b q
end
section
set_option linter.unusedVariables false
set_option linter.unusedSimpArgs false
structure Ed where
 lo:Nat
 hi:Nat
 to:Nat
deriving DecidableEq
structure Mc where
 ed:List (List Ed)
 ac:List Bool
deriving DecidableEq
def bS:List Ed->Nat->Option Nat
 | [],_=>none
 | e::r,c=>if e.lo<=c/\c<=e.hi then some e.to else bS r c
def br (m:Mc) (s:Nat):List Ed:=(m.ed[s]?).getD []
def jn (m:Mc):List Nat->Nat->Bool
 | [],s=>(m.ac[s]?).getD false
 | c::w,s=>match bS (br m s) c with
  | none=>false
  | some t=>jn m w t
def cB:Nat->List Ed->Prop
 | _,[]=>True
 | b,e::r=>b<=e.lo/\e.lo<=e.hi/\cB (e.hi+1) r
def wV:List Ed->Prop
 | []=>True
 | [_]=>True
 | e::f::r=>¬(e.hi+1=f.lo/\e.to=f.to)/\wV (f::r)
def uZ:Nat->List Ed->Prop
 | _,[]=>True
 | m,e::r=>e.to<=m+1/\uZ (max m e.to) r
def wT:Nat->List Ed->Nat
 | m,[]=>m
 | m,e::r=>wT (max m e.to) r
def C7:Nat->Nat->List (List Ed)->Prop
 | i,m,[]=>i=m+1
 | i,m,r::rs=>i<=m/\uZ m r/\C7 (i+1) (wT m r) rs
theorem gj:∀{b:Nat} {r:List Ed} {c:Nat},cB b r->c<b->bS r c=none
 | _,[],_,_,_=>rfl
 | b,e::r,c,⟨h1,h2,h3⟩,hc=>by
  rw[bS,if_neg (by omega)]
  exact gj h3 (by omega)
theorem ju:∀{r:List Ed} {c t:Nat},bS r c=some t->∃e∈r,e.lo<=c/\c<=e.hi/\e.to=t
 | [],_,_,h=>by cases h
 | e::r,c,t,h=>by
  rw[bS]at h
  split at h
  .next hc=>exact ⟨e,List.mem_cons_self,hc.1,hc.2,Option.some.inj h⟩
  .obtain ⟨f,hf,h1⟩:=ju h;exact ⟨f,List.mem_cons_of_mem _ hf,h1⟩
structure Canon (m:Mc):Prop where
 len:m.ac.length=m.ed.length
 rR:∀r∈m.ed,cB 0 r
 mx:∀r∈m.ed,wV r
 to:∀r∈m.ed,∀e∈r,e.to<m.ed.length
 live:∀s,s<m.ed.length->∃w,jn m w s=true
 atI:∀s t,s<m.ed.length->t<m.ed.length->(∀w,jn m w s=jn m w t)->s=t
 meet:C7 0 0 m.ed
end
section
set_option linter.unusedVariables false
set_option linter.unusedSimpArgs false
theorem Hi:∀(r1 r2:List Ed) (b:Nat),cB b r1->cB b r2->wV r1->wV r2->(∀c,bS r1 c=bS r2 c)->r1=r2
 | [],[],_,_,_,_,_,_=>rfl
 | [],e::r,_,_,s,_,_,h=>by
  have:=h e.lo;rw[bS,bS,if_pos ⟨Nat.le_refl _,s.2.1⟩]at this
  cases this
 | e::r,[],_,s,_,_,_,h=>by
  have:=h e.lo;rw[bS,bS,if_pos ⟨Nat.le_refl _,s.2.1⟩]at this
  cases this
 | e::r1,f::r2,b,s1,s2,x1,x2,h=>by
  have q1:=s1.2.1;have q2:=s2.2.1;have aD:e.lo=f.lo:=by
   rcases Nat.lt_trichotomy e.lo f.lo with g | g | g
   .have:=h e.lo;rw[bS,if_pos ⟨Nat.le_refl _,q1⟩,gj (b:=f.lo) (r:=f::r2) ⟨Nat.le_refl _,q2,s2.2.2⟩ g]at this
    cases this
   .exact g
   .have:=h f.lo;rw[gj (b:=e.lo) (r:=e::r1) ⟨Nat.le_refl _,q1,s1.2.2⟩ g,bS,if_pos ⟨Nat.le_refl _,q2⟩]at this
    cases this
  have tI:e.to=f.to:=by
   have:=h e.lo;rw[bS,if_pos ⟨Nat.le_refl _,q1⟩,bS,if_pos ⟨by omega,by omega⟩]at this
   exact Option.some.inj this
  have Lc:e.hi=f.hi:=by
   rcases Nat.lt_trichotomy e.hi f.hi with g | g | g
   .exfalso;have hc:=h (e.hi+1);rw[bS,bS,if_neg (by omega),if_pos ⟨by omega,by omega⟩]at hc
    match r1,s1,x1 with
    | [],_,_=>cases hc
    | a::r1,s1,x1=>
     have ha:=s1.2.2;have UX:=ha.1;by_cases nQ:a.lo=e.hi+1
     .rw[bS,if_pos ⟨by omega,by have:=ha.2.1;omega⟩]at hc
      exact x1.1 ⟨nQ.symm,by rw[tI,Option.some.inj hc]⟩
     .rw[gj (b:=a.lo) (r:=a::r1) ⟨Nat.le_refl _,ha.2.1,ha.2.2⟩ (by omega)]at hc
      cases hc
   .exact g
   .exfalso;have hc:=h (f.hi+1);rw[bS,bS,if_pos ⟨by omega,by omega⟩,if_neg (by omega)]at hc
    match r2,s2,x2 with
    | [],_,_=>cases hc
    | a::r2,s2,x2=>
     have ha:=s2.2.2;have UX:=ha.1;by_cases nQ:a.lo=f.hi+1
     .rw[bS,if_pos ⟨by omega,by have:=ha.2.1;omega⟩]at hc
      exact x2.1 ⟨nQ.symm,by rw[<-tI,Option.some.inj hc]⟩
     .rw[gj (b:=a.lo) (r:=a::r2) ⟨Nat.le_refl _,ha.2.1,ha.2.2⟩ (by omega)]at hc
      cases hc
  have sB:e=f:=by
   obtain ⟨a,b,c⟩:=e;obtain ⟨a',b',c'⟩:=f;simp only at aD Lc tI;subst aD Lc tI
   rfl
  subst sB;have x1':wV r1:=by cases r1 with | nil=>trivial | cons g r=>exact x1.2
  have x2':wV r2:=by cases r2 with | nil=>trivial | cons g r=>exact x2.2
  rw[Hi r1 r2 (e.hi+1) s1.2.2 s2.2.2 x1' x2' (λc=>by
   by_cases hc:e.lo<=c/\c<=e.hi
   .rw[gj s1.2.2 (by omega),gj s2.2.2 (by omega)]
   .have:=h c;rw[bS,bS,if_neg hc,if_neg hc]at this;exact this)]
def ye (cls:Nat->Option Nat):Option Ed->List Ed->List Ed
 | p,[]=>p.toList
 | p,e::r=>match cls e.to with
  | none=>ye cls p r
  | some t=>match p with
   | none=>ye cls (some ⟨e.lo,e.hi,t⟩) r
   | some q=>if q.to=t/\q.hi+1=e.lo then ye cls (some ⟨q.lo,e.hi,q.to⟩) r else q::ye cls (some ⟨e.lo,e.hi,t⟩) r
def bJ (cls:Nat->Option Nat) (l:List Ed):List Ed:=ye cls none l
theorem qw {cls:Nat->Option Nat}:∀(l:List Ed) (q:Ed) (b:Nat),cB b l->q.lo<=q.hi->q.hi+1<=b->cB q.lo (ye cls (some q) l)/\wV (ye cls (some q) l)/\(∃h r,ye cls (some q) l=⟨q.lo,h,q.to⟩::r/\q.hi<=h)/\∀c,bS (ye cls (some q) l) c=if q.lo<=c/\c<=q.hi then some q.to else (bS l c).bind cls
 | [],q,b,_,hq,_=>by
  refine ⟨⟨Nat.le_refl _,hq,trivial⟩,trivial,⟨q.hi,[],rfl,Nat.le_refl _⟩,λc=>?_⟩;show bS [q] c=_;rw[bS,bS]
  split <;> rfl
 | e::r,q,b,s,hq,hb=>by
  have s1:=s.1;have s2:=s.2.1;unfold ye
  cases hc:cls e.to with
  | none=>
   obtain ⟨h1,h2,h3,h4⟩:=qw (cls:=cls) r q (e.hi+1) s.2.2 hq (by omega)
   refine ⟨h1,h2,h3,λc=>?_⟩;rw[h4,bS]
   split
   .rfl
   .split
    .rw[gj s.2.2 (by omega),Option.bind_some,hc];rfl
    .rfl
  | some t=>
   simp only;by_cases hj:q.to=t/\q.hi+1=e.lo
   .rw[if_pos hj];obtain ⟨h1,h2,⟨h,r',h3,h5⟩,h4⟩:=qw (cls:=cls) r ⟨q.lo,e.hi,q.to⟩ (e.hi+1) s.2.2 (by show q.lo<=e.hi;omega) (Nat.le_refl _)
    refine ⟨h1,h2,⟨h,r',h3,by have:e.hi<=h:=h5;omega⟩,λc=>?_⟩
    rw[h4,bS];simp only;by_cases c1:q.lo<=c/\c<=q.hi
    .rw[if_pos c1,if_pos (by omega)]
    .rw[if_neg c1];by_cases c2:e.lo<=c/\c<=e.hi
     .rw[if_pos c2,if_pos (by omega),Option.bind_some,hc,hj.1]
     .rw[if_neg c2,if_neg (by omega)]
   .rw[if_neg hj];obtain ⟨h1,h2,⟨h,r',h3,h5⟩,h4⟩:=qw (cls:=cls) r ⟨e.lo,e.hi,t⟩ (e.hi+1) s.2.2 s2 (Nat.le_refl _);refine ⟨⟨Nat.le_refl _,hq,?_⟩,?_,⟨q.hi,_,rfl,Nat.le_refl _⟩,λc=>?_⟩
    .rw[h3]at h1|-;exact ⟨by show q.hi+1<=e.lo;omega,h1.2⟩
    .rw[h3]at h2|-;exact ⟨λhx=>hj ⟨hx.2,hx.1⟩,h2⟩
    .rw[bS,h4,bS];simp only
     split
     .rfl
     .split
      .rw[Option.bind_some,hc]
      .rfl
theorem gB {cls:Nat->Option Nat}:∀(l:List Ed) (b:Nat),cB b l->cB b (bJ cls l)/\wV (bJ cls l)/\∀c,bS (bJ cls l) c=(bS l c).bind cls
 | [],_,_=>⟨trivial,trivial,λ_=>rfl⟩
 | e::r,b,s=>by
  unfold bJ ye
  cases hc:cls e.to with
  | none=>
   obtain ⟨h1,h2,h3⟩:=gB (cls:=cls) r (e.hi+1) s.2.2;have hsl:∀{b b':Nat} {l:List Ed},cB b' l->b<=b'->cB b l:=λ{b b' l} h hb=>by
    cases l with
    | nil=>trivial
    | cons e r=>exact ⟨Nat.le_trans hb h.1,h.2⟩
   refine ⟨hsl h1 (by have:=s.1;have:=s.2.1;omega),h2,λc=>?_⟩
   show bS (bJ cls r) c=_;rw[h3,bS]
   split
   .rw[gj s.2.2 (by omega),Option.bind_some,hc];rfl
   .rfl
  | some t=>
   obtain ⟨h1,h2,-,h4⟩:=qw (cls:=cls) r ⟨e.lo,e.hi,t⟩ (e.hi+1) s.2.2 s.2.1 (Nat.le_refl _);simp only;refine ⟨?_,h2,λc=>?_⟩
   .generalize ye cls (some ⟨e.lo,e.hi,t⟩) r=L at h1
    cases L with
    | nil=>trivial
    | cons a l=>exact ⟨Nat.le_trans s.1 h1.1,h1.2⟩
   .rw[h4,bS];simp only
    split
    .rw[Option.bind_some,hc]
    .rfl
theorem NZ {c1 c2:Nat->Option Nat} {l1 l2:List Ed} (s1:cB 0 l1) (s2:cB 0 l2):bJ c1 l1=bJ c2 l2↔∀c,(bS l1 c).bind c1=(bS l2 c).bind c2:=by
 obtain ⟨a1,a2,a3⟩:=gB (cls:=c1) l1 0 s1;obtain ⟨b1,b2,b3⟩:=gB (cls:=c2) l2 0 s2;constructor
 .intro h c;rw[<-a3,<-b3,h]
 .intro h;exact Hi _ _ 0 a1 b1 a2 b2 λc=>by rw[a3,b3,h]
theorem jW {α:Type} [DecidableEq α]:∀{l r:List α},l.Nodup->(∀x∈l,x∈r)->l.length<=r.length
 | [],_,_,_=>Nat.zero_le _
 | a::l,r,hn,h=>by
  have ha:a∈r:=h a (by simp)
  rw[List.nodup_cons]at hn;have:=jW (l:=l) (r:=r.erase a) hn.2 (λx hx=>(List.mem_erase_of_ne (by rintro rfl;exact hn.1 hx)).2 (h x (by simp[hx])))
  rw[List.length_erase_of_mem ha]at this;have hp:0<r.length:=List.length_pos_of_mem ha;simp only[List.length_cons];omega
theorem zh {σ α β:Type} [DecidableEq α] [DecidableEq β] {S:List σ} {f:σ->α} {g:σ->β} {F:List α} {G:List β} (hF:F.Nodup) (mF:∀x,x∈F↔∃s∈S,f s=x) (mG:∀y,y∈G↔∃s∈S,g s=y)
  (hr:∀s∈S,∀t∈S,g s=g t->f s=f t):F.length<=G.length/\(F.length=G.length->∀s∈S,∀t∈S,f s=f t->g s=g t):=by
 let φ:β->Option α:=λy=>(S.find? (λs=>decide (g s=y))).map f
 have hφ:∀s∈S,φ (g s)=some (f s):=λs hs=>by
  show (S.find? (λu=>decide (g u=g s))).map f=_
  cases h:S.find? (λu=>decide (g u=g s)) with
  | none=>
   have:=List.find?_eq_none.1 h s hs;simp at this
  | some u=>
   have h1:=List.find?_some h;have h2:=List.mem_of_find?_eq_some h;simp only[decide_eq_true_eq]at h1;rw[Option.map_some,hr u h2 s hs h1]
 have Fh:∀G':List β,(∀x∈F,∃s∈S,g s∈G'/\f s=x)->F.length<=G'.length:=λG' h=>by
  have h1:(F.map some).Nodup:=List.Pairwise.map some (λa b hab=>by intro e;exact hab (Option.some.inj e)) hF
  have h2:=jW (l:=F.map some) (r:=G'.map φ) h1 (λx hx=>by
   obtain ⟨a,ha,rfl⟩:=List.mem_map.1 hx;obtain ⟨s,hs,h3,h4⟩:=h a ha;exact List.mem_map.2 ⟨g s,h3,by rw[hφ s hs,h4]⟩)
  simpa using h2
 refine ⟨Fh G λx hx=>?_,λhlen s hs t ht bT=>?_⟩
 .obtain ⟨s,hs,e⟩:=(mF x).1 hx;exact ⟨s,hs,(mG _).2 ⟨s,hs,rfl⟩,e⟩
 .by_cases hg:g s=g t
  .exact hg
  .exfalso;have bW:g t∈G:=(mG _).2 ⟨t,ht,rfl⟩;have:=Fh (G.erase (g t)) λx hx=>by
    obtain ⟨u,hu,e⟩:=(mF x).1 hx;by_cases hgu:g u=g t
    .exact ⟨s,hs,(List.mem_erase_of_ne hg).2 ((mG _).2 ⟨s,hs,rfl⟩),by rw[bT,<-e,hr u hu t ht hgu]⟩
    .exact ⟨u,hu,(List.mem_erase_of_ne hgu).2 ((mG _).2 ⟨u,hu,rfl⟩),e⟩
   rw[List.length_erase_of_mem bW]at this;have hp:0<G.length:=List.length_pos_of_mem bW;omega
end
section
set_option linter.unusedVariables false
set_option linter.unusedSimpArgs false
structure pL (m:Mc):Prop where
 len:m.ac.length=m.ed.length
 rR:∀r∈m.ed,cB 0 r
 to:∀r∈m.ed,∀e∈r,e.to<m.ed.length
def bc (m:Mc) (s:Nat):Prop:=∃w,jn m w s=true
def Da (m:Mc) (s t:Nat):Prop:=∀w,jn m w s=jn m w t
theorem pL.row {m:Mc} (h:pL m) (s:Nat):cB 0 (br m s)/\∀e∈br m s,e.to<m.ed.length:=by
 unfold br
 cases hs:m.ed[s]? with
 | none=>exact ⟨trivial,λe he=>by cases he⟩
 | some r=>exact ⟨h.rR r (List.mem_of_getElem? hs),h.to r (List.mem_of_getElem? hs)⟩
theorem pL.bz {m:Mc} (h:pL m) {s b t:Nat} (ht:bS (br m s) b=some t):t<m.ed.length:=by
 obtain ⟨e,he,-,-,rfl⟩:=ju ht;exact (h.row s).2 e he
theorem cZ {m:Mc} {s b:Nat} {w:List Nat}:jn m (b::w) s=match bS (br m s) b with | none=>false | some t=>jn m w t:=rfl
theorem JW {m:Mc} {s t b:Nat} (h:Da m s t):(match bS (br m s) b with | none=>∀t',bS (br m t) b=some t'->¬bc m t' | some s'=>match bS (br m t) b with | none=>¬bc m s' | some t'=>Da m s' t'):=by
 cases h1:bS (br m s) b with
 | none=>
  intro t' h2;rintro ⟨w,hw⟩;have:=h (b::w);rw[cZ,cZ,h1,h2]at this;simp only at this;rw[hw]at this
  cases this
 | some s'=>
  cases h2:bS (br m t) b with
  | none=>
   rintro ⟨w,hw⟩;have:=h (b::w);rw[cZ,cZ,h1,h2]at this;simp only at this;rw[hw]at this
   cases this
  | some t'=>
   intro w;have:=h (b::w);rw[cZ,cZ,h1,h2]at this;exact this
def mj (m:Mc) (c:Nat->Option Nat) (s:Nat):Bool×List Ed:=((m.ac[s]?).getD false,bJ c (br m s))
structure ud (m:Mc) (c:Nat->Option Nat):Prop where
 dC:∀s,s<m.ed.length->(c s=none↔¬bc m s)
 coarse:∀s t,s<m.ed.length->t<m.ed.length->bc m s->bc m t->Da m s t->c s=c t
 fine:∀s t,s<m.ed.length->t<m.ed.length->bc m s->bc m t->mj m c s=mj m c t->c s=c t
structure Mo (m:Mc) (c d:Nat->Option Nat):Prop where
 dC:∀s,s<m.ed.length->(d s=none↔¬bc m s)
 eq:∀s t,s<m.ed.length->t<m.ed.length->bc m s->bc m t->(d s=d t↔mj m c s=mj m c t)
theorem qx {m:Mc} {c d:Nat->Option Nat} (h:pL m) {s t:Nat}:mj m c s=mj m d t↔(m.ac[s]?).getD false=(m.ac[t]?).getD false/\∀b,(bS (br m s) b).bind c=(bS (br m t) b).bind d:=by
 unfold mj;rw[Prod.mk.injEq,NZ (h.row s).1 (h.row t).1]
theorem ud.start {m:Mc} (c:Nat->Option Nat) (hd:∀s,s<m.ed.length->(c s=none↔¬bc m s)) (h0:∀s,s<m.ed.length->bc m s->c s=some 0):ud m c:=
 ⟨hd,λs t h1 h2 h3 h4 _=>by rw[h0 s h1 h3,h0 t h2 h4],λs t h1 h2 h3 h4 _=>by rw[h0 s h1 h3,h0 t h2 h4]⟩
theorem ud.next {m:Mc} {c d:Nat->Option Nat} (hv:pL m) (h:ud m c) (hn:Mo m c d):ud m d:=by
 refine ⟨hn.dC,λs t h1 h2 h3 h4 Hj=>?_,λs t h1 h2 h3 h4 he=>?_⟩
 .rw[hn.eq s t h1 h2 h3 h4,qx hv];refine ⟨Hj [],λb=>?_⟩;have:=JW (b:=b) Hj
  cases e1:bS (br m s) b with
  | none=>
   rw[e1]at this
   cases e2:bS (br m t) b with
   | none=>rfl
   | some t'=>
    have hd:=(h.dC t' (hv.bz e2)).2 (this t' e2);simp[hd]
  | some s'=>
   rw[e1]at this
   cases e2:bS (br m t) b with
   | none=>
    rw[e2]at this;have hd:=(h.dC s' (hv.bz e1)).2 this;simp[hd]
   | some t'=>
    rw[e2]at this;simp only[Option.bind_some];by_cases hl:bc m s'
    .have je:bc m t':=by obtain ⟨w,hw⟩:=hl;exact ⟨w,by rw[<-this w];exact hw⟩
     exact h.coarse s' t' (hv.bz e1) (hv.bz e2) hl je this
    .have je:¬bc m t':=λ⟨w,hw⟩=>hl ⟨w,by rw[this w];exact hw⟩
     rw[(h.dC s' (hv.bz e1)).2 hl,(h.dC t' (hv.bz e2)).2 je]
 .rw[hn.eq s t h1 h2 h3 h4,qx hv];obtain ⟨ha,hb⟩:=(qx hv).1 he;refine ⟨ha,λb=>?_⟩;have:=hb b
  cases e1:bS (br m s) b with
  | none=>
   rw[e1]at this
   cases e2:bS (br m t) b with
   | none=>rfl
   | some t'=>
    rw[e2]at this;simp only[Option.bind_none,Option.bind_some]at this|-;exact ((h.dC t' (hv.bz e2)).2 ((hn.dC t' (hv.bz e2)).1 this.symm)).symm
  | some s'=>
   rw[e1]at this
   cases e2:bS (br m t) b with
   | none=>
    rw[e2]at this;simp only[Option.bind_none,Option.bind_some]at this|-;exact (h.dC s' (hv.bz e1)).2 ((hn.dC s' (hv.bz e1)).1 this)
   | some t'=>
    rw[e2]at this;simp only[Option.bind_some]at this|-;by_cases hl:bc m s'
    .have je:bc m t':=by
      by_cases hx:bc m t'
      .exact hx
      .have h5:=(hn.dC t' (hv.bz e2)).2 hx;exact absurd hl ((hn.dC s' (hv.bz e1)).1 (this.trans h5))
     exact h.fine s' t' (hv.bz e1) (hv.bz e2) hl je ((hn.eq s' t' (hv.bz e1) (hv.bz e2) hl je).1 this)
    .have je:¬bc m t':=by
      have h5:=(hn.dC s' (hv.bz e1)).2 hl;rw[h5]at this;exact (hn.dC t' (hv.bz e2)).1 this.symm
     rw[(h.dC s' (hv.bz e1)).2 hl,(h.dC t' (hv.bz e2)).2 je]
structure ue (m:Mc) (c:Nat->Option Nat):Prop where
 dC:∀s,s<m.ed.length->(c s=none↔¬bc m s)
 eq:∀s t,s<m.ed.length->t<m.ed.length->bc m s->bc m t->(c s=c t↔Da m s t)
theorem ud.done {m:Mc} {c d:Nat->Option Nat} (hv:pL m) (h:ud m c) (hn:Mo m c d) (bT:∀s t,s<m.ed.length->t<m.ed.length->bc m s->bc m t->c s=c t->d s=d t):ue m d:=by
 have hd:=h.next hv hn;refine ⟨hn.dC,λs t h1 h2 h3 h4=>⟨?_,hd.coarse s t h1 h2 h3 h4⟩⟩;intro he w
 induction w generalizing s t with
 | nil=>exact ((qx hv).1 ((hn.eq s t h1 h2 h3 h4).1 he)).1
 | cons b w ih=>
  have hb:=((qx hv).1 ((hn.eq s t h1 h2 h3 h4).1 he)).2 b;have dd:∀x,x<m.ed.length->c x=none->jn m w x=false:=λx hx hc=>by
   have:=(h.dC x hx).1 hc
   cases hw:jn m w x with
   | false=>rfl
   | true=>exact absurd ⟨w,hw⟩ this
  rw[cZ,cZ]
  cases e1:bS (br m s) b with
  | none=>
   rw[e1]at hb
   cases e2:bS (br m t) b with
   | none=>rfl
   | some t'=>
    rw[e2]at hb;exact (dd t' (hv.bz e2) hb.symm).symm
  | some s'=>
   rw[e1]at hb
   cases e2:bS (br m t) b with
   | none=>
    rw[e2]at hb;exact dd s' (hv.bz e1) hb
   | some t'=>
    rw[e2]at hb;simp only[Option.bind_some]at hb|-
    cases hc:c s' with
    | none=>
     rw[hc]at hb;rw[dd s' (hv.bz e1) hc,dd t' (hv.bz e2) hb.symm]
    | some k=>
     have l1:bc m s':=by
      by_cases hx:bc m s'
      .exact hx
      .rw[(h.dC s' (hv.bz e1)).2 hx]at hc;cases hc
     have l2:bc m t':=by
      by_cases hx:bc m t'
      .exact hx
      .rw[(h.dC t' (hv.bz e2)).2 hx,hc]at hb;cases hb
     exact ih s' t' (hv.bz e1) (hv.bz e2) l1 l2 (bT s' t' (hv.bz e1) (hv.bz e2) l1 l2 hb)
def dy (f:Nat->Nat) (l:List Ed):List Ed:=l.map λe=>⟨e.lo,e.hi,f e.to⟩
theorem Hk (f:Nat->Nat):∀(l:List Ed) (c:Nat),bS (dy f l) c=(bS l c).map f
 | [],_=>rfl
 | e::r,c=>by
  show bS (_::dy f r) c=_;rw[bS,bS,Hk f r];simp only
  split <;> rfl
theorem Db (f:Nat->Nat):∀(l:List Ed) (b:Nat),cB b l->cB b (dy f l)
 | [],_,_=>trivial
 | _::r,_,h=>⟨h.1,h.2.1,Db f r _ h.2.2⟩
theorem Hl (f:Nat->Nat):∀(l:List Ed),(∀e∈l,∀g∈l,f e.to=f g.to->e.to=g.to)->wV l->wV (dy f l)
 | [],_,_=>trivial
 | [_],_,_=>trivial
 | e::g::r,hf,h=>⟨λhx=>h.1 ⟨hx.1,hf e (by simp) g (by simp) hx.2⟩,Hl f (g::r) (λa ha b hb=>hf a (by simp[ha]) b (by simp[hb])) h.2⟩
def cG (m:Mc) (c:Nat->Option Nat) (f:Nat->Nat) (st:List Nat):Mc:=⟨st.map λs=>dy f (bJ c (br m s)),st.map λs=>(m.ac[s]?).getD false⟩
theorem iW {m:Mc} {c:Nat->Option Nat} {f:Nat->Nat} {st:List Nat} (hv:pL m) (hc:ue m c) (hs:∀s∈st,s<m.ed.length/\bc m s) (hf:∀k s cl,st[k]?=some s->c s=some cl->f cl=k)
  (ht:∀s∈st,∀e∈bJ c (br m s),∃t∈st,c t=some e.to):∀(w:List Nat) (k s:Nat),st[k]?=some s->jn (cG m c f st) w k=jn m w s
 | [],k,s,h=>by
  unfold jn cG;simp only[List.getElem?_map,h,Option.map_some,Option.getD_some]
 | b::w,k,s,h=>by
  have eQ:s∈st:=List.mem_of_getElem? h;have hr:br (cG m c f st) k=dy f (bJ c (br m s)):=by
   show ((cG m c f st).ed[k]?).getD []=_;unfold cG;simp only[List.getElem?_map,h,Option.map_some,Option.getD_some]
  rw[cZ,cZ,hr,Hk,(gB _ _ (hv.row s).1).2.2]
  cases e1:bS (br m s) b with
  | none=>rfl
  | some t=>
   simp only[Option.bind_some];have htl:=hv.bz e1
   cases e2:c t with
   | none=>
    simp only[Option.map_none]
    cases hw:jn m w t with
    | false=>rfl
    | true=>exact absurd ⟨w,hw⟩ ((hc.dC t htl).1 e2)
   | some cl=>
    simp only[Option.map_some];have hj:bS (bJ c (br m s)) b=some cl:=by rw[(gB _ _ (hv.row s).1).2.2,e1,Option.bind_some,e2]
    obtain ⟨e,he,-,-,rfl⟩:=ju hj;obtain ⟨u,hu,lQ⟩:=ht s eQ e he;obtain ⟨j,hj'⟩:=List.mem_iff_getElem?.1 hu;rw[hf j u _ hj' lQ,iW hv hc hs hf ht w j u hj'];have l1:bc m t:=by
     by_cases hx:bc m t
     .exact hx
     .rw[(hc.dC t htl).2 hx]at e2;cases e2
    exact (hc.eq u t (hs u hu).1 htl (hs u hu).2 l1).1 (lQ.trans e2.symm) w
theorem C4 {m:Mc} {c:Nat->Option Nat} {f:Nat->Nat} {st:List Nat} (hv:pL m) (hc:ue m c) (hs:∀s∈st,s<m.ed.length/\bc m s) (hf:∀k s cl,st[k]?=some s->c s=some cl->f cl=k)
  (ht:∀s∈st,∀e∈bJ c (br m s),∃t∈st,c t=some e.to) (hm:C7 0 0 (cG m c f st).ed):Canon (cG m c f st):=by
 have hlen:(cG m c f st).ed.length=st.length:=by unfold cG;simp
 have hrow:∀r∈(cG m c f st).ed,∃s∈st,r=dy f (bJ c (br m s)):=λr hr=>by
  unfold cG at hr;obtain ⟨s,hs,rfl⟩:=List.mem_map.1 hr;exact ⟨s,hs,rfl⟩
 have tI:∀s∈st,∀e∈bJ c (br m s),f e.to<st.length/\∃u,st[f e.to]?=some u/\c u=some e.to:=λs Lb e he=>by
  obtain ⟨u,hu,lQ⟩:=ht s Lb e he;obtain ⟨j,hj⟩:=List.mem_iff_getElem?.1 hu;have:=hf j u _ hj lQ;rw[this];exact ⟨(List.getElem?_eq_some_iff.1 hj).1,u,hj,lQ⟩
 refine ⟨by unfold cG;simp,λr hr=>?_,λr hr=>?_,λr hr e he=>?_,λk hk=>?_,λk j hk hj h=>?_,hm⟩
 .obtain ⟨s,Lb,rfl⟩:=hrow r hr;exact Db f _ _ (gB _ _ (hv.row s).1).1
 .obtain ⟨s,Lb,rfl⟩:=hrow r hr;refine Hl f _ (λe he g hg hfe=>?_) (gB _ _ (hv.row s).1).2.1;obtain ⟨-,u,h1,h2⟩:=tI s Lb e he;obtain ⟨-,v,h3,h4⟩:=tI s Lb g hg;rw[hfe,h3]at h1;obtain rfl:=Option.some.inj h1;exact Option.some.inj (h2.symm.trans h4)
 .obtain ⟨s,Lb,rfl⟩:=hrow r hr;obtain ⟨e',he',rfl⟩:=List.mem_map.1 he;rw[hlen];exact (tI s Lb e' he').1
 .rw[hlen]at hk;have h1:st[k]?=some st[k]:=List.getElem?_eq_getElem hk;obtain ⟨w,hw⟩:=(hs st[k] (List.getElem_mem hk)).2;exact ⟨w,by rw[iW hv hc hs hf ht w k _ h1];exact hw⟩
 .rw[hlen]at hk hj;have h1:st[k]?=some st[k]:=List.getElem?_eq_getElem hk;have h2:st[j]?=some st[j]:=List.getElem?_eq_getElem hj;have Hj:Da m st[k] st[j]:=λw=>by rw[<-iW hv hc hs hf ht w k _ h1,<-iW hv hc hs hf ht w j _ h2];exact h w
  have gY:=hs _ (List.getElem_mem hk);have sY:=hs _ (List.getElem_mem hj);have lK:=(hc.eq _ _ gY.1 sY.1 gY.2 sY.2).2 Hj
  cases e:c st[k] with
  | none=>exact absurd gY.2 ((hc.dC _ gY.1).1 e)
  | some cl=>rw[<-hf k _ cl h1 e,<-hf j _ cl h2 (lK.symm.trans e)]
end
section
set_option linter.unusedVariables false
set_option linter.unusedSimpArgs false
structure VQ (b:Pb) (x:dw) (gs:List (List Nat)) (m:Mc):Prop where
 acc:∀i,i<gs.length->((m.ac[i]?).getD false=true↔if i=0 then x.emp=true else ∃p∈(gs[i]?).getD [],p∈x.last)
 ajo:∀i,i<gs.length->∀c,match bS (br m i) c with
  | none=>∀p,nT b x gs i p->bU b p c=false
  | some t=>0<t/\t<gs.length/\∀p,p∈(gs[t]?).getD []↔nT b x gs i p/\bU b p c=true
theorem VQ.iu {b:Pb} {x:dw} {gs:List (List Nat)} {m:Mc} (h:VQ b x gs m):∀(w:List Nat) (i:Nat),i<gs.length->(jn m w i=true↔Jn b x gs i w)
 | [],i,hi=>by
  show (m.ac[i]?).getD false=true↔_;rw[h.acc i hi];unfold Jn;by_cases h0:i=0
  .simp only[h0,if_true];exact Iff.rfl
  .simp only[h0,if_false];exact Iff.rfl
 | c::w,i,hi=>by
  rw[cZ];have he:=h.ajo i hi c;have hg:Jn b x gs i (c::w)↔∃p,nT b x gs i p/\bU b p c=true/\wk b x.last w p:=by
   unfold Jn nT;by_cases h0:i=0
   .simp only[h0,if_true];exact ⟨λ⟨q,h1,h2,h3⟩=>⟨q,h1,h2,h3⟩,λ⟨q,h1,h2,h3⟩=>⟨q,h1,h2,h3⟩⟩
   .simp only[h0,if_false];constructor
    .rintro ⟨p,h1,h2⟩;obtain ⟨q,g1,g2,g3⟩:=h2;exact ⟨q,⟨p,h1,g1⟩,g2,g3⟩
    .rintro ⟨q,⟨p,h1,g1⟩,g2,g3⟩;exact ⟨p,h1,q,g1,g2,g3⟩
  rw[hg]
  cases ht:bS (br m i) c with
  | none=>
   rw[ht]at he;simp only at he|-;constructor
   .intro hx;cases hx
   .rintro ⟨p,h1,h2,-⟩;rw[he p h1]at h2
    cases h2
  | some t=>
   rw[ht]at he;obtain ⟨t0,t1,t2⟩:=he;simp only;rw[h.iu w t t1];unfold Jn;rw[if_neg (by omega)]
   constructor
   .rintro ⟨p,h1,h2⟩;exact ⟨p,((t2 p).1 h1).1,((t2 p).1 h1).2,h2⟩
   .rintro ⟨p,h1,h2,h3⟩;exact ⟨p,(t2 p).2 ⟨h1,h2⟩,h3⟩
theorem xZ:∀{r:List Ed} {b:Nat} {e:Ed},cB b r->(∀f∈r,f.hi<e.lo)->b<=e.lo->e.lo<=e.hi->cB b (r++[e])
 | [],_,_,_,_,h1,h2=>⟨h1,h2,trivial⟩
 | f::r,b,e,h,hf,_,h2=>⟨h.1,h.2.1,xZ h.2.2 (λg hg=>hf g (by simp[hg])) (by have:=hf f (by simp);omega) h2⟩
theorem CI:∀{r:List Ed} {e:Ed} {c:Nat},(∀f∈r,f.hi<e.lo)->bS (r++[e]) c=if e.lo<=c/\c<=e.hi then some e.to else bS r c
 | [],e,c,_=>rfl
 | f::r,e,c,h=>by
  show bS (f::(r++[e])) c=_;rw[bS,CI (λg hg=>h g (by simp[hg])),bS]
  have:=h f (by simp)
  by_cases h1:f.lo<=c/\c<=f.hi
  .rw[if_pos h1,if_pos h1,if_neg (by omega)]
  .rw[if_neg h1,if_neg h1]
theorem G4 {l:List Nat} (hs:l.Pairwise (·<·)) {k:Nat} (hk:k+1<l.length) {v:Nat} (hv:v∈l):v<=l[k]\/l[k+1]<=v:=by
 obtain ⟨j,hj,rfl⟩:=List.getElem_of_mem hv;rw[List.pairwise_iff_getElem]at hs;rcases Nat.lt_trichotomy j k with h | h | h
 .exact .inl (Nat.le_of_lt (hs j k hj (by omega) h))
 .subst h;exact .inl (Nat.le_refl _)
 .by_cases h2:j=k+1
  .subst h2;exact .inr (Nat.le_refl _)
  .exact .inr (Nat.le_of_lt (hs (k+1) j hk hj (by omega)))
theorem EX {l:List Nat} (hs:l.Pairwise (·<·)) {k:Nat} (hk:k+1<l.length) {rs:List (Nat×Nat)} (hr:∀r∈rs,r.1∈l/\r.2+1∈l) {c:Nat} (h1:l[k]<=c) (h2:c<l[k+1]):yR rs c=yR rs l[k]:=by
 unfold yR
 induction rs with
 | nil=>rfl
 | cons r rs ih=>
  rw[List.any_cons,List.any_cons,ih (λx hx=>hr x (by simp[hx]))]
  obtain ⟨g1,g2⟩:=hr r (by simp)
  have c1:=G4 hs hk g1;have c2:=G4 hs hk g2
  congr 1
  rw[Bool.eq_iff_iff];simp only[Bool.and_eq_true,decide_eq_true_eq];omega
theorem M4 {l:List Nat} {rs:List (Nat×Nat)} (hr:∀r∈rs,r.1∈l/\r.2+1∈l) {c:Nat} (h:∀v∈l,c<v):yR rs c=false:=by
 unfold yR;rw[List.any_eq_false];intro r hx;have:=h _ (hr r hx).1;simp;omega
theorem Js {l:List Nat} {rs:List (Nat×Nat)} (hr:∀r∈rs,r.1∈l/\r.2+1∈l) {c:Nat} (h:∀v∈l,v<=c):yR rs c=false:=by
 unfold yR;rw[List.any_eq_false];intro r hx;have:=h _ (hr r hx).2;simp;omega
structure eu (b:Pb) (fo:List Nat) (gs:List (List Nat)) (row:List Ed) (v:Nat):Prop where
 rR:cB 0 row
 hi:∀e∈row,e.hi<v
 sp:∀c,c<v->match bS row c with
  | none=>∀p∈fo,bU b p c=false
  | some t=>0<t/\t<gs.length/\∀p,p∈(gs[t]?).getD []↔p∈fo/\bU b p c=true
theorem eu.nil {b:Pb} {fo:List Nat} {gs:List (List Nat)} {v:Nat} (h:∀c,c<v->∀p∈fo,bU b p c=false):eu b fo gs [] v:=
 ⟨trivial,λe he=>absurd he (by simp),λc hc=>h c hc⟩
theorem eu.skip {b:Pb} {fo:List Nat} {gs:List (List Nat)} {row:List Ed} {v v':Nat} (h:eu b fo gs row v) (hv:v<=v') (hn:∀c,v<=c->c<v'->∀p∈fo,bU b p c=false):eu b fo gs row v':=by
 refine ⟨h.rR,λe he=>by have:=h.hi e he;omega,λc hc=>?_⟩
 by_cases hcv:c<v
 .exact h.sp c hcv
 .have:bS row c=none:=by
   cases ht:bS row c with
   | none=>rfl
   | some t=>
    obtain ⟨e,he,-,h2,-⟩:=ju ht;have:=h.hi e he;omega
  rw[this];exact hn c (by omega) hc
theorem eu.add {b:Pb} {fo:List Nat} {gs:List (List Nat)} {row:List Ed} {v v' t:Nat} (h:eu b fo gs row v) (hv:v<v') (wQ:0<t) (ht:t<gs.length) (hn:∀c,v<=c->c<v'->∀p,p∈(gs[t]?).getD []↔p∈fo/\bU b p c=true):eu b fo gs (row++[⟨v,v' - 1,t⟩]) v':=by
 refine ⟨xZ h.rR h.hi (Nat.zero_le _) (by show v<=v' - 1;omega),λe he=>?_,λc hc=>?_⟩
 .rcases List.mem_append.1 he with g | g
  .have:=h.hi e g;omega
  .rw[List.mem_singleton.1 g];show v' - 1<v';omega
 .rw[CI h.hi];by_cases hcv:c<v
  .rw[if_neg (by show ¬(v<=c/\_);omega)]
   exact h.sp c hcv
  .rw[if_pos (by show v<=c/\c<=v' - 1;omega)]
   exact ⟨wQ,ht,hn c (by omega) hc⟩
theorem eu.grow {b:Pb} {fo:List Nat} {gs:List (List Nat)} {row:List Ed} {v:Nat} (h:eu b fo gs row v) (g:List Nat):eu b fo (gs++[g]) row v:=by
 refine ⟨h.rR,h.hi,λc hc=>?_⟩;have:=h.sp c hc
 cases ht:bS row c with
 | none=>rw[ht]at this;exact this
 | some t=>
  rw[ht]at this;obtain ⟨h0,h1,h2⟩:=this;refine ⟨h0,by simp;omega,λp=>?_⟩
  rw[List.getElem?_append_left h1];exact h2 p
end
section
set_option linter.unusedVariables false
set_option linter.unusedSimpArgs false
theorem kK:∀{r:List Ed} {b:Nat} {e:Ed},cB b r->e∈r->bS r e.lo=some e.to
 | f::r,b,e,h,he=>by
  rw[bS];rcases List.mem_cons.1 he with rfl | he
  .rw[if_pos ⟨Nat.le_refl _,h.2.1⟩]
  .have aD:∀{r:List Ed} {b:Nat},cB b r->∀g∈r,b<=g.lo:=by
    intro r
    induction r with
    | nil=>intro b _ g hg;cases hg
    | cons a r ih=>
     intro b h g hg;rcases List.mem_cons.1 hg with rfl | hg
     .exact h.1
     .have h1:=ih h.2.2 g hg;have h2:=h.1;have h3:=h.2.1;omega
   have:=aD h.2.2 e he;rw[if_neg (by omega)]
   exact kK h.2.2 he
theorem Iu {m:Mc} (hv:pL m) {s:Nat} {e:Ed} (he:e∈br m s) (hl:bc m e.to):bc m s:=by
 obtain ⟨w,hw⟩:=hl;exact ⟨e.lo::w,by rw[cZ,kK (hv.row s).1 he];exact hw⟩
theorem LF {m:Mc} {s:Nat} (h:(m.ac[s]?).getD false=true):bc m s:=⟨[],h⟩
theorem LG {m:Mc} (hv:pL m) {out:Nat->Bool} (h0:∀s,s<m.ed.length->(m.ac[s]?).getD false=true->out s=true) (bT:∀s,s<m.ed.length->out s=false->∀e∈br m s,out e.to=false) {s:Nat} (hs:s<m.ed.length) (hl:bc m s):out s=true:=by
 obtain ⟨w,hw⟩:=hl
 induction w generalizing s with
 | nil=>exact h0 s hs hw
 | cons c w ih=>
  rw[cZ]at hw
  cases ht:bS (br m s) c with
  | none=>rw[ht]at hw;cases hw
  | some t=>
   rw[ht]at hw;have:=ih (hv.bz ht) hw;obtain ⟨e,he,-,-,rfl⟩:=ju ht
   cases ho:out s with
   | true=>rfl
   | false=>rw[bT s hs ho e he]at this;cases this
def kY:Nat->Nat->List (List Ed)->Nat->Prop
 | _,m,[],t=>t=m
 | i,m,r::rs,t=>i<=m/\uZ m r/\kY (i+1) (wT m r) rs t
theorem kY.snoc {r:List Ed}:∀{rs:List (List Ed)} {i m t:Nat},kY i m rs t->i+rs.length<=t->uZ t r->kY i m (rs++[r]) (wT t r)
 | [],i,m,t,h,h1,h2=>by
  have:t=m:=h;subst this;exact ⟨by simpa using h1,h2,rfl⟩
 | a::rs,i,m,t,h,h1,h2=>⟨h.1,h.2.1,kY.snoc h.2.2 (by simp at h1;omega) h2⟩
theorem kY.done:∀{rs:List (List Ed)} {i m t:Nat},kY i m rs t->i+rs.length=t+1->C7 i m rs
 | [],i,m,t,h,h1=>by
  have:t=m:=h;subst this;simpa [C7] using h1
 | a::rs,i,m,t,h,h1=>⟨h.1,h.2.1,kY.done h.2.2 (by simp at h1;omega)⟩
theorem oU {e:Ed}:∀{r:List Ed} {m:Nat},uZ m r->e.to<=wT m r+1->uZ m (r++[e])/\wT m (r++[e])=max (wT m r) e.to
 | [],m,_,h=>⟨⟨h,trivial⟩,rfl⟩
 | f::r,m,h,h1=>by
  obtain ⟨q1,q2⟩:=oU (r:=r) (m:=max m f.to) h.2 h1;exact ⟨⟨h.1,q1⟩,q2⟩
def bV (c:Nat->Option Nat) (st:List Nat) (cl:Nat):Nat:=(st.map c).idxOf (some cl)
theorem RQ {c:Nat->Option Nat} {st:List Nat} (hn:(st.map c).Nodup) {k s cl:Nat} (hk:st[k]?=some s) (hc:c s=some cl):bV c st cl=k:=by
 unfold bV;obtain ⟨hlt,he⟩:=List.getElem?_eq_some_iff.1 hk;have hlt':k<(st.map c).length:=by simpa using hlt
 have h2:(st.map c)[k]=some cl:=by rw[List.getElem_map,he,hc]
 rw[<-h2];exact hn.idxOf_getElem k hlt'
theorem yk {c:Nat->Option Nat} {st:List Nat} {cl:Nat} (s:Nat) (h:some cl∈st.map c):bV c (st++[s]) cl=bV c st cl:=by
 unfold bV;rw[List.map_append,List.idxOf_append,if_pos h]
theorem CZ {c:Nat->Option Nat} {st:List Nat} {cl s:Nat} (h:¬some cl∈st.map c) (hc:c s=some cl):bV c (st++[s]) cl=st.length:=by
 unfold bV;rw[List.map_append,List.idxOf_append,if_neg h];simp[hc]
theorem RP {c:Nat->Option Nat} {st:List Nat} {cl:Nat} (h:some cl∈st.map c):bV c st cl<st.length:=by
 unfold bV;have:=List.idxOf_lt_length_of_mem h;simpa using this
theorem uY {c:Nat->Option Nat} {st:List Nat} (s:Nat) {l:List Ed} (h:∀e∈l,some e.to∈st.map c):dy (bV c (st++[s])) l=dy (bV c st) l:=by
 unfold dy;exact List.map_congr_left λe he=>by rw[yk s (h e he)]
end
section
set_option linter.unusedVariables false
set_option linter.unusedSimpArgs false
theorem j7 (f:Nat->Nat) (l:List Ed) (e:Ed):dy f (l++[e])=dy f l++[⟨e.lo,e.hi,f e.to⟩]:=by unfold dy;rw[List.map_append];rfl
theorem qt (f:Nat->Nat) (l:List Ed):(dy f l).length=l.length:=by unfold dy;simp
structure zO (m:Mc) (c:Nat->Option Nat) (st:List Nat) (i:Nat) (rs:List (List Ed)) (p:List Ed) (t:Nat):Prop where
 nd:(st.map c).Nodup
 lv:∀s∈st,s<m.ed.length/\c s≠none
 zero:st[0]?=some 0
 rows:rs=(st.take i).map λs=>dy (bV c st) (bJ c (br m s))
 tg:∀s∈st.take i,∀e∈bJ c (br m s),some e.to∈st.map c
 ptg:∀e∈p,some e.to∈st.map c
 meet:kY 0 0 rs t
 pm:uZ t (dy (bV c st) p)
 top:wT t (dy (bV c st) p)+1=st.length
 il:i<=st.length
theorem qv {α β:Type} {f:α->β}:∀{l:List α},(l.map f).Nodup->l.Nodup
 | [],_=>List.nodup_nil
 | a::l,h=>by
  rw[List.map_cons,List.nodup_cons]at h;rw[List.nodup_cons];exact ⟨λha=>h.1 (List.mem_map.2 ⟨a,ha,rfl⟩),qv h.2⟩
section
variable {m:Mc} {c:Nat->Option Nat} {st:List Nat} {i t:Nat} {rs:List (List Ed)} {p:List Ed}
theorem zO.start (h0:c 0≠none) (h1:0<m.ed.length):zO m c [0] 0 [] [] 0:=
 ⟨by simp,λs hs=>by simp at hs;subst hs;exact ⟨h1,h0⟩,rfl,rfl,λs hs=>(by cases hs),λe he=>(by cases he),rfl,trivial,rfl,Nat.zero_le _⟩
theorem zO.old (h:zO m c st i rs p t) (e:Ed) (he:some e.to∈st.map c):zO m c st i rs (p++[e]) t:=by
 have hlt:=RP he;have NQ:=h.top;obtain ⟨h1,h2⟩:=oU (e:=⟨e.lo,e.hi,bV c st e.to⟩) h.pm (by show bV c st e.to<=_;omega)
 refine { h with ptg:=λf hf=>?_,pm:=by rw[j7];exact h1,top:=?_ }
 .rcases List.mem_append.1 hf with hf | hf
  .exact h.ptg f hf
  .rw[List.mem_singleton]at hf;rw[hf];exact he
 .rw[j7,h2];show max _ (bV c st e.to)+1=_;omega
theorem zO.new (h:zO m c st i rs p t) (e:Ed) (s:Nat) (he:¬some e.to∈st.map c) (hs:s<m.ed.length) (hc:c s=some e.to):zO m c (st++[s]) i rs (p++[e]) t/\bV c (st++[s]) e.to=st.length:=by
 have rf:=CZ he hc;have NQ:=h.top;have dk:∀x,some x∈st.map c->some x∈(st++[s]).map c:=λx hx=>by rw[List.map_append];exact List.mem_append_left _ hx
 have xD:(st++[s]).take i=st.take i:=List.take_append_of_le_length h.il;have hp:dy (bV c (st++[s])) p=dy (bV c st) p:=uY s h.ptg;obtain ⟨h1,h2⟩:=oU (e:=⟨e.lo,e.hi,st.length⟩) h.pm (by show st.length<=_;omega)
 refine ⟨⟨?_,?_,?_,?_,?_,?_,h.meet,?_,?_,?_⟩,rf⟩
 .rw[List.map_append,List.nodup_append];refine ⟨h.nd,by simp,λa ha b hb=>?_⟩
  simp only[List.map_cons,List.map_nil,List.mem_singleton]at hb;rintro rfl;rw[hb,hc]at ha;exact he ha
 .intro x hx;rcases List.mem_append.1 hx with hx | hx
  .exact h.lv x hx
  .rw[List.mem_singleton]at hx;subst hx;exact ⟨hs,by rw[hc];simp⟩
 .rw[List.getElem?_append_left (by have:=(List.getElem?_eq_some_iff.1 h.zero).1;exact this)];exact h.zero
 .rw[xD,h.rows];exact List.map_congr_left λx hx=>(uY s (h.tg x hx)).symm
 .rw[xD];exact λx hx f hf=>dk _ (h.tg x hx f hf)
 .intro f hf;rcases List.mem_append.1 hf with hf | hf
  .exact dk _ (h.ptg f hf)
  .rw[List.mem_singleton]at hf;subst hf;rw[List.map_append];exact List.mem_append_right _ (by simp[hc])
 .rw[j7,hp,rf];exact h1
 .rw[j7,hp,rf,h2,List.length_append];show max _ st.length+1=st.length+1;omega
 .rw[List.length_append];have:=h.il;omega
theorem zO.row (h:zO m c st i rs p t) (hit:i<=t) {s:Nat} (hs:st[i]?=some s) (hp:p=bJ c (br m s)):zO m c st (i+1) (rs++[dy (bV c st) p]) [] (wT t (dy (bV c st) p)):=by
 have hlt:i<st.length:=(List.getElem?_eq_some_iff.1 hs).1;have xD:st.take (i+1)=st.take i++[s]:=by rw[List.take_add_one,hs];rfl
 have hl:rs.length=i:=by rw[h.rows,List.length_map,List.length_take];omega
 have NQ:=h.top;refine ⟨h.nd,h.lv,h.zero,?_,?_,λe he=>(by cases he),?_,trivial,NQ,hlt⟩
 .rw[xD,List.map_append,<-h.rows,hp];rfl
 .rw[xD];intro x hx e he;rcases List.mem_append.1 hx with hx | hx
  .exact h.tg x hx e he
  .rw[List.mem_singleton]at hx;subst hx;exact h.ptg e (by rw[hp];exact he)
 .exact h.meet.snoc (by rw[hl];omega) h.pm
theorem zO.nodup (h:zO m c st i rs p t):st.length<=m.ed.length:=by
 have h1:st.Nodup:=qv h.nd;have:=jW (r:=List.range m.ed.length) h1 (λx hx=>List.mem_range.2 (h.lv x hx).1);rwa [List.length_range]at this
theorem zO.done (hv:pL m) (hc:ue m c) (h:zO m c st st.length rs [] t):rs=(cG m c (bV c st) st).ed/\Canon (cG m c (bV c st) st)/\∀w,jn (cG m c (bV c st) st) w 0=jn m w 0:=by
 have Hf:∀s∈st,s<m.ed.length/\bc m s:=λs hs=>by
  obtain ⟨h1,h2⟩:=h.lv s hs;refine ⟨h1,?_⟩;by_cases hx:bc m s
  .exact hx
  .exact absurd ((hc.dC s h1).2 hx) h2
 have hf:∀k s cl,st[k]?=some s->c s=some cl->bV c st cl=k:=λk s cl h1 h2=>RQ h.nd h1 h2;have hr:rs=(cG m c (bV c st) st).ed:=by rw[h.rows,List.take_length];rfl
 have ht:∀s∈st,∀e∈bJ c (br m s),∃t∈st,c t=some e.to:=λs hs e he=>by
  have:=h.tg s (by rw[List.take_length];exact hs) e he
  obtain ⟨u,h1,h2⟩:=List.mem_map.1 this;exact ⟨u,h1,h2⟩
 refine ⟨hr,C4 hv hc Hf hf ht ?_,λw=>iW hv hc Hf hf ht w 0 0 h.zero⟩;rw[<-hr];have NQ:=h.top;have h3:t+1=st.length:=NQ;exact h.meet.done (by rw[hr];unfold cG;simp;omega)
end
end
section
set_option linter.unusedVariables false
set_option linter.unusedSimpArgs false
theorem qm (cls:Nat->Option Nat):∀(l:List Ed) (p:Option Ed),(ye cls p l).length<=p.toList.length+l.length
 | [],p=>by unfold ye;simp
 | e::r,p=>by
  unfold ye
  cases hc:cls e.to with
  | none=>simp only;have:=qm cls r p;rw[List.length_cons];omega
  | some t=>
   cases p with
   | none=>simp only;have:=qm cls r (some ⟨e.lo,e.hi,t⟩);simp at this|-;omega
   | some q=>
    simp only
    split
    .have:=qm cls r (some ⟨q.lo,e.hi,q.to⟩);simp at this|-;omega
    .have:=qm cls r (some ⟨e.lo,e.hi,t⟩);simp at this|-;omega
theorem qZ (cls:Nat->Option Nat) (l:List Ed):(bJ cls l).length<=l.length:=by have:=qm cls l none;simpa [bJ] using this
theorem ow:∀{r:List Ed} {b:Nat} {e:Ed},cB b r->e∈r->bS r e.hi=some e.to
 | f::r,b,e,h,he=>by
  rw[bS];rcases List.mem_cons.1 he with rfl | he
  .rw[if_pos ⟨h.2.1,Nat.le_refl _⟩]
  .have aD:∀{r:List Ed} {b:Nat},cB b r->∀g∈r,b<=g.hi:=by
    intro r
    induction r with
    | nil=>intro b _ g hg;cases hg
    | cons a r ih=>
     intro b h g hg;rcases List.mem_cons.1 hg with rfl | hg
     .have h1:=h.1;have h2:=h.2.1;omega
     .have h1:=ih h.2.2 g hg;have h2:=h.1;have h3:=h.2.1;omega
   have:=aD h.2.2 e he;rw[if_neg (by omega)]
   exact ow h.2.2 he
theorem uj {cls:Nat->Option Nat} {l:List Ed} (hs:cB 0 l) (hb:∀e∈l,e.lo<256/\e.hi<256):∀e∈bJ cls l,e.lo<256/\e.hi<256/\∃f∈l,cls f.to=some e.to:=by
 intro e he;obtain ⟨h1,h2,h3⟩:=gB (cls:=cls) l 0 hs;have k1:=kK h1 he;have k2:=ow h1 he;rw[h3]at k1 k2;obtain ⟨t,t1,t2⟩:=Option.bind_eq_some_iff.1 k1;obtain ⟨u,u1,-⟩:=Option.bind_eq_some_iff.1 k2;obtain ⟨f,f1,f2,f3,f4⟩:=ju t1;obtain ⟨g,g1,g2,g3,g4⟩:=ju u1;have:=hb f f1;have:=hb g g1;exact ⟨by omega,by omega,f,f1,by rw[f4];exact t2⟩
end
section
set_option linter.unusedVariables false
set_option linter.unusedSimpArgs false
def gL (m:Mc):List Nat->Nat->Nat->List Nat
 | [],s,k=>if (m.ac[s]?).getD false=true then [k] else []
 | c::w,s,k=>(if (m.ac[s]?).getD false=true then [k] else [])++match bS (br m s) c with | none=>[] | some t=>gL m w t (k+1)
def ze (R:List Nat) (i:Nat) (pV:Nat->Bool):Option Nat:=R.reverse.find? λt=>decide (i<t) && pV t
def Pz (c:Nat):Bool:=(decide (97<=c) && decide (c<=122)) || (decide (65<=c) && decide (c<=90)) || (decide (48<=c) && decide (c<=57))
def tW (wh:Bool) (bs:List Nat) (i t:Nat):Bool:=
 (decide (i<=t) && decide (t<=bs.length)) && (!wh || ((decide (i=0) || !Pz ((bs[i - 1]?).getD 0)) && (decide (t=bs.length) || !Pz ((bs[t]?).getD 0))))
def mR (m:Mc) (wh:Bool) (bs:List Nat) (i:Nat):Option Nat:=ze (gL m (bs.drop i) 0 i) i (tW wh bs i)
def dL (f:Nat->Option Nat) (n:Nat):Nat->Nat->List (Nat×Nat)
 | 0,_=>[]
 | k+1,i=>if i<n then match f i with | none=>dL f n k (i+1) | some t=>(i,t)::dL f n k t else []
def vv (d:Nat) (l:List (Nat×Nat)):List (Nat×Nat):=l.map λp=>(p.1+d,p.2+d)
theorem mf (m:Mc):∀(bs:List Nat) (s k t:Nat),t∈gL m bs s k↔∃j,t=k+j/\j<=bs.length/\jn m (bs.take j) s=true
 | [],s,k,t=>by
  rw[gL];constructor
  .intro h;by_cases hb:(m.ac[s]?).getD false=true
   .rw[if_pos hb,List.mem_singleton]at h;exact ⟨0,by omega,Nat.le_refl _,hb⟩
   .rw[if_neg hb]at h;cases h
  .rintro ⟨j,rfl,hj,h⟩;have:j=0:=by simpa using hj
   subst this;have h:(m.ac[s]?).getD false=true:=h;rw[if_pos h];simp
 | c::w,s,k,t=>by
  rw[gL,List.mem_append];constructor
  .rintro (h | h)
   .by_cases hb:(m.ac[s]?).getD false=true
    .rw[if_pos hb,List.mem_singleton]at h;exact ⟨0,by omega,Nat.zero_le _,hb⟩
    .rw[if_neg hb]at h;cases h
   .cases ht:bS (br m s) c with
    | none=>rw[ht]at h;cases h
    | some q=>
     rw[ht]at h;obtain ⟨j,rfl,hj,h⟩:=(mf m w q (k+1) t).1 h;exact ⟨j+1,by omega,by simpa using hj,by rw[List.take_succ_cons,jn,ht];exact h⟩
  .rintro ⟨j,rfl,hj,h⟩
   cases j with
   | zero=>exact .inl (by rw[if_pos (show (m.ac[s]?).getD false=true from h)];simp)
   | succ j=>
    right
    rw[List.take_succ_cons,jn]at h
    cases ht:bS (br m s) c with
    | none=>rw[ht]at h;cases h
    | some q=>
     rw[ht]at h;exact (mf m w q (k+1) _).2 ⟨j,by omega,by simpa using hj,h⟩
theorem Ds (m:Mc):∀(bs:List Nat) (s k:Nat),(gL m bs s k).Pairwise (·<·)
 | [],s,k=>by rw[gL]; split <;> simp
 | c::w,s,k=>by
  rw[gL,List.pairwise_append];refine ⟨by split <;> simp,?_,λa ha b hb=>?_⟩
  .cases bS (br m s) c with
   | none=>exact List.Pairwise.nil
   | some q=>exact Ds m w q (k+1)
  .have ha:a=k:=by
    split at ha
    .simpa using ha
    .cases ha
   subst ha
   cases ht:bS (br m s) c with
   | none=>rw[ht]at hb;cases hb
   | some q=>
    rw[ht]at hb;obtain ⟨j,rfl,-,-⟩:=(mf m w q (a+1) b).1 hb;omega
theorem Dt {p:Nat->Bool}:∀{D:List Nat},D.Pairwise (· > ·)->∀t,D.find? p=some t↔(t∈D/\p t=true)/\∀x∈D,p x=true->x<=t
 | [],_,t=>by simp
 | a::D,hD,t=>by
  have hD':=List.pairwise_cons.1 hD;rw[List.find?_cons]
  cases ha:p a with
  | true=>
   constructor
   .intro e;injection e with e;subst e;refine ⟨⟨by simp,ha⟩,λx hx _=>?_⟩
    rcases List.mem_cons.1 hx with rfl | hx
    .exact Nat.le_refl _
    .exact Nat.le_of_lt (hD'.1 x hx)
   .rintro ⟨⟨h1,-⟩,h3⟩;have hle:=h3 a (by simp) ha
    rcases List.mem_cons.1 h1 with rfl | h1
    .rfl
    .have:=hD'.1 t h1;omega
  | false=>
   show D.find? p=some t↔_;rw[Dt hD'.2 t];constructor
   .rintro ⟨⟨h1,h2⟩,h3⟩;refine ⟨⟨List.mem_cons_of_mem _ h1,h2⟩,λx hx h=>?_⟩;rcases List.mem_cons.1 hx with rfl | hx
    .rw[ha]at h;cases h
    .exact h3 x hx h
   .rintro ⟨⟨h1,h2⟩,h3⟩;rcases List.mem_cons.1 h1 with rfl | h1
    .rw[ha]at h2;cases h2
    .exact ⟨⟨h1,h2⟩,λx hx=>h3 x (List.mem_cons_of_mem _ hx)⟩
def xg (m:Mc) (wh:Bool) (bs:List Nat) (i t:Nat):Prop:=i<t/\t<=bs.length/\jn m ((bs.drop i).take (t-i)) 0=true/\tW wh bs i t=true
theorem mJ (m:Mc) (wh:Bool) (bs:List Nat) (i t:Nat) (hi:i<=bs.length):mR m wh bs i=some t↔xg m wh bs i t/\∀x,xg m wh bs i x->x<=t:=by
 have bW:∀x,(x∈(gL m (bs.drop i) 0 i).reverse/\(decide (i<x) && tW wh bs i x)=true)↔xg m wh bs i x:=λx=>by
  rw[List.mem_reverse,mf,List.length_drop,Bool.and_eq_true,decide_eq_true_eq];unfold xg;constructor
  .rintro ⟨⟨j,rfl,h1,h2⟩,h3,h4⟩;exact ⟨h3,by omega,by rw[show i+j-i=j by omega];exact h2,h4⟩
  .rintro ⟨h1,h2,h3,h4⟩;exact ⟨⟨x-i,by omega,by omega,h3⟩,h1,h4⟩
 unfold mR ze;rw[Dt (by rw[List.pairwise_reverse];exact Ds m _ 0 i) t,bW]
 constructor
 .rintro ⟨h1,h2⟩;exact ⟨h1,λx hx=>h2 x ((bW x).2 hx).1 ((bW x).2 hx).2⟩
 .rintro ⟨h1,h2⟩;exact ⟨h1,λx hx hp=>h2 x ((bW x).1 ⟨hx,hp⟩)⟩
theorem Md {m:Mc} {wh:Bool} {bs:List Nat} {i t:Nat} (hi:i<=bs.length) (h:mR m wh bs i=some t):i<t/\t<=bs.length:=by
 have:=((mJ m wh bs i t hi).1 h).1;exact ⟨this.1,this.2.1⟩
section
variable {m:Mc} {wh:Bool} {c:Nat} (hc:∀w,jn m w 0=true->c∉w) (hs:Pz c=false) (a b:List Nat)
include hc hs
end
theorem jT (f:Nat->Option Nat) (n:Nat) (hf:∀i t,i<n->f i=some t->i<t):∀(k k' i:Nat),n<=i+k->n<=i+k'->dL f n k i=dL f n k' i
 | 0,0,_,_,_=>rfl
 | 0,k'+1,i,h,_=>by rw[dL,dL,if_neg (by omega)]
 | k+1,0,i,_,h=>by rw[dL,dL,if_neg (by omega)]
 | k+1,k'+1,i,h,h'=>by
  rw[dL,dL];by_cases hi:i<n
  .rw[if_pos hi,if_pos hi]
   cases Em:f i with
   | none=>exact jT f n hf k k' (i+1) (by omega) (by omega)
   | some t=>
    have:=hf i t hi Em;show (i,t)::dL f n k t=(i,t)::dL f n k' t;rw[jT f n hf k k' t (by omega) (by omega)]
  .rw[if_neg hi,if_neg hi]
def Gt (m:Mc) (wh:Bool) (bs:List Nat):List (Nat×Nat):=dL (mR m wh bs) bs.length bs.length 0
theorem Du (l:List (Nat×Nat)):vv 0 l=l:=by unfold vv;simp
end
section
set_option linter.unusedVariables false
set_option linter.unusedSimpArgs false
structure Mt where
 k:Nat
 f:Nat
 t:Nat
 deriving DecidableEq
instance apF:Inhabited Mt:=⟨⟨0,0,0⟩⟩
def Oy (a b:Mt):Bool:=decide (a.f<b.f) || (decide (a.f=b.f) && (decide (a.t<b.t) || (decide (a.t=b.t) && decide (a.k<b.k))))
theorem mK (a b:Mt):Oy a b=true↔a.f<b.f\/(a.f=b.f/\(a.t<b.t\/(a.t=b.t/\a.k<b.k))):=by
 unfold Oy;simp
def mA (a b:Mt):Prop:=Oy b a=false
theorem mA.iff (a b:Mt):mA a b↔¬(b.f<a.f\/(b.f=a.f/\(b.t<a.t\/(b.t=a.t/\b.k<a.k)))):=by
 unfold mA;rw[<-mK,Bool.not_eq_true]
theorem mA.alD {a b:Mt} (h1:mA a b) (h2:mA b a):a=b:=by
 rw[mA.iff]at h1 h2;obtain ⟨k1,f1,t1⟩:=a;obtain ⟨k2,f2,t2⟩:=b;simp only at h1 h2;obtain rfl:f1=f2:=by omega
 obtain rfl:t1=t2:=by omega
 obtain rfl:k1=k2:=by omega
 rfl
theorem vF:∀{l1 l2:List Mt},l1.Perm l2->l1.Pairwise mA->l2.Pairwise mA->l1=l2
 | [],l2,hp,_,_=>(List.nil_perm.1 hp).symm
 | a::l1,[],hp,_,_=>absurd hp.symm (by simp)
 | a::l1,b::l2,hp,h1,h2=>by
  have p1:=List.pairwise_cons.1 h1;have p2:=List.pairwise_cons.1 h2;have hab:a=b:=by
   have ha:a∈b::l2:=hp.subset (by simp)
   have hb:b∈a::l1:=hp.symm.subset (by simp)
   rcases List.mem_cons.1 ha with e | ha
   .exact e
   .rcases List.mem_cons.1 hb with e | hb
    .exact e.symm
    .exact mA.alD (p1.1 b hb) (p2.1 a ha)
  subst hab;rw[vF (List.Perm.cons_inv hp) p1.2 p2.2]
def wP (i:Nat) (l:List (Nat×Nat)):List Mt:=l.map λp=>⟨i,p.1,p.2⟩
def bY (f:Nat->List (Nat×Nat)):Nat->Nat->List Mt
 | 0,_=>[]
 | n+1,i=>wP i (f i)++bY f n (i+1)
def SD (d:Nat) (l:List Mt):List Mt:=l.map λa=>⟨a.k,a.f+d,a.t+d⟩
theorem Kh (i d:Nat) (l:List (Nat×Nat)):wP i (vv d l)=SD d (wP i l):=by unfold wP vv SD;simp
theorem SE (i:Nat) (l1 l2:List (Nat×Nat)):wP i (l1++l2)=wP i l1++wP i l2:=by unfold wP;simp
theorem SF (d:Nat) (l1 l2:List Mt):SD d (l1++l2)=SD d l1++SD d l2:=by unfold SD;simp
theorem Oz {f:Nat->List (Nat×Nat)}:∀{n i:Nat} {a:Mt},a∈bY f n i↔(i<=a.k/\a.k<i+n)/\(a.f,a.t)∈f a.k
 | 0,i,a=>by
  rw[bY];constructor
  .intro h;cases h
  .rintro ⟨h,-⟩;omega
 | n+1,i,a=>by
  rw[bY,List.mem_append,Oz];unfold wP;rw[List.mem_map];constructor
  .rintro (⟨p,hp,rfl⟩ | ⟨h1,h2⟩)
   .exact ⟨⟨Nat.le_refl _,by show i<i+(n+1);omega⟩,hp⟩
   .exact ⟨by omega,h2⟩
  .rintro ⟨h1,h2⟩;by_cases h:a.k=i
   .left
    rw[h]at h2;exact ⟨_,h2,by cases a;subst h;rfl⟩
   .exact .inr ⟨by omega,h2⟩
theorem yD {f g h:Nat->List (Nat×Nat)} {d:Nat}:∀{n i:Nat},(∀j,i<=j->j<i+n->h j=f j++vv d (g j))->(bY h n i).Perm (bY f n i++SD d (bY g n i))
 | 0,i,_=>List.Perm.refl _
 | n+1,i,hh=>by
  rw[bY,bY,bY,hh i (by omega) (by omega),SE,Kh,SF]
  have ih:=yD (n:=n) (i:=i+1) (λj h1 h2=>hh j (by omega) (by omega))
  refine (List.Perm.append_left _ ih).trans ?_;rw[List.append_assoc,List.append_assoc];refine List.Perm.append_left _ ?_;rw[<-List.append_assoc,<-List.append_assoc];exact List.Perm.append_right _ List.perm_append_comm
theorem oW {f g:Nat->List (Nat×Nat)}:∀{n i:Nat},(∀j,i<=j->j<i+n->f j=g j)->bY f n i=bY g n i
 | 0,i,_=>rfl
 | n+1,i,hh=>by
  rw[bY,bY,hh i (by omega) (by omega),oW (n:=n) (i:=i+1) (λj h1 h2=>hh j (by omega) (by omega))]
end
section
set_option linter.unusedVariables false
set_option linter.unusedSimpArgs false
mutual
def noB (c:Nat):Nd->Bool
 | .mk _ rs kids _ _=>!yR rs c && adx c kids
def adx (c:Nat):List Nd->Bool
 | []=>true
 | k::r=>noB c k && adx c r
end
end
end Go.Proofs.YtdmoogjddmdmbaaGreatDoor
