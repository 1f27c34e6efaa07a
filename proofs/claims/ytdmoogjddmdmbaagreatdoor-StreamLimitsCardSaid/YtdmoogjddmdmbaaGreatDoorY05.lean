/- Patterns written out: positions, which follow which, and what belongs. No program in sight. · Patterns written out: which position stands for which place of the pattern. No program in sight. · Patterns written out: choices and repetitions. No program in sight. · Patterns: their sizes, which are right, and what belongs to them. No program in sight. · Machines: plain functions and the uniqueness of the least machine. No program in sight. · Machines: edges that are joined, the refinement of classes, counting. No program in sight. · Machines: classes of states, and the least machine. No program in sight. · The machine of groups accepts what belongs; edges between cuts. No program in sight. · Machines: what is alive, and the order in which states are met. No program in sight. · The least machine: what is met on the way. No program in sight. · Joined edges: how many, and of what. No program in sight. · Scanning as plain functions: choices in a text; a byte that no token has parts the text. No program in sight. · Matches of several kinds, in order. No program in sight. · Bytes that nothing that belongs to a pattern has. No program in sight. -/
namespace Go.Proofs.YtdmoogjddmdmbaaGreatDoor
set_option linter.unusedVariables false
set_option linter.unusedSimpArgs false
set_option maxRecDepth 100000
structure Pb where
 sets:List (List (Nat×Nat))
 fol:List (List Nat)
structure Prt where
 first:List Nat
 last:List Nat
 emp:Bool
def inR (l:List (Nat×Nat)) (c:Nat):Bool:=l.any λr=>decide (r.1<=c) && decide (c<=r.2)
def setP (b:Pb) (q c:Nat):Bool:=inR ((b.sets[q]?).getD []) c
def folP (b:Pb) (q:Nat):List Nat:=(b.fol[q]?).getD []
def wk (b:Pb) (last:List Nat):List Nat->Nat->Prop
 | [],q=>q∈last
 | c::w,q=>∃q'∈folP b q,setP b q' c=true/\wk b last w q'
def LP (b:Pb) (x:Prt):List Nat->Prop
 | []=>x.emp=true
 | c::w=>∃q∈x.first,setP b q c=true/\wk b x.last w q
def addF (l:List Nat):List Nat->List (List Nat)->List (List Nat)
 | [],fol=>fol
 | p::r,fol=>addF l r (fol.set p ((fol[p]?).getD []++l))
theorem addF_len (l:List Nat):∀(ps:List Nat) (fol:List (List Nat)),(addF l ps fol).length=fol.length
 | [],_=>rfl
 | p::r,fol=>by rw[addF,addF_len l r];simp
theorem addF_mem (l:List Nat):∀(ps:List Nat) (fol:List (List Nat)) (p q:Nat),(∀x∈ps,x<fol.length)->(q∈((addF l ps fol)[p]?).getD []↔q∈(fol[p]?).getD []\/(p∈ps/\q∈l))
 | [],fol,p,q,_=>by simp[addF]
 | a::r,fol,p,q,h=>by
  rw[addF,addF_mem l r _ p q (λx hx=>by simpa using h x (by simp[hx]))]
  have ha:=h a (by simp)
  by_cases hp:a=p
  .subst hp;rw[List.getElem?_set_self ha];simp only[Option.getD_some,List.mem_append,List.mem_cons,true_or,true_and];constructor
   .rintro ((h | h) | ⟨-,h⟩)
    .exact .inl h
    .exact .inr h
    .exact .inr h
   .rintro (h | h)
    .exact .inl (.inl h)
    .exact .inl (.inr h)
  .rw[List.getElem?_set_ne hp];simp only[List.mem_cons];constructor
   .rintro (h | ⟨h1,h2⟩)
    .exact .inl h
    .exact .inr ⟨.inr h1,h2⟩
   .rintro (h | ⟨rfl | h1,h2⟩)
    .exact .inl h
    .exact absurd rfl hp
    .exact .inr ⟨h1,h2⟩
def behB (b:Pb) (x y:Prt):Pb:={ b with fol:=addF y.first x.last b.fol }
def behP (x y:Prt):Prt:={ first:=if x.emp then x.first++y.first else x.first,last:=if y.emp then x.last++y.last else y.last,emp:=x.emp && y.emp }
def eitP (x y:Prt):Prt:={ first:=x.first++y.first,last:=x.last++y.last,emp:=x.emp || y.emp }
structure GoodP (b:Pb) (s e:Nat) (x:Prt):Prop where
 se:s<=e
 size:e<=b.fol.length
 fst:∀p∈x.first,s<=p/\p<e
 lst:∀p∈x.last,s<=p/\p<e
 cls:∀p,s<=p->p<e->∀q∈folP b p,s<=q/\q<e
theorem folP_beh {b:Pb} {x y:Prt} (h:∀p∈x.last,p<b.fol.length) (p q:Nat):q∈folP (behB b x y) p↔q∈folP b p\/(p∈x.last/\q∈y.first):=addF_mem _ _ _ _ _ h
theorem wk_local {b b':Pb} {s e:Nat} {last:List Nat} (hl:∀p∈last,s<=p/\p<e) (hset:∀p,s<=p->p<e->∀c,setP b' p c=setP b p c)
  (hin:∀p,s<=p->p<e->∀q,s<=q->q<e->(q∈folP b' p↔q∈folP b p)) (hcl:∀p,s<=p->p<e->∀q∈folP b p,s<=q/\q<e)
  (hup:∀p,s<=p->∀q∈folP b' p,s<=q) (hout:∀p,e<=p->∀q∈folP b' p,e<=q):∀(w:List Nat) (q:Nat),s<=q->(wk b' last w q↔(q<e/\wk b last w q))
 | [],q,_=>⟨λh=>⟨(hl q h).2,h⟩,λh=>h.2⟩
 | c::w,q,hq=>by
  unfold wk;constructor
  .rintro ⟨q',h1,h2,h3⟩;have hs:=hup q hq q' h1;obtain ⟨hlt,h4⟩:=(wk_local hl hset hin hcl hup hout w q' hs).1 h3;have hqe:q<e:=by
    by_cases hqe:q<e
    .exact hqe
    .have:=hout q (by omega) q' h1;omega
   exact ⟨hqe,q',(hin q hq hqe q' hs hlt).1 h1,by rw[<-hset q' hs hlt];exact h2,h4⟩
  .rintro ⟨hqe,q',h1,h2,h3⟩;obtain ⟨hs,hlt⟩:=hcl q hq hqe q' h1;exact ⟨q',(hin q hq hqe q' hs hlt).2 h1,by rw[hset q' hs hlt];exact h2,(wk_local hl hset hin hcl hup hout w q' hs).2 ⟨hlt,h3⟩⟩
theorem wk_second {b:Pb} {s m e:Nat} {x y:Prt} (hx:GoodP b s m x) (hy:GoodP b m e y):∀(w:List Nat) (q:Nat),m<=q->q<e->(wk (behB b x y) (behP x y).last w q↔wk b y.last w q)
 | [],q,h1,_=>by
  unfold wk behP;simp only
  cases y.emp with
  | false=>simp
  | true=>
   simp only[if_true,List.mem_append];exact ⟨λh=>h.elim (λh=>by have:=(hx.lst q h).2;omega) id, .inr⟩
 | c::w,q,h1,h2=>by
  unfold wk;constructor
  .rintro ⟨q',g1,g2,g3⟩;rcases (folP_beh (λp hp=>by have:=(hx.lst p hp).2;have:=hx.size;omega) q q').1 g1 with g | ⟨g,-⟩
   .obtain ⟨i1,i2⟩:=hy.cls q h1 h2 q' g;exact ⟨q',g,g2,(wk_second hx hy w q' i1 i2).1 g3⟩
   .have:=(hx.lst q g).2;omega
  .rintro ⟨q',g1,g2,g3⟩;obtain ⟨i1,i2⟩:=hy.cls q h1 h2 q' g1;exact ⟨q',(folP_beh (λp hp=>by have:=(hx.lst p hp).2;have:=hx.size;omega) q q').2 (.inl g1),g2,(wk_second hx hy w q' i1 i2).2 g3⟩
theorem wk_first {b:Pb} {s m e:Nat} {x y:Prt} (hx:GoodP b s m x) (hy:GoodP b m e y):∀(w:List Nat) (q:Nat),s<=q->q<m->(wk (behB b x y) (behP x y).last w q↔∃u v,w=u++v/\wk b x.last u q/\LP b y v)
 | [],q,_,h2=>by
  unfold wk behP;simp only;constructor
  .intro h
   cases he:y.emp with
   | false=>
    rw[he]at h;have:=(hy.lst q (by simpa using h)).1
    omega
   | true=>
    rw[he]at h;simp only[if_true,List.mem_append]at h;refine ⟨[],[],rfl,?_,he⟩;exact h.elim id λh=>by have:=(hy.lst q h).1;omega
  .rintro ⟨u,v,h,h3,h4⟩;obtain ⟨rfl,rfl⟩:=List.append_eq_nil_iff.1 h.symm;have he:y.emp=true:=h4;rw[he];simp only[if_true,List.mem_append];exact .inl h3
 | c::w,q,h1,h2=>by
  have hfol:=folP_beh (b:=b) (x:=x) (y:=y) (λp hp=>by have:=(hx.lst p hp).2;have:=hx.size;have:=hx.se;omega) q
  constructor
  .intro h;unfold wk at h;obtain ⟨q',g1,g2,g3⟩:=h;rcases (hfol q').1 g1 with g | ⟨g,g'⟩
   .obtain ⟨i1,i2⟩:=hx.cls q h1 h2 q' g;obtain ⟨u,v,rfl,j1,j2⟩:=(wk_first hx hy w q' i1 i2).1 g3;exact ⟨c::u,v,rfl,⟨q',g,g2,j1⟩,j2⟩
   .obtain ⟨i1,i2⟩:=hy.fst q' g';exact ⟨[],c::w,rfl,g,q',g',g2,(wk_second hx hy w q' i1 i2).1 g3⟩
  .rintro ⟨u,v,h,j1,j2⟩;unfold wk
   cases u with
   | nil=>
    rw[List.nil_append]at h;subst h;obtain ⟨q',g1,g2,g3⟩:=j2;obtain ⟨i1,i2⟩:=hy.fst q' g1;exact ⟨q',(hfol q').2 (.inr ⟨j1,g1⟩),g2,(wk_second hx hy w q' i1 i2).2 g3⟩
   | cons a u=>
    injection h with h3 h4;subst h3 h4;obtain ⟨q',g1,g2,g3⟩:=j1;obtain ⟨i1,i2⟩:=hx.cls q h1 h2 q' g1;exact ⟨q',(hfol q').2 (.inl g1),g2,(wk_first hx hy _ q' i1 i2).2 ⟨u,v,rfl,g3,j2⟩⟩
theorem beh_good {b:Pb} {s m e:Nat} {x y:Prt} (hx:GoodP b s m x) (hy:GoodP b m e y):GoodP (behB b x y) s e (behP x y):=by
 have h1:=hx.se;have h2:=hy.se;refine ⟨by omega,by unfold behB;rw[addF_len];exact hy.size,λp hp=>?_,λp hp=>?_,λp hp1 hp2 q hq=>?_⟩
 .unfold behP at hp;simp only at hp
  split at hp
  .rcases List.mem_append.1 hp with h | h
   .have:=hx.fst p h;omega
   .have:=hy.fst p h;omega
  .have:=hx.fst p hp;omega
 .unfold behP at hp;simp only at hp
  split at hp
  .rcases List.mem_append.1 hp with h | h
   .have:=hx.lst p h;omega
   .have:=hy.lst p h;omega
  .have:=hy.lst p hp;omega
 .rcases (folP_beh (λp hp=>by have:=(hx.lst p hp).2;have:=hx.size;omega) p q).1 hq with h | ⟨h,h'⟩
  .by_cases hpm:p<m
   .have:=hx.cls p hp1 hpm q h;omega
   .have:=hy.cls p (by omega) hp2 q h;omega
  .have:=hy.fst q h';omega
theorem beh_lang {b:Pb} {s m e:Nat} {x y:Prt} (hx:GoodP b s m x) (hy:GoodP b m e y) (w:List Nat):LP (behB b x y) (behP x y) w↔∃u v,w=u++v/\LP b x u/\LP b y v:=by
 cases w with
 | nil=>
  show (x.emp && y.emp)=true↔_;rw[Bool.and_eq_true];constructor
  .rintro ⟨h1,h2⟩;exact ⟨[],[],rfl,h1,h2⟩
  .rintro ⟨u,v,h,h1,h2⟩;obtain ⟨rfl,rfl⟩:=List.append_eq_nil_iff.1 h.symm;exact ⟨h1,h2⟩
 | cons c w=>
  have hf:∀q,q∈(behP x y).first↔q∈x.first\/(x.emp=true/\q∈y.first):=λq=>by
   unfold behP;simp only
   cases x.emp <;> simp
  constructor
  .rintro ⟨q,h1,h2,h3⟩;rcases (hf q).1 h1 with h | ⟨h,h'⟩
   .obtain ⟨i1,i2⟩:=hx.fst q h;obtain ⟨u,v,rfl,j1,j2⟩:=(wk_first hx hy w q i1 i2).1 h3;exact ⟨c::u,v,rfl,⟨q,h,h2,j1⟩,j2⟩
   .obtain ⟨i1,i2⟩:=hy.fst q h';exact ⟨[],c::w,rfl,h,q,h',h2,(wk_second hx hy w q i1 i2).1 h3⟩
  .rintro ⟨u,v,h,j1,j2⟩
   cases u with
   | nil=>
    rw[List.nil_append]at h;subst h;obtain ⟨q,g1,g2,g3⟩:=j2;obtain ⟨i1,i2⟩:=hy.fst q g1;exact ⟨q,(hf q).2 (.inr ⟨j1,g1⟩),g2,(wk_second hx hy w q i1 i2).2 g3⟩
   | cons a u=>
    injection h with h3 h4;subst h3 h4;obtain ⟨q,g1,g2,g3⟩:=j1;obtain ⟨i1,i2⟩:=hx.fst q g1;exact ⟨q,(hf q).2 (.inl g1),g2,(wk_first hx hy _ q i1 i2).2 ⟨u,v,rfl,g3,j2⟩⟩
structure Au where
 em:Prop
 P:List Nat->Prop
 fi:List Nat->Prop
 la:List Nat->Prop
 fo:List Nat->List Nat->Prop
 sr:List Nat->Nat->Prop
instance auInh:Inhabited Au:=⟨⟨False,λ_=>False,λ_=>False,λ_=>False,λ_ _=>False,λ_ _=>False⟩⟩
def setA (rs:List (Nat×Nat)):Au:=⟨False,λπ=>π=[],λπ=>π=[],λπ=>π=[],λ_ _=>False,λπ c=>π=[]/\inR rs c=true⟩
def seqA (n:Nat) (F:Nat->Au):Au where
 em:=∀k,k<n->(F k).em
 P | []=>False | k::π=>k<n/\(F k).P π
 fi | []=>False | k::π=>k<n/\(F k).fi π/\∀j,j<k->(F j).em
 la | []=>False | k::π=>k<n/\(F k).la π/\∀j,k<j->j<n->(F j).em
 fo | k::π,l::ρ=>k<n/\l<n/\((k=l/\(F k).fo π ρ)\/(k<l/\(F k).la π/\(F l).fi ρ/\∀j,k<j->j<l->(F j).em)) | _,_=>False
 sr | [],_=>False | k::π,c=>k<n/\(F k).sr π c
def choA (n:Nat) (F:Nat->Au):Au where
 em:=∃k,k<n/\(F k).em
 P | []=>False | k::π=>k<n/\(F k).P π
 fi | []=>False | k::π=>k<n/\(F k).fi π
 la | []=>False | k::π=>k<n/\(F k).la π
 fo | k::π,l::ρ=>k<n/\k=l/\(F k).fo π ρ | _,_=>False
 sr | [],_=>False | k::π,c=>k<n/\(F k).sr π c
def tlA (mn n i:Nat) (A:Au):Au where
 em:=A.em\/mn<=i
 P | []=>False | k::π=>i<=k/\k<n/\A.P π
 fi | []=>False | k::π=>i<=k/\k<n/\A.fi π/\(k=i\/A.em)
 la | []=>False | k::π=>i<=k/\k<n/\A.la π/\(mn<=k+1\/A.em)
 fo | k::π,l::ρ=>i<=k/\l<n/\((k=l/\A.fo π ρ)\/(k<l/\A.la π/\A.fi ρ/\(l=k+1\/A.em))) | _,_=>False
 sr | [],_=>False | k::π,c=>i<=k/\k<n/\A.sr π c
structure MkL (L:Nat->List Nat) (b:Pb) (s e:Nat) (x:Prt) (A:Au):Prop where
 inj:∀p q,s<=p->p<e->s<=q->q<e->L p=L q->p=q
 onto:∀π,A.P π->∃p,s<=p/\p<e/\L p=π
 pos:∀p,s<=p->p<e->A.P (L p)
 em:x.emp=true↔A.em
 fi:∀p,s<=p->p<e->(p∈x.first↔A.fi (L p))
 la:∀p,s<=p->p<e->(p∈x.last↔A.la (L p))
 fo:∀p q,s<=p->p<e->s<=q->q<e->(q∈folP b p↔A.fo (L p) (L q))
 sr:∀p c,s<=p->p<e->(setP b p c=true↔A.sr (L p) c)
def glu (L1 L2:Nat->List Nat) (m n:Nat) (p:Nat):List Nat:=if p<m then L1 p else n::L2 p
theorem MkL.glue {L1 L2:Nat->List Nat} {b1 b2 b:Pb} {s m e n:Nat} {x y z:Prt} {A1 A2 B:Au} (h1:MkL L1 b1 s m x A1) (h2:MkL L2 b2 m e y A2)
  (hP:∀π,B.P π↔A1.P π\/∃ρ,π=n::ρ/\A2.P ρ) (hd:∀ρ,¬A1.P (n::ρ)) (hsm:s<=m) (hme:m<=e)
  (hem:z.emp=true↔B.em)
  (fi1:∀p,s<=p->p<m->(p∈z.first↔B.fi (L1 p))) (fi2:∀p,m<=p->p<e->(p∈z.first↔B.fi (n::L2 p)))
  (la1:∀p,s<=p->p<m->(p∈z.last↔B.la (L1 p))) (la2:∀p,m<=p->p<e->(p∈z.last↔B.la (n::L2 p)))
  (fo11:∀p q,s<=p->p<m->s<=q->q<m->(q∈folP b p↔B.fo (L1 p) (L1 q))) (fo12:∀p q,s<=p->p<m->m<=q->q<e->(q∈folP b p↔B.fo (L1 p) (n::L2 q)))
  (fo21:∀p q,m<=p->p<e->s<=q->q<m->(q∈folP b p↔B.fo (n::L2 p) (L1 q))) (fo22:∀p q,m<=p->p<e->m<=q->q<e->(q∈folP b p↔B.fo (n::L2 p) (n::L2 q)))
  (sr1:∀p c,s<=p->p<m->(setP b p c=true↔B.sr (L1 p) c)) (sr2:∀p c,m<=p->p<e->(setP b p c=true↔B.sr (n::L2 p) c)):MkL (glu L1 L2 m n) b s e z B:=by
 have g1:∀p,p<m->glu L1 L2 m n p=L1 p:=λp h=>if_pos h;have g2:∀p,m<=p->glu L1 L2 m n p=n::L2 p:=λp h=>if_neg (by omega)
 refine ⟨λp q p1 p2 q1 q2 h=>?_,λπ h=>?_,λp p1 p2=>?_,hem,λp p1 p2=>?_,λp p1 p2=>?_,λp q p1 p2 q1 q2=>?_,λp c p1 p2=>?_⟩
 .by_cases hp:p<m
  .by_cases hq:q<m
   .rw[g1 p hp,g1 q hq]at h;exact h1.inj p q p1 hp q1 hq h
   .rw[g1 p hp,g2 q (by omega)]at h
    exact absurd (h▸h1.pos p p1 hp) (hd _)
  .by_cases hq:q<m
   .rw[g1 q hq,g2 p (by omega)]at h
    exact absurd (h.symm▸h1.pos q q1 hq) (hd _)
   .rw[g2 p (by omega),g2 q (by omega)]at h
    injection h with _ h;exact h2.inj p q (by omega) p2 (by omega) q2 h
 .rcases (hP π).1 h with h | ⟨ρ,rfl,hρ⟩
  .obtain ⟨p,p1,p2,p3⟩:=h1.onto π h;exact ⟨p,p1,by omega,by rw[g1 p p2];exact p3⟩
  .obtain ⟨p,p1,p2,p3⟩:=h2.onto ρ hρ;exact ⟨p,by omega,p2,by rw[g2 p p1,p3]⟩
 .by_cases hp:p<m
  .rw[g1 p hp];exact (hP _).2 (.inl (h1.pos p p1 hp))
  .rw[g2 p (by omega)];exact (hP _).2 (.inr ⟨_,rfl,h2.pos p (by omega) p2⟩)
 .by_cases hp:p<m
  .rw[g1 p hp];exact fi1 p p1 hp
  .rw[g2 p (by omega)];exact fi2 p (by omega) p2
 .by_cases hp:p<m
  .rw[g1 p hp];exact la1 p p1 hp
  .rw[g2 p (by omega)];exact la2 p (by omega) p2
 .by_cases hp:p<m
  .by_cases hq:q<m
   .rw[g1 p hp,g1 q hq];exact fo11 p q p1 hp q1 hq
   .rw[g1 p hp,g2 q (by omega)];exact fo12 p q p1 hp (by omega) q2
  .by_cases hq:q<m
   .rw[g2 p (by omega),g1 q hq];exact fo21 p q (by omega) p2 q1 hq
   .rw[g2 p (by omega),g2 q (by omega)];exact fo22 p q (by omega) p2 (by omega) q2
 .by_cases hp:p<m
  .rw[g1 p hp];exact sr1 p c p1 hp
  .rw[g2 p (by omega)];exact sr2 p c (by omega) p2
structure Mk (b b':Pb) (x:Prt) (A:Au):Prop where
 len:b'.sets.length=b'.fol.length
 sets:∃ns,b'.sets=b.sets++ns
 fol:∃nf,b'.fol=b.fol++nf
 good:GoodP b' b.fol.length b'.fol.length x
 lab:∃L,MkL L b' b.fol.length b'.fol.length x A
section
variable {b b1 b2 b':Pb} {x y:Prt} {A A':Au} {n:Nat} {F:Nat->Au}
theorem Mk.setOld (h:Mk b b' x A) (hl:b.sets.length=b.fol.length) {p:Nat} (hp:p<b.fol.length) (c:Nat):setP b' p c=setP b p c:=by
 obtain ⟨ns,hs⟩:=h.sets;unfold setP;rw[hs,List.getElem?_append_left (by omega)]
theorem Mk.folOld (h:Mk b b' x A) {p:Nat} (hp:p<b.fol.length):folP b' p=folP b p:=by
 obtain ⟨nf,hf⟩:=h.fol;unfold folP;rw[hf,List.getElem?_append_left hp]
theorem GoodP.laterM {z:Prt} {s e:Nat} (hx:GoodP b s e z) (h:Mk b b' x A) (he:e=b.fol.length):GoodP b' s e z:=by
 have hg:=h.good.size;have hs:=h.good.se;refine ⟨hx.se,by omega,hx.fst,hx.lst,λp h1 h2 q hq=>?_⟩
 rw[h.folOld (by omega)]at hq
 exact hx.cls p h1 h2 q hq
theorem Mk.set (b:Pb) (hl:b.sets.length=b.fol.length) (rs:List (Nat×Nat)):Mk b ⟨b.sets++[rs],b.fol++[[]]⟩ ⟨[b.sets.length],[b.sets.length],false⟩ (setA rs):=by
 have hset:∀c,setP ⟨b.sets++[rs],b.fol++[[]]⟩ b.sets.length c=inR rs c:=λc=>by unfold setP;simp
 have hfol:folP ⟨b.sets++[rs],b.fol++[[]]⟩ b.sets.length=[]:=by unfold folP;simp[hl]
 have one:∀p,b.fol.length<=p->p<(⟨b.sets++[rs],b.fol++[[]]⟩:Pb).fol.length->p=b.sets.length:=λp h1 h2=>by simp at h2;omega
 refine ⟨by simp[hl],⟨_,rfl⟩,⟨_,rfl⟩,⟨by simp,by simp,by simp[hl],by simp[hl],λp h1 h2 q hq=>?_⟩,λ_=>[],λp q p1 p2 q1 q2 _=>?_,λπ h=>⟨b.sets.length,by omega,by simp[hl],h.symm⟩,λp _ _=>rfl,by simp[setA],λp p1 p2=>?_,λp p1 p2=>?_,λp q p1 p2 q1 q2=>?_,λp c p1 p2=>?_⟩
 .rw[one p h1 h2,hfol]at hq;cases hq
 .rw[one p p1 p2,one q q1 q2]
 .simp[setA,one p p1 p2]
 .simp[setA,one p p1 p2]
 .rw[one p p1 p2,hfol];simp[setA]
 .rw[one p p1 p2,hset];simp[setA]
theorem Mk.nil (b:Pb) (hl:b.sets.length=b.fol.length) (hA:∀π,¬A.P π) (he:A.em):Mk b b ⟨[],[],true⟩ A:=
 ⟨hl,⟨[],by simp⟩,⟨[],by simp⟩,⟨Nat.le_refl _,Nat.le_refl _,by simp,by simp,λp h1 h2=>by omega⟩,λ_=>[],λp q p1 p2=>by omega,λπ h=>absurd h (hA π),λp p1 p2=>by omega,by simp[he],λp p1 p2=>by omega,λp p1 p2=>by omega,λp q p1 p2=>by omega,λp c p1 p2=>by omega⟩
theorem addF_pre (l:List Nat) (k:Nat):∀(ps:List Nat) (fol:List (List Nat)),(∀p∈ps,k<=p)->(addF l ps fol).take k=fol.take k
 | [],_,_=>rfl
 | a::r,fol,h=>by rw[addF,addF_pre l k r _ (λp hp=>h p (by simp[hp])),List.take_set_of_le (h a (by simp))]
theorem beh_pre {k:Nat} (hl:k<=b2.fol.length) (h:∀p∈x.last,k<=p) {f:List (List Nat)} (hf:b2.fol.take k=f):(behB b2 x y).fol=f++(behB b2 x y).fol.drop k:=by
 have:(behB b2 x y).fol.take k=f:=by unfold behB;rw[addF_pre _ _ _ _ h];exact hf
 rw[<-this,List.take_append_drop]
theorem behB_set (b:Pb) (x y:Prt) (p c:Nat):setP (behB b x y) p c=setP b p c:=rfl
theorem behP_fst {x y:Prt} {p:Nat}:p∈(behP x y).first↔p∈x.first\/(x.emp=true/\p∈y.first):=by
 unfold behP; simp only; cases x.emp <;> simp
theorem behP_lst {x y:Prt} {p:Nat}:p∈(behP x y).last↔p∈y.last\/(y.emp=true/\p∈x.last):=by
 unfold behP; simp only; cases y.emp <;> simp[or_comm]
theorem MkL.behS {L1 L2:Nat->List Nat} {s m e:Nat} (h1:MkL L1 b1 s m x (seqA n F)) (h2:MkL L2 b2 m e y (F n)) (g1:GoodP b2 s m x) (g2:GoodP b2 m e y)
  (hf:∀p,p<m->folP b2 p=folP b1 p) (hs:∀p c,p<m->setP b2 p c=setP b1 p c):MkL (glu L1 L2 m n) (behB b2 x y) s e (behP x y) (seqA (n+1) F):=by
 have fo:=folP_beh (b:=b2) (x:=x) (y:=y) (λp hp=>by have:=(g1.lst p hp).2;have:=g2.size;have:=g2.se;omega)
 have hx:∀p,s<=p->p<m->∃k π,L1 p=k::π/\k<n/\(F k).P π:=λp p1 p2=>by
  have:=h1.pos p p1 p2
  cases hL:L1 p with
  | nil=>rw[hL]at this;exact this.elim
  | cons k π=>rw[hL]at this;exact ⟨k,π,rfl,this⟩
 have ny:∀{p},p<m->p∉y.first:=λhp h=>by have:=(g2.fst _ h).1;omega
 have ny':∀{p},p<m->p∉y.last:=λhp h=>by have:=(g2.lst _ h).1;omega
 have nx:∀{p},m<=p->p∉x.first:=λhp h=>by have:=(g1.fst _ h).2;omega
 have nx':∀{p},m<=p->p∉x.last:=λhp h=>by have:=(g1.lst _ h).2;omega
 refine MkL.glue h1 h2 (λπ=>?_) (λρ h=>by have:=h.1;omega) g1.se g2.se ?_ (λp p1 p2=>?_) (λp p1 p2=>?_) (λp p1 p2=>?_) (λp p1 p2=>?_) (λp q p1 p2 q1 q2=>?_) (λp q p1 p2 q1 q2=>?_) (λp q p1 p2 q1 q2=>?_) (λp q p1 p2 q1 q2=>?_) (λp c p1 p2=>?_) (λp c p1 p2=>?_)
 .cases π with
  | nil=>simp[seqA]
  | cons k π=>
   simp only[seqA,List.cons.injEq];constructor
   .rintro ⟨h,h3⟩;by_cases hk:k=n
    .subst hk;exact .inr ⟨π,⟨rfl,rfl⟩,h3⟩
    .exact .inl ⟨by omega,h3⟩
   .rintro (⟨h,h3⟩ | ⟨ρ,⟨rfl,rfl⟩,h3⟩)
    .exact ⟨by omega,h3⟩
    .exact ⟨by omega,h3⟩
 .show (x.emp && y.emp)=true↔_;rw[Bool.and_eq_true,h1.em,h2.em];constructor
  .rintro ⟨h3,h4⟩ k hk;by_cases hkn:k=n
   .subst hkn;exact h4
   .exact h3 k (by omega)
  .exact λh=>⟨λk hk=>h k (by omega),h n (by omega)⟩
 .rw[behP_fst,h1.fi p p1 p2];obtain ⟨k,π,hL,hk,-⟩:=hx p p1 p2;rw[hL];simp only[seqA];constructor
  .rintro (⟨-,h⟩ | ⟨-,h⟩)
   .exact ⟨by omega,h⟩
   .exact absurd h (ny p2)
  .exact λh=>.inl ⟨hk,h.2⟩
 .rw[behP_fst,h2.fi p p1 p2,h1.em];simp only[seqA];constructor
  .rintro (h | ⟨h,h3⟩)
   .exact absurd h (nx p1)
   .exact ⟨by omega,h3,h⟩
  .exact λh=>.inr ⟨h.2.2,h.2.1⟩
 .rw[behP_lst,h1.la p p1 p2,h2.em];obtain ⟨k,π,hL,hk,-⟩:=hx p p1 p2;rw[hL];simp only[seqA];constructor
  .rintro (h | ⟨h,h3,h4,h5⟩)
   .exact absurd h (ny' p2)
   .refine ⟨by omega,h4,λj h6 h7=>?_⟩
    by_cases hj:j=n
    .subst hj;exact h
    .exact h5 j h6 (by omega)
  .exact λ⟨_,h4,h5⟩=>.inr ⟨h5 n (by omega) (by omega),hk,h4,λj h6 h7=>h5 j h6 (by omega)⟩
 .rw[behP_lst,h2.la p p1 p2];simp only[seqA];constructor
  .rintro (h | ⟨-,h⟩)
   .exact ⟨by omega,h,λj h6 h7=>by omega⟩
   .exact absurd h (nx' p1)
  .exact λh=>.inl h.2.1
 .rw[fo,hf p p2,h1.fo p q p1 p2 q1 q2];obtain ⟨k,π,hL,hk,-⟩:=hx p p1 p2;obtain ⟨l,ρ,hM,hl,-⟩:=hx q q1 q2;rw[hL,hM];simp only[seqA];constructor
  .rintro (h | ⟨-,h⟩)
   .exact ⟨by omega,by omega,h.2.2⟩
   .exact absurd h (ny q2)
  .exact λh=>.inl ⟨hk,hl,h.2.2⟩
 .rw[fo,h1.la p p1 p2,h2.fi q q1 q2];obtain ⟨k,π,hL,hk,-⟩:=hx p p1 p2;rw[hL];simp only[seqA];constructor
  .rintro (h | ⟨⟨-,h3,h4⟩,h⟩)
   .have:=(g1.cls p p1 p2 q h).2;omega
   .exact ⟨by omega,by omega, .inr ⟨hk,h3,h,h4⟩⟩
  .rintro ⟨-,-,⟨h,-⟩ | ⟨-,h3,h,h4⟩⟩
   .omega
   .exact .inr ⟨⟨hk,h3,h4⟩,h⟩
 .obtain ⟨l,ρ,hM,hl,-⟩:=hx q q1 q2;rw[hM,fo];simp only[seqA];constructor
  .rintro (h | ⟨h,-⟩)
   .have:=(g2.cls p p1 p2 q h).1;omega
   .exact absurd h (nx' p1)
  .rintro ⟨-,-,⟨h,-⟩ | ⟨h,-⟩⟩ <;> omega
 .rw[fo,h2.fo p q p1 p2 q1 q2];simp only[seqA];constructor
  .rintro (h | ⟨h,-⟩)
   .exact ⟨by omega,by omega, .inl ⟨trivial,h⟩⟩
   .exact absurd h (nx' p1)
  .rintro ⟨-,-,⟨-,h⟩ | ⟨h,-⟩⟩
   .exact .inl h
   .omega
 .rw[behB_set,hs p c p2,h1.sr p c p1 p2];obtain ⟨k,π,hL,hk,-⟩:=hx p p1 p2;rw[hL];simp only[seqA];exact ⟨λh=>⟨by omega,h.2⟩,λh=>⟨hk,h.2⟩⟩
 .rw[behB_set,h2.sr p c p1 p2];simp only[seqA];exact ⟨λh=>⟨by omega,h⟩,λh=>h.2⟩
theorem MkL.eitS {L1 L2:Nat->List Nat} {s m e:Nat} (h1:MkL L1 b1 s m x (choA n F)) (h2:MkL L2 b2 m e y (F n)) (g1:GoodP b2 s m x) (g2:GoodP b2 m e y)
  (hf:∀p,p<m->folP b2 p=folP b1 p) (hs:∀p c,p<m->setP b2 p c=setP b1 p c):MkL (glu L1 L2 m n) b2 s e (eitP x y) (choA (n+1) F):=by
 have hx:∀p,s<=p->p<m->∃k π,L1 p=k::π/\k<n/\(F k).P π:=λp p1 p2=>by
  have:=h1.pos p p1 p2
  cases hL:L1 p with
  | nil=>rw[hL]at this;exact this.elim
  | cons k π=>rw[hL]at this;exact ⟨k,π,rfl,this⟩
 refine MkL.glue h1 h2 (λπ=>?_) (λρ h=>by have:=h.1;omega) g1.se g2.se ?_ (λp p1 p2=>?_) (λp p1 p2=>?_) (λp p1 p2=>?_) (λp p1 p2=>?_) (λp q p1 p2 q1 q2=>?_) (λp q p1 p2 q1 q2=>?_) (λp q p1 p2 q1 q2=>?_) (λp q p1 p2 q1 q2=>?_) (λp c p1 p2=>?_) (λp c p1 p2=>?_)
 .cases π with
  | nil=>simp[choA]
  | cons k π=>
   simp only[choA,List.cons.injEq];constructor
   .rintro ⟨h,h3⟩;by_cases hk:k=n
    .subst hk;exact .inr ⟨π,⟨rfl,rfl⟩,h3⟩
    .exact .inl ⟨by omega,h3⟩
   .rintro (⟨h,h3⟩ | ⟨ρ,⟨rfl,rfl⟩,h3⟩)
    .exact ⟨by omega,h3⟩
    .exact ⟨by omega,h3⟩
 .show (x.emp || y.emp)=true↔_;rw[Bool.or_eq_true,h1.em,h2.em];constructor
  .rintro (⟨k,h3,h4⟩ | h)
   .exact ⟨k,by omega,h4⟩
   .exact ⟨n,by omega,h⟩
  .rintro ⟨k,hk,h⟩;by_cases hkn:k=n
   .subst hkn;exact .inr h
   .exact .inl ⟨k,by omega,h⟩
 .obtain ⟨k,π,hL,hk,-⟩:=hx p p1 p2;show p∈x.first++y.first↔_;rw[List.mem_append,h1.fi p p1 p2,hL];exact ⟨λh=>h.elim (λh=>⟨by omega,h.2⟩) λh=>by have:=(g2.fst p h).1;omega,λh=>.inl ⟨hk,h.2⟩⟩
 .show p∈x.first++y.first↔_;rw[List.mem_append,h2.fi p p1 p2];exact ⟨λh=>h.elim (λh=>by have:=(g1.fst p h).2;omega) λh=>⟨by omega,h⟩,λh=>.inr h.2⟩
 .obtain ⟨k,π,hL,hk,-⟩:=hx p p1 p2;show p∈x.last++y.last↔_;rw[List.mem_append,h1.la p p1 p2,hL];exact ⟨λh=>h.elim (λh=>⟨by omega,h.2⟩) λh=>by have:=(g2.lst p h).1;omega,λh=>.inl ⟨hk,h.2⟩⟩
 .show p∈x.last++y.last↔_;rw[List.mem_append,h2.la p p1 p2];exact ⟨λh=>h.elim (λh=>by have:=(g1.lst p h).2;omega) λh=>⟨by omega,h⟩,λh=>.inr h.2⟩
 .rw[hf p p2,h1.fo p q p1 p2 q1 q2];obtain ⟨k,π,hL,hk,-⟩:=hx p p1 p2;obtain ⟨l,ρ,hM,hl,-⟩:=hx q q1 q2;rw[hL,hM];exact ⟨λh=>⟨by omega,h.2⟩,λh=>⟨hk,h.2⟩⟩
 .obtain ⟨k,π,hL,hk,-⟩:=hx p p1 p2;rw[hL];exact ⟨λh=>by have:=(g1.cls p p1 p2 q h).2;omega,λh=>by have:=h.2.1;omega⟩
 .obtain ⟨l,ρ,hM,hl,-⟩:=hx q q1 q2;rw[hM];exact ⟨λh=>by have:=(g2.cls p p1 p2 q h).1;omega,λh=>by have:=h.2.1;omega⟩
 .rw[h2.fo p q p1 p2 q1 q2];exact ⟨λh=>⟨by omega,rfl,h⟩,λh=>h.2.2⟩
 .rw[hs p c p2,h1.sr p c p1 p2];obtain ⟨k,π,hL,hk,-⟩:=hx p p1 p2;rw[hL];exact ⟨λh=>⟨by omega,h.2⟩,λh=>⟨hk,h.2⟩⟩
 .rw[h2.sr p c p1 p2];exact ⟨λh=>⟨by omega,h⟩,λh=>h.2⟩
theorem Mk.behS (h1:Mk b b1 x (seqA n F)) (h2:Mk b1 b2 y (F n)):Mk b (behB b2 x y) (behP x y) (seqA (n+1) F):=by
 have hx:=h1.good.laterM h2 rfl;obtain ⟨ns1,hs1⟩:=h1.sets;obtain ⟨ns2,hs2⟩:=h2.sets;obtain ⟨nf1,hf1⟩:=h1.fol;obtain ⟨nf2,hf2⟩:=h2.fol;obtain ⟨L1,l1⟩:=h1.lab;obtain ⟨L2,l2⟩:=h2.lab;have q1:=h1.good.se;have q2:=h2.good.se;have hlen:(behB b2 x y).fol.length=b2.fol.length:=by unfold behB;rw[addF_len]
 refine ⟨by rw[hlen];exact h2.len,⟨ns1++ns2,by show b2.sets=_;rw[hs2,hs1,List.append_assoc]⟩,⟨_,beh_pre (by omega) (λp hp=>(h1.good.lst p hp).1) (f:=b.fol) (by rw[hf2,hf1,List.append_assoc,List.take_left])⟩,by rw[hlen];exact beh_good hx h2.good,glu L1 L2 b1.fol.length n,?_⟩
 rw[hlen];exact l1.behS l2 hx h2.good (λp hp=>h2.folOld hp) (λp c hp=>h2.setOld h1.len hp c)
theorem Mk.eitS (h1:Mk b b1 x (choA n F)) (h2:Mk b1 b2 y (F n)):Mk b b2 (eitP x y) (choA (n+1) F):=by
 have hx:=h1.good.laterM h2 rfl;have hy:=h2.good;obtain ⟨ns1,hs1⟩:=h1.sets;obtain ⟨ns2,hs2⟩:=h2.sets;obtain ⟨nf1,hf1⟩:=h1.fol;obtain ⟨nf2,hf2⟩:=h2.fol;obtain ⟨L1,l1⟩:=h1.lab;obtain ⟨L2,l2⟩:=h2.lab;have q1:=hx.se;have q2:=hy.se;refine ⟨h2.len,⟨ns1++ns2,by rw[hs2,hs1,List.append_assoc]⟩,⟨nf1++nf2,by rw[hf2,hf1,List.append_assoc]⟩,⟨by omega,Nat.le_refl _,λp hp=>?_,λp hp=>?_,λp p1 p2 q hq=>?_⟩,_,l1.eitS l2 hx hy (λp hp=>h2.folOld hp) (λp c hp=>h2.setOld h1.len hp c)⟩
 .rcases List.mem_append.1 hp with h | h
  .have:=hx.fst p h;omega
  .have:=hy.fst p h;omega
 .rcases List.mem_append.1 hp with h | h
  .have:=hx.lst p h;omega
  .have:=hy.lst p h;omega
 .by_cases hpm:p<b1.fol.length
  .have:=hx.cls p p1 hpm q hq;omega
  .have:=hy.cls p (by omega) p2 q hq;omega
def orP (x:Prt) (e:Bool):Prt:={ x with emp:=x.emp || e }
theorem MkL.rep {L:Nat->List Nat} {s e mn:Nat} {z:Prt} (h:MkL L b s e x (seqA n λ_=>A)) (hmn:mn<=n) (hn:0<n) (he:z.emp=true↔A.em\/mn=0) (hfi:∀p,s<=p->p<e->(p∈z.first↔p∈x.first))
  (hla:∀p,s<=p->p<e->(p∈z.last↔(tlA mn n 0 A).la (L p))):MkL L b s e z (tlA mn n 0 A):=by
 refine ⟨h.inj,λπ hπ=>h.onto π ?_,λp p1 p2=>?_,?_,λp p1 p2=>?_,hla,λp q p1 p2 q1 q2=>?_,λp c p1 p2=>?_⟩
 .cases π with
  | nil=>exact hπ
  | cons k π=>exact hπ.2
 .have:=h.pos p p1 p2
  cases hL:L p with
  | nil=>rw[hL]at this;exact this
  | cons k π=>rw[hL]at this;exact ⟨Nat.zero_le _,this⟩
 .rw[he];simp only[tlA];exact ⟨λh=>h.imp id λh=>by omega,λh=>h.imp id λh=>by omega⟩
 .rw[hfi p p1 p2,h.fi p p1 p2]
  cases hL:L p with
  | nil=>exact Iff.rfl
  | cons k π=>
   simp only[seqA,tlA];constructor
   .rintro ⟨h1,h2,h3⟩;refine ⟨Nat.zero_le _,h1,h2,?_⟩;by_cases hk:k=0
    .exact .inl hk
    .exact .inr (h3 0 (by omega))
   .rintro ⟨-,h1,h2,h3⟩;exact ⟨h1,h2,λj hj=>h3.resolve_left (by omega)⟩
 .rw[h.fo p q p1 p2 q1 q2]
  cases hL:L p with
  | nil=>exact Iff.rfl
  | cons k π=>
   cases hM:L q with
   | nil=>exact Iff.rfl
   | cons l ρ=>
    simp only[seqA,tlA];constructor
    .rintro ⟨h1,h2,h3 | ⟨h3,h4,h5,h6⟩⟩
     .exact ⟨Nat.zero_le _,h2, .inl h3⟩
     .refine ⟨Nat.zero_le _,h2, .inr ⟨h3,h4,h5,?_⟩⟩;by_cases hl:l=k+1
      .exact .inl hl
      .exact .inr (h6 (k+1) (by omega) (by omega))
    .rintro ⟨-,h2,h3 | ⟨h3,h4,h5,h6⟩⟩
     .exact ⟨by omega,h2, .inl h3⟩
     .exact ⟨by omega,h2, .inr ⟨h3,h4,h5,λj j1 j2=>h6.resolve_left (by omega)⟩⟩
 .rw[h.sr p c p1 p2]
  cases hL:L p with
  | nil=>exact Iff.rfl
  | cons k π=>exact ⟨λh=>⟨Nat.zero_le _,h⟩,λh=>h.2⟩
theorem MkL.one {L:Nat->List Nat} {s e:Nat} (h:MkL L b s e x A) (hF:F 0=A):MkL (λp=>0::L p) b s e x (choA 1 F):=by
 subst hF;refine ⟨λp q p1 p2 q1 q2 e=>h.inj p q p1 p2 q1 q2 (by injection e),λπ hπ=>?_,λp p1 p2=>⟨Nat.one_pos,h.pos p p1 p2⟩,h.em.trans ⟨λh=>⟨0,Nat.one_pos,h⟩,λ⟨k,hk,h⟩=>?_⟩,λp p1 p2=>(h.fi p p1 p2).trans ⟨λh=>⟨Nat.one_pos,h⟩,λh=>h.2⟩,λp p1 p2=>(h.la p p1 p2).trans ⟨λh=>⟨Nat.one_pos,h⟩,λh=>h.2⟩,λp q p1 p2 q1 q2=>(h.fo p q p1 p2 q1 q2).trans ⟨λh=>⟨Nat.one_pos,rfl,h⟩,λh=>h.2.2⟩,λp c p1 p2=>(h.sr p c p1 p2).trans ⟨λh=>⟨Nat.one_pos,h⟩,λh=>h.2⟩⟩
 .cases π with
  | nil=>exact hπ.elim
  | cons k π=>
   obtain ⟨hk,hπ⟩:=hπ;obtain rfl:k=0:=by omega
   obtain ⟨p,p1,p2,p3⟩:=h.onto π hπ;exact ⟨p,p1,p2,by rw[p3]⟩
 .obtain rfl:k=0:=by omega
  exact h
end
theorem wk_union (b:Pb) (l1 l2:List Nat):∀(w:List Nat) (q:Nat),wk b (l1++l2) w q↔wk b l1 w q\/wk b l2 w q
 | [],q=>by unfold wk;exact List.mem_append
 | c::w,q=>by
  unfold wk;constructor
  .rintro ⟨q',h1,h2,h3⟩;rcases (wk_union b l1 l2 w q').1 h3 with h | h
   .exact .inl ⟨q',h1,h2,h⟩
   .exact .inr ⟨q',h1,h2,h⟩
  .rintro (⟨q',h1,h2,h3⟩ | ⟨q',h1,h2,h3⟩)
   .exact ⟨q',h1,h2,(wk_union b l1 l2 w q').2 (.inl h3)⟩
   .exact ⟨q',h1,h2,(wk_union b l1 l2 w q').2 (.inr h3)⟩
theorem wk_mem {b:Pb} {l1 l2:List Nat} (h:∀p,p∈l1↔p∈l2):∀(w:List Nat) (q:Nat),wk b l1 w q↔wk b l2 w q
 | [],q=>h q
 | c::w,q=>by
  unfold wk;exact ⟨λ⟨q',h1,h2,h3⟩=>⟨q',h1,h2,(wk_mem h w q').1 h3⟩,λ⟨q',h1,h2,h3⟩=>⟨q',h1,h2,(wk_mem h w q').2 h3⟩⟩
theorem wk_end {b:Pb} {s e:Nat} {last:List Nat} (hcl:∀p,s<=p->p<e->∀q∈folP b p,s<=q/\q<e):∀(w:List Nat) (q:Nat),s<=q->q<e->wk b last w q->∃p∈last,s<=p/\p<e
 | [],q,h1,h2,h=>⟨q,h,h1,h2⟩
 | c::w,q,h1,h2,h=>by
  unfold wk at h;obtain ⟨q',g1,-,g3⟩:=h;obtain ⟨i1,i2⟩:=hcl q h1 h2 q' g1;exact wk_end hcl w q' i1 i2 g3
structure LA where
 l:List Nat->Prop
 a:Au
structure Wr (b b':Pb) (x:Prt) (K:LA):Prop where
 len:b'.sets.length=b'.fol.length
 sets:∃ns,b'.sets=b.sets++ns
 fol:∃nf,b'.fol=b.fol++nf
 good:GoodP b' b.fol.length b'.fol.length x
 lang:∀w,LP b' x w↔K.l w
 lab:∃L,MkL L b' b.fol.length b'.fol.length x K.a
theorem Wr.mk' {b b':Pb} {x:Prt} {K:LA} (h:Wr b b' x K):Mk b b' x K.a:=⟨h.len,h.sets,h.fol,h.good,h.lab⟩
theorem Wr.setOld {b b':Pb} {x:Prt} {K:LA} (h:Wr b b' x K) (hl:b.sets.length=b.fol.length) {p:Nat} (hp:p<b.fol.length) (c:Nat):setP b' p c=setP b p c:=by
 obtain ⟨ns,hs⟩:=h.sets;unfold setP;rw[hs,List.getElem?_append_left (by omega)]
theorem Wr.folOld {b b':Pb} {x:Prt} {K:LA} (h:Wr b b' x K) {p:Nat} (hp:p<b.fol.length):folP b' p=folP b p:=by
 obtain ⟨nf,hf⟩:=h.fol;unfold folP;rw[hf,List.getElem?_append_left hp]
theorem folP_out {b:Pb} {p:Nat} (h:b.fol.length<=p):folP b p=[]:=by
 unfold folP;rw[List.getElem?_eq_none h]
 rfl
theorem GoodP.later {b b':Pb} {x y:Prt} {K:LA} {s e:Nat} (hx:GoodP b s e x) (h:Wr b b' y K) (he:e=b.fol.length):GoodP b' s e x:=by
 have hg:=h.good.size;have hs:=h.good.se;refine ⟨hx.se,by omega,hx.fst,hx.lst,λp h1 h2 q hq=>?_⟩
 rw[h.folOld (by omega)]at hq
 exact hx.cls p h1 h2 q hq
theorem LP.later {b b':Pb} {x y:Prt} {K:LA} {s e:Nat} (hx:GoodP b s e x) (h:Wr b b' y K) (hl:b.sets.length=b.fol.length) (he:e=b.fol.length) (w:List Nat):LP b' x w↔LP b x w:=by
 have hse:=hx.se
 cases w with
 | nil=>exact Iff.rfl
 | cons c w=>
  have hloc:=wk_local (b:=b) (b':=b') (s:=s) (e:=e) (last:=x.last) hx.lst (λp h1 h2 c=>h.setOld hl (by omega) c) (λp h1 h2 q _ _=>by rw[h.folOld (by omega)]) hx.cls
   (λp h1 q hq=>by
    by_cases hp:p<e
    .rw[h.folOld (by omega)]at hq;exact (hx.cls p h1 hp q hq).1
    .by_cases hp2:p<b'.fol.length
     .have:=(h.good.cls p (by omega) hp2 q hq).1;omega
     .rw[folP_out (by omega)]at hq;cases hq)
   (λp h1 q hq=>by
    by_cases hp2:p<b'.fol.length
    .have:=(h.good.cls p (by omega) hp2 q hq).1;omega
    .rw[folP_out (by omega)]at hq;cases hq)
  unfold LP;constructor
  .rintro ⟨q,h1,h2,h3⟩;obtain ⟨i1,i2⟩:=hx.fst q h1;exact ⟨q,h1,by rw[<-h.setOld hl (by omega)];exact h2,((hloc w q i1).1 h3).2⟩
  .rintro ⟨q,h1,h2,h3⟩;obtain ⟨i1,i2⟩:=hx.fst q h1;exact ⟨q,h1,by rw[h.setOld hl (by omega)];exact h2,(hloc w q i1).2 ⟨i2,h3⟩⟩
theorem Wr.set (b:Pb) (hl:b.sets.length=b.fol.length) (rs:List (Nat×Nat)):Wr b ⟨b.sets++[rs],b.fol++[[]]⟩ ⟨[b.sets.length],[b.sets.length],false⟩ ⟨λw=>∃c,w=[c]/\inR rs c=true,setA rs⟩:=by
 have hset:∀c,setP ⟨b.sets++[rs],b.fol++[[]]⟩ b.sets.length c=inR rs c:=λc=>by unfold setP;simp
 have hfol:folP ⟨b.sets++[rs],b.fol++[[]]⟩ b.sets.length=[]:=by unfold folP;simp[hl]
 refine ⟨by simp[hl],⟨_,rfl⟩,⟨_,rfl⟩,⟨by simp,by simp,by simp[hl],by simp[hl],λp h1 h2 q hq=>?_⟩,λw=>?_,(Mk.set b hl rs).lab⟩
 .have:p=b.sets.length:=by simp at h2;omega
  subst this;rw[hfol]at hq
  cases hq
 .cases w with
  | nil=>simp[LP]
  | cons c w=>
   cases w with
   | nil=>simp[LP,wk,hset]
   | cons d w=>simp[LP,wk,hfol]
theorem Wr.nil (b:Pb) (hl:b.sets.length=b.fol.length) (F:Nat->Au):Wr b b ⟨[],[],true⟩ ⟨λw=>w=[],seqA 0 F⟩:=by
 refine ⟨hl,⟨[],by simp⟩,⟨[],by simp⟩,⟨Nat.le_refl _,Nat.le_refl _,by simp,by simp,λp h1 h2=>by omega⟩,λw=>?_,(Mk.nil b hl (λπ h=>by cases π with | nil=>exact h | cons k π=>exact absurd h.1 (Nat.not_lt_zero _)) (λk h=>absurd h (Nat.not_lt_zero _))).lab⟩
 cases w <;> simp[LP]
theorem Wr.beh {b b1 b2:Pb} {x y:Prt} {K L:LA} {n:Nat} {F:Nat->Au} (h1:Wr b b1 x K) (h2:Wr b1 b2 y L) (e1:K.a=seqA n F) (e2:L.a=F n):Wr b (behB b2 x y) (behP x y) ⟨λw=>∃u v,w=u++v/\K.l u/\L.l v,seqA (n+1) F⟩:=by
 have hx:=h1.good.later h2 rfl;obtain ⟨ns1,hs1⟩:=h1.sets;obtain ⟨ns2,hs2⟩:=h2.sets;obtain ⟨nf1,hf1⟩:=h1.fol;obtain ⟨nf2,hf2⟩:=h2.fol;have hlen:(behB b2 x y).fol.length=b2.fol.length:=by unfold behB;rw[addF_len]
 refine ⟨by rw[hlen];exact h2.len,⟨ns1++ns2,by show b2.sets=_;rw[hs2,hs1,List.append_assoc]⟩,⟨(behB b2 x y).fol.drop b.fol.length,?_⟩,by rw[hlen];exact beh_good hx h2.good,λw=>?_,(Mk.behS (e1▸h1.mk') (e2▸h2.mk')).lab⟩
 ·-- the elder positions are untouched
  have hpre:(behB b2 x y).fol.take b.fol.length=b.fol:=by
   have gen:∀(ps:List Nat) (fol:List (List Nat)),(∀p∈ps,b.fol.length<=p)->(addF y.first ps fol).take b.fol.length=fol.take b.fol.length:=by
    intro ps
    induction ps with
    | nil=>intro fol _;rfl
    | cons a r ih=>
     intro fol h;rw[addF,ih _ (λp hp=>h p (by simp[hp])),List.take_set_of_le (h a (by simp))]
   unfold behB;simp only;rw[gen _ _ (λp hp=>(h1.good.lst p hp).1),hf2,hf1,List.append_assoc,List.take_left]
  rw[<-List.take_append_drop b.fol.length (behB b2 x y).fol,hpre];simp
 .rw[beh_lang hx h2.good];constructor
  .rintro ⟨u,v,e,g1,g2⟩;exact ⟨u,v,e,(h1.lang u).1 ((LP.later h1.good h2 h1.len rfl u).1 g1),(h2.lang v).1 g2⟩
  .rintro ⟨u,v,e,g1,g2⟩;exact ⟨u,v,e,(LP.later h1.good h2 h1.len rfl u).2 ((h1.lang u).2 g1),(h2.lang v).2 g2⟩
theorem Wr.eit {b b1 b2:Pb} {x y:Prt} {K L:LA} {n:Nat} {F:Nat->Au} (h1:Wr b b1 x K) (h2:Wr b1 b2 y L) (e1:K.a=choA n F) (e2:L.a=F n):Wr b b2 (eitP x y) ⟨λw=>K.l w\/L.l w,choA (n+1) F⟩:=by
 have hx:=h1.good.later h2 rfl;have hy:=h2.good;obtain ⟨ns1,hs1⟩:=h1.sets;obtain ⟨ns2,hs2⟩:=h2.sets;obtain ⟨nf1,hf1⟩:=h1.fol;obtain ⟨nf2,hf2⟩:=h2.fol;have q1:=hx.se;have q2:=hy.se;refine ⟨h2.len,⟨ns1++ns2,by rw[hs2,hs1,List.append_assoc]⟩,⟨nf1++nf2,by rw[hf2,hf1,List.append_assoc]⟩,⟨by omega,Nat.le_refl _,λp hp=>?_,λp hp=>?_,λp p1 p2 q hq=>?_⟩,λw=>?_,(Mk.eitS (e1▸h1.mk') (e2▸h2.mk')).lab⟩
 .rcases List.mem_append.1 hp with h | h
  .have:=hx.fst p h;omega
  .have:=hy.fst p h;omega
 .rcases List.mem_append.1 hp with h | h
  .have:=hx.lst p h;omega
  .have:=hy.lst p h;omega
 .by_cases hpm:p<b1.fol.length
  .have:=hx.cls p p1 hpm q hq;omega
  .have:=hy.cls p (by omega) p2 q hq;omega
 .cases w with
  | nil=>
   have e1:=h1.lang [];have e2:=h2.lang [];show (x.emp || y.emp)=true↔_;rw[Bool.or_eq_true];exact ⟨λh=>h.imp e1.1 e2.1,λh=>h.imp e1.2 e2.2⟩
  | cons c w=>
   have e1:LP b2 x (c::w)↔K.l (c::w):=(LP.later h1.good h2 h1.len rfl _).trans (h1.lang _);have e2:=h2.lang (c::w);show _↔(K.l (c::w)\/L.l (c::w));rw[<-e1,<-e2];constructor
   .rintro ⟨q,g1,g2,g3⟩;rcases List.mem_append.1 g1 with g | g
    .obtain ⟨i1,i2⟩:=hx.fst q g;rcases (wk_union b2 x.last y.last w q).1 g3 with k | k
     .exact .inl ⟨q,g,g2,k⟩
     .obtain ⟨p,p1,p2,p3⟩:=wk_end hx.cls w q i1 i2 k;have:=(hy.lst p p1).1;omega
    .obtain ⟨i1,i2⟩:=hy.fst q g;rcases (wk_union b2 x.last y.last w q).1 g3 with k | k
     .obtain ⟨p,p1,p2,p3⟩:=wk_end hy.cls w q i1 i2 k;have:=(hx.lst p p1).2;omega
     .exact .inr ⟨q,g,g2,k⟩
   .rintro (⟨q,g1,g2,g3⟩ | ⟨q,g1,g2,g3⟩)
    .exact ⟨q,List.mem_append_left _ g1,g2,(wk_union b2 x.last y.last w q).2 (.inl g3)⟩
    .exact ⟨q,List.mem_append_right _ g1,g2,(wk_union b2 x.last y.last w q).2 (.inr g3)⟩
def powL (K:List Nat->Prop):Nat->List Nat->Prop
 | 0,w=>w=[]
 | k+1,w=>∃u v,w=u++v/\powL K k u/\K v
def gPow (K:LA) (i:Nat):LA:=⟨powL K.l i,seqA i λ_=>K.a⟩
structure RepI (b b':Pb) (K:LA) (j i:Nat) (out all:Prt):Prop where
 wr:Wr b b' out (gPow K i)
 fst:∀p∈all.first,p∈out.first
 lst:∀p∈all.last,b.fol.length<=p/\p<b'.fol.length
 emp:all.emp=true↔∃k,j<=k/\k<=i/\powL K.l k []
 to:∀c w q,q∈out.first->setP b' q c=true->wk b' all.last w q->∃k,j<=k/\k<=i/\powL K.l k (c::w)
 of:∀c w k,j<=k->k<=i->powL K.l k (c::w)->LP b' all (c::w)
 em:all.emp=true↔K.a.em
 lab:∃L,MkL L b' b.fol.length b'.fol.length out (seqA i λ_=>K.a)/\(∀p∈out.first,p∈all.first)/\∀p,b.fol.length<=p->p<b'.fol.length->(p∈all.last↔(tlA j i 0 K.a).la (L p))
theorem RepI.start {b b':Pb} {K:LA} {j:Nat} {out:Prt} (h:Wr b b' out (gPow K j)) (hj:1<=j):RepI b b' K j j out out:=by
 obtain ⟨L,hL⟩:=h.lab;refine ⟨h,λ_ h=>h,h.good.lst,?_,λc w q h1 h2 h3=>⟨j,Nat.le_refl _,Nat.le_refl _,(h.lang _).1 ⟨q,h1,h2,h3⟩⟩,λc w k h1 h2 h3=>?_,hL.em.trans ⟨λh=>h 0 (by omega),λh _ _=>h⟩,L,hL,λ_ h=>h,λp p1 p2=>(hL.la p p1 p2).trans ?_⟩
 .constructor
  .intro he;exact ⟨j,Nat.le_refl _,Nat.le_refl _,(h.lang []).1 he⟩
  .rintro ⟨k,h1,h2,h3⟩;have:k=j:=by omega
   subst this;exact (h.lang []).2 h3
 .have:k=j:=by omega
  subst this;exact (h.lang _).2 h3
 .cases hp:L p with
  | nil=>exact Iff.rfl
  | cons k π=>
   simp only[seqA,tlA];constructor
   .rintro ⟨h1,h2,h3⟩;refine ⟨Nat.zero_le _,h1,h2,?_⟩;by_cases hk:j<=k+1
    .exact .inl hk
    .exact .inr (h3 (k+1) (by omega) (by omega))
   .rintro ⟨-,h1,h2,h3⟩;exact ⟨h1,h2,λl l1 l2=>h3.resolve_left (by omega)⟩
theorem RepI.step {b b1 b2:Pb} {K:LA} {j i:Nat} {out all y:Prt} (h:RepI b b1 K j i out all) (hy:Wr b1 b2 y K) (hji:j<=i) (hj:1<=j):RepI b (behB b2 out y) K j (i+1) (behP out y) (eitP all (behP out y)):=by
 have hb:=h.wr.beh hy (n:=i) (F:=λ_=>K.a) rfl rfl;have hw:Wr b (behB b2 out y) (behP out y) (gPow K (i+1)):=⟨hb.len,hb.sets,hb.fol,hb.good,λw=>hb.lang w,hb.lab⟩;have hx:=h.wr.good.later hy rfl;have hlen:(behB b2 out y).fol.length=b2.fol.length:=by unfold behB;rw[addF_len]
 have hlt:∀p∈out.last,p<b2.fol.length:=λp hp=>by have:=(hx.lst p hp).2;have:=hy.good.se;have:=hy.good.size;omega
 have hsub:∀p∈out.first,p∈(behP out y).first:=λp hp=>by
  unfold behP;simp only
  split
  .exact List.mem_append_left _ hp
  .exact hp
 have hq:=hy.good.se
 -- what lies within the elder copies reads as it did
 have hloc:=wk_local (b:=b1) (b':=behB b2 out y) (s:=b.fol.length) (e:=b1.fol.length) (last:=all.last) h.lst
  (λp h1 h2 c=>hy.setOld h.wr.len h2 c)
  (λp h1 h2 q h3 h4=>by
   rw[folP_beh hlt,hy.folOld h2];exact ⟨λg=>g.elim id λg=>by have:=(hy.good.fst q g.2).1;omega, .inl⟩)
  h.wr.good.cls
  (λp h1 q hq'=>by
   rcases (folP_beh hlt p q).1 hq' with g | g
   .by_cases hp:p<b1.fol.length
    .rw[hy.folOld hp]at g;exact (h.wr.good.cls p h1 hp q g).1
    .by_cases hp2:p<b2.fol.length
     .have:=(hy.good.cls p (by omega) hp2 q g).1;have:=h.wr.good.se;omega
     .rw[folP_out (by omega)]at g;cases g
   .have:=(hy.good.fst q g.2).1;have:=h.wr.good.se;omega)
  (λp h1 q hq'=>by
   rcases (folP_beh hlt p q).1 hq' with g | g
   .by_cases hp2:p<b2.fol.length
    .exact (hy.good.cls p h1 hp2 q g).1
    .rw[folP_out (by omega)]at g;cases g
   .exact (hy.good.fst q g.2).1)
 have hset:∀q c,q<b1.fol.length->setP (behB b2 out y) q c=setP b1 q c:=λq c h2=>hy.setOld h.wr.len h2 c;obtain ⟨L,l1,l2,l3⟩:=h.lab;obtain ⟨L2,m1⟩:=hy.lab;have lem:=l1.behS m1 hx hy.good (λp hp=>hy.folOld hp) (λp c hp=>hy.setOld h.wr.len hp c);refine ⟨hw,λp hp=>?_,λp hp=>?_,?_,λc w q h1 h2 h3=>?_,λc w k h1 h2 h3=>?_,?_,glu L L2 b1.fol.length i,by rw[hlen];exact lem,λp hp=>List.mem_append_right _ hp,λp p1 p2=>?_⟩
 .rcases List.mem_append.1 hp with g | g
  .exact hsub p (h.fst p g)
  .exact g
 .rw[hlen];rcases List.mem_append.1 hp with g | g
  .have:=h.lst p g;omega
  .have:=hw.good.lst p g;rw[hlen]at this;exact this
 .show (all.emp || (behP out y).emp)=true↔_;rw[Bool.or_eq_true,h.emp];constructor
  .rintro (⟨k,g1,g2,g3⟩ | g)
   .exact ⟨k,g1,by omega,g3⟩
   .exact ⟨i+1,by omega,Nat.le_refl _,(hw.lang []).1 g⟩
  .rintro ⟨k,g1,g2,g3⟩;by_cases hk:k<=i
   .exact .inl ⟨k,g1,hk,g3⟩
   .have:k=i+1:=by omega
    subst this;exact .inr ((hw.lang []).2 g3)
 .rcases (wk_union _ all.last (behP out y).last w q).1 h3 with g | g
  ·-- it ends in an elder copy: so it begins in one
   have hq1:b.fol.length<=q:=(hw.good.fst q h1).1;obtain ⟨hlt',g'⟩:=(hloc w q hq1).1 g;have hqo:q∈out.first:=by
    unfold behP at h1;simp only at h1
    split at h1
    .rcases List.mem_append.1 h1 with k | k
     .exact k
     .have:=(hy.good.fst q k).1;omega
    .exact h1
   obtain ⟨k,k1,k2,k3⟩:=h.to c w q hqo (by rw[<-hset q c hlt'];exact h2) g'
   exact ⟨k,k1,by omega,k3⟩
  .exact ⟨i+1,by omega,Nat.le_refl _,(hw.lang _).1 ⟨q,h1,h2,g⟩⟩
 .by_cases hk:k<=i
  .obtain ⟨q,g1,g2,g3⟩:=h.of c w k h1 hk h3;obtain ⟨i1,i2⟩:=h.wr.good.fst q (h.fst q g1);exact ⟨q,List.mem_append_left _ g1,by rw[hset q c i2];exact g2,(wk_union _ _ _ w q).2 (.inl ((hloc w q i1).2 ⟨i2,g3⟩))⟩
  .have:k=i+1:=by omega
   subst this;obtain ⟨q,g1,g2,g3⟩:=(hw.lang _).2 h3;exact ⟨q,List.mem_append_right _ g1,g2,(wk_union _ _ _ w q).2 (.inr g3)⟩
 .show (all.emp || (behP out y).emp)=true↔_;rw[Bool.or_eq_true,h.em,lem.em];exact ⟨λh=>h.elim id λh=>h 0 (by omega), .inl⟩
 .rw[hlen]at p2;show p∈all.last++(behP out y).last↔_;rw[List.mem_append,lem.la p p1 p2];by_cases hp:p<b1.fol.length
  .rw[l3 p p1 hp,glu,if_pos hp];have hP:=l1.pos p p1 hp
   cases hL:L p with
   | nil=>rw[hL]at hP;exact hP.elim
   | cons k π=>
    rw[hL]at hP;have hk:=hP.1;simp only[seqA,tlA];constructor
    .rintro (⟨-,-,h3⟩ | ⟨-,h2,h3⟩)
     .exact ⟨Nat.zero_le _,by omega,h3⟩
     .exact ⟨Nat.zero_le _,by omega,h2, .inr (h3 i hk (by omega))⟩
    .exact λh=>.inl ⟨Nat.zero_le _,hk,h.2.2⟩
  .rw[glu,if_neg hp];simp only[seqA,tlA];constructor
   .rintro (h3 | ⟨-,h2,-⟩)
    .have:=(h.lst p h3).2;omega
    .exact ⟨Nat.zero_le _,by omega,h2, .inl (by omega)⟩
   .exact λh=>.inr ⟨by omega,h.2.2.1,λl l1 l2=>by omega⟩
theorem RepI.done {b b':Pb} {K:LA} {j i:Nat} {out all:Prt} (h:RepI b b' K j i out all) (x:Prt) (hf:∀p,p∈x.first↔p∈all.first) (hl:∀p,p∈x.last↔p∈all.last) (mn:Nat) (hj:j=max mn 1) (hji:j<=i) (he:x.emp=(all.emp || mn == 0)) :
  Wr b b' x ⟨λw=>∃k,mn<=k/\k<=i/\powL K.l k w,tlA mn i 0 K.a⟩:=by
 have hg:=h.wr.good;obtain ⟨L,l1,l2,l3⟩:=h.lab;refine ⟨h.wr.len,h.wr.sets,h.wr.fol,⟨hg.se,hg.size,λp hp=>hg.fst p (h.fst p ((hf p).1 hp)),λp hp=>h.lst p ((hl p).1 hp),hg.cls⟩,λw=>?_,L,l1.rep (by omega) (by omega) ?_ (λp _ _=>(hf p).trans ⟨h.fst p,l2 p⟩) (λp p1 p2=>(hl p).trans ((l3 p p1 p2).trans ?_))⟩
 cases w with
 | nil=>
  show x.emp=true↔_;rw[he,Bool.or_eq_true,h.emp];constructor
  .rintro (⟨k,g1,g2,g3⟩ | g)
   .exact ⟨k,by omega,g2,g3⟩
   .exact ⟨0,by simp at g;omega,Nat.zero_le _,rfl⟩
  .rintro ⟨k,g1,g2,g3⟩;by_cases hm:mn=0
   .right;simp[hm]
   .left;exact ⟨k,by omega,g2,g3⟩
 | cons c w=>
  constructor
  .rintro ⟨q,g1,g2,g3⟩;obtain ⟨k,k1,k2,k3⟩:=h.to c w q (h.fst q ((hf q).1 g1)) g2 ((wk_mem hl w q).1 g3);exact ⟨k,by omega,k2,k3⟩
  .rintro ⟨k,g1,g2,g3⟩;have hk:j<=k:=by
    by_cases h0:k=0
    .subst h0;cases g3
    .omega
   obtain ⟨q,q1,q2,q3⟩:=h.of c w k hk g2 g3;exact ⟨q,(hf q).2 q1,q2,(wk_mem hl w q).2 q3⟩
 .rw[he,Bool.or_eq_true,h.em,beq_iff_eq]
 .cases hp:L p with
  | nil=>exact Iff.rfl
  | cons k π=>
   simp only[tlA];exact ⟨λh=>⟨h.1,h.2.1,h.2.2.1,h.2.2.2.imp (λh=>by omega) id⟩,λh=>⟨h.1,h.2.1,h.2.2.1,h.2.2.2.imp (λh=>by omega) id⟩⟩
inductive Nd where
 | mk (op:Int) (rs:List (Nat×Nat)) (kids:List Nd) (mn mx:Int)
def Nd.op:Nd->Int | .mk o _ _ _ _=>o
def Nd.rs:Nd->List (Nat×Nat) | .mk _ r _ _ _=>r
def Nd.kids:Nd->List Nd | .mk _ _ k _ _=>k
def Nd.mn:Nd->Int | .mk _ _ _ m _=>m
def Nd.mx:Nd->Int | .mk _ _ _ _ m=>m
mutual
def nodesT:Nd->Nat
 | .mk _ _ kids _ _=>1+nodesTs kids
def nodesTs:List Nd->Nat
 | []=>0
 | k::r=>nodesT k+nodesTs r
end
mutual
def depthT:Nd->Nat
 | .mk _ _ kids _ _=>1+depthTs kids
def depthTs:List Nd->Nat
 | []=>0
 | k::r=>max (depthT k) (depthTs r)
end
def rngF:List (Nat×Nat)->Bool
 | []=>true
 | [a]=>decide (a.1<=a.2)
 | a::c::r=>decide (a.1<=a.2) && (decide (a.2+2<=c.1) && rngF (c::r))
def rightN:Nd->Bool
 | .mk op rs kids mn mx=>
  if op=1 then !rs.isEmpty && (rngF rs && (kids.isEmpty && (decide (mn=0) && decide (mx=0))))
  else if op=2\/op=3 then decide (2<=kids.length) && (rs.isEmpty && (decide (mn=0) && (decide (mx=0) && !(kids.any λk=>k.op == op))))
  else if op=4 then decide (kids.length=1) && (rs.isEmpty && (decide (0<=mn) && (decide (1<=mx) && (decide (mn<=mx) && (decide (mx<=64) && !(decide (mn=1) && decide (mx=1)))))))
  else false
mutual
def rightF:Nd->Bool
 | .mk op rs kids mn mx=>rightN (.mk op rs kids mn mx) && rightFs kids
def rightFs:List Nd->Bool
 | []=>true
 | k::r=>rightF k && rightFs r
end
-- The greatest number of bytes, at most 1025.
mutual
def longF:Nd->Nat
 | .mk op _ kids _ mx=>min (if op=1 then 1 else if op=2 then longS kids else if op=3 then longC kids else mx.toNat*longH kids) 1025
def longS:List Nd->Nat
 | []=>0
 | k::r=>longF k+longS r
def longC:List Nd->Nat
 | []=>0
 | k::r=>max (longF k) (longC r)
def longH:List Nd->Nat
 | []=>0
 | k::_=>longF k
end
-- The number of positions, at most 601.
mutual
def posF:Nd->Nat
 | .mk op _ kids _ mx=>min (if op=1 then 1 else if op=4 then mx.toNat*posH kids else posS kids) 601
def posS:List Nd->Nat
 | []=>0
 | k::r=>posF k+posS r
def posH:List Nd->Nat
 | []=>0
 | k::_=>posF k
end
-- What belongs to a pattern.
mutual
def langN:Nd->List Nat->Prop
 | .mk op rs kids mn mx=>λw=>if op=1 then ∃c,w=[c]/\inR rs c=true else if op=2 then langS kids w else if op=3 then langC kids w else ∃j:Nat,mn<=(j:Int)/\(j:Int)<=mx/\powL (langH kids) j w
def langS:List Nd->List Nat->Prop
 | []=>λw=>w=[]
 | k::r=>λw=>∃u v,w=u++v/\langN k u/\langS r v
def langC:List Nd->List Nat->Prop
 | []=>λ_=>False
 | k::r=>λw=>langN k w\/langC r w
def langH:List Nd->List Nat->Prop
 | []=>λ_=>False
 | k::_=>langN k
end
-- The places of a pattern.
def famA (l:List Au) (k:Nat):Au:=(l[k]?).getD default
mutual
def auN:Nd->Au
 | .mk op rs kids mn mx=>if op=1 then setA rs else if op=2 then seqA kids.length (famA (auL kids)) else if op=3 then choA kids.length (famA (auL kids)) else tlA mn.toNat mx.toNat 0 (famA (auL kids) 0)
def auL:List Nd->List Au
 | []=>[]
 | k::r=>auN k::auL r
end
theorem auL_get:∀{l:List Nd} {k:Nat} {kd:Nd},l[k]?=some kd->famA (auL l) k=auN kd
 | a::l,0,kd,h=>by injection h with h;subst h;unfold famA;rw[auL];rfl
 | a::l,k+1,kd,h=>by
  have:=auL_get (l:=l) (k:=k) (kd:=kd) h;unfold famA at this|-;rw[auL];exact this
def gN (nd:Nd):LA:=⟨langN nd,auN nd⟩
def gS (kids:List Nd) (k:Nat):LA:=⟨langS (kids.take k),seqA k (famA (auL kids))⟩
def gC (kids:List Nd) (k:Nat):LA:=⟨langC (kids.take k),choA k (famA (auL kids))⟩
theorem langS_snoc (k:Nd):∀(l:List Nd) (w:List Nat),langS (l++[k]) w↔∃u v,w=u++v/\langS l u/\langN k v
 | [],w=>by
  show (∃u v,w=u++v/\langN k u/\langS [] v)↔_;constructor
  .rintro ⟨u,v,rfl,h,h2⟩;have:v=[]:=h2;subst this;exact ⟨[],u,by simp,rfl,h⟩
  .rintro ⟨u,v,rfl,h,h2⟩;have:u=[]:=h;subst this;exact ⟨v,[],by simp,h2,rfl⟩
 | a::l,w=>by
  show (∃u v,w=u++v/\langN a u/\langS (l++[k]) v)↔∃u v,w=u++v/\(∃u1 v1,u=u1++v1/\langN a u1/\langS l v1)/\langN k v;constructor
  .rintro ⟨u,v,rfl,h1,h2⟩;obtain ⟨x,y,rfl,h3,h4⟩:=(langS_snoc k l v).1 h2;exact ⟨u++x,y,by simp,⟨u,x,rfl,h1,h3⟩,h4⟩
  .rintro ⟨_,v,rfl,⟨u1,v1,rfl,h1,h2⟩,h3⟩;exact ⟨u1,v1++v,by simp,h1,(langS_snoc k l _).2 ⟨v1,v,rfl,h2,h3⟩⟩
theorem langC_snoc (k:Nd):∀(l:List Nd) (w:List Nat),langC (l++[k]) w↔langC l w\/langN k w
 | [],w=>by show (langN k w\/langC [] w)↔_;simp[langC]
 | a::l,w=>by
  show (langN a w\/langC (l++[k]) w)↔(langN a w\/langC l w)\/langN k w;rw[langC_snoc k l w,or_assoc]
theorem rightF_iff (n:Nd):rightF n=true↔rightN n=true/\∀k∈n.kids,rightF k=true:=by
 cases n with
 | mk op rs kids mn mx=>
  have gen:∀l:List Nd,rightFs l=true↔∀k∈l,rightF k=true:=by
   intro l
   induction l with
   | nil=>simp[rightFs]
   | cons k r ih=>rw[rightFs,Bool.and_eq_true,ih];simp
  rw[rightF,Bool.and_eq_true,gen]
  rfl
def grpL (b:Pb) (x:Prt) (gs:List (List Nat)) (i:Nat) (w:List Nat):Prop:=
 if i=0 then LP b x w else ∃p∈(gs[i]?).getD [],wk b x.last w p
def grpF (b:Pb) (x:Prt) (gs:List (List Nat)) (i:Nat) (p:Nat):Prop:=
 if i=0 then p∈x.first else ∃q∈(gs[i]?).getD [],p∈folP b q
structure Ed where
 lo:Nat
 hi:Nat
 to:Nat
deriving DecidableEq
structure Mc where
 ed:List (List Ed)
 ac:List Bool
deriving DecidableEq
def trn:List Ed->Nat->Option Nat
 | [],_=>none
 | e::r,c=>if e.lo<=c/\c<=e.hi then some e.to else trn r c
def rowM (m:Mc) (s:Nat):List Ed:=(m.ed[s]?).getD []
def acF (m:Mc):List Nat->Nat->Bool
 | [],s=>(m.ac[s]?).getD false
 | c::w,s=>match trn (rowM m s) c with
  | none=>false
  | some t=>acF m w t
def SortE:Nat->List Ed->Prop
 | _,[]=>True
 | b,e::r=>b<=e.lo/\e.lo<=e.hi/\SortE (e.hi+1) r
def MaxE:List Ed->Prop
 | []=>True
 | [_]=>True
 | e::f::r=>¬(e.hi+1=f.lo/\e.to=f.to)/\MaxE (f::r)
def meetE:Nat->List Ed->Prop
 | _,[]=>True
 | m,e::r=>e.to<=m+1/\meetE (max m e.to) r
def topE:Nat->List Ed->Nat
 | m,[]=>m
 | m,e::r=>topE (max m e.to) r
def meetR:Nat->Nat->List (List Ed)->Prop
 | i,m,[]=>i=m+1
 | i,m,r::rs=>i<=m/\meetE m r/\meetR (i+1) (topE m r) rs
theorem trn_low:∀{b:Nat} {r:List Ed} {c:Nat},SortE b r->c<b->trn r c=none
 | _,[],_,_,_=>rfl
 | b,e::r,c,⟨h1,h2,h3⟩,hc=>by
  rw[trn,if_neg (by omega)]
  exact trn_low h3 (by omega)
theorem trn_mem:∀{r:List Ed} {c t:Nat},trn r c=some t->∃e∈r,e.lo<=c/\c<=e.hi/\e.to=t
 | [],_,_,h=>by cases h
 | e::r,c,t,h=>by
  rw[trn]at h
  split at h
  .next hc=>exact ⟨e,List.mem_cons_self,hc.1,hc.2,Option.some.inj h⟩
  .obtain ⟨f,hf,h1⟩:=trn_mem h;exact ⟨f,List.mem_cons_of_mem _ hf,h1⟩
structure Canon (m:Mc):Prop where
 len:m.ac.length=m.ed.length
 srt:∀r∈m.ed,SortE 0 r
 mx:∀r∈m.ed,MaxE r
 to:∀r∈m.ed,∀e∈r,e.to<m.ed.length
 live:∀s,s<m.ed.length->∃w,acF m w s=true
 dist:∀s t,s<m.ed.length->t<m.ed.length->(∀w,acF m w s=acF m w t)->s=t
 meet:meetR 0 0 m.ed
theorem runs_eq:∀(r1 r2:List Ed) (b:Nat),SortE b r1->SortE b r2->MaxE r1->MaxE r2->(∀c,trn r1 c=trn r2 c)->r1=r2
 | [],[],_,_,_,_,_,_=>rfl
 | [],e::r,_,_,s,_,_,h=>by
  have:=h e.lo;rw[trn,trn,if_pos ⟨Nat.le_refl _,s.2.1⟩]at this
  cases this
 | e::r,[],_,s,_,_,_,h=>by
  have:=h e.lo;rw[trn,trn,if_pos ⟨Nat.le_refl _,s.2.1⟩]at this
  cases this
 | e::r1,f::r2,b,s1,s2,x1,x2,h=>by
  have q1:=s1.2.1;have q2:=s2.2.1;have hlo:e.lo=f.lo:=by
   rcases Nat.lt_trichotomy e.lo f.lo with g | g | g
   .have:=h e.lo;rw[trn,if_pos ⟨Nat.le_refl _,q1⟩,trn_low (b:=f.lo) (r:=f::r2) ⟨Nat.le_refl _,q2,s2.2.2⟩ g]at this
    cases this
   .exact g
   .have:=h f.lo;rw[trn_low (b:=e.lo) (r:=e::r1) ⟨Nat.le_refl _,q1,s1.2.2⟩ g,trn,if_pos ⟨Nat.le_refl _,q2⟩]at this
    cases this
  have hto:e.to=f.to:=by
   have:=h e.lo;rw[trn,if_pos ⟨Nat.le_refl _,q1⟩,trn,if_pos ⟨by omega,by omega⟩]at this
   exact Option.some.inj this
  have hhi:e.hi=f.hi:=by
   rcases Nat.lt_trichotomy e.hi f.hi with g | g | g
   .exfalso;have hc:=h (e.hi+1);rw[trn,trn,if_neg (by omega),if_pos ⟨by omega,by omega⟩]at hc
    match r1,s1,x1 with
    | [],_,_=>cases hc
    | a::r1,s1,x1=>
     have ha:=s1.2.2;have ha1:=ha.1;by_cases hal:a.lo=e.hi+1
     .rw[trn,if_pos ⟨by omega,by have:=ha.2.1;omega⟩]at hc
      exact x1.1 ⟨hal.symm,by rw[hto,Option.some.inj hc]⟩
     .rw[trn_low (b:=a.lo) (r:=a::r1) ⟨Nat.le_refl _,ha.2.1,ha.2.2⟩ (by omega)]at hc
      cases hc
   .exact g
   .exfalso;have hc:=h (f.hi+1);rw[trn,trn,if_pos ⟨by omega,by omega⟩,if_neg (by omega)]at hc
    match r2,s2,x2 with
    | [],_,_=>cases hc
    | a::r2,s2,x2=>
     have ha:=s2.2.2;have ha1:=ha.1;by_cases hal:a.lo=f.hi+1
     .rw[trn,if_pos ⟨by omega,by have:=ha.2.1;omega⟩]at hc
      exact x2.1 ⟨hal.symm,by rw[<-hto,Option.some.inj hc]⟩
     .rw[trn_low (b:=a.lo) (r:=a::r2) ⟨Nat.le_refl _,ha.2.1,ha.2.2⟩ (by omega)]at hc
      cases hc
  have hef:e=f:=by
   obtain ⟨a,b,c⟩:=e;obtain ⟨a',b',c'⟩:=f;simp only at hlo hhi hto;subst hlo hhi hto
   rfl
  subst hef;have x1':MaxE r1:=by cases r1 with | nil=>trivial | cons g r=>exact x1.2
  have x2':MaxE r2:=by cases r2 with | nil=>trivial | cons g r=>exact x2.2
  rw[runs_eq r1 r2 (e.hi+1) s1.2.2 s2.2.2 x1' x2' (λc=>by
   by_cases hc:e.lo<=c/\c<=e.hi
   .rw[trn_low s1.2.2 (by omega),trn_low s2.2.2 (by omega)]
   .have:=h c;rw[trn,trn,if_neg hc,if_neg hc]at this;exact this)]
def goJ (cls:Nat->Option Nat):Option Ed->List Ed->List Ed
 | p,[]=>p.toList
 | p,e::r=>match cls e.to with
  | none=>goJ cls p r
  | some t=>match p with
   | none=>goJ cls (some ⟨e.lo,e.hi,t⟩) r
   | some q=>if q.to=t/\q.hi+1=e.lo then goJ cls (some ⟨q.lo,e.hi,q.to⟩) r else q::goJ cls (some ⟨e.lo,e.hi,t⟩) r
def joinF (cls:Nat->Option Nat) (l:List Ed):List Ed:=goJ cls none l
theorem goJ_some {cls:Nat->Option Nat}:∀(l:List Ed) (q:Ed) (b:Nat),SortE b l->q.lo<=q.hi->q.hi+1<=b->SortE q.lo (goJ cls (some q) l)/\MaxE (goJ cls (some q) l)/\(∃h r,goJ cls (some q) l=⟨q.lo,h,q.to⟩::r/\q.hi<=h)/\∀c,trn (goJ cls (some q) l) c=if q.lo<=c/\c<=q.hi then some q.to else (trn l c).bind cls
 | [],q,b,_,hq,_=>by
  refine ⟨⟨Nat.le_refl _,hq,trivial⟩,trivial,⟨q.hi,[],rfl,Nat.le_refl _⟩,λc=>?_⟩;show trn [q] c=_;rw[trn,trn]
  split <;> rfl
 | e::r,q,b,s,hq,hb=>by
  have s1:=s.1;have s2:=s.2.1;unfold goJ
  cases hc:cls e.to with
  | none=>
   obtain ⟨h1,h2,h3,h4⟩:=goJ_some (cls:=cls) r q (e.hi+1) s.2.2 hq (by omega)
   refine ⟨h1,h2,h3,λc=>?_⟩;rw[h4,trn]
   split
   .rfl
   .split
    .rw[trn_low s.2.2 (by omega),Option.bind_some,hc];rfl
    .rfl
  | some t=>
   simp only;by_cases hj:q.to=t/\q.hi+1=e.lo
   .rw[if_pos hj];obtain ⟨h1,h2,⟨h,r',h3,h5⟩,h4⟩:=goJ_some (cls:=cls) r ⟨q.lo,e.hi,q.to⟩ (e.hi+1) s.2.2 (by show q.lo<=e.hi;omega) (Nat.le_refl _)
    refine ⟨h1,h2,⟨h,r',h3,by have:e.hi<=h:=h5;omega⟩,λc=>?_⟩
    rw[h4,trn];simp only;by_cases c1:q.lo<=c/\c<=q.hi
    .rw[if_pos c1,if_pos (by omega)]
    .rw[if_neg c1];by_cases c2:e.lo<=c/\c<=e.hi
     .rw[if_pos c2,if_pos (by omega),Option.bind_some,hc,hj.1]
     .rw[if_neg c2,if_neg (by omega)]
   .rw[if_neg hj];obtain ⟨h1,h2,⟨h,r',h3,h5⟩,h4⟩:=goJ_some (cls:=cls) r ⟨e.lo,e.hi,t⟩ (e.hi+1) s.2.2 s2 (Nat.le_refl _);refine ⟨⟨Nat.le_refl _,hq,?_⟩,?_,⟨q.hi,_,rfl,Nat.le_refl _⟩,λc=>?_⟩
    .rw[h3]at h1|-;exact ⟨by show q.hi+1<=e.lo;omega,h1.2⟩
    .rw[h3]at h2|-;exact ⟨λhx=>hj ⟨hx.2,hx.1⟩,h2⟩
    .rw[trn,h4,trn];simp only
     split
     .rfl
     .split
      .rw[Option.bind_some,hc]
      .rfl
theorem joinF_ok {cls:Nat->Option Nat}:∀(l:List Ed) (b:Nat),SortE b l->SortE b (joinF cls l)/\MaxE (joinF cls l)/\∀c,trn (joinF cls l) c=(trn l c).bind cls
 | [],_,_=>⟨trivial,trivial,λ_=>rfl⟩
 | e::r,b,s=>by
  unfold joinF goJ
  cases hc:cls e.to with
  | none=>
   obtain ⟨h1,h2,h3⟩:=joinF_ok (cls:=cls) r (e.hi+1) s.2.2;have hsl:∀{b b':Nat} {l:List Ed},SortE b' l->b<=b'->SortE b l:=λ{b b' l} h hb=>by
    cases l with
    | nil=>trivial
    | cons e r=>exact ⟨Nat.le_trans hb h.1,h.2⟩
   refine ⟨hsl h1 (by have:=s.1;have:=s.2.1;omega),h2,λc=>?_⟩
   show trn (joinF cls r) c=_;rw[h3,trn]
   split
   .rw[trn_low s.2.2 (by omega),Option.bind_some,hc];rfl
   .rfl
  | some t=>
   obtain ⟨h1,h2,-,h4⟩:=goJ_some (cls:=cls) r ⟨e.lo,e.hi,t⟩ (e.hi+1) s.2.2 s.2.1 (Nat.le_refl _);simp only;refine ⟨?_,h2,λc=>?_⟩
   .generalize goJ cls (some ⟨e.lo,e.hi,t⟩) r=L at h1
    cases L with
    | nil=>trivial
    | cons a l=>exact ⟨Nat.le_trans s.1 h1.1,h1.2⟩
   .rw[h4,trn];simp only
    split
    .rw[Option.bind_some,hc]
    .rfl
theorem joinF_eq {c1 c2:Nat->Option Nat} {l1 l2:List Ed} (s1:SortE 0 l1) (s2:SortE 0 l2):joinF c1 l1=joinF c2 l2↔∀c,(trn l1 c).bind c1=(trn l2 c).bind c2:=by
 obtain ⟨a1,a2,a3⟩:=joinF_ok (cls:=c1) l1 0 s1;obtain ⟨b1,b2,b3⟩:=joinF_ok (cls:=c2) l2 0 s2;constructor
 .intro h c;rw[<-a3,<-b3,h]
 .intro h;exact runs_eq _ _ 0 a1 b1 a2 b2 λc=>by rw[a3,b3,h]
theorem nodup_le {α:Type} [DecidableEq α]:∀{l r:List α},l.Nodup->(∀x∈l,x∈r)->l.length<=r.length
 | [],_,_,_=>Nat.zero_le _
 | a::l,r,hn,h=>by
  have ha:a∈r:=h a (by simp)
  rw[List.nodup_cons]at hn;have:=nodup_le (l:=l) (r:=r.erase a) hn.2 (λx hx=>(List.mem_erase_of_ne (by rintro rfl;exact hn.1 hx)).2 (h x (by simp[hx])))
  rw[List.length_erase_of_mem ha]at this;have hp:0<r.length:=List.length_pos_of_mem ha;simp only[List.length_cons];omega
theorem refine_count {σ α β:Type} [DecidableEq α] [DecidableEq β] {S:List σ} {f:σ->α} {g:σ->β} {F:List α} {G:List β} (hF:F.Nodup) (mF:∀x,x∈F↔∃s∈S,f s=x) (mG:∀y,y∈G↔∃s∈S,g s=y)
  (hr:∀s∈S,∀t∈S,g s=g t->f s=f t):F.length<=G.length/\(F.length=G.length->∀s∈S,∀t∈S,f s=f t->g s=g t):=by
 let φ:β->Option α:=λy=>(S.find? (λs=>decide (g s=y))).map f
 have hφ:∀s∈S,φ (g s)=some (f s):=λs hs=>by
  show (S.find? (λu=>decide (g u=g s))).map f=_
  cases h:S.find? (λu=>decide (g u=g s)) with
  | none=>
   have:=List.find?_eq_none.1 h s hs;simp at this
  | some u=>
   have h1:=List.find?_some h;have h2:=List.mem_of_find?_eq_some h;simp only[decide_eq_true_eq]at h1;rw[Option.map_some,hr u h2 s hs h1]
 have hsub:∀G':List β,(∀x∈F,∃s∈S,g s∈G'/\f s=x)->F.length<=G'.length:=λG' h=>by
  have h1:(F.map some).Nodup:=List.Pairwise.map some (λa b hab=>by intro e;exact hab (Option.some.inj e)) hF
  have h2:=nodup_le (l:=F.map some) (r:=G'.map φ) h1 (λx hx=>by
   obtain ⟨a,ha,rfl⟩:=List.mem_map.1 hx;obtain ⟨s,hs,h3,h4⟩:=h a ha;exact List.mem_map.2 ⟨g s,h3,by rw[hφ s hs,h4]⟩)
  simpa using h2
 refine ⟨hsub G λx hx=>?_,λhlen s hs t ht hst=>?_⟩
 .obtain ⟨s,hs,e⟩:=(mF x).1 hx;exact ⟨s,hs,(mG _).2 ⟨s,hs,rfl⟩,e⟩
 .by_cases hg:g s=g t
  .exact hg
  .exfalso;have hmem:g t∈G:=(mG _).2 ⟨t,ht,rfl⟩;have:=hsub (G.erase (g t)) λx hx=>by
    obtain ⟨u,hu,e⟩:=(mF x).1 hx;by_cases hgu:g u=g t
    .exact ⟨s,hs,(List.mem_erase_of_ne hg).2 ((mG _).2 ⟨s,hs,rfl⟩),by rw[hst,<-e,hr u hu t ht hgu]⟩
    .exact ⟨u,hu,(List.mem_erase_of_ne hgu).2 ((mG _).2 ⟨u,hu,rfl⟩),e⟩
   rw[List.length_erase_of_mem hmem]at this;have hp:0<G.length:=List.length_pos_of_mem hmem;omega
structure Vld (m:Mc):Prop where
 len:m.ac.length=m.ed.length
 srt:∀r∈m.ed,SortE 0 r
 to:∀r∈m.ed,∀e∈r,e.to<m.ed.length
def LiveS (m:Mc) (s:Nat):Prop:=∃w,acF m w s=true
def SameL (m:Mc) (s t:Nat):Prop:=∀w,acF m w s=acF m w t
theorem Vld.row {m:Mc} (h:Vld m) (s:Nat):SortE 0 (rowM m s)/\∀e∈rowM m s,e.to<m.ed.length:=by
 unfold rowM
 cases hs:m.ed[s]? with
 | none=>exact ⟨trivial,λe he=>by cases he⟩
 | some r=>exact ⟨h.srt r (List.mem_of_getElem? hs),h.to r (List.mem_of_getElem? hs)⟩
theorem Vld.trn_lt {m:Mc} (h:Vld m) {s b t:Nat} (ht:trn (rowM m s) b=some t):t<m.ed.length:=by
 obtain ⟨e,he,-,-,rfl⟩:=trn_mem ht;exact (h.row s).2 e he
theorem acF_cons {m:Mc} {s b:Nat} {w:List Nat}:acF m (b::w) s=match trn (rowM m s) b with | none=>false | some t=>acF m w t:=rfl
theorem same_step {m:Mc} {s t b:Nat} (h:SameL m s t):(match trn (rowM m s) b with | none=>∀t',trn (rowM m t) b=some t'->¬LiveS m t' | some s'=>match trn (rowM m t) b with | none=>¬LiveS m s' | some t'=>SameL m s' t'):=by
 cases h1:trn (rowM m s) b with
 | none=>
  intro t' h2;rintro ⟨w,hw⟩;have:=h (b::w);rw[acF_cons,acF_cons,h1,h2]at this;simp only at this;rw[hw]at this
  cases this
 | some s'=>
  cases h2:trn (rowM m t) b with
  | none=>
   rintro ⟨w,hw⟩;have:=h (b::w);rw[acF_cons,acF_cons,h1,h2]at this;simp only at this;rw[hw]at this
   cases this
  | some t'=>
   intro w;have:=h (b::w);rw[acF_cons,acF_cons,h1,h2]at this;exact this
def descF (m:Mc) (c:Nat->Option Nat) (s:Nat):Bool×List Ed:=((m.ac[s]?).getD false,joinF c (rowM m s))
structure ClsI (m:Mc) (c:Nat->Option Nat):Prop where
 dead:∀s,s<m.ed.length->(c s=none↔¬LiveS m s)
 coarse:∀s t,s<m.ed.length->t<m.ed.length->LiveS m s->LiveS m t->SameL m s t->c s=c t
 fine:∀s t,s<m.ed.length->t<m.ed.length->LiveS m s->LiveS m t->descF m c s=descF m c t->c s=c t
structure NextC (m:Mc) (c d:Nat->Option Nat):Prop where
 dead:∀s,s<m.ed.length->(d s=none↔¬LiveS m s)
 eq:∀s t,s<m.ed.length->t<m.ed.length->LiveS m s->LiveS m t->(d s=d t↔descF m c s=descF m c t)
theorem desc_eq {m:Mc} {c d:Nat->Option Nat} (h:Vld m) {s t:Nat}:descF m c s=descF m d t↔(m.ac[s]?).getD false=(m.ac[t]?).getD false/\∀b,(trn (rowM m s) b).bind c=(trn (rowM m t) b).bind d:=by
 unfold descF;rw[Prod.mk.injEq,joinF_eq (h.row s).1 (h.row t).1]
theorem ClsI.start {m:Mc} (c:Nat->Option Nat) (hd:∀s,s<m.ed.length->(c s=none↔¬LiveS m s)) (h0:∀s,s<m.ed.length->LiveS m s->c s=some 0):ClsI m c:=
 ⟨hd,λs t h1 h2 h3 h4 _=>by rw[h0 s h1 h3,h0 t h2 h4],λs t h1 h2 h3 h4 _=>by rw[h0 s h1 h3,h0 t h2 h4]⟩
theorem ClsI.next {m:Mc} {c d:Nat->Option Nat} (hv:Vld m) (h:ClsI m c) (hn:NextC m c d):ClsI m d:=by
 refine ⟨hn.dead,λs t h1 h2 h3 h4 hsame=>?_,λs t h1 h2 h3 h4 he=>?_⟩
 .rw[hn.eq s t h1 h2 h3 h4,desc_eq hv];refine ⟨hsame [],λb=>?_⟩;have:=same_step (b:=b) hsame
  cases e1:trn (rowM m s) b with
  | none=>
   rw[e1]at this
   cases e2:trn (rowM m t) b with
   | none=>rfl
   | some t'=>
    have hd:=(h.dead t' (hv.trn_lt e2)).2 (this t' e2);simp[hd]
  | some s'=>
   rw[e1]at this
   cases e2:trn (rowM m t) b with
   | none=>
    rw[e2]at this;have hd:=(h.dead s' (hv.trn_lt e1)).2 this;simp[hd]
   | some t'=>
    rw[e2]at this;simp only[Option.bind_some];by_cases hl:LiveS m s'
    .have hl':LiveS m t':=by obtain ⟨w,hw⟩:=hl;exact ⟨w,by rw[<-this w];exact hw⟩
     exact h.coarse s' t' (hv.trn_lt e1) (hv.trn_lt e2) hl hl' this
    .have hl':¬LiveS m t':=λ⟨w,hw⟩=>hl ⟨w,by rw[this w];exact hw⟩
     rw[(h.dead s' (hv.trn_lt e1)).2 hl,(h.dead t' (hv.trn_lt e2)).2 hl']
 .rw[hn.eq s t h1 h2 h3 h4,desc_eq hv];obtain ⟨ha,hb⟩:=(desc_eq hv).1 he;refine ⟨ha,λb=>?_⟩;have:=hb b
  cases e1:trn (rowM m s) b with
  | none=>
   rw[e1]at this
   cases e2:trn (rowM m t) b with
   | none=>rfl
   | some t'=>
    rw[e2]at this;simp only[Option.bind_none,Option.bind_some]at this|-;exact ((h.dead t' (hv.trn_lt e2)).2 ((hn.dead t' (hv.trn_lt e2)).1 this.symm)).symm
  | some s'=>
   rw[e1]at this
   cases e2:trn (rowM m t) b with
   | none=>
    rw[e2]at this;simp only[Option.bind_none,Option.bind_some]at this|-;exact (h.dead s' (hv.trn_lt e1)).2 ((hn.dead s' (hv.trn_lt e1)).1 this)
   | some t'=>
    rw[e2]at this;simp only[Option.bind_some]at this|-;by_cases hl:LiveS m s'
    .have hl':LiveS m t':=by
      by_cases hx:LiveS m t'
      .exact hx
      .have h5:=(hn.dead t' (hv.trn_lt e2)).2 hx;exact absurd hl ((hn.dead s' (hv.trn_lt e1)).1 (this.trans h5))
     exact h.fine s' t' (hv.trn_lt e1) (hv.trn_lt e2) hl hl' ((hn.eq s' t' (hv.trn_lt e1) (hv.trn_lt e2) hl hl').1 this)
    .have hl':¬LiveS m t':=by
      have h5:=(hn.dead s' (hv.trn_lt e1)).2 hl;rw[h5]at this;exact (hn.dead t' (hv.trn_lt e2)).1 this.symm
     rw[(h.dead s' (hv.trn_lt e1)).2 hl,(h.dead t' (hv.trn_lt e2)).2 hl']
structure ClsOK (m:Mc) (c:Nat->Option Nat):Prop where
 dead:∀s,s<m.ed.length->(c s=none↔¬LiveS m s)
 eq:∀s t,s<m.ed.length->t<m.ed.length->LiveS m s->LiveS m t->(c s=c t↔SameL m s t)
theorem ClsI.done {m:Mc} {c d:Nat->Option Nat} (hv:Vld m) (h:ClsI m c) (hn:NextC m c d) (hst:∀s t,s<m.ed.length->t<m.ed.length->LiveS m s->LiveS m t->c s=c t->d s=d t):ClsOK m d:=by
 have hd:=h.next hv hn;refine ⟨hn.dead,λs t h1 h2 h3 h4=>⟨?_,hd.coarse s t h1 h2 h3 h4⟩⟩;intro he w
 induction w generalizing s t with
 | nil=>exact ((desc_eq hv).1 ((hn.eq s t h1 h2 h3 h4).1 he)).1
 | cons b w ih=>
  have hb:=((desc_eq hv).1 ((hn.eq s t h1 h2 h3 h4).1 he)).2 b;have dd:∀x,x<m.ed.length->c x=none->acF m w x=false:=λx hx hc=>by
   have:=(h.dead x hx).1 hc
   cases hw:acF m w x with
   | false=>rfl
   | true=>exact absurd ⟨w,hw⟩ this
  rw[acF_cons,acF_cons]
  cases e1:trn (rowM m s) b with
  | none=>
   rw[e1]at hb
   cases e2:trn (rowM m t) b with
   | none=>rfl
   | some t'=>
    rw[e2]at hb;exact (dd t' (hv.trn_lt e2) hb.symm).symm
  | some s'=>
   rw[e1]at hb
   cases e2:trn (rowM m t) b with
   | none=>
    rw[e2]at hb;exact dd s' (hv.trn_lt e1) hb
   | some t'=>
    rw[e2]at hb;simp only[Option.bind_some]at hb|-
    cases hc:c s' with
    | none=>
     rw[hc]at hb;rw[dd s' (hv.trn_lt e1) hc,dd t' (hv.trn_lt e2) hb.symm]
    | some k=>
     have l1:LiveS m s':=by
      by_cases hx:LiveS m s'
      .exact hx
      .rw[(h.dead s' (hv.trn_lt e1)).2 hx]at hc;cases hc
     have l2:LiveS m t':=by
      by_cases hx:LiveS m t'
      .exact hx
      .rw[(h.dead t' (hv.trn_lt e2)).2 hx,hc]at hb;cases hb
     exact ih s' t' (hv.trn_lt e1) (hv.trn_lt e2) l1 l2 (hst s' t' (hv.trn_lt e1) (hv.trn_lt e2) l1 l2 hb)
def renE (f:Nat->Nat) (l:List Ed):List Ed:=l.map λe=>⟨e.lo,e.hi,f e.to⟩
theorem trn_ren (f:Nat->Nat):∀(l:List Ed) (c:Nat),trn (renE f l) c=(trn l c).map f
 | [],_=>rfl
 | e::r,c=>by
  show trn (_::renE f r) c=_;rw[trn,trn,trn_ren f r];simp only
  split <;> rfl
theorem sort_ren (f:Nat->Nat):∀(l:List Ed) (b:Nat),SortE b l->SortE b (renE f l)
 | [],_,_=>trivial
 | _::r,_,h=>⟨h.1,h.2.1,sort_ren f r _ h.2.2⟩
theorem max_ren (f:Nat->Nat):∀(l:List Ed),(∀e∈l,∀g∈l,f e.to=f g.to->e.to=g.to)->MaxE l->MaxE (renE f l)
 | [],_,_=>trivial
 | [_],_,_=>trivial
 | e::g::r,hf,h=>⟨λhx=>h.1 ⟨hx.1,hf e (by simp) g (by simp) hx.2⟩,max_ren f (g::r) (λa ha b hb=>hf a (by simp[ha]) b (by simp[hb])) h.2⟩
def leastM (m:Mc) (c:Nat->Option Nat) (f:Nat->Nat) (st:List Nat):Mc:=⟨st.map λs=>renE f (joinF c (rowM m s)),st.map λs=>(m.ac[s]?).getD false⟩
theorem least_lang {m:Mc} {c:Nat->Option Nat} {f:Nat->Nat} {st:List Nat} (hv:Vld m) (hc:ClsOK m c) (hs:∀s∈st,s<m.ed.length/\LiveS m s) (hf:∀k s cl,st[k]?=some s->c s=some cl->f cl=k)
  (ht:∀s∈st,∀e∈joinF c (rowM m s),∃t∈st,c t=some e.to):∀(w:List Nat) (k s:Nat),st[k]?=some s->acF (leastM m c f st) w k=acF m w s
 | [],k,s,h=>by
  unfold acF leastM;simp only[List.getElem?_map,h,Option.map_some,Option.getD_some]
 | b::w,k,s,h=>by
  have hsm:s∈st:=List.mem_of_getElem? h;have hr:rowM (leastM m c f st) k=renE f (joinF c (rowM m s)):=by
   show ((leastM m c f st).ed[k]?).getD []=_;unfold leastM;simp only[List.getElem?_map,h,Option.map_some,Option.getD_some]
  rw[acF_cons,acF_cons,hr,trn_ren,(joinF_ok _ _ (hv.row s).1).2.2]
  cases e1:trn (rowM m s) b with
  | none=>rfl
  | some t=>
   simp only[Option.bind_some];have htl:=hv.trn_lt e1
   cases e2:c t with
   | none=>
    simp only[Option.map_none]
    cases hw:acF m w t with
    | false=>rfl
    | true=>exact absurd ⟨w,hw⟩ ((hc.dead t htl).1 e2)
   | some cl=>
    simp only[Option.map_some];have hj:trn (joinF c (rowM m s)) b=some cl:=by rw[(joinF_ok _ _ (hv.row s).1).2.2,e1,Option.bind_some,e2]
    obtain ⟨e,he,-,-,rfl⟩:=trn_mem hj;obtain ⟨u,hu,hcu⟩:=ht s hsm e he;obtain ⟨j,hj'⟩:=List.mem_iff_getElem?.1 hu;rw[hf j u _ hj' hcu,least_lang hv hc hs hf ht w j u hj'];have l1:LiveS m t:=by
     by_cases hx:LiveS m t
     .exact hx
     .rw[(hc.dead t htl).2 hx]at e2;cases e2
    exact (hc.eq u t (hs u hu).1 htl (hs u hu).2 l1).1 (hcu.trans e2.symm) w
theorem least_canon {m:Mc} {c:Nat->Option Nat} {f:Nat->Nat} {st:List Nat} (hv:Vld m) (hc:ClsOK m c) (hs:∀s∈st,s<m.ed.length/\LiveS m s) (hf:∀k s cl,st[k]?=some s->c s=some cl->f cl=k)
  (ht:∀s∈st,∀e∈joinF c (rowM m s),∃t∈st,c t=some e.to) (hm:meetR 0 0 (leastM m c f st).ed):Canon (leastM m c f st):=by
 have hlen:(leastM m c f st).ed.length=st.length:=by unfold leastM;simp
 have hrow:∀r∈(leastM m c f st).ed,∃s∈st,r=renE f (joinF c (rowM m s)):=λr hr=>by
  unfold leastM at hr;obtain ⟨s,hs,rfl⟩:=List.mem_map.1 hr;exact ⟨s,hs,rfl⟩
 have hto:∀s∈st,∀e∈joinF c (rowM m s),f e.to<st.length/\∃u,st[f e.to]?=some u/\c u=some e.to:=λs hs' e he=>by
  obtain ⟨u,hu,hcu⟩:=ht s hs' e he;obtain ⟨j,hj⟩:=List.mem_iff_getElem?.1 hu;have:=hf j u _ hj hcu;rw[this];exact ⟨(List.getElem?_eq_some_iff.1 hj).1,u,hj,hcu⟩
 refine ⟨by unfold leastM;simp,λr hr=>?_,λr hr=>?_,λr hr e he=>?_,λk hk=>?_,λk j hk hj h=>?_,hm⟩
 .obtain ⟨s,hs',rfl⟩:=hrow r hr;exact sort_ren f _ _ (joinF_ok _ _ (hv.row s).1).1
 .obtain ⟨s,hs',rfl⟩:=hrow r hr;refine max_ren f _ (λe he g hg hfe=>?_) (joinF_ok _ _ (hv.row s).1).2.1;obtain ⟨-,u,h1,h2⟩:=hto s hs' e he;obtain ⟨-,v,h3,h4⟩:=hto s hs' g hg;rw[hfe,h3]at h1;obtain rfl:=Option.some.inj h1;exact Option.some.inj (h2.symm.trans h4)
 .obtain ⟨s,hs',rfl⟩:=hrow r hr;obtain ⟨e',he',rfl⟩:=List.mem_map.1 he;rw[hlen];exact (hto s hs' e' he').1
 .rw[hlen]at hk;have h1:st[k]?=some st[k]:=List.getElem?_eq_getElem hk;obtain ⟨w,hw⟩:=(hs st[k] (List.getElem_mem hk)).2;exact ⟨w,by rw[least_lang hv hc hs hf ht w k _ h1];exact hw⟩
 .rw[hlen]at hk hj;have h1:st[k]?=some st[k]:=List.getElem?_eq_getElem hk;have h2:st[j]?=some st[j]:=List.getElem?_eq_getElem hj;have hsame:SameL m st[k] st[j]:=λw=>by rw[<-least_lang hv hc hs hf ht w k _ h1,<-least_lang hv hc hs hf ht w j _ h2];exact h w
  have hk1:=hs _ (List.getElem_mem hk);have hj1:=hs _ (List.getElem_mem hj);have hcc:=(hc.eq _ _ hk1.1 hj1.1 hk1.2 hj1.2).2 hsame
  cases e:c st[k] with
  | none=>exact absurd hk1.2 ((hc.dead _ hk1.1).1 e)
  | some cl=>rw[<-hf k _ cl h1 e,<-hf j _ cl h2 (hcc.symm.trans e)]
structure GrpM (b:Pb) (x:Prt) (gs:List (List Nat)) (m:Mc):Prop where
 acc:∀i,i<gs.length->((m.ac[i]?).getD false=true↔if i=0 then x.emp=true else ∃p∈(gs[i]?).getD [],p∈x.last)
 edge:∀i,i<gs.length->∀c,match trn (rowM m i) c with
  | none=>∀p,grpF b x gs i p->setP b p c=false
  | some t=>0<t/\t<gs.length/\∀p,p∈(gs[t]?).getD []↔grpF b x gs i p/\setP b p c=true
theorem GrpM.lang {b:Pb} {x:Prt} {gs:List (List Nat)} {m:Mc} (h:GrpM b x gs m):∀(w:List Nat) (i:Nat),i<gs.length->(acF m w i=true↔grpL b x gs i w)
 | [],i,hi=>by
  show (m.ac[i]?).getD false=true↔_;rw[h.acc i hi];unfold grpL;by_cases h0:i=0
  .simp only[h0,if_true];exact Iff.rfl
  .simp only[h0,if_false];exact Iff.rfl
 | c::w,i,hi=>by
  rw[acF_cons];have he:=h.edge i hi c;have hg:grpL b x gs i (c::w)↔∃p,grpF b x gs i p/\setP b p c=true/\wk b x.last w p:=by
   unfold grpL grpF;by_cases h0:i=0
   .simp only[h0,if_true];exact ⟨λ⟨q,h1,h2,h3⟩=>⟨q,h1,h2,h3⟩,λ⟨q,h1,h2,h3⟩=>⟨q,h1,h2,h3⟩⟩
   .simp only[h0,if_false];constructor
    .rintro ⟨p,h1,h2⟩;obtain ⟨q,g1,g2,g3⟩:=h2;exact ⟨q,⟨p,h1,g1⟩,g2,g3⟩
    .rintro ⟨q,⟨p,h1,g1⟩,g2,g3⟩;exact ⟨p,h1,q,g1,g2,g3⟩
  rw[hg]
  cases ht:trn (rowM m i) c with
  | none=>
   rw[ht]at he;simp only at he|-;constructor
   .intro hx;cases hx
   .rintro ⟨p,h1,h2,-⟩;rw[he p h1]at h2
    cases h2
  | some t=>
   rw[ht]at he;obtain ⟨t0,t1,t2⟩:=he;simp only;rw[h.lang w t t1];unfold grpL;rw[if_neg (by omega)]
   constructor
   .rintro ⟨p,h1,h2⟩;exact ⟨p,((t2 p).1 h1).1,((t2 p).1 h1).2,h2⟩
   .rintro ⟨p,h1,h2,h3⟩;exact ⟨p,(t2 p).2 ⟨h1,h2⟩,h3⟩
theorem sort_snoc:∀{r:List Ed} {b:Nat} {e:Ed},SortE b r->(∀f∈r,f.hi<e.lo)->b<=e.lo->e.lo<=e.hi->SortE b (r++[e])
 | [],_,_,_,_,h1,h2=>⟨h1,h2,trivial⟩
 | f::r,b,e,h,hf,_,h2=>⟨h.1,h.2.1,sort_snoc h.2.2 (λg hg=>hf g (by simp[hg])) (by have:=hf f (by simp);omega) h2⟩
theorem trn_snoc:∀{r:List Ed} {e:Ed} {c:Nat},(∀f∈r,f.hi<e.lo)->trn (r++[e]) c=if e.lo<=c/\c<=e.hi then some e.to else trn r c
 | [],e,c,_=>rfl
 | f::r,e,c,h=>by
  show trn (f::(r++[e])) c=_;rw[trn,trn_snoc (λg hg=>h g (by simp[hg])),trn]
  have:=h f (by simp)
  by_cases h1:f.lo<=c/\c<=f.hi
  .rw[if_pos h1,if_pos h1,if_neg (by omega)]
  .rw[if_neg h1,if_neg h1]
theorem cut_mem {l:List Nat} (hs:l.Pairwise (·<·)) {k:Nat} (hk:k+1<l.length) {v:Nat} (hv:v∈l):v<=l[k]\/l[k+1]<=v:=by
 obtain ⟨j,hj,rfl⟩:=List.getElem_of_mem hv;rw[List.pairwise_iff_getElem]at hs;rcases Nat.lt_trichotomy j k with h | h | h
 .exact .inl (Nat.le_of_lt (hs j k hj (by omega) h))
 .subst h;exact .inl (Nat.le_refl _)
 .by_cases h2:j=k+1
  .subst h2;exact .inr (Nat.le_refl _)
  .exact .inr (Nat.le_of_lt (hs (k+1) j hk hj (by omega)))
theorem hold_const {l:List Nat} (hs:l.Pairwise (·<·)) {k:Nat} (hk:k+1<l.length) {rs:List (Nat×Nat)} (hr:∀r∈rs,r.1∈l/\r.2+1∈l) {c:Nat} (h1:l[k]<=c) (h2:c<l[k+1]):inR rs c=inR rs l[k]:=by
 unfold inR
 induction rs with
 | nil=>rfl
 | cons r rs ih=>
  rw[List.any_cons,List.any_cons,ih (λx hx=>hr x (by simp[hx]))]
  obtain ⟨g1,g2⟩:=hr r (by simp)
  have c1:=cut_mem hs hk g1;have c2:=cut_mem hs hk g2
  congr 1
  rw[Bool.eq_iff_iff];simp only[Bool.and_eq_true,decide_eq_true_eq];omega
theorem hold_low {l:List Nat} {rs:List (Nat×Nat)} (hr:∀r∈rs,r.1∈l/\r.2+1∈l) {c:Nat} (h:∀v∈l,c<v):inR rs c=false:=by
 unfold inR;rw[List.any_eq_false];intro r hx;have:=h _ (hr r hx).1;simp;omega
theorem hold_high {l:List Nat} {rs:List (Nat×Nat)} (hr:∀r∈rs,r.1∈l/\r.2+1∈l) {c:Nat} (h:∀v∈l,v<=c):inR rs c=false:=by
 unfold inR;rw[List.any_eq_false];intro r hx;have:=h _ (hr r hx).2;simp;omega
structure RowI (b:Pb) (fo:List Nat) (gs:List (List Nat)) (row:List Ed) (v:Nat):Prop where
 srt:SortE 0 row
 hi:∀e∈row,e.hi<v
 sp:∀c,c<v->match trn row c with
  | none=>∀p∈fo,setP b p c=false
  | some t=>0<t/\t<gs.length/\∀p,p∈(gs[t]?).getD []↔p∈fo/\setP b p c=true
theorem RowI.nil {b:Pb} {fo:List Nat} {gs:List (List Nat)} {v:Nat} (h:∀c,c<v->∀p∈fo,setP b p c=false):RowI b fo gs [] v:=
 ⟨trivial,λe he=>absurd he (by simp),λc hc=>h c hc⟩
theorem RowI.skip {b:Pb} {fo:List Nat} {gs:List (List Nat)} {row:List Ed} {v v':Nat} (h:RowI b fo gs row v) (hv:v<=v') (hn:∀c,v<=c->c<v'->∀p∈fo,setP b p c=false):RowI b fo gs row v':=by
 refine ⟨h.srt,λe he=>by have:=h.hi e he;omega,λc hc=>?_⟩
 by_cases hcv:c<v
 .exact h.sp c hcv
 .have:trn row c=none:=by
   cases ht:trn row c with
   | none=>rfl
   | some t=>
    obtain ⟨e,he,-,h2,-⟩:=trn_mem ht;have:=h.hi e he;omega
  rw[this];exact hn c (by omega) hc
theorem RowI.add {b:Pb} {fo:List Nat} {gs:List (List Nat)} {row:List Ed} {v v' t:Nat} (h:RowI b fo gs row v) (hv:v<v') (ht0:0<t) (ht:t<gs.length) (hn:∀c,v<=c->c<v'->∀p,p∈(gs[t]?).getD []↔p∈fo/\setP b p c=true):RowI b fo gs (row++[⟨v,v' - 1,t⟩]) v':=by
 refine ⟨sort_snoc h.srt h.hi (Nat.zero_le _) (by show v<=v' - 1;omega),λe he=>?_,λc hc=>?_⟩
 .rcases List.mem_append.1 he with g | g
  .have:=h.hi e g;omega
  .rw[List.mem_singleton.1 g];show v' - 1<v';omega
 .rw[trn_snoc h.hi];by_cases hcv:c<v
  .rw[if_neg (by show ¬(v<=c/\_);omega)]
   exact h.sp c hcv
  .rw[if_pos (by show v<=c/\c<=v' - 1;omega)]
   exact ⟨ht0,ht,hn c (by omega) hc⟩
theorem RowI.grow {b:Pb} {fo:List Nat} {gs:List (List Nat)} {row:List Ed} {v:Nat} (h:RowI b fo gs row v) (g:List Nat):RowI b fo (gs++[g]) row v:=by
 refine ⟨h.srt,h.hi,λc hc=>?_⟩;have:=h.sp c hc
 cases ht:trn row c with
 | none=>rw[ht]at this;exact this
 | some t=>
  rw[ht]at this;obtain ⟨h0,h1,h2⟩:=this;refine ⟨h0,by simp;omega,λp=>?_⟩
  rw[List.getElem?_append_left h1];exact h2 p
theorem trn_of_mem:∀{r:List Ed} {b:Nat} {e:Ed},SortE b r->e∈r->trn r e.lo=some e.to
 | f::r,b,e,h,he=>by
  rw[trn];rcases List.mem_cons.1 he with rfl | he
  .rw[if_pos ⟨Nat.le_refl _,h.2.1⟩]
  .have hlo:∀{r:List Ed} {b:Nat},SortE b r->∀g∈r,b<=g.lo:=by
    intro r
    induction r with
    | nil=>intro b _ g hg;cases hg
    | cons a r ih=>
     intro b h g hg;rcases List.mem_cons.1 hg with rfl | hg
     .exact h.1
     .have h1:=ih h.2.2 g hg;have h2:=h.1;have h3:=h.2.1;omega
   have:=hlo h.2.2 e he;rw[if_neg (by omega)]
   exact trn_of_mem h.2.2 he
theorem live_edge {m:Mc} (hv:Vld m) {s:Nat} {e:Ed} (he:e∈rowM m s) (hl:LiveS m e.to):LiveS m s:=by
 obtain ⟨w,hw⟩:=hl;exact ⟨e.lo::w,by rw[acF_cons,trn_of_mem (hv.row s).1 he];exact hw⟩
theorem live_acc {m:Mc} {s:Nat} (h:(m.ac[s]?).getD false=true):LiveS m s:=⟨[],h⟩
theorem live_all {m:Mc} (hv:Vld m) {out:Nat->Bool} (h0:∀s,s<m.ed.length->(m.ac[s]?).getD false=true->out s=true) (hst:∀s,s<m.ed.length->out s=false->∀e∈rowM m s,out e.to=false) {s:Nat} (hs:s<m.ed.length) (hl:LiveS m s):out s=true:=by
 obtain ⟨w,hw⟩:=hl
 induction w generalizing s with
 | nil=>exact h0 s hs hw
 | cons c w ih=>
  rw[acF_cons]at hw
  cases ht:trn (rowM m s) c with
  | none=>rw[ht]at hw;cases hw
  | some t=>
   rw[ht]at hw;have:=ih (hv.trn_lt ht) hw;obtain ⟨e,he,-,-,rfl⟩:=trn_mem ht
   cases ho:out s with
   | true=>rfl
   | false=>rw[hst s hs ho e he]at this;cases this
def MeetTo:Nat->Nat->List (List Ed)->Nat->Prop
 | _,m,[],t=>t=m
 | i,m,r::rs,t=>i<=m/\meetE m r/\MeetTo (i+1) (topE m r) rs t
theorem MeetTo.snoc {r:List Ed}:∀{rs:List (List Ed)} {i m t:Nat},MeetTo i m rs t->i+rs.length<=t->meetE t r->MeetTo i m (rs++[r]) (topE t r)
 | [],i,m,t,h,h1,h2=>by
  have:t=m:=h;subst this;exact ⟨by simpa using h1,h2,rfl⟩
 | a::rs,i,m,t,h,h1,h2=>⟨h.1,h.2.1,MeetTo.snoc h.2.2 (by simp at h1;omega) h2⟩
theorem MeetTo.done:∀{rs:List (List Ed)} {i m t:Nat},MeetTo i m rs t->i+rs.length=t+1->meetR i m rs
 | [],i,m,t,h,h1=>by
  have:t=m:=h;subst this;simpa [meetR] using h1
 | a::rs,i,m,t,h,h1=>⟨h.1,h.2.1,MeetTo.done h.2.2 (by simp at h1;omega)⟩
theorem meetE_snoc {e:Ed}:∀{r:List Ed} {m:Nat},meetE m r->e.to<=topE m r+1->meetE m (r++[e])/\topE m (r++[e])=max (topE m r) e.to
 | [],m,_,h=>⟨⟨h,trivial⟩,rfl⟩
 | f::r,m,h,h1=>by
  obtain ⟨q1,q2⟩:=meetE_snoc (r:=r) (m:=max m f.to) h.2 h1;exact ⟨⟨h.1,q1⟩,q2⟩
def numC (c:Nat->Option Nat) (st:List Nat) (cl:Nat):Nat:=(st.map c).idxOf (some cl)
theorem numC_at {c:Nat->Option Nat} {st:List Nat} (hn:(st.map c).Nodup) {k s cl:Nat} (hk:st[k]?=some s) (hc:c s=some cl):numC c st cl=k:=by
 unfold numC;obtain ⟨hlt,he⟩:=List.getElem?_eq_some_iff.1 hk;have hlt':k<(st.map c).length:=by simpa using hlt
 have h2:(st.map c)[k]=some cl:=by rw[List.getElem_map,he,hc]
 rw[<-h2];exact hn.idxOf_getElem k hlt'
theorem numC_grow {c:Nat->Option Nat} {st:List Nat} {cl:Nat} (s:Nat) (h:some cl∈st.map c):numC c (st++[s]) cl=numC c st cl:=by
 unfold numC;rw[List.map_append,List.idxOf_append,if_pos h]
theorem numC_new {c:Nat->Option Nat} {st:List Nat} {cl s:Nat} (h:¬some cl∈st.map c) (hc:c s=some cl):numC c (st++[s]) cl=st.length:=by
 unfold numC;rw[List.map_append,List.idxOf_append,if_neg h];simp[hc]
theorem numC_lt {c:Nat->Option Nat} {st:List Nat} {cl:Nat} (h:some cl∈st.map c):numC c st cl<st.length:=by
 unfold numC;have:=List.idxOf_lt_length_of_mem h;simpa using this
theorem ren_grow {c:Nat->Option Nat} {st:List Nat} (s:Nat) {l:List Ed} (h:∀e∈l,some e.to∈st.map c):renE (numC c (st++[s])) l=renE (numC c st) l:=by
 unfold renE;exact List.map_congr_left λe he=>by rw[numC_grow s (h e he)]
theorem renE_snoc (f:Nat->Nat) (l:List Ed) (e:Ed):renE f (l++[e])=renE f l++[⟨e.lo,e.hi,f e.to⟩]:=by unfold renE;rw[List.map_append];rfl
theorem renE_len (f:Nat->Nat) (l:List Ed):(renE f l).length=l.length:=by unfold renE;simp
structure LeI (m:Mc) (c:Nat->Option Nat) (st:List Nat) (i:Nat) (rs:List (List Ed)) (p:List Ed) (t:Nat):Prop where
 nd:(st.map c).Nodup
 lv:∀s∈st,s<m.ed.length/\c s≠none
 zero:st[0]?=some 0
 rows:rs=(st.take i).map λs=>renE (numC c st) (joinF c (rowM m s))
 tg:∀s∈st.take i,∀e∈joinF c (rowM m s),some e.to∈st.map c
 ptg:∀e∈p,some e.to∈st.map c
 meet:MeetTo 0 0 rs t
 pm:meetE t (renE (numC c st) p)
 top:topE t (renE (numC c st) p)+1=st.length
 il:i<=st.length
theorem nodup_of_map {α β:Type} {f:α->β}:∀{l:List α},(l.map f).Nodup->l.Nodup
 | [],_=>List.nodup_nil
 | a::l,h=>by
  rw[List.map_cons,List.nodup_cons]at h;rw[List.nodup_cons];exact ⟨λha=>h.1 (List.mem_map.2 ⟨a,ha,rfl⟩),nodup_of_map h.2⟩
section
variable {m:Mc} {c:Nat->Option Nat} {st:List Nat} {i t:Nat} {rs:List (List Ed)} {p:List Ed}
theorem LeI.start (h0:c 0≠none) (h1:0<m.ed.length):LeI m c [0] 0 [] [] 0:=
 ⟨by simp,λs hs=>by simp at hs;subst hs;exact ⟨h1,h0⟩,rfl,rfl,λs hs=>(by cases hs),λe he=>(by cases he),rfl,trivial,rfl,Nat.zero_le _⟩
theorem LeI.old (h:LeI m c st i rs p t) (e:Ed) (he:some e.to∈st.map c):LeI m c st i rs (p++[e]) t:=by
 have hlt:=numC_lt he;have htop:=h.top;obtain ⟨h1,h2⟩:=meetE_snoc (e:=⟨e.lo,e.hi,numC c st e.to⟩) h.pm (by show numC c st e.to<=_;omega)
 refine { h with ptg:=λf hf=>?_,pm:=by rw[renE_snoc];exact h1,top:=?_ }
 .rcases List.mem_append.1 hf with hf | hf
  .exact h.ptg f hf
  .rw[List.mem_singleton]at hf;rw[hf];exact he
 .rw[renE_snoc,h2];show max _ (numC c st e.to)+1=_;omega
theorem LeI.new (h:LeI m c st i rs p t) (e:Ed) (s:Nat) (he:¬some e.to∈st.map c) (hs:s<m.ed.length) (hc:c s=some e.to):LeI m c (st++[s]) i rs (p++[e]) t/\numC c (st++[s]) e.to=st.length:=by
 have hnum:=numC_new he hc;have htop:=h.top;have hin:∀x,some x∈st.map c->some x∈(st++[s]).map c:=λx hx=>by rw[List.map_append];exact List.mem_append_left _ hx
 have htk:(st++[s]).take i=st.take i:=List.take_append_of_le_length h.il;have hp:renE (numC c (st++[s])) p=renE (numC c st) p:=ren_grow s h.ptg;obtain ⟨h1,h2⟩:=meetE_snoc (e:=⟨e.lo,e.hi,st.length⟩) h.pm (by show st.length<=_;omega)
 refine ⟨⟨?_,?_,?_,?_,?_,?_,h.meet,?_,?_,?_⟩,hnum⟩
 .rw[List.map_append,List.nodup_append];refine ⟨h.nd,by simp,λa ha b hb=>?_⟩
  simp only[List.map_cons,List.map_nil,List.mem_singleton]at hb;rintro rfl;rw[hb,hc]at ha;exact he ha
 .intro x hx;rcases List.mem_append.1 hx with hx | hx
  .exact h.lv x hx
  .rw[List.mem_singleton]at hx;subst hx;exact ⟨hs,by rw[hc];simp⟩
 .rw[List.getElem?_append_left (by have:=(List.getElem?_eq_some_iff.1 h.zero).1;exact this)];exact h.zero
 .rw[htk,h.rows];exact List.map_congr_left λx hx=>(ren_grow s (h.tg x hx)).symm
 .rw[htk];exact λx hx f hf=>hin _ (h.tg x hx f hf)
 .intro f hf;rcases List.mem_append.1 hf with hf | hf
  .exact hin _ (h.ptg f hf)
  .rw[List.mem_singleton]at hf;subst hf;rw[List.map_append];exact List.mem_append_right _ (by simp[hc])
 .rw[renE_snoc,hp,hnum];exact h1
 .rw[renE_snoc,hp,hnum,h2,List.length_append];show max _ st.length+1=st.length+1;omega
 .rw[List.length_append];have:=h.il;omega
theorem LeI.row (h:LeI m c st i rs p t) (hit:i<=t) {s:Nat} (hs:st[i]?=some s) (hp:p=joinF c (rowM m s)):LeI m c st (i+1) (rs++[renE (numC c st) p]) [] (topE t (renE (numC c st) p)):=by
 have hlt:i<st.length:=(List.getElem?_eq_some_iff.1 hs).1;have htk:st.take (i+1)=st.take i++[s]:=by rw[List.take_add_one,hs];rfl
 have hl:rs.length=i:=by rw[h.rows,List.length_map,List.length_take];omega
 have htop:=h.top;refine ⟨h.nd,h.lv,h.zero,?_,?_,λe he=>(by cases he),?_,trivial,htop,hlt⟩
 .rw[htk,List.map_append,<-h.rows,hp];rfl
 .rw[htk];intro x hx e he;rcases List.mem_append.1 hx with hx | hx
  .exact h.tg x hx e he
  .rw[List.mem_singleton]at hx;subst hx;exact h.ptg e (by rw[hp];exact he)
 .exact h.meet.snoc (by rw[hl];omega) h.pm
theorem LeI.nodup (h:LeI m c st i rs p t):st.length<=m.ed.length:=by
 have h1:st.Nodup:=nodup_of_map h.nd;have:=nodup_le (r:=List.range m.ed.length) h1 (λx hx=>List.mem_range.2 (h.lv x hx).1);rwa [List.length_range]at this
theorem LeI.done (hv:Vld m) (hc:ClsOK m c) (h:LeI m c st st.length rs [] t):rs=(leastM m c (numC c st) st).ed/\Canon (leastM m c (numC c st) st)/\∀w,acF (leastM m c (numC c st) st) w 0=acF m w 0:=by
 have hlv:∀s∈st,s<m.ed.length/\LiveS m s:=λs hs=>by
  obtain ⟨h1,h2⟩:=h.lv s hs;refine ⟨h1,?_⟩;by_cases hx:LiveS m s
  .exact hx
  .exact absurd ((hc.dead s h1).2 hx) h2
 have hf:∀k s cl,st[k]?=some s->c s=some cl->numC c st cl=k:=λk s cl h1 h2=>numC_at h.nd h1 h2;have hr:rs=(leastM m c (numC c st) st).ed:=by rw[h.rows,List.take_length];rfl
 have ht:∀s∈st,∀e∈joinF c (rowM m s),∃t∈st,c t=some e.to:=λs hs e he=>by
  have:=h.tg s (by rw[List.take_length];exact hs) e he
  obtain ⟨u,h1,h2⟩:=List.mem_map.1 this;exact ⟨u,h1,h2⟩
 refine ⟨hr,least_canon hv hc hlv hf ht ?_,λw=>least_lang hv hc hlv hf ht w 0 0 h.zero⟩;rw[<-hr];have htop:=h.top;have h3:t+1=st.length:=htop;exact h.meet.done (by rw[hr];unfold leastM;simp;omega)
end
theorem goJ_len (cls:Nat->Option Nat):∀(l:List Ed) (p:Option Ed),(goJ cls p l).length<=p.toList.length+l.length
 | [],p=>by unfold goJ;simp
 | e::r,p=>by
  unfold goJ
  cases hc:cls e.to with
  | none=>simp only;have:=goJ_len cls r p;rw[List.length_cons];omega
  | some t=>
   cases p with
   | none=>simp only;have:=goJ_len cls r (some ⟨e.lo,e.hi,t⟩);simp at this|-;omega
   | some q=>
    simp only
    split
    .have:=goJ_len cls r (some ⟨q.lo,e.hi,q.to⟩);simp at this|-;omega
    .have:=goJ_len cls r (some ⟨e.lo,e.hi,t⟩);simp at this|-;omega
theorem joinF_len (cls:Nat->Option Nat) (l:List Ed):(joinF cls l).length<=l.length:=by have:=goJ_len cls l none;simpa [joinF] using this
theorem trn_of_mem_hi:∀{r:List Ed} {b:Nat} {e:Ed},SortE b r->e∈r->trn r e.hi=some e.to
 | f::r,b,e,h,he=>by
  rw[trn];rcases List.mem_cons.1 he with rfl | he
  .rw[if_pos ⟨h.2.1,Nat.le_refl _⟩]
  .have hlo:∀{r:List Ed} {b:Nat},SortE b r->∀g∈r,b<=g.hi:=by
    intro r
    induction r with
    | nil=>intro b _ g hg;cases hg
    | cons a r ih=>
     intro b h g hg;rcases List.mem_cons.1 hg with rfl | hg
     .have h1:=h.1;have h2:=h.2.1;omega
     .have h1:=ih h.2.2 g hg;have h2:=h.1;have h3:=h.2.1;omega
   have:=hlo h.2.2 e he;rw[if_neg (by omega)]
   exact trn_of_mem_hi h.2.2 he
theorem joinF_by {cls:Nat->Option Nat} {l:List Ed} (hs:SortE 0 l) (hb:∀e∈l,e.lo<256/\e.hi<256):∀e∈joinF cls l,e.lo<256/\e.hi<256/\∃f∈l,cls f.to=some e.to:=by
 intro e he;obtain ⟨h1,h2,h3⟩:=joinF_ok (cls:=cls) l 0 hs;have k1:=trn_of_mem h1 he;have k2:=trn_of_mem_hi h1 he;rw[h3]at k1 k2;obtain ⟨t,t1,t2⟩:=Option.bind_eq_some_iff.1 k1;obtain ⟨u,u1,-⟩:=Option.bind_eq_some_iff.1 k2;obtain ⟨f,f1,f2,f3,f4⟩:=trn_mem t1;obtain ⟨g,g1,g2,g3,g4⟩:=trn_mem u1;have:=hb f f1;have:=hb g g1;exact ⟨by omega,by omega,f,f1,by rw[f4];exact t2⟩
def rchF (m:Mc):List Nat->Nat->Nat->List Nat
 | [],s,k=>if (m.ac[s]?).getD false=true then [k] else []
 | c::w,s,k=>(if (m.ac[s]?).getD false=true then [k] else [])++match trn (rowM m s) c with | none=>[] | some t=>rchF m w t (k+1)
def choF (R:List Nat) (i:Nat) (clr:Nat->Bool):Option Nat:=R.reverse.find? λt=>decide (i<t) && clr t
def sgN (c:Nat):Bool:=(decide (97<=c) && decide (c<=122)) || (decide (65<=c) && decide (c<=90)) || (decide (48<=c) && decide (c<=57))
def clrF (wh:Bool) (bs:List Nat) (i t:Nat):Bool:=
 (decide (i<=t) && decide (t<=bs.length)) && (!wh || ((decide (i=0) || !sgN ((bs[i - 1]?).getD 0)) && (decide (t=bs.length) || !sgN ((bs[t]?).getD 0))))
def chF (m:Mc) (wh:Bool) (bs:List Nat) (i:Nat):Option Nat:=choF (rchF m (bs.drop i) 0 i) i (clrF wh bs i)
def chsF (f:Nat->Option Nat) (n:Nat):Nat->Nat->List (Nat×Nat)
 | 0,_=>[]
 | k+1,i=>if i<n then match f i with | none=>chsF f n k (i+1) | some t=>(i,t)::chsF f n k t else []
def shiftL (d:Nat) (l:List (Nat×Nat)):List (Nat×Nat):=l.map λp=>(p.1+d,p.2+d)
theorem rchF_mem (m:Mc):∀(bs:List Nat) (s k t:Nat),t∈rchF m bs s k↔∃j,t=k+j/\j<=bs.length/\acF m (bs.take j) s=true
 | [],s,k,t=>by
  rw[rchF];constructor
  .intro h;by_cases hb:(m.ac[s]?).getD false=true
   .rw[if_pos hb,List.mem_singleton]at h;exact ⟨0,by omega,Nat.le_refl _,hb⟩
   .rw[if_neg hb]at h;cases h
  .rintro ⟨j,rfl,hj,h⟩;have:j=0:=by simpa using hj
   subst this;have h:(m.ac[s]?).getD false=true:=h;rw[if_pos h];simp
 | c::w,s,k,t=>by
  rw[rchF,List.mem_append];constructor
  .rintro (h | h)
   .by_cases hb:(m.ac[s]?).getD false=true
    .rw[if_pos hb,List.mem_singleton]at h;exact ⟨0,by omega,Nat.zero_le _,hb⟩
    .rw[if_neg hb]at h;cases h
   .cases ht:trn (rowM m s) c with
    | none=>rw[ht]at h;cases h
    | some q=>
     rw[ht]at h;obtain ⟨j,rfl,hj,h⟩:=(rchF_mem m w q (k+1) t).1 h;exact ⟨j+1,by omega,by simpa using hj,by rw[List.take_succ_cons,acF,ht];exact h⟩
  .rintro ⟨j,rfl,hj,h⟩
   cases j with
   | zero=>exact .inl (by rw[if_pos (show (m.ac[s]?).getD false=true from h)];simp)
   | succ j=>
    right
    rw[List.take_succ_cons,acF]at h
    cases ht:trn (rowM m s) c with
    | none=>rw[ht]at h;cases h
    | some q=>
     rw[ht]at h;exact (rchF_mem m w q (k+1) _).2 ⟨j,by omega,by simpa using hj,h⟩
theorem rchF_asc (m:Mc):∀(bs:List Nat) (s k:Nat),(rchF m bs s k).Pairwise (·<·)
 | [],s,k=>by rw[rchF]; split <;> simp
 | c::w,s,k=>by
  rw[rchF,List.pairwise_append];refine ⟨by split <;> simp,?_,λa ha b hb=>?_⟩
  .cases trn (rowM m s) c with
   | none=>exact List.Pairwise.nil
   | some q=>exact rchF_asc m w q (k+1)
  .have ha:a=k:=by
    split at ha
    .simpa using ha
    .cases ha
   subst ha
   cases ht:trn (rowM m s) c with
   | none=>rw[ht]at hb;cases hb
   | some q=>
    rw[ht]at hb;obtain ⟨j,rfl,-,-⟩:=(rchF_mem m w q (a+1) b).1 hb;omega
theorem find_max {p:Nat->Bool}:∀{D:List Nat},D.Pairwise (· > ·)->∀t,D.find? p=some t↔(t∈D/\p t=true)/\∀x∈D,p x=true->x<=t
 | [],_,t=>by simp
 | a::D,hD,t=>by
  have hD':=List.pairwise_cons.1 hD;rw[List.find?_cons]
  cases ha:p a with
  | true=>
   constructor
   .intro e;injection e with e;subst e;refine ⟨⟨by simp,ha⟩,λx hx _=>?_⟩
    rcases List.mem_cons.1 hx with rfl | hx
    .exact Nat.le_refl _
    .exact Nat.le_of_lt (hD'.1 x hx)
   .rintro ⟨⟨h1,-⟩,h3⟩;have hle:=h3 a (by simp) ha
    rcases List.mem_cons.1 h1 with rfl | h1
    .rfl
    .have:=hD'.1 t h1;omega
  | false=>
   show D.find? p=some t↔_;rw[find_max hD'.2 t];constructor
   .rintro ⟨⟨h1,h2⟩,h3⟩;refine ⟨⟨List.mem_cons_of_mem _ h1,h2⟩,λx hx h=>?_⟩;rcases List.mem_cons.1 hx with rfl | hx
    .rw[ha]at h;cases h
    .exact h3 x hx h
   .rintro ⟨⟨h1,h2⟩,h3⟩;rcases List.mem_cons.1 h1 with rfl | h1
    .rw[ha]at h2;cases h2
    .exact ⟨⟨h1,h2⟩,λx hx=>h3 x (List.mem_cons_of_mem _ hx)⟩
def AccT (m:Mc) (wh:Bool) (bs:List Nat) (i t:Nat):Prop:=i<t/\t<=bs.length/\acF m ((bs.drop i).take (t-i)) 0=true/\clrF wh bs i t=true
theorem chF_is (m:Mc) (wh:Bool) (bs:List Nat) (i t:Nat) (hi:i<=bs.length):chF m wh bs i=some t↔AccT m wh bs i t/\∀x,AccT m wh bs i x->x<=t:=by
 have hmem:∀x,(x∈(rchF m (bs.drop i) 0 i).reverse/\(decide (i<x) && clrF wh bs i x)=true)↔AccT m wh bs i x:=λx=>by
  rw[List.mem_reverse,rchF_mem,List.length_drop,Bool.and_eq_true,decide_eq_true_eq];unfold AccT;constructor
  .rintro ⟨⟨j,rfl,h1,h2⟩,h3,h4⟩;exact ⟨h3,by omega,by rw[show i+j-i=j by omega];exact h2,h4⟩
  .rintro ⟨h1,h2,h3,h4⟩;exact ⟨⟨x-i,by omega,by omega,h3⟩,h1,h4⟩
 unfold chF choF;rw[find_max (by rw[List.pairwise_reverse];exact rchF_asc m _ 0 i) t,hmem]
 constructor
 .rintro ⟨h1,h2⟩;exact ⟨h1,λx hx=>h2 x ((hmem x).2 hx).1 ((hmem x).2 hx).2⟩
 .rintro ⟨h1,h2⟩;exact ⟨h1,λx hx hp=>h2 x ((hmem x).1 ⟨hx,hp⟩)⟩
section
variable {m:Mc} {wh:Bool} {c:Nat} (hc:∀w,acF m w 0=true->c∉w) (hs:sgN c=false) (a b:List Nat)
include hc hs
end
def chA (m:Mc) (wh:Bool) (bs:List Nat):List (Nat×Nat):=chsF (chF m wh bs) bs.length bs.length 0
structure Mt where
 k:Nat
 f:Nat
 t:Nat
 deriving DecidableEq
instance mtInh:Inhabited Mt:=⟨⟨0,0,0⟩⟩
def ltMt (a b:Mt):Bool:=decide (a.f<b.f) || (decide (a.f=b.f) && (decide (a.t<b.t) || (decide (a.t=b.t) && decide (a.k<b.k))))
theorem ltMt_iff (a b:Mt):ltMt a b=true↔a.f<b.f\/(a.f=b.f/\(a.t<b.t\/(a.t=b.t/\a.k<b.k))):=by
 unfold ltMt;simp
def LeMt (a b:Mt):Prop:=ltMt b a=false
def mtK (i:Nat) (l:List (Nat×Nat)):List Mt:=l.map λp=>⟨i,p.1,p.2⟩
def allK (f:Nat->List (Nat×Nat)):Nat->Nat->List Mt
 | 0,_=>[]
 | n+1,i=>mtK i (f i)++allK f n (i+1)
def shM (d:Nat) (l:List Mt):List Mt:=l.map λa=>⟨a.k,a.f+d,a.t+d⟩
mutual
def noB (c:Nat):Nd->Bool
 | .mk _ rs kids _ _=>!inR rs c && noBs c kids
def noBs (c:Nat):List Nd->Bool
 | []=>true
 | k::r=>noB c k && noBs c r
end
theorem pow_no {L:List Nat->Prop} {c:Nat} (h:∀w,L w->c∉w):∀(j:Nat) (w:List Nat),powL L j w->c∉w
 | 0,w,hw=>by have hw:w=[]:=hw;subst hw;simp
 | j+1,w,hw=>by
  obtain ⟨u,v,rfl,h1,h2⟩:=hw;rw[List.mem_append];rintro (hm | hm)
  .exact pow_no h j u h1 hm
  .exact h v h2 hm
theorem noB_lang (c:Nat):∀(n:Nat),(∀(nd:Nd) (w:List Nat),nodesT nd<=n->noB c nd=true->langN nd w->c∉w):=by
 intro n
 induction n with
 | zero=>intro nd w h;cases nd;rw[nodesT]at h;omega
 | succ n ih=>
  rintro ⟨op,rs,kids,mn,mx⟩ w h hb hw;rw[nodesT]at h;rw[noB,Bool.and_eq_true,Bool.not_eq_true']at hb;obtain ⟨hb1,hb2⟩:=hb;have hS:∀(l:List Nd),nodesTs l<=n->noBs c l=true->(∀w,langS l w->c∉w)/\(∀w,langC l w->c∉w)/\(∀w,langH l w->c∉w):=by
   intro l
   induction l with
   | nil=>
    intro _ _;exact ⟨λw hw=>by have hw:w=[]:=hw;subst hw;simp,λw hw=>hw.elim,λw hw=>hw.elim⟩
   | cons k r ihl=>
    intro hl hn;rw[nodesTs]at hl;rw[noBs,Bool.and_eq_true]at hn;obtain ⟨i1,i2,-⟩:=ihl (by omega) hn.2
    have hk:∀w,langN k w->c∉w:=λw hw=>ih k w (by omega) hn.1 hw
    refine ⟨?_,?_,hk⟩
    .rintro w ⟨u,v,rfl,h1,h2⟩;rw[List.mem_append];rintro (hm | hm)
     .exact hk u h1 hm
     .exact i1 v h2 hm
    .rintro w (hw | hw)
     .exact hk w hw
     .exact i2 w hw
  obtain ⟨i1,i2,i3⟩:=hS kids (by omega) hb2
  rw[langN]at hw
  split at hw
  .obtain ⟨d,rfl,hd⟩:=hw;rw[List.mem_singleton];rintro rfl;rw[hb1]at hd;cases hd
  .split at hw
   .exact i1 w hw
   .split at hw
    .exact i2 w hw
    .obtain ⟨j,-,-,hw⟩:=hw;exact pow_no i3 j w hw
theorem no_byte {c:Nat} {nd:Nd} (h:noB c nd=true) {w:List Nat} (hw:langN nd w):c∉w:=noB_lang c _ nd w (Nat.le_refl _) h hw
end Go.Proofs.YtdmoogjddmdmbaaGreatDoor
