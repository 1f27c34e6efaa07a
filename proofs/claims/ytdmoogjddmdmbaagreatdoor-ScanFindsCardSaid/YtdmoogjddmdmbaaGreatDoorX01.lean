/- Walks. -/
import Derived.Lib.Hide
import Derived.KernelRfl
import Derived.RowKit3
import Derived.Laws.Rows
set_option maxRecDepth 100000
set_option maxHeartbeats 16000000
set_option linter.unusedVariables false
set_option linter.unusedSimpArgs false
namespace Go.RowKit
theorem Hid.o {p:Prop} (h:Hid p):p:=h
theorem Below.cl {B:Nat} {w v:World} (g k:Nat) (h:Below B w v) (q:g<B):v.cell? ⟨g,k,none⟩=w.cell? ⟨g,k,none⟩:=h.cell (p:=⟨g,k,none⟩) q
theorem Below.t {B:Nat} {a b c:World} (h:Below B a b) (k:Below B b c):Below B a c:=h.trans k
theorem _root_.Eq.t {α:Sort _} {a b c:α} (h:a=b) (k:b=c):a=c:=h.trans k
theorem _root_.Iff.t {a b c:Prop} (h:a↔b) (k:b↔c):a↔c:=h.trans k
theorem Below.sc {B:Nat} {a w:World} (g k:Nat) (h:Below B a w) (q:B<=g) (u:Value):Below B a (w.setCell ⟨g,k,none⟩ u):=h.setCell (p:=⟨g,k,none⟩) q u
end Go.RowKit
namespace Go.Proofs.YtdmoogjddmdmbaaGreatDoor
open Go.RowKit
instance:Coe World Nat:=⟨λw=>w.heap.size⟩
structure Ω where
 a:Nat
 b:Nat
def Δ (a b:Nat):Ω:=⟨a,b⟩
instance (a b:Nat):CoeDep Ω (Δ a b) Addr:=⟨⟨a,b,none⟩⟩
instance (a b:Nat):CoeDep Ω (Δ a b) (Option Addr):=⟨some ⟨a,b,none⟩⟩
instance (a b:Nat):CoeDep (Nat×Nat) (a,b) Addr:=⟨⟨a,b,none⟩⟩
instance (a b:Nat):CoeDep (Nat×Nat) (a,b) (Option Addr):=⟨some ⟨a,b,none⟩⟩
theorem Y {p:Prop} (h:p:=by omega):p:=h
theorem O {p:Prop} (h:p:=by decide):p:=h
theorem κ {p:Prop} (h:p:=by kernel_rfl):p:=h
theorem ξ {p:Prop} (h:p:=by simp):p:=h
theorem ψ {p:Prop} (h:p:=by simp;omega):p:=h
theorem τ {p:Prop} [Decidable p] (h:p:=by omega):decide p=true:=decide_eq_true h
theorem θ {p:Prop} [Decidable p] (h:¬p:=by omega):decide p=false:=decide_eq_false h
theorem Z {p:Prop} (h:p):Hid p:=h
theorem H {a b:Prop} (x:a) (y:b):a/\b:=⟨x,y⟩
theorem I {n:Nat}:n<=n:=Nat.le_refl n
theorem υ {B:Nat} {w:World}:Below B w w:=Below.refl B w
theorem γ {α:Type} {l:Array α} {i:Nat} {b:α} (h:l[i]?=some b):∃h:i<l.size,l[i]=b:=Array.getElem?_eq_some_iff.1 h
theorem χ {w v:World} (g k:Nat) (h:v.heap[g]?=w.heap[g]?):v.cell? ⟨g,k,none⟩=w.cell? ⟨g,k,none⟩:=World.cell?_of_block (a:=⟨g,k,none⟩) h
theorem gU{α:Type}(l:List α)(i:Nat)(a:α):l.toArray.setIfInBounds i a=(l.set i a).toArray:=by simp
theorem gV{α:Type}(l:List α)(a b:α):(a::l).set 0 b=b::l:=rfl
theorem gW{α:Type}(l:List α)(a b:α)(n:Nat):(a::l).set (n+1) b=a::l.set n b:=rfl
theorem eK{α:Type}(l:List α)(a:α)(n:Nat):(a::l).take (n+1)=a::l.take n:=rfl
theorem eL{α:Type}(l:List α):l.take 0=[]:=rfl
theorem Φ{w:World}{g j:Nat}{cs:Array Value}{t:TypeId}{fr:Nat×Nat}(h:w.heap[g]?=some (.cells cs t fr)):w.cell? ⟨g,j,none⟩=cs[j]?:=cell_of_row _ _ _ _ _ _ h
theorem Ψ{w:World}{g k:Nat}{cs:Array Value}{t:TypeId}(h:w.heap[g]?=some (.cells cs t (0,0))):w.frozen? ⟨g,k,none⟩=false:=by simp[World.frozen?,h]
instance:Coe Unit Value:=⟨λ_=>.slice none 0 0⟩
instance:Coe Int Value:=⟨λi=>.int .i64 i⟩
theorem ν {α:Type} (e:α):∃x,e=x:=⟨_,rfl⟩
end Go.Proofs.YtdmoogjddmdmbaaGreatDoor
namespace Go.Proofs.YtdmoogjddmdmbaaGreatDoor
open Go.RowKit
structure Pb where
 sets:List (List (Nat×Nat))
 fol:List (List Nat)
structure dC where
 first:List Nat
 last:List Nat
 emp:Bool
def lu(l:List (Nat×Nat))(c:Nat):Bool:=l.any λr=>decide (r.1<=c) && decide (c<=r.2)
def cD(b:Pb)(q c:Nat):Bool:=lu ((b.sets[q]?).getD []) c
def dp(b:Pb)(q:Nat):List Nat:=(b.fol[q]?).getD []
def wk(b:Pb)(last:List Nat):List Nat->Nat->Prop
 | [],q=>q∈last
 |c::w,q=>∃q'∈dp b q,cD b q' c=true/\wk b last w q'
def LP(b:Pb)(x:dC):List Nat->Prop
 | []=>x.emp=true
 |c::w=>∃q∈x.first,cD b q c=true/\wk b x.last w q
def kj(l:List Nat):List Nat->List (List Nat)->List (List Nat)
 | [],fol=>fol
 |p::r,fol=>kj l r (fol.set p ((fol[p]?).getD []++l))
theorem iC(l:List Nat):∀(ps:List Nat) (fol:List (List Nat)),(kj l ps fol).length=fol.length
 | [],_=>rfl
 |p::r,fol=>by rw[kj,iC l r];simp
theorem BZ(l:List Nat):∀(ps:List Nat) (fol:List (List Nat)) (p q:Nat),(∀x∈ps,x<fol.length)->(q∈((kj l ps fol)[p]?).getD []↔q∈(fol[p]?).getD []\/(p∈ps/\q∈l))
 | [],fol,p,q,_=>by simp[kj]
 |a::r,fol,p,q,h=>by
  rw[kj,BZ l r _ p q (λx hx=>by simpa using h x (by simp[hx]))]
  have ha:=h a ξ;by_cases hp:a=p
  .subst hp;rw[List.getElem?_set_self ha];simp only[Option.getD_some,List.mem_append,List.mem_cons,true_or,true_and];constructor
   .rintro ((h|h)|⟨-,h⟩)
    .exact .inl h
    .exact .inr h
    .exact .inr h
   .rintro (h|h)
    .exact .inl (.inl h)
    .exact .inl (.inr h)
  .rw[List.getElem?_set_ne hp];simp only[List.mem_cons];constructor
   .rintro (h|⟨h1,h2⟩)
    .exact .inl h
    .exact .inr ⟨.inr h1,h2⟩
   .rintro (h|⟨rfl|h1,h2⟩)
    .exact .inl h
    .exact absurd rfl hp
    .exact .inr ⟨h1,h2⟩
def dj(b:Pb)(x y:dC):Pb:={ b with fol:=kj y.first x.last b.fol }
def bD(x y:dC):dC:={ first:=if x.emp then x.first++y.first else x.first,last:=if y.emp then x.last++y.last else y.last,emp:=x.emp && y.emp }
def lZ(x y:dC):dC:={ first:=x.first++y.first,last:=x.last++y.last,emp:=x.emp || y.emp }
structure ek (b:Pb) (s e:Nat) (x:dC):Prop where
 se:s<=e
 size:e<=b.fol.length
 fst:∀p∈x.first,s<=p/\p<e
 ka:∀p∈x.last,s<=p/\p<e
 cls:∀p,s<=p->p<e->∀q∈dp b p,s<=q/\q<e
theorem gj{b:Pb}{x y:dC}(h:∀p∈x.last,p<b.fol.length)(p q:Nat):q∈dp (dj b x y) p↔q∈dp b p\/(p∈x.last/\q∈y.first):=BZ _ _ _ _ _ h
theorem qb{b b':Pb}{s e:Nat}{last:List Nat}(hl:∀p∈last,s<=p/\p<e)(bo:∀p,s<=p->p<e->∀c,cD b' p c=cD b p c)
  (cY:∀p,s<=p->p<e->∀q,s<=q->q<e->(q∈dp b' p↔q∈dp b p)) (bB:∀p,s<=p->p<e->∀q∈dp b p,s<=q/\q<e)
  (lK:∀p,s<=p->∀q∈dp b' p,s<=q) (hout:∀p,e<=p->∀q∈dp b' p,e<=q):∀(w:List Nat) (q:Nat),s<=q->(wk b' last w q↔(q<e/\wk b last w q))
 | [],q,_=>⟨λh=>⟨(hl q h).2,h⟩,λh=>h.2⟩
 |c::w,q,hq=>by
  unfold wk;constructor
  .rintro ⟨q',h1,h2,h3⟩;have hs:=lK q hq q' h1;obtain ⟨hlt,h4⟩:=(qb hl bo cY bB lK hout w q' hs).1 h3;have Ks:q<e:=by
    by_cases Ks:q<e
    .exact Ks
    .have:=hout q Y q' h1;omega
   exact ⟨Ks,q',(cY q hq Ks q' hs hlt).1 h1,by rw[<-bo q' hs hlt];exact h2,h4⟩
  .rintro ⟨Ks,q',h1,h2,h3⟩;obtain ⟨hs,hlt⟩:=bB q hq Ks q' h1;exact ⟨q',(cY q hq Ks q' hs hlt).2 h1,by rw[bo q' hs hlt];exact h2,(qb hl bo cY bB lK hout w q' hs).2 ⟨hlt,h3⟩⟩
theorem iu{b:Pb}{s m e:Nat}{x y:dC}(hx:ek b s m x)(hy:ek b m e y):∀(w:List Nat) (q:Nat),m<=q->q<e->(wk (dj b x y) (bD x y).last w q↔wk b y.last w q)
 | [],q,h1,_=>by
  unfold wk bD;simp only
  cases y.emp with
  |false=>simp
  |true=>
   simp only[if_true,List.mem_append];exact ⟨λh=>h.elim (λh=>by have:=(hx.ka q h).2;omega) id,.inr⟩
 |c::w,q,h1,h2=>by
  unfold wk;constructor
  .rintro ⟨q',g1,g2,g3⟩;rcases (gj (λp hp=>by have:=(hx.ka p hp).2;have:=hx.size;omega) q q').1 g1 with g|⟨g,-⟩
   .obtain ⟨i1,i2⟩:=hy.cls q h1 h2 q' g;exact ⟨q',g,g2,(iu hx hy w q' i1 i2).1 g3⟩
   .have:=(hx.ka q g).2;omega
  .rintro ⟨q',g1,g2,g3⟩;obtain ⟨i1,i2⟩:=hy.cls q h1 h2 q' g1;exact ⟨q',(gj (λp hp=>by have:=(hx.ka p hp).2;have:=hx.size;omega) q q').2 (.inl g1),g2,(iu hx hy w q' i1 i2).2 g3⟩
theorem qc{b:Pb}{s m e:Nat}{x y:dC}(hx:ek b s m x)(hy:ek b m e y):∀(w:List Nat) (q:Nat),s<=q->q<m->(wk (dj b x y) (bD x y).last w q↔∃u v,w=u++v/\wk b x.last u q/\LP b y v)
 | [],q,_,h2=>by
  unfold wk bD;simp only;constructor
  .intro h
   cases he:y.emp with
   |false=>
    rw[he]at h;have:=(hy.ka q (by simpa using h)).1
    omega
   |true=>
    rw[he]at h;simp only[if_true,List.mem_append]at h;refine ⟨[],[],rfl,?_,he⟩;exact h.elim id λh=>by have:=(hy.ka q h).1;omega
  .rintro ⟨u,v,h,h3,h4⟩;obtain ⟨rfl,rfl⟩:=List.append_eq_nil_iff.1 h.symm;have he:y.emp=true:=h4;rw[he];simp only[if_true,List.mem_append];exact .inl h3
 |c::w,q,h1,h2=>by
  have yr:=gj (b:=b) (x:=x) (y:=y) (λp hp=>by have:=(hx.ka p hp).2;have:=hx.size;have:=hx.se;omega) q
  constructor
  .intro h;unfold wk at h;obtain ⟨q',g1,g2,g3⟩:=h;rcases (yr q').1 g1 with g|⟨g,g'⟩
   .obtain ⟨i1,i2⟩:=hx.cls q h1 h2 q' g;obtain ⟨u,v,rfl,j1,j2⟩:=(qc hx hy w q' i1 i2).1 g3;exact ⟨c::u,v,rfl,⟨q',g,g2,j1⟩,j2⟩
   .obtain ⟨i1,i2⟩:=hy.fst q' g';exact ⟨[],c::w,rfl,g,q',g',g2,(iu hx hy w q' i1 i2).1 g3⟩
  .rintro ⟨u,v,h,j1,j2⟩;unfold wk
   cases u with
   |nil=>
    rw[List.nil_append]at h;subst h;obtain ⟨q',g1,g2,g3⟩:=j2;obtain ⟨i1,i2⟩:=hy.fst q' g1;exact ⟨q',(yr q').2 (.inr ⟨j1,g1⟩),g2,(iu hx hy w q' i1 i2).2 g3⟩
   |cons a u=>
    injection h with h3 h4;subst h3 h4;obtain ⟨q',g1,g2,g3⟩:=j1;obtain ⟨i1,i2⟩:=hx.cls q h1 h2 q' g1;exact ⟨q',(yr q').2 (.inl g1),g2,(qc hx hy _ q' i1 i2).2 ⟨u,v,rfl,g3,j2⟩⟩
theorem AO{b:Pb}{s m e:Nat}{x y:dC}(hx:ek b s m x)(hy:ek b m e y):ek (dj b x y) s e (bD x y):=by
 have h1:=hx.se;have h2:=hy.se;refine ⟨Y,by unfold dj;rw[iC];exact hy.size,λp hp=>?_,λp hp=>?_,λp ZA sj q hq=>?_⟩
 .unfold bD at hp;simp only at hp;split at hp
  .rcases List.mem_append.1 hp with h|h
   .have:=hx.fst p h;omega
   .have:=hy.fst p h;omega
  .have:=hx.fst p hp;omega
 .unfold bD at hp;simp only at hp;split at hp
  .rcases List.mem_append.1 hp with h|h
   .have:=hx.ka p h;omega
   .have:=hy.ka p h;omega
  .have:=hy.ka p hp;omega
 .rcases (gj (λp hp=>by have:=(hx.ka p hp).2;have:=hx.size;omega) p q).1 hq with h|⟨h,h'⟩
  .by_cases KY:p<m
   .have:=hx.cls p ZA KY q h;omega
   .have:=hy.cls p Y sj q h;omega
  .have:=hy.fst q h';omega
theorem MR{b:Pb}{s m e:Nat}{x y:dC}(hx:ek b s m x)(hy:ek b m e y)(w:List Nat):LP (dj b x y) (bD x y) w↔∃u v,w=u++v/\LP b x u/\LP b y v:=by
 cases w with
 |nil=>
  show (x.emp && y.emp)=true↔_;rw[Bool.and_eq_true];constructor
  .rintro ⟨h1,h2⟩;exact ⟨[],[],rfl,h1,h2⟩
  .rintro ⟨u,v,h,h1,h2⟩;obtain ⟨rfl,rfl⟩:=List.append_eq_nil_iff.1 h.symm;exact ⟨h1,h2⟩
 |cons c w=>
  have hf:∀q,q∈(bD x y).first↔q∈x.first\/(x.emp=true/\q∈y.first):=λq=>by
   unfold bD;simp only
   cases x.emp <;> simp
  constructor
  .rintro ⟨q,h1,h2,h3⟩;rcases (hf q).1 h1 with h|⟨h,h'⟩
   .obtain ⟨i1,i2⟩:=hx.fst q h;obtain ⟨u,v,rfl,j1,j2⟩:=(qc hx hy w q i1 i2).1 h3;exact ⟨c::u,v,rfl,⟨q,h,h2,j1⟩,j2⟩
   .obtain ⟨i1,i2⟩:=hy.fst q h';exact ⟨[],c::w,rfl,h,q,h',h2,(iu hx hy w q i1 i2).1 h3⟩
  .rintro ⟨u,v,h,j1,j2⟩
   cases u with
   |nil=>
    rw[List.nil_append]at h;subst h;obtain ⟨q,g1,g2,g3⟩:=j2;obtain ⟨i1,i2⟩:=hy.fst q g1;exact ⟨q,(hf q).2 (.inr ⟨j1,g1⟩),g2,(iu hx hy w q i1 i2).2 g3⟩
   |cons a u=>
    injection h with h3 h4;subst h3 h4;obtain ⟨q,g1,g2,g3⟩:=j1;obtain ⟨i1,i2⟩:=hx.fst q g1;exact ⟨q,(hf q).2 (.inl g1),g2,(qc hx hy _ q i1 i2).2 ⟨u,v,rfl,g3,j2⟩⟩
structure Au where
 em:Prop
 P:List Nat->Prop
 fi:List Nat->Prop
 la:List Nat->Prop
 fo:List Nat->List Nat->Prop
 sr:List Nat->Nat->Prop
instance amP:Inhabited Au:=⟨⟨False,λ_=>False,λ_=>False,λ_=>False,λ_ _=>False,λ_ _=>False⟩⟩
def AB(rs:List (Nat×Nat)):Au:=⟨False,λπ=>π=[],λπ=>π=[],λπ=>π=[],λ_ _=>False,λπ c=>π=[]/\lu rs c=true⟩
def eT(n:Nat)(F:Nat->Au):Au where
 em:=∀k,k<n->(F k).em
 P | []=>False|k::π=>k<n/\(F k).P π
 fi | []=>False|k::π=>k<n/\(F k).fi π/\∀j,j<k->(F j).em
 la | []=>False|k::π=>k<n/\(F k).la π/\∀j,k<j->j<n->(F j).em
 fo|k::π,l::ρ=>k<n/\l<n/\((k=l/\(F k).fo π ρ)\/(k<l/\(F k).la π/\(F l).fi ρ/\∀j,k<j->j<l->(F j).em))|_,_=>False
 sr | [],_=>False|k::π,c=>k<n/\(F k).sr π c
def sI(n:Nat)(F:Nat->Au):Au where
 em:=∃k,k<n/\(F k).em
 P | []=>False|k::π=>k<n/\(F k).P π
 fi | []=>False|k::π=>k<n/\(F k).fi π
 la | []=>False|k::π=>k<n/\(F k).la π
 fo|k::π,l::ρ=>k<n/\k=l/\(F k).fo π ρ|_,_=>False
 sr | [],_=>False|k::π,c=>k<n/\(F k).sr π c
def Hx(mn n i:Nat)(A:Au):Au where
 em:=A.em\/mn<=i
 P | []=>False|k::π=>i<=k/\k<n/\A.P π
 fi | []=>False|k::π=>i<=k/\k<n/\A.fi π/\(k=i\/A.em)
 la | []=>False|k::π=>i<=k/\k<n/\A.la π/\(mn<=k+1\/A.em)
 fo|k::π,l::ρ=>i<=k/\l<n/\((k=l/\A.fo π ρ)\/(k<l/\A.la π/\A.fi ρ/\(l=k+1\/A.em)))|_,_=>False
 sr | [],_=>False|k::π,c=>i<=k/\k<n/\A.sr π c
structure tO (L:Nat->List Nat) (b:Pb) (s e:Nat) (x:dC) (A:Au):Prop where
 inj:∀p q,s<=p->p<e->s<=q->q<e->L p=L q->p=q
 onto:∀π,A.P π->∃p,s<=p/\p<e/\L p=π
 pos:∀p,s<=p->p<e->A.P (L p)
 em:x.emp=true↔A.em
 fi:∀p,s<=p->p<e->(p∈x.first↔A.fi (L p))
 la:∀p,s<=p->p<e->(p∈x.last↔A.la (L p))
 fo:∀p q,s<=p->p<e->s<=q->q<e->(q∈dp b p↔A.fo (L p) (L q))
 sr:∀p c,s<=p->p<e->(cD b p c=true↔A.sr (L p) c)
def PY(L1 L2:Nat->List Nat)(m n:Nat)(p:Nat):List Nat:=if p<m then L1 p else n::L2 p
theorem tO.glue{L1 L2:Nat->List Nat}{b1 b2 b:Pb}{s m e n:Nat}{x y z:dC}{A1 A2 B:Au}(h1:tO L1 b1 s m x A1)(h2:tO L2 b2 m e y A2)
  (hP:∀π,B.P π↔A1.P π\/∃ρ,π=n::ρ/\A2.P ρ) (hd:∀ρ,¬A1.P (n::ρ)) (j9:s<=m) (hme:m<=e)
  (De:z.emp=true↔B.em)
  (fi1:∀p,s<=p->p<m->(p∈z.first↔B.fi (L1 p))) (fi2:∀p,m<=p->p<e->(p∈z.first↔B.fi (n::L2 p)))
  (la1:∀p,s<=p->p<m->(p∈z.last↔B.la (L1 p))) (la2:∀p,m<=p->p<e->(p∈z.last↔B.la (n::L2 p)))
  (agZ:∀p q,s<=p->p<m->s<=q->q<m->(q∈dp b p↔B.fo (L1 p) (L1 q))) (ag0:∀p q,s<=p->p<m->m<=q->q<e->(q∈dp b p↔B.fo (L1 p) (n::L2 q)))
  (ag1:∀p q,m<=p->p<e->s<=q->q<m->(q∈dp b p↔B.fo (n::L2 p) (L1 q))) (ag2:∀p q,m<=p->p<e->m<=q->q<e->(q∈dp b p↔B.fo (n::L2 p) (n::L2 q)))
  (sr1:∀p c,s<=p->p<m->(cD b p c=true↔B.sr (L1 p) c)) (sr2:∀p c,m<=p->p<e->(cD b p c=true↔B.sr (n::L2 p) c)):tO (PY L1 L2 m n) b s e z B:=by
 have g1:∀p,p<m->PY L1 L2 m n p=L1 p:=λp h=>if_pos h;have g2:∀p,m<=p->PY L1 L2 m n p=n::L2 p:=λp h=>if_neg Y;refine ⟨λp q p1 p2 q1 q2 h=>?_,λπ h=>?_,λp p1 p2=>?_,De,λp p1 p2=>?_,λp p1 p2=>?_,λp q p1 p2 q1 q2=>?_,λp c p1 p2=>?_⟩
 .by_cases hp:p<m
  .by_cases hq:q<m
   .rw[g1 p hp,g1 q hq]at h;exact h1.inj p q p1 hp q1 hq h
   .rw[g1 p hp,g2 q Y]at h;exact absurd (h▸h1.pos p p1 hp) (hd _)
  .by_cases hq:q<m
   .rw[g1 q hq,g2 p Y]at h;exact absurd (h.symm▸h1.pos q q1 hq) (hd _)
   .rw[g2 p Y,g2 q Y]at h;injection h with _ h;exact h2.inj p q Y p2 Y q2 h
 .rcases (hP π).1 h with h|⟨ρ,rfl,hρ⟩
  .obtain ⟨p,p1,p2,p3⟩:=h1.onto π h;exact ⟨p,p1,Y,by rw[g1 p p2];exact p3⟩
  .obtain ⟨p,p1,p2,p3⟩:=h2.onto ρ hρ;exact ⟨p,Y,p2,by rw[g2 p p1,p3]⟩
 .by_cases hp:p<m
  .rw[g1 p hp];exact (hP _).2 (.inl (h1.pos p p1 hp))
  .rw[g2 p Y];exact (hP _).2 (.inr ⟨_,rfl,h2.pos p Y p2⟩)
 .by_cases hp:p<m
  .rw[g1 p hp];exact fi1 p p1 hp
  .rw[g2 p Y];exact fi2 p Y p2
 .by_cases hp:p<m
  .rw[g1 p hp];exact la1 p p1 hp
  .rw[g2 p Y];exact la2 p Y p2
 .by_cases hp:p<m
  .by_cases hq:q<m
   .rw[g1 p hp,g1 q hq];exact agZ p q p1 hp q1 hq
   .rw[g1 p hp,g2 q Y];exact ag0 p q p1 hp Y q2
  .by_cases hq:q<m
   .rw[g2 p Y,g1 q hq];exact ag1 p q Y p2 q1 hq
   .rw[g2 p Y,g2 q Y];exact ag2 p q Y p2 Y q2
 .by_cases hp:p<m
  .rw[g1 p hp];exact sr1 p c p1 hp
  .rw[g2 p Y];exact sr2 p c Y p2
structure Mk (b b':Pb) (x:dC) (A:Au):Prop where
 len:b'.sets.length=b'.fol.length
 sets:∃ns,b'.sets=b.sets++ns
 fol:∃nf,b'.fol=b.fol++nf
 good:ek b' b.fol.length b'.fol.length x
 zO:∃L,tO L b' b.fol.length b'.fol.length x A
section
variable {b b1 b2 b':Pb} {x y:dC} {A A':Au} {n:Nat} {F:Nat->Au}
theorem Mk.ki(h:Mk b b' x A)(hl:b.sets.length=b.fol.length){p:Nat}(hp:p<b.fol.length)(c:Nat):cD b' p c=cD b p c:=by
 obtain ⟨ns,hs⟩:=h.sets;unfold cD;rw[hs,List.getElem?_append_left Y]
theorem Mk.jr(h:Mk b b' x A){p:Nat}(hp:p<b.fol.length):dp b' p=dp b p:=by
 obtain ⟨nf,hf⟩:=h.fol;unfold dp;rw[hf,List.getElem?_append_left hp]
theorem ek.KX{z:dC}{s e:Nat}(hx:ek b s e z)(h:Mk b b' x A)(he:e=b.fol.length):ek b' s e z:=by
 have hg:=h.good.size;have hs:=h.good.se;refine ⟨hx.se,Y,hx.fst,hx.ka,λp h1 h2 q hq=>?_⟩;rw[h.jr Y]at hq;exact hx.cls p h1 h2 q hq
theorem Mk.set(b:Pb)(hl:b.sets.length=b.fol.length)(rs:List (Nat×Nat)):Mk b ⟨b.sets++[rs],b.fol++[[]]⟩ ⟨[b.sets.length],[b.sets.length],false⟩ (AB rs):=by
 have bo:∀c,cD ⟨b.sets++[rs],b.fol++[[]]⟩ b.sets.length c=lu rs c:=λc=>by unfold cD;simp
 have yr:dp ⟨b.sets++[rs],b.fol++[[]]⟩ b.sets.length=[]:=by unfold dp;simp[hl]
 have one:∀p,b.fol.length<=p->p<(⟨b.sets++[rs],b.fol++[[]]⟩:Pb).fol.length->p=b.sets.length:=λp h1 h2=>by simp at h2;omega
 refine ⟨by simp[hl],⟨_,rfl⟩,⟨_,rfl⟩,⟨ξ,ξ,by simp[hl],by simp[hl],λp h1 h2 q hq=>?_⟩,λ_=>[],λp q p1 p2 q1 q2 _=>?_,λπ h=>⟨b.sets.length,Y,by simp[hl],h.symm⟩,λp _ _=>rfl,by simp[AB],λp p1 p2=>?_,λp p1 p2=>?_,λp q p1 p2 q1 q2=>?_,λp c p1 p2=>?_⟩
 .rw[one p h1 h2,yr]at hq;cases hq
 .rw[one p p1 p2,one q q1 q2]
 .simp[AB,one p p1 p2]
 .simp[AB,one p p1 p2]
 .rw[one p p1 p2,yr];simp[AB]
 .rw[one p p1 p2,bo];simp[AB]
theorem Mk.nil(b:Pb)(hl:b.sets.length=b.fol.length)(hA:∀π,¬A.P π)(he:A.em):Mk b b ⟨[],[],true⟩ A:=
 ⟨hl,⟨[],ξ⟩,⟨[],ξ⟩,⟨I,I,ξ,ξ,λp h1 h2=>Y⟩,λ_=>[],λp q p1 p2=>Y,λπ h=>absurd h (hA π),λp p1 p2=>Y,by simp[he],λp p1 p2=>Y,λp p1 p2=>Y,λp q p1 p2=>Y,λp c p1 p2=>Y⟩
theorem AG(l:List Nat)(k:Nat):∀(ps:List Nat) (fol:List (List Nat)),(∀p∈ps,k<=p)->(kj l ps fol).take k=fol.take k
 | [],_,_=>rfl
 |a::r,fol,h=>by rw[kj,AG l k r _ (λp hp=>h p (by simp[hp])),List.take_set_of_le (h a ξ)]
theorem PZ{k:Nat}(hl:k<=b2.fol.length)(h:∀p∈x.last,k<=p){f:List (List Nat)}(hf:b2.fol.take k=f):(dj b2 x y).fol=f++(dj b2 x y).fol.drop k:=by
 have:(dj b2 x y).fol.take k=f:=by unfold dj;rw[AG _ _ _ _ h];exact hf
 rw[<-this,List.take_append_drop]
theorem AH(b:Pb)(x y:dC)(p c:Nat):cD (dj b x y) p c=cD b p c:=rfl
theorem AJ{x y:dC}{p:Nat}:p∈(bD x y).first↔p∈x.first\/(x.emp=true/\p∈y.first):=by
 unfold bD; simp only; cases x.emp <;> simp
theorem AK{x y:dC}{p:Nat}:p∈(bD x y).last↔p∈y.last\/(y.emp=true/\p∈x.last):=by
 unfold bD; simp only; cases y.emp <;> simp[or_comm]
theorem tO.P0{L1 L2:Nat->List Nat}{s m e:Nat}(h1:tO L1 b1 s m x (eT n F))(h2:tO L2 b2 m e y (F n))(g1:ek b2 s m x)(g2:ek b2 m e y)
  (hf:∀p,p<m->dp b2 p=dp b1 p) (hs:∀p c,p<m->cD b2 p c=cD b1 p c):tO (PY L1 L2 m n) (dj b2 x y) s e (bD x y) (eT (n+1) F):=by
 have fo:=gj (b:=b2) (x:=x) (y:=y) (λp hp=>by have:=(g1.ka p hp).2;have:=g2.size;have:=g2.se;omega)
 have hx:∀p,s<=p->p<m->∃k π,L1 p=k::π/\k<n/\(F k).P π:=λp p1 p2=>by
  have:=h1.pos p p1 p2
  cases hL:L1 p with
  |nil=>rw[hL]at this;exact this.elim
  |cons k π=>rw[hL]at this;exact ⟨k,π,rfl,this⟩
 have ny:∀{p},p<m->p∉y.first:=λhp h=>by have:=(g2.fst _ h).1;omega
 have ny':∀{p},p<m->p∉y.last:=λhp h=>by have:=(g2.ka _ h).1;omega
 have nx:∀{p},m<=p->p∉x.first:=λhp h=>by have:=(g1.fst _ h).2;omega
 have nx':∀{p},m<=p->p∉x.last:=λhp h=>by have:=(g1.ka _ h).2;omega
 refine tO.glue h1 h2 (λπ=>?_) (λρ h=>by have:=h.1;omega) g1.se g2.se ?_ (λp p1 p2=>?_) (λp p1 p2=>?_) (λp p1 p2=>?_) (λp p1 p2=>?_) (λp q p1 p2 q1 q2=>?_) (λp q p1 p2 q1 q2=>?_) (λp q p1 p2 q1 q2=>?_) (λp q p1 p2 q1 q2=>?_) (λp c p1 p2=>?_) (λp c p1 p2=>?_)
 .cases π with
  |nil=>simp[eT]
  |cons k π=>
   simp only[eT,List.cons.injEq];constructor
   .rintro ⟨h,h3⟩;by_cases hk:k=n
    .subst hk;exact .inr ⟨π,⟨rfl,rfl⟩,h3⟩
    .exact .inl ⟨Y,h3⟩
   .rintro (⟨h,h3⟩|⟨ρ,⟨rfl,rfl⟩,h3⟩)
    .exact ⟨Y,h3⟩
    .exact ⟨Y,h3⟩
 .show (x.emp && y.emp)=true↔_;rw[Bool.and_eq_true,h1.em,h2.em];constructor
  .rintro ⟨h3,h4⟩ k hk;by_cases hkn:k=n
   .subst hkn;exact h4
   .exact h3 k Y
  .exact λh=>⟨λk hk=>h k Y,h n Y⟩
 .rw[AJ,h1.fi p p1 p2];obtain ⟨k,π,hL,hk,-⟩:=hx p p1 p2;rw[hL];simp only[eT];constructor
  .rintro (⟨-,h⟩|⟨-,h⟩)
   .exact ⟨Y,h⟩
   .exact absurd h (ny p2)
  .exact λh=>.inl ⟨hk,h.2⟩
 .rw[AJ,h2.fi p p1 p2,h1.em];simp only[eT];constructor
  .rintro (h|⟨h,h3⟩)
   .exact absurd h (nx p1)
   .exact ⟨Y,h3,h⟩
  .exact λh=>.inr ⟨h.2.2,h.2.1⟩
 .rw[AK,h1.la p p1 p2,h2.em];obtain ⟨k,π,hL,hk,-⟩:=hx p p1 p2;rw[hL];simp only[eT];constructor
  .rintro (h|⟨h,h3,h4,h5⟩)
   .exact absurd h (ny' p2)
   .refine ⟨Y,h4,λj h6 h7=>?_⟩;by_cases hj:j=n
    .subst hj;exact h
    .exact h5 j h6 Y
  .exact λ⟨_,h4,h5⟩=>.inr ⟨h5 n Y Y,hk,h4,λj h6 h7=>h5 j h6 Y⟩
 .rw[AK,h2.la p p1 p2];simp only[eT];constructor
  .rintro (h|⟨-,h⟩)
   .exact ⟨Y,h,λj h6 h7=>Y⟩
   .exact absurd h (nx' p1)
  .exact λh=>.inl h.2.1
 .rw[fo,hf p p2,h1.fo p q p1 p2 q1 q2];obtain ⟨k,π,hL,hk,-⟩:=hx p p1 p2;obtain ⟨l,ρ,hM,hl,-⟩:=hx q q1 q2;rw[hL,hM];simp only[eT];constructor
  .rintro (h|⟨-,h⟩)
   .exact ⟨Y,Y,h.2.2⟩
   .exact absurd h (ny q2)
  .exact λh=>.inl ⟨hk,hl,h.2.2⟩
 .rw[fo,h1.la p p1 p2,h2.fi q q1 q2];obtain ⟨k,π,hL,hk,-⟩:=hx p p1 p2;rw[hL];simp only[eT];constructor
  .rintro (h|⟨⟨-,h3,h4⟩,h⟩)
   .have:=(g1.cls p p1 p2 q h).2;omega
   .exact ⟨Y,Y,.inr ⟨hk,h3,h,h4⟩⟩
  .rintro ⟨-,-,⟨h,-⟩|⟨-,h3,h,h4⟩⟩
   .omega
   .exact .inr ⟨⟨hk,h3,h4⟩,h⟩
 .obtain ⟨l,ρ,hM,hl,-⟩:=hx q q1 q2;rw[hM,fo];simp only[eT];constructor
  .rintro (h|⟨h,-⟩)
   .have:=(g2.cls p p1 p2 q h).1;omega
   .exact absurd h (nx' p1)
  .rintro ⟨-,-,⟨h,-⟩|⟨h,-⟩⟩ <;> omega
 .rw[fo,h2.fo p q p1 p2 q1 q2];simp only[eT];constructor
  .rintro (h|⟨h,-⟩)
   .exact ⟨Y,Y,.inl ⟨trivial,h⟩⟩
   .exact absurd h (nx' p1)
  .rintro ⟨-,-,⟨-,h⟩|⟨h,-⟩⟩
   .exact .inl h
   .omega
 .rw[AH,hs p c p2,h1.sr p c p1 p2];obtain ⟨k,π,hL,hk,-⟩:=hx p p1 p2;rw[hL];simp only[eT];exact ⟨λh=>⟨Y,h.2⟩,λh=>⟨hk,h.2⟩⟩
 .rw[AH,h2.sr p c p1 p2];simp only[eT];exact ⟨λh=>⟨Y,h⟩,λh=>h.2⟩
theorem tO.UG{L1 L2:Nat->List Nat}{s m e:Nat}(h1:tO L1 b1 s m x (sI n F))(h2:tO L2 b2 m e y (F n))(g1:ek b2 s m x)(g2:ek b2 m e y)
  (hf:∀p,p<m->dp b2 p=dp b1 p) (hs:∀p c,p<m->cD b2 p c=cD b1 p c):tO (PY L1 L2 m n) b2 s e (lZ x y) (sI (n+1) F):=by
 have hx:∀p,s<=p->p<m->∃k π,L1 p=k::π/\k<n/\(F k).P π:=λp p1 p2=>by
  have:=h1.pos p p1 p2
  cases hL:L1 p with
  |nil=>rw[hL]at this;exact this.elim
  |cons k π=>rw[hL]at this;exact ⟨k,π,rfl,this⟩
 refine tO.glue h1 h2 (λπ=>?_) (λρ h=>by have:=h.1;omega) g1.se g2.se ?_ (λp p1 p2=>?_) (λp p1 p2=>?_) (λp p1 p2=>?_) (λp p1 p2=>?_) (λp q p1 p2 q1 q2=>?_) (λp q p1 p2 q1 q2=>?_) (λp q p1 p2 q1 q2=>?_) (λp q p1 p2 q1 q2=>?_) (λp c p1 p2=>?_) (λp c p1 p2=>?_)
 .cases π with
  |nil=>simp[sI]
  |cons k π=>
   simp only[sI,List.cons.injEq];constructor
   .rintro ⟨h,h3⟩;by_cases hk:k=n
    .subst hk;exact .inr ⟨π,⟨rfl,rfl⟩,h3⟩
    .exact .inl ⟨Y,h3⟩
   .rintro (⟨h,h3⟩|⟨ρ,⟨rfl,rfl⟩,h3⟩)
    .exact ⟨Y,h3⟩
    .exact ⟨Y,h3⟩
 .show (x.emp || y.emp)=true↔_;rw[Bool.or_eq_true,h1.em,h2.em];constructor
  .rintro (⟨k,h3,h4⟩|h)
   .exact ⟨k,Y,h4⟩
   .exact ⟨n,Y,h⟩
  .rintro ⟨k,hk,h⟩;by_cases hkn:k=n
   .subst hkn;exact .inr h
   .exact .inl ⟨k,Y,h⟩
 .obtain ⟨k,π,hL,hk,-⟩:=hx p p1 p2;show p∈x.first++y.first↔_;rw[List.mem_append,h1.fi p p1 p2,hL];exact ⟨λh=>h.elim (λh=>⟨Y,h.2⟩) λh=>by have:=(g2.fst p h).1;omega,λh=>.inl ⟨hk,h.2⟩⟩
 .show p∈x.first++y.first↔_;rw[List.mem_append,h2.fi p p1 p2];exact ⟨λh=>h.elim (λh=>by have:=(g1.fst p h).2;omega) λh=>⟨Y,h⟩,λh=>.inr h.2⟩
 .obtain ⟨k,π,hL,hk,-⟩:=hx p p1 p2;show p∈x.last++y.last↔_;rw[List.mem_append,h1.la p p1 p2,hL];exact ⟨λh=>h.elim (λh=>⟨Y,h.2⟩) λh=>by have:=(g2.ka p h).1;omega,λh=>.inl ⟨hk,h.2⟩⟩
 .show p∈x.last++y.last↔_;rw[List.mem_append,h2.la p p1 p2];exact ⟨λh=>h.elim (λh=>by have:=(g1.ka p h).2;omega) λh=>⟨Y,h⟩,λh=>.inr h.2⟩
 .rw[hf p p2,h1.fo p q p1 p2 q1 q2];obtain ⟨k,π,hL,hk,-⟩:=hx p p1 p2;obtain ⟨l,ρ,hM,hl,-⟩:=hx q q1 q2;rw[hL,hM];exact ⟨λh=>⟨Y,h.2⟩,λh=>⟨hk,h.2⟩⟩
 .obtain ⟨k,π,hL,hk,-⟩:=hx p p1 p2;rw[hL];exact ⟨λh=>by have:=(g1.cls p p1 p2 q h).2;omega,λh=>by have:=h.2.1;omega⟩
 .obtain ⟨l,ρ,hM,hl,-⟩:=hx q q1 q2;rw[hM];exact ⟨λh=>by have:=(g2.cls p p1 p2 q h).1;omega,λh=>by have:=h.2.1;omega⟩
 .rw[h2.fo p q p1 p2 q1 q2];exact ⟨λh=>⟨Y,rfl,h⟩,λh=>h.2.2⟩
 .rw[hs p c p2,h1.sr p c p1 p2];obtain ⟨k,π,hL,hk,-⟩:=hx p p1 p2;rw[hL];exact ⟨λh=>⟨Y,h.2⟩,λh=>⟨hk,h.2⟩⟩
 .rw[h2.sr p c p1 p2];exact ⟨λh=>⟨Y,h⟩,λh=>h.2⟩
theorem Mk.P0(h1:Mk b b1 x (eT n F))(h2:Mk b1 b2 y (F n)):Mk b (dj b2 x y) (bD x y) (eT (n+1) F):=by
 have hx:=h1.good.KX h2 rfl;obtain ⟨UH,qM⟩:=h1.sets;obtain ⟨zP,vN⟩:=h2.sets;obtain ⟨nf1,gX⟩:=h1.fol;obtain ⟨nf2,eI⟩:=h2.fol;obtain ⟨L1,l1⟩:=h1.zO;obtain ⟨L2,l2⟩:=h2.zO;have q1:=h1.good.se;have q2:=h2.good.se;have hlen:(dj b2 x y).fol.length=b2.fol.length:=by unfold dj;rw[iC]
 refine ⟨by rw[hlen];exact h2.len,⟨UH++zP,by show b2.sets=_;rw[vN,qM,List.append_assoc]⟩,⟨_,PZ Y (λp hp=>(h1.good.ka p hp).1) (f:=b.fol) (by rw[eI,gX,List.append_assoc,List.take_left])⟩,by rw[hlen];exact AO hx h2.good,PY L1 L2 b1.fol.length n,?_⟩
 rw[hlen];exact l1.P0 l2 hx h2.good (λp hp=>h2.jr hp) (λp c hp=>h2.ki h1.len hp c)
theorem Mk.UG(h1:Mk b b1 x (sI n F))(h2:Mk b1 b2 y (F n)):Mk b b2 (lZ x y) (sI (n+1) F):=by
 have hx:=h1.good.KX h2 rfl;have hy:=h2.good;obtain ⟨UH,qM⟩:=h1.sets;obtain ⟨zP,vN⟩:=h2.sets;obtain ⟨nf1,gX⟩:=h1.fol;obtain ⟨nf2,eI⟩:=h2.fol;obtain ⟨L1,l1⟩:=h1.zO;obtain ⟨L2,l2⟩:=h2.zO;have q1:=hx.se;have q2:=hy.se;refine ⟨h2.len,⟨UH++zP,by rw[vN,qM,List.append_assoc]⟩,⟨nf1++nf2,by rw[eI,gX,List.append_assoc]⟩,⟨Y,I,λp hp=>?_,λp hp=>?_,λp p1 p2 q hq=>?_⟩,_,l1.UG l2 hx hy (λp hp=>h2.jr hp) (λp c hp=>h2.ki h1.len hp c)⟩
 .rcases List.mem_append.1 hp with h|h
  .have:=hx.fst p h;omega
  .have:=hy.fst p h;omega
 .rcases List.mem_append.1 hp with h|h
  .have:=hx.ka p h;omega
  .have:=hy.ka p h;omega
 .by_cases KY:p<b1.fol.length
  .have:=hx.cls p p1 KY q hq;omega
  .have:=hy.cls p Y p2 q hq;omega
def orP(x:dC)(e:Bool):dC:={ x with emp:=x.emp || e }
theorem tO.rep{L:Nat->List Nat}{s e mn:Nat}{z:dC}(h:tO L b s e x (eT n λ_=>A))(hmn:mn<=n)(hn:0<n)(he:z.emp=true↔A.em\/mn=0)(v8:∀p,s<=p->p<e->(p∈z.first↔p∈x.first))
  (zM:∀p,s<=p->p<e->(p∈z.last↔(Hx mn n 0 A).la (L p))):tO L b s e z (Hx mn n 0 A):=by
 refine ⟨h.inj,λπ hπ=>h.onto π ?_,λp p1 p2=>?_,?_,λp p1 p2=>?_,zM,λp q p1 p2 q1 q2=>?_,λp c p1 p2=>?_⟩
 .cases π with
  |nil=>exact hπ
  |cons k π=>exact hπ.2
 .have:=h.pos p p1 p2
  cases hL:L p with
  |nil=>rw[hL]at this;exact this
  |cons k π=>rw[hL]at this;exact ⟨Nat.zero_le _,this⟩
 .rw[he];simp only[Hx];exact ⟨λh=>h.imp id λh=>Y,λh=>h.imp id λh=>Y⟩
 .rw[v8 p p1 p2,h.fi p p1 p2]
  cases hL:L p with
  |nil=>exact Iff.rfl
  |cons k π=>
   simp only[eT,Hx];constructor
   .rintro ⟨h1,h2,h3⟩;refine ⟨Nat.zero_le _,h1,h2,?_⟩;by_cases hk:k=0
    .exact .inl hk
    .exact .inr (h3 0 Y)
   .rintro ⟨-,h1,h2,h3⟩;exact ⟨h1,h2,λj hj=>h3.resolve_left Y⟩
 .rw[h.fo p q p1 p2 q1 q2]
  cases hL:L p with
  |nil=>exact Iff.rfl
  |cons k π=>
   cases hM:L q with
   |nil=>exact Iff.rfl
   |cons l ρ=>
    simp only[eT,Hx];constructor
    .rintro ⟨h1,h2,h3|⟨h3,h4,h5,h6⟩⟩
     .exact ⟨Nat.zero_le _,h2,.inl h3⟩
     .refine ⟨Nat.zero_le _,h2,.inr ⟨h3,h4,h5,?_⟩⟩;by_cases hl:l=k+1
      .exact .inl hl
      .exact .inr (h6 (k+1) Y Y)
    .rintro ⟨-,h2,h3|⟨h3,h4,h5,h6⟩⟩
     .exact ⟨Y,h2,.inl h3⟩
     .exact ⟨Y,h2,.inr ⟨h3,h4,h5,λj j1 j2=>h6.resolve_left Y⟩⟩
 .rw[h.sr p c p1 p2]
  cases hL:L p with
  |nil=>exact Iff.rfl
  |cons k π=>exact ⟨λh=>⟨Nat.zero_le _,h⟩,λh=>h.2⟩
theorem tO.one{L:Nat->List Nat}{s e:Nat}(h:tO L b s e x A)(hF:F 0=A):tO (λp=>0::L p) b s e x (sI 1 F):=by
 subst hF;refine ⟨λp q p1 p2 q1 q2 e=>h.inj p q p1 p2 q1 q2 (by injection e),λπ hπ=>?_,λp p1 p2=>⟨Nat.one_pos,h.pos p p1 p2⟩,h.em.trans ⟨λh=>⟨0,Nat.one_pos,h⟩,λ⟨k,hk,h⟩=>?_⟩,λp p1 p2=>(h.fi p p1 p2).trans ⟨λh=>⟨Nat.one_pos,h⟩,λh=>h.2⟩,λp p1 p2=>(h.la p p1 p2).trans ⟨λh=>⟨Nat.one_pos,h⟩,λh=>h.2⟩,λp q p1 p2 q1 q2=>(h.fo p q p1 p2 q1 q2).trans ⟨λh=>⟨Nat.one_pos,rfl,h⟩,λh=>h.2.2⟩,λp c p1 p2=>(h.sr p c p1 p2).trans ⟨λh=>⟨Nat.one_pos,h⟩,λh=>h.2⟩⟩
 .cases π with
  |nil=>exact hπ.elim
  |cons k π=>
   obtain ⟨hk,hπ⟩:=hπ;obtain rfl:k=0:=Y;obtain ⟨p,p1,p2,p3⟩:=h.onto π hπ;exact ⟨p,p1,p2,by rw[p3]⟩
 .obtain rfl:k=0:=Y;exact h
end
theorem eD(b:Pb)(l1 l2:List Nat):∀(w:List Nat) (q:Nat),wk b (l1++l2) w q↔wk b l1 w q\/wk b l2 w q
 | [],q=>by unfold wk;exact List.mem_append
 |c::w,q=>by
  unfold wk;constructor
  .rintro ⟨q',h1,h2,h3⟩;rcases (eD b l1 l2 w q').1 h3 with h|h
   .exact .inl ⟨q',h1,h2,h⟩
   .exact .inr ⟨q',h1,h2,h⟩
  .rintro (⟨q',h1,h2,h3⟩|⟨q',h1,h2,h3⟩)
   .exact ⟨q',h1,h2,(eD b l1 l2 w q').2 (.inl h3)⟩
   .exact ⟨q',h1,h2,(eD b l1 l2 w q').2 (.inr h3)⟩
theorem zg{b:Pb}{l1 l2:List Nat}(h:∀p,p∈l1↔p∈l2):∀(w:List Nat) (q:Nat),wk b l1 w q↔wk b l2 w q
 | [],q=>h q
 |c::w,q=>by
  unfold wk;exact ⟨λ⟨q',h1,h2,h3⟩=>⟨q',h1,h2,(zg h w q').1 h3⟩,λ⟨q',h1,h2,h3⟩=>⟨q',h1,h2,(zg h w q').2 h3⟩⟩
theorem EH{b:Pb}{s e:Nat}{last:List Nat}(bB:∀p,s<=p->p<e->∀q∈dp b p,s<=q/\q<e):∀(w:List Nat) (q:Nat),s<=q->q<e->wk b last w q->∃p∈last,s<=p/\p<e
 | [],q,h1,h2,h=>⟨q,h,h1,h2⟩
 |c::w,q,h1,h2,h=>by
  unfold wk at h;obtain ⟨q',g1,-,g3⟩:=h;obtain ⟨i1,i2⟩:=bB q h1 h2 q' g1;exact EH bB w q' i1 i2 g3
structure LA where
 l:List Nat->Prop
 a:Au
structure Wr (b b':Pb) (x:dC) (K:LA):Prop where
 len:b'.sets.length=b'.fol.length
 sets:∃ns,b'.sets=b.sets++ns
 fol:∃nf,b'.fol=b.fol++nf
 good:ek b' b.fol.length b'.fol.length x
 gG:∀w,LP b' x w↔K.l w
 zO:∃L,tO L b' b.fol.length b'.fol.length x K.a
theorem Wr.mk'{b b':Pb}{x:dC}{K:LA}(h:Wr b b' x K):Mk b b' x K.a:=⟨h.len,h.sets,h.fol,h.good,h.zO⟩
theorem Wr.ki{b b':Pb}{x:dC}{K:LA}(h:Wr b b' x K)(hl:b.sets.length=b.fol.length){p:Nat}(hp:p<b.fol.length)(c:Nat):cD b' p c=cD b p c:=by
 obtain ⟨ns,hs⟩:=h.sets;unfold cD;rw[hs,List.getElem?_append_left Y]
theorem Wr.jr{b b':Pb}{x:dC}{K:LA}(h:Wr b b' x K){p:Nat}(hp:p<b.fol.length):dp b' p=dp b p:=by
 obtain ⟨nf,hf⟩:=h.fol;unfold dp;rw[hf,List.getElem?_append_left hp]
theorem qd{b:Pb}{p:Nat}(h:b.fol.length<=p):dp b p=[]:=by
 unfold dp;rw[List.getElem?_eq_none h]
 rfl
theorem ek.later{b b':Pb}{x y:dC}{K:LA}{s e:Nat}(hx:ek b s e x)(h:Wr b b' y K)(he:e=b.fol.length):ek b' s e x:=by
 have hg:=h.good.size;have hs:=h.good.se;refine ⟨hx.se,Y,hx.fst,hx.ka,λp h1 h2 q hq=>?_⟩;rw[h.jr Y]at hq;exact hx.cls p h1 h2 q hq
theorem LP.later{b b':Pb}{x y:dC}{K:LA}{s e:Nat}(hx:ek b s e x)(h:Wr b b' y K)(hl:b.sets.length=b.fol.length)(he:e=b.fol.length)(w:List Nat):LP b' x w↔LP b x w:=by
 have O4:=hx.se
 cases w with
 |nil=>exact Iff.rfl
 |cons c w=>
  have MS:=qb (b:=b) (b':=b') (s:=s) (e:=e) (last:=x.last) hx.ka (λp h1 h2 c=>h.ki hl Y c) (λp h1 h2 q _ _=>by rw[h.jr Y]) hx.cls
   (λp h1 q hq=>by
    by_cases hp:p<e
    .rw[h.jr Y]at hq;exact (hx.cls p h1 hp q hq).1
    .by_cases sj:p<b'.fol.length
     .have:=(h.good.cls p Y sj q hq).1;omega
     .rw[qd Y]at hq;cases hq)
   (λp h1 q hq=>by
    by_cases sj:p<b'.fol.length
    .have:=(h.good.cls p Y sj q hq).1;omega
    .rw[qd Y]at hq;cases hq)
  unfold LP;constructor
  .rintro ⟨q,h1,h2,h3⟩;obtain ⟨i1,i2⟩:=hx.fst q h1;exact ⟨q,h1,by rw[<-h.ki hl Y];exact h2,((MS w q i1).1 h3).2⟩
  .rintro ⟨q,h1,h2,h3⟩;obtain ⟨i1,i2⟩:=hx.fst q h1;exact ⟨q,h1,by rw[h.ki hl Y];exact h2,(MS w q i1).2 ⟨i2,h3⟩⟩
theorem Wr.set(b:Pb)(hl:b.sets.length=b.fol.length)(rs:List (Nat×Nat)):Wr b ⟨b.sets++[rs],b.fol++[[]]⟩ ⟨[b.sets.length],[b.sets.length],false⟩ ⟨λw=>∃c,w=[c]/\lu rs c=true,AB rs⟩:=by
 have bo:∀c,cD ⟨b.sets++[rs],b.fol++[[]]⟩ b.sets.length c=lu rs c:=λc=>by unfold cD;simp
 have yr:dp ⟨b.sets++[rs],b.fol++[[]]⟩ b.sets.length=[]:=by unfold dp;simp[hl]
 refine ⟨by simp[hl],⟨_,rfl⟩,⟨_,rfl⟩,⟨ξ,ξ,by simp[hl],by simp[hl],λp h1 h2 q hq=>?_⟩,λw=>?_,(Mk.set b hl rs).zO⟩
 .have:p=b.sets.length:=by simp at h2;omega
  subst this;rw[yr]at hq
  cases hq
 .cases w with
  |nil=>simp[LP]
  |cons c w=>
   cases w with
   |nil=>simp[LP,wk,bo]
   |cons d w=>simp[LP,wk,yr]
theorem Wr.nil(b:Pb)(hl:b.sets.length=b.fol.length)(F:Nat->Au):Wr b b ⟨[],[],true⟩ ⟨λw=>w=[],eT 0 F⟩:=by
 refine ⟨hl,⟨[],ξ⟩,⟨[],ξ⟩,⟨I,I,ξ,ξ,λp h1 h2=>Y⟩,λw=>?_,(Mk.nil b hl (λπ h=>by cases π with|nil=>exact h|cons k π=>exact absurd h.1 (Nat.not_lt_zero _)) (λk h=>absurd h (Nat.not_lt_zero _))).zO⟩
 cases w <;> simp[LP]
theorem Wr.beh{b b1 b2:Pb}{x y:dC}{K L:LA}{n:Nat}{F:Nat->Au}(h1:Wr b b1 x K)(h2:Wr b1 b2 y L)(e1:K.a=eT n F)(e2:L.a=F n):Wr b (dj b2 x y) (bD x y) ⟨λw=>∃u v,w=u++v/\K.l u/\L.l v,eT (n+1) F⟩:=by
 have hx:=h1.good.later h2 rfl;obtain ⟨UH,qM⟩:=h1.sets;obtain ⟨zP,vN⟩:=h2.sets;obtain ⟨nf1,gX⟩:=h1.fol;obtain ⟨nf2,eI⟩:=h2.fol;have hlen:(dj b2 x y).fol.length=b2.fol.length:=by unfold dj;rw[iC]
 refine ⟨by rw[hlen];exact h2.len,⟨UH++zP,by show b2.sets=_;rw[vN,qM,List.append_assoc]⟩,⟨(dj b2 x y).fol.drop b.fol.length,?_⟩,by rw[hlen];exact AO hx h2.good,λw=>?_,(Mk.P0 (e1▸h1.mk') (e2▸h2.mk')).zO⟩
 ·-- the elder positions are untouched
  have eg:(dj b2 x y).fol.take b.fol.length=b.fol:=by
   have gen:∀(ps:List Nat) (fol:List (List Nat)),(∀p∈ps,b.fol.length<=p)->(kj y.first ps fol).take b.fol.length=fol.take b.fol.length:=by
    intro ps
    induction ps with
    |nil=>intro fol _;rfl
    |cons a r ih=>
     intro fol h;rw[kj,ih _ (λp hp=>h p (by simp[hp])),List.take_set_of_le (h a ξ)]
   unfold dj;simp only;rw[gen _ _ (λp hp=>(h1.good.ka p hp).1),eI,gX,List.append_assoc,List.take_left]
  rw[<-List.take_append_drop b.fol.length (dj b2 x y).fol,eg];simp
 .rw[MR hx h2.good];constructor
  .rintro ⟨u,v,e,g1,g2⟩;exact ⟨u,v,e,(h1.gG u).1 ((LP.later h1.good h2 h1.len rfl u).1 g1),(h2.gG v).1 g2⟩
  .rintro ⟨u,v,e,g1,g2⟩;exact ⟨u,v,e,(LP.later h1.good h2 h1.len rfl u).2 ((h1.gG u).2 g1),(h2.gG v).2 g2⟩
theorem Wr.eit{b b1 b2:Pb}{x y:dC}{K L:LA}{n:Nat}{F:Nat->Au}(h1:Wr b b1 x K)(h2:Wr b1 b2 y L)(e1:K.a=sI n F)(e2:L.a=F n):Wr b b2 (lZ x y) ⟨λw=>K.l w\/L.l w,sI (n+1) F⟩:=by
 have hx:=h1.good.later h2 rfl;have hy:=h2.good;obtain ⟨UH,qM⟩:=h1.sets;obtain ⟨zP,vN⟩:=h2.sets;obtain ⟨nf1,gX⟩:=h1.fol;obtain ⟨nf2,eI⟩:=h2.fol;have q1:=hx.se;have q2:=hy.se;refine ⟨h2.len,⟨UH++zP,by rw[vN,qM,List.append_assoc]⟩,⟨nf1++nf2,by rw[eI,gX,List.append_assoc]⟩,⟨Y,I,λp hp=>?_,λp hp=>?_,λp p1 p2 q hq=>?_⟩,λw=>?_,(Mk.UG (e1▸h1.mk') (e2▸h2.mk')).zO⟩
 .rcases List.mem_append.1 hp with h|h
  .have:=hx.fst p h;omega
  .have:=hy.fst p h;omega
 .rcases List.mem_append.1 hp with h|h
  .have:=hx.ka p h;omega
  .have:=hy.ka p h;omega
 .by_cases KY:p<b1.fol.length
  .have:=hx.cls p p1 KY q hq;omega
  .have:=hy.cls p Y p2 q hq;omega
 .cases w with
  |nil=>
   have e1:=h1.gG [];have e2:=h2.gG [];show (x.emp || y.emp)=true↔_;rw[Bool.or_eq_true];exact ⟨λh=>h.imp e1.1 e2.1,λh=>h.imp e1.2 e2.2⟩
  |cons c w=>
   have e1:LP b2 x (c::w)↔K.l (c::w):=(LP.later h1.good h2 h1.len rfl _).trans (h1.gG _);have e2:=h2.gG (c::w);show _↔(K.l (c::w)\/L.l (c::w));rw[<-e1,<-e2];constructor
   .rintro ⟨q,g1,g2,g3⟩;rcases List.mem_append.1 g1 with g|g
    .obtain ⟨i1,i2⟩:=hx.fst q g;rcases (eD b2 x.last y.last w q).1 g3 with k|k
     .exact .inl ⟨q,g,g2,k⟩
     .obtain ⟨p,p1,p2,p3⟩:=EH hx.cls w q i1 i2 k;have:=(hy.ka p p1).1;omega
    .obtain ⟨i1,i2⟩:=hy.fst q g;rcases (eD b2 x.last y.last w q).1 g3 with k|k
     .obtain ⟨p,p1,p2,p3⟩:=EH hy.cls w q i1 i2 k;have:=(hx.ka p p1).2;omega
     .exact .inr ⟨q,g,g2,k⟩
   .rintro (⟨q,g1,g2,g3⟩|⟨q,g1,g2,g3⟩)
    .exact ⟨q,List.mem_append_left _ g1,g2,(eD b2 x.last y.last w q).2 (.inl g3)⟩
    .exact ⟨q,List.mem_append_right _ g1,g2,(eD b2 x.last y.last w q).2 (.inr g3)⟩
def kh(K:List Nat->Prop):Nat->List Nat->Prop
 |0,w=>w=[]
 |k+1,w=>∃u v,w=u++v/\kh K k u/\K v
def Mj(K:LA)(i:Nat):LA:=⟨kh K.l i,eT i λ_=>K.a⟩
structure yU (b b':Pb) (K:LA) (j i:Nat) (out all:dC):Prop where
 wr:Wr b b' out (Mj K i)
 fst:∀p∈all.first,p∈out.first
 ka:∀p∈all.last,b.fol.length<=p/\p<b'.fol.length
 emp:all.emp=true↔∃k,j<=k/\k<=i/\kh K.l k []
 to:∀c w q,q∈out.first->cD b' q c=true->wk b' all.last w q->∃k,j<=k/\k<=i/\kh K.l k (c::w)
 of:∀c w k,j<=k->k<=i->kh K.l k (c::w)->LP b' all (c::w)
 em:all.emp=true↔K.a.em
 zO:∃L,tO L b' b.fol.length b'.fol.length out (eT i λ_=>K.a)/\(∀p∈out.first,p∈all.first)/\∀p,b.fol.length<=p->p<b'.fol.length->(p∈all.last↔(Hx j i 0 K.a).la (L p))
theorem yU.start{b b':Pb}{K:LA}{j:Nat}{out:dC}(h:Wr b b' out (Mj K j))(hj:1<=j):yU b b' K j j out out:=by
 obtain ⟨L,hL⟩:=h.zO;refine ⟨h,λ_ h=>h,h.good.ka,?_,λc w q h1 h2 h3=>⟨j,I,I,(h.gG _).1 ⟨q,h1,h2,h3⟩⟩,λc w k h1 h2 h3=>?_,hL.em.trans ⟨λh=>h 0 Y,λh _ _=>h⟩,L,hL,λ_ h=>h,λp p1 p2=>(hL.la p p1 p2).trans ?_⟩
 .constructor
  .intro he;exact ⟨j,I,I,(h.gG []).1 he⟩
  .rintro ⟨k,h1,h2,h3⟩;have:k=j:=Y;subst this;exact (h.gG []).2 h3
 .have:k=j:=Y;subst this;exact (h.gG _).2 h3
 .cases hp:L p with
  |nil=>exact Iff.rfl
  |cons k π=>
   simp only[eT,Hx];constructor
   .rintro ⟨h1,h2,h3⟩;refine ⟨Nat.zero_le _,h1,h2,?_⟩;by_cases hk:j<=k+1
    .exact .inl hk
    .exact .inr (h3 (k+1) Y Y)
   .rintro ⟨-,h1,h2,h3⟩;exact ⟨h1,h2,λl l1 l2=>h3.resolve_left Y⟩
theorem yU.step{b b1 b2:Pb}{K:LA}{j i:Nat}{out all y:dC}(h:yU b b1 K j i out all)(hy:Wr b1 b2 y K)(AU:j<=i)(hj:1<=j):yU b (dj b2 out y) K j (i+1) (bD out y) (lZ all (bD out y)):=by
 have hb:=h.wr.beh hy (n:=i) (F:=λ_=>K.a) rfl rfl;have hw:Wr b (dj b2 out y) (bD out y) (Mj K (i+1)):=⟨hb.len,hb.sets,hb.fol,hb.good,λw=>hb.gG w,hb.zO⟩;have hx:=h.wr.good.later hy rfl;have hlen:(dj b2 out y).fol.length=b2.fol.length:=by unfold dj;rw[iC]
 have hlt:∀p∈out.last,p<b2.fol.length:=λp hp=>by have:=(hx.ka p hp).2;have:=hy.good.se;have:=hy.good.size;omega
 have EI:∀p∈out.first,p∈(bD out y).first:=λp hp=>by
  unfold bD;simp only;split
  .exact List.mem_append_left _ hp
  .exact hp
 have hq:=hy.good.se
 -- what lies within the elder copies reads as it did
 have MS:=qb (b:=b1) (b':=dj b2 out y) (s:=b.fol.length) (e:=b1.fol.length) (last:=all.last) h.ka
  (λp h1 h2 c=>hy.ki h.wr.len h2 c)
  (λp h1 h2 q h3 h4=>by
   rw[gj hlt,hy.jr h2];exact ⟨λg=>g.elim id λg=>by have:=(hy.good.fst q g.2).1;omega,.inl⟩)
  h.wr.good.cls
  (λp h1 q TV=>by
   rcases (gj hlt p q).1 TV with g|g
   .by_cases hp:p<b1.fol.length
    .rw[hy.jr hp]at g;exact (h.wr.good.cls p h1 hp q g).1
    .by_cases sj:p<b2.fol.length
     .have:=(hy.good.cls p Y sj q g).1;have:=h.wr.good.se;omega
     .rw[qd Y]at g;cases g
   .have:=(hy.good.fst q g.2).1;have:=h.wr.good.se;omega)
  (λp h1 q TV=>by
   rcases (gj hlt p q).1 TV with g|g
   .by_cases sj:p<b2.fol.length
    .exact (hy.good.cls p h1 sj q g).1
    .rw[qd Y]at g;cases g
   .exact (hy.good.fst q g.2).1)
 have bo:∀q c,q<b1.fol.length->cD (dj b2 out y) q c=cD b1 q c:=λq c h2=>hy.ki h.wr.len h2 c;obtain ⟨L,l1,l2,l3⟩:=h.zO;obtain ⟨L2,m1⟩:=hy.zO;have lem:=l1.P0 m1 hx hy.good (λp hp=>hy.jr hp) (λp c hp=>hy.ki h.wr.len hp c);refine ⟨hw,λp hp=>?_,λp hp=>?_,?_,λc w q h1 h2 h3=>?_,λc w k h1 h2 h3=>?_,?_,PY L L2 b1.fol.length i,by rw[hlen];exact lem,λp hp=>List.mem_append_right _ hp,λp p1 p2=>?_⟩
 .rcases List.mem_append.1 hp with g|g
  .exact EI p (h.fst p g)
  .exact g
 .rw[hlen];rcases List.mem_append.1 hp with g|g
  .have:=h.ka p g;omega
  .have:=hw.good.ka p g;rw[hlen]at this;exact this
 .show (all.emp || (bD out y).emp)=true↔_;rw[Bool.or_eq_true,h.emp];constructor
  .rintro (⟨k,g1,g2,g3⟩|g)
   .exact ⟨k,g1,Y,g3⟩
   .exact ⟨i+1,Y,I,(hw.gG []).1 g⟩
  .rintro ⟨k,g1,g2,g3⟩;by_cases hk:k<=i
   .exact .inl ⟨k,g1,hk,g3⟩
   .have:k=i+1:=Y;subst this;exact .inr ((hw.gG []).2 g3)
 .rcases (eD _ all.last (bD out y).last w q).1 h3 with g|g
  ·-- it ends in an elder copy: so it begins in one
   have hq1:b.fol.length<=q:=(hw.good.fst q h1).1;obtain ⟨hlt',g'⟩:=(MS w q hq1).1 g;have ZB:q∈out.first:=by
    unfold bD at h1;simp only at h1;split at h1
    .rcases List.mem_append.1 h1 with k|k
     .exact k
     .have:=(hy.good.fst q k).1;omega
    .exact h1
   obtain ⟨k,k1,k2,k3⟩:=h.to c w q ZB (by rw[<-bo q c hlt'];exact h2) g'
   exact ⟨k,k1,Y,k3⟩
  .exact ⟨i+1,Y,I,(hw.gG _).1 ⟨q,h1,h2,g⟩⟩
 .by_cases hk:k<=i
  .obtain ⟨q,g1,g2,g3⟩:=h.of c w k h1 hk h3;obtain ⟨i1,i2⟩:=h.wr.good.fst q (h.fst q g1);exact ⟨q,List.mem_append_left _ g1,by rw[bo q c i2];exact g2,(eD _ _ _ w q).2 (.inl ((MS w q i1).2 ⟨i2,g3⟩))⟩
  .have:k=i+1:=Y;subst this;obtain ⟨q,g1,g2,g3⟩:=(hw.gG _).2 h3;exact ⟨q,List.mem_append_right _ g1,g2,(eD _ _ _ w q).2 (.inr g3)⟩
 .show (all.emp || (bD out y).emp)=true↔_;rw[Bool.or_eq_true,h.em,lem.em];exact ⟨λh=>h.elim id λh=>h 0 Y,.inl⟩
 .rw[hlen]at p2;show p∈all.last++(bD out y).last↔_;rw[List.mem_append,lem.la p p1 p2];by_cases hp:p<b1.fol.length
  .rw[l3 p p1 hp,PY,if_pos hp];have hP:=l1.pos p p1 hp
   cases hL:L p with
   |nil=>rw[hL]at hP;exact hP.elim
   |cons k π=>
    rw[hL]at hP;have hk:=hP.1;simp only[eT,Hx];constructor
    .rintro (⟨-,-,h3⟩|⟨-,h2,h3⟩)
     .exact ⟨Nat.zero_le _,Y,h3⟩
     .exact ⟨Nat.zero_le _,Y,h2,.inr (h3 i hk Y)⟩
    .exact λh=>.inl ⟨Nat.zero_le _,hk,h.2.2⟩
  .rw[PY,if_neg hp];simp only[eT,Hx];constructor
   .rintro (h3|⟨-,h2,-⟩)
    .have:=(h.ka p h3).2;omega
    .exact ⟨Nat.zero_le _,Y,h2,.inl Y⟩
   .exact λh=>.inr ⟨Y,h.2.2.1,λl l1 l2=>Y⟩
theorem yU.done{b b':Pb}{K:LA}{j i:Nat}{out all:dC}(h:yU b b' K j i out all)(x:dC)(hf:∀p,p∈x.first↔p∈all.first)(hl:∀p,p∈x.last↔p∈all.last)(mn:Nat)(hj:j=max mn 1)(AU:j<=i)(he:x.emp=(all.emp || mn == 0)):
  Wr b b' x ⟨λw=>∃k,mn<=k/\k<=i/\kh K.l k w,Hx mn i 0 K.a⟩:=by
 have hg:=h.wr.good;obtain ⟨L,l1,l2,l3⟩:=h.zO;refine ⟨h.wr.len,h.wr.sets,h.wr.fol,⟨hg.se,hg.size,λp hp=>hg.fst p (h.fst p ((hf p).1 hp)),λp hp=>h.ka p ((hl p).1 hp),hg.cls⟩,λw=>?_,L,l1.rep Y Y ?_ (λp _ _=>(hf p).trans ⟨h.fst p,l2 p⟩) (λp p1 p2=>(hl p).trans ((l3 p p1 p2).trans ?_))⟩
 cases w with
 |nil=>
  show x.emp=true↔_;rw[he,Bool.or_eq_true,h.emp];constructor
  .rintro (⟨k,g1,g2,g3⟩|g)
   .exact ⟨k,Y,g2,g3⟩
   .exact ⟨0,by simp at g;omega,Nat.zero_le _,rfl⟩
  .rintro ⟨k,g1,g2,g3⟩;by_cases hm:mn=0
   .right;simp[hm]
   .left;exact ⟨k,Y,g2,g3⟩
 |cons c w=>
  constructor
  .rintro ⟨q,g1,g2,g3⟩;obtain ⟨k,k1,k2,k3⟩:=h.to c w q (h.fst q ((hf q).1 g1)) g2 ((zg hl w q).1 g3);exact ⟨k,Y,k2,k3⟩
  .rintro ⟨k,g1,g2,g3⟩;have hk:j<=k:=by
    by_cases h0:k=0
    .subst h0;cases g3
    .omega
   obtain ⟨q,q1,q2,q3⟩:=h.of c w k hk g2 g3;exact ⟨q,(hf q).2 q1,q2,(zg hl w q).2 q3⟩
 .rw[he,Bool.or_eq_true,h.em,beq_iff_eq]
 .cases hp:L p with
  |nil=>exact Iff.rfl
  |cons k π=>
   simp only[Hx];exact ⟨λh=>⟨h.1,h.2.1,h.2.2.1,h.2.2.2.imp (λh=>Y) id⟩,λh=>⟨h.1,h.2.1,h.2.2.1,h.2.2.2.imp (λh=>Y) id⟩⟩
inductive Nd where
 |mk (op:Int) (rs:List (Nat×Nat)) (kids:List Nd) (mn mx:Int)
def Nd.op:Nd->Int | .mk o _ _ _ _=>o
def Nd.rs:Nd->List (Nat×Nat) | .mk _ r _ _ _=>r
def Nd.kids:Nd->List Nd | .mk _ _ k _ _=>k
def Nd.mn:Nd->Int | .mk _ _ _ m _=>m
def Nd.mx:Nd->Int | .mk _ _ _ _ m=>m
mutual
def au:Nd->Nat
 | .mk _ _ kids _ _=>1+aV kids
def aV:List Nd->Nat
 | []=>0
 |k::r=>au k+aV r
end
mutual
def bP:Nd->Nat
 | .mk _ _ kids _ _=>1+bG kids
def bG:List Nd->Nat
 | []=>0
 |k::r=>max (bP k) (bG r)
end
def dU:List (Nat×Nat)->Bool
 | []=>true
 | [a]=>decide (a.1<=a.2)
 |a::c::r=>decide (a.1<=a.2) && (decide (a.2+2<=c.1) && dU (c::r))
def cU:Nd->Bool
 | .mk op rs kids mn mx=>
  if op=1 then !rs.isEmpty && (dU rs && (kids.isEmpty && (decide (mn=0) && decide (mx=0))))
  else if op=2\/op=3 then decide (2<=kids.length) && (rs.isEmpty && (decide (mn=0) && (decide (mx=0) && !(kids.any λk=>k.op == op))))
  else if op=4 then decide (kids.length=1) && (rs.isEmpty && (decide (0<=mn) && (decide (1<=mx) && (decide (mn<=mx) && (decide (mx<=64) && !(decide (mn=1) && decide (mx=1)))))))
  else false
mutual
def aA:Nd->Bool
 | .mk op rs kids mn mx=>cU (.mk op rs kids mn mx) && aO kids
def aO:List Nd->Bool
 | []=>true
 |k::r=>aA k && aO r
end
-- The greatest number of bytes, at most 1025.
mutual
def bj:Nd->Nat
 | .mk op _ kids _ mx=>min (if op=1 then 1 else if op=2 then cP kids else if op=3 then cW kids else mx.toNat*qq kids) 1025
def cP:List Nd->Nat
 | []=>0
 |k::r=>bj k+cP r
def cW:List Nd->Nat
 | []=>0
 |k::r=>max (bj k) (cW r)
def qq:List Nd->Nat
 | []=>0
 |k::_=>bj k
end
-- The number of positions, at most 601.
mutual
def aW:Nd->Nat
 | .mk op _ kids _ mx=>min (if op=1 then 1 else if op=4 then mx.toNat*yY kids else b9 kids) 601
def b9:List Nd->Nat
 | []=>0
 |k::r=>aW k+b9 r
def yY:List Nd->Nat
 | []=>0
 |k::_=>aW k
end
-- What belongs to a pattern.
mutual
def bg:Nd->List Nat->Prop
 | .mk op rs kids mn mx=>λw=>if op=1 then ∃c,w=[c]/\lu rs c=true else if op=2 then iQ kids w else if op=3 then fM kids w else ∃j:Nat,mn<=(j:Int)/\(j:Int)<=mx/\kh (TN kids) j w
def iQ:List Nd->List Nat->Prop
 | []=>λw=>w=[]
 |k::r=>λw=>∃u v,w=u++v/\bg k u/\iQ r v
def fM:List Nd->List Nat->Prop
 | []=>λ_=>False
 |k::r=>λw=>bg k w\/fM r w
def TN:List Nd->List Nat->Prop
 | []=>λ_=>False
 |k::_=>bg k
end
-- The places of a pattern.
def wW(l:List Au)(k:Nat):Au:=(l[k]?).getD default
mutual
def TP:Nd->Au
 | .mk op rs kids mn mx=>if op=1 then AB rs else if op=2 then eT kids.length (wW (NF kids)) else if op=3 then sI kids.length (wW (NF kids)) else Hx mn.toNat mx.toNat 0 (wW (NF kids) 0)
def NF:List Nd->List Au
 | []=>[]
 |k::r=>TP k::NF r
end
theorem pV:∀{l:List Nd} {k:Nat} {kd:Nd},l[k]?=some kd->wW (NF l) k=TP kd
 |a::l,0,kd,h=>by injection h with h;subst h;unfold wW;rw[NF];rfl
 |a::l,k+1,kd,h=>by
  have:=pV (l:=l) (k:=k) (kd:=kd) h;unfold wW at this|-;rw[NF];exact this
def gN(nd:Nd):LA:=⟨bg nd,TP nd⟩
def gS(kids:List Nd)(k:Nat):LA:=⟨iQ (kids.take k),eT k (wW (NF kids))⟩
def gC(kids:List Nd)(k:Nat):LA:=⟨fM (kids.take k),sI k (wW (NF kids))⟩
theorem kV(k:Nd):∀(l:List Nd) (w:List Nat),iQ (l++[k]) w↔∃u v,w=u++v/\iQ l u/\bg k v
 | [],w=>by
  show (∃u v,w=u++v/\bg k u/\iQ [] v)↔_;constructor
  .rintro ⟨u,v,rfl,h,h2⟩;have:v=[]:=h2;subst this;exact ⟨[],u,ξ,rfl,h⟩
  .rintro ⟨u,v,rfl,h,h2⟩;have:u=[]:=h;subst this;exact ⟨v,[],ξ,h2,rfl⟩
 |a::l,w=>by
  show (∃u v,w=u++v/\bg a u/\iQ (l++[k]) v)↔∃u v,w=u++v/\(∃u1 v1,u=u1++v1/\bg a u1/\iQ l v1)/\bg k v;constructor
  .rintro ⟨u,v,rfl,h1,h2⟩;obtain ⟨x,y,rfl,h3,h4⟩:=(kV k l v).1 h2;exact ⟨u++x,y,ξ,⟨u,x,rfl,h1,h3⟩,h4⟩
  .rintro ⟨_,v,rfl,⟨u1,v1,rfl,h1,h2⟩,h3⟩;exact ⟨u1,v1++v,ξ,h1,(kV k l _).2 ⟨v1,v,rfl,h2,h3⟩⟩
theorem oY(k:Nd):∀(l:List Nd) (w:List Nat),fM (l++[k]) w↔fM l w\/bg k w
 | [],w=>by show (bg k w\/fM [] w)↔_;simp[fM]
 |a::l,w=>by
  show (bg a w\/fM (l++[k]) w)↔(bg a w\/fM l w)\/bg k w;rw[oY k l w,or_assoc]
theorem iR(n:Nd):aA n=true↔cU n=true/\∀k∈n.kids,aA k=true:=by
 cases n with
 |mk op rs kids mn mx=>
  have gen:∀l:List Nd,aO l=true↔∀k∈l,aA k=true:=by
   intro l
   induction l with
   |nil=>simp[aO]
   |cons k r ih=>rw[aO,Bool.and_eq_true,ih];simp
  rw[aA,Bool.and_eq_true,gen]
  rfl
def IY(b:Pb)(x:dC)(gs:List (List Nat))(i:Nat)(w:List Nat):Prop:=
 if i=0 then LP b x w else ∃p∈(gs[i]?).getD [],wk b x.last w p
def nQ(b:Pb)(x:dC)(gs:List (List Nat))(i:Nat)(p:Nat):Prop:=
 if i=0 then p∈x.first else ∃q∈(gs[i]?).getD [],p∈dp b q
structure Ed where
 lo:Nat
 hi:Nat
 to:Nat
deriving DecidableEq
structure Mc where
 ed:List (List Ed)
 ac:List Bool
deriving DecidableEq
def bO:List Ed->Nat->Option Nat
 | [],_=>none
 |e::r,c=>if e.lo<=c/\c<=e.hi then some e.to else bO r c
def bE(m:Mc)(s:Nat):List Ed:=(m.ed[s]?).getD []
def dG(m:Mc):List Nat->Nat->Bool
 | [],s=>(m.ac[s]?).getD false
 |c::w,s=>match bO (bE m s) c with
  |none=>false
  |some t=>dG m w t
def cm:Nat->List Ed->Prop
 |_,[]=>True
 |b,e::r=>b<=e.lo/\e.lo<=e.hi/\cm (e.hi+1) r
def oJ:List Ed->Prop
 | []=>True
 | [_]=>True
 |e::f::r=>¬(e.hi+1=f.lo/\e.to=f.to)/\oJ (f::r)
def oc:Nat->List Ed->Prop
 |_,[]=>True
 |m,e::r=>e.to<=m+1/\oc (max m e.to) r
def oK:Nat->List Ed->Nat
 |m,[]=>m
 |m,e::r=>oK (max m e.to) r
def jJ:Nat->Nat->List (List Ed)->Prop
 |i,m,[]=>i=m+1
 |i,m,r::rs=>i<=m/\oc m r/\jJ (i+1) (oK m r) rs
theorem GR:∀(m:Nat) (r:List Ed),m<=oK m r
 |_,[]=>I
 |_,_::r=>Nat.le_trans (Nat.le_max_left _ _) (GR _ r)
theorem dh:∀{b:Nat} {r:List Ed} {c:Nat},cm b r->c<b->bO r c=none
 |_,[],_,_,_=>rfl
 |b,e::r,c,⟨h1,h2,h3⟩,hc=>by
  rw[bO,if_neg Y];exact dh h3 Y
theorem ji:∀{r:List Ed} {c t:Nat},bO r c=some t->∃e∈r,e.lo<=c/\c<=e.hi/\e.to=t
 | [],_,_,h=>by cases h
 |e::r,c,t,h=>by
  rw[bO]at h;split at h
  .next hc=>exact ⟨e,List.mem_cons_self,hc.1,hc.2,Option.some.inj h⟩
  .obtain ⟨f,hf,h1⟩:=ji h;exact ⟨f,List.mem_cons_of_mem _ hf,h1⟩
structure Canon (m:Mc):Prop where
 len:m.ac.length=m.ed.length
 pd:∀r∈m.ed,cm 0 r
 mx:∀r∈m.ed,oJ r
 to:∀r∈m.ed,∀e∈r,e.to<m.ed.length
 live:∀s,s<m.ed.length->∃w,dG m w s=true
 Hn:∀s t,s<m.ed.length->t<m.ed.length->(∀w,dG m w s=dG m w t)->s=t
 meet:jJ 0 0 m.ed
theorem GS{m1 m2:Mc}(h1:Canon m1)(h2:Canon m2):∀(r1 r2:List Ed) (b m:Nat),cm b r1->cm b r2->oJ r1->oJ r2->(∀e∈r1,e.to<m1.ed.length)->(∀e∈r2,e.to<m2.ed.length)->oc m r1->oc m r2->
  (∀k,k<=m->(∀w,dG m1 w k=dG m2 w k))->m<m1.ed.length->m<m2.ed.length->
  (∀c w,(match bO r1 c with|none=>false|some t=>dG m1 w t)=(match bO r2 c with|none=>false|some t=>dG m2 w t))->
  r1=r2/\∀k,k<=oK m r1->(∀w,dG m1 w k=dG m2 w k)
 | [],[],b,m,_,_,_,_,_,_,_,_,hk,_,_,_=>⟨rfl,hk⟩
 | [],e::r2,b,m,_,s2,_,_,_,t2,_,_,_,_,_,ht=>by
  exfalso;obtain ⟨w,hw⟩:=h2.live e.to (t2 e List.mem_cons_self);have:=ht e.lo w;rw[bO,bO,if_pos ⟨I,s2.2.1⟩]at this;simp only at this;rw[hw]at this
  cases this
 |e::r1,[],b,m,s1,_,_,_,t1,_,_,_,_,_,_,ht=>by
  exfalso;obtain ⟨w,hw⟩:=h1.live e.to (t1 e List.mem_cons_self);have:=ht e.lo w;rw[bO,bO,if_pos ⟨I,s1.2.1⟩]at this;simp only at this;rw[hw]at this
  cases this
 |e::r1,f::r2,b,m,s1,s2,x1,x2,t1,t2,e1,e2,hk,mo,zY,ht=>by
  have te:=t1 e List.mem_cons_self;have tf:=t2 f List.mem_cons_self;obtain ⟨w1,hw1⟩:=h1.live e.to te;obtain ⟨w2,ew⟩:=h2.live f.to tf
  -- the beginnings
  have dy:e.lo=f.lo:=by
   rcases Nat.lt_trichotomy e.lo f.lo with h|h|h
   .exfalso;have:=ht e.lo w1;rw[bO,if_pos ⟨I,s1.2.1⟩,dh (b:=f.lo) (r:=f::r2) ⟨I,s2.2.1,s2.2.2⟩ h]at this;simp only at this;rw[hw1]at this
    cases this
   .exact h
   .exfalso;have:=ht f.lo w2;rw[dh (b:=e.lo) (r:=e::r1) ⟨I,s1.2.1,s1.2.2⟩ h,bO,if_pos ⟨I,s2.2.1⟩]at this;simp only at this;rw[ew]at this
    cases this
  -- the states
  have hL:∀w,dG m1 w e.to=dG m2 w f.to:=λw=>by
   have:=ht e.lo w;rw[bO,if_pos ⟨I,s1.2.1⟩,bO,if_pos ⟨Y,by have:=s2.2.1;omega⟩]at this
   exact this
  have qL:e.to=f.to:=by
   by_cases he:e.to<=m
   .by_cases hf:f.to<=m
    .exact h2.Hn _ _ Y tf λw=>by rw[<-hk _ he w,hL]
    .exfalso;have:e.to=f.to:=h2.Hn _ _ Y tf λw=>by rw[<-hk _ he w,hL]
     omega
   .by_cases hf:f.to<=m
    .exfalso;have:e.to=f.to:=h1.Hn _ _ te Y λw=>by rw[hL,hk _ hf w]
     omega
    .have:=e1.1;have:=e2.1;omega
  have hk':∀k,k<=max m e.to->∀w,dG m1 w k=dG m2 w k:=λk Lc w=>by
   by_cases h:k<=m
   .exact hk k h w
   .have:k=e.to:=by have:=e1.1;omega
    subst this;rw[hL w,<-qL]
  have q1:=s1.2.1;have q2:=s2.2.1
  -- the ends
  have uL:e.hi=f.hi:=by
   rcases Nat.lt_trichotomy e.hi f.hi with h|h|h
   .exfalso;have hc:=λw=>ht (e.hi+1) w;rw[bO,bO,if_neg Y,if_pos ⟨Y,Y⟩]at hc
    match r1,s1,x1,t1 with
    | [],_,_,_=>
     have:=hc w2;simp only[bO]at this;rw[ew]at this
     cases this
    |g::r1,s1,x1,t1=>
     have hg:=s1.2.2;by_cases dR:g.lo=e.hi+1
     .rw[bO,if_pos ⟨Y,by have:=hg.2.1;omega⟩]at hc
      have:g.to=e.to:=h1.Hn _ _ (t1 g ξ) te λw=>by have:=hc w;simp only at this;rw[this,hL w]
      exact x1.1 ⟨dR.symm,this.symm⟩
     .rw[dh (b:=g.lo) (r:=g::r1) ⟨I,hg.2.1,hg.2.2⟩ (by have:=hg.1;omega)]at hc
      have:=hc w2;simp only at this;rw[ew]at this
      cases this
   .exact h
   .exfalso;have hc:=λw=>ht (f.hi+1) w;rw[bO,bO,if_pos ⟨Y,Y⟩,if_neg Y]at hc
    match r2,s2,x2,t2 with
    | [],_,_,_=>
     have:=hc w1;simp only[bO]at this;rw[hw1]at this
     cases this
    |g::r2,s2,x2,t2=>
     have hg:=s2.2.2;by_cases dR:g.lo=f.hi+1
     .rw[bO,if_pos ⟨Y,by have:=hg.2.1;omega⟩]at hc
      have:g.to=f.to:=h2.Hn _ _ (t2 g ξ) tf λw=>by have:=hc w;simp only at this;rw[<-this,hL w]
      exact x2.1 ⟨dR.symm,this.symm⟩
     .rw[dh (b:=g.lo) (r:=g::r2) ⟨I,hg.2.1,hg.2.2⟩ (by have:=hg.1;omega)]at hc
      have:=hc w1;simp only at this;rw[hw1]at this
      cases this
  have re:e=f:=by
   obtain ⟨a,b,c⟩:=e;obtain ⟨a',b',c'⟩:=f;simp only at dy uL qL;subst dy uL qL
   rfl
  subst re;have ZG:oJ r1:=by cases r1 with|nil=>trivial|cons g r=>exact x1.2
  have x2':oJ r2:=by cases r2 with|nil=>trivial|cons g r=>exact x2.2
  obtain ⟨hr,bM⟩:=GS h1 h2 r1 r2 (e.hi+1) (max m e.to) s1.2.2 s2.2.2 ZG x2' (λx hx=>t1 x (by simp[hx])) (λx hx=>t2 x (by simp[hx])) e1.2 e2.2 hk' Y Y (λc w=>by
   by_cases hc:e.lo<=c/\c<=e.hi
   .rw[dh s1.2.2 Y,dh s2.2.2 Y]
   .have:=ht c w;rw[bO,bO,if_neg hc,if_neg hc]at this;exact this)
  exact ⟨by rw[hr],bM⟩
theorem drop_cons{α:Type}{l:List α}{i:Nat}{x:α}{r:List α}(h:l.drop i=x::r):l[i]?=some x/\l.drop (i+1)=r:=by
 have h0:(l.drop i)[0]?=some x:=by rw[h];rfl
 rw[List.getElem?_drop,Nat.add_zero]at h0;refine ⟨h0,?_⟩;have:(l.drop i).drop 1=r:=by rw[h];rfl
 rwa [List.drop_drop]at this
theorem Ct{m1 m2:Mc}(h1:Canon m1)(h2:Canon m2):∀(l1 l2:List (List Ed)) (i m:Nat),m1.ed.drop i=l1->m2.ed.drop i=l2->jJ i m l1->jJ i m l2->(∀k,k<=m->∀w,dG m1 w k=dG m2 w k)->(i<=m1.ed.length)->(i<=m2.ed.length)->l1=l2/\∀k,k<m1.ed.length->∀w,dG m1 w k=dG m2 w k
 | [],[],i,m,d1,_,q1,_,hk,i1,_=>⟨rfl,λk aU=>hk k (by have:=List.drop_eq_nil_iff.1 d1;simp only[jJ]at q1;omega)⟩
 | [],_::l2,i,m,_,_,q1,q2,_,_,_=>by have:=q1;have:=q2.1;simp only[jJ]at *;omega
 |_::l1,[],i,m,_,_,q1,q2,_,_,_=>by have:=q2;have:=q1.1;simp only[jJ]at *;omega
 |r1::l1,r2::l2,i,m,d1,d2,q1,q2,hk,i1,i2=>by
  obtain ⟨g1,Dn⟩:=drop_cons d1;obtain ⟨g2,Qy⟩:=drop_cons d2;have me1:r1∈m1.ed:=List.mem_of_getElem? g1;have me2:r2∈m2.ed:=List.mem_of_getElem? g2
  -- the top met is a state of both
  have adZ:∀(l:List (List Ed)) (j q n:Nat),jJ j q l->j+l.length=n->q<n:=by
   intro l
   induction l with
   |nil=>intro j q n h hn;simp only[jJ]at h;simp at hn;omega
   |cons r l ih=>
    intro j q n h hn;have:=ih (j+1) (oK q r) n h.2.2 (by simp at hn|-;omega)
    have:=GR q r;omega
  have n1:i+(r1::l1).length=m1.ed.length:=by rw[<-d1,List.length_drop];omega
  have n2:i+(r2::l2).length=m2.ed.length:=by rw[<-d2,List.length_drop];omega
  have mo:=adZ _ i m _ q1 n1;have zY:=adZ _ i m _ q2 n2;obtain ⟨hr,bM⟩:=GS h1 h2 r1 r2 0 m (h1.pd _ me1) (h2.pd _ me2) (h1.mx _ me1) (h2.mx _ me2) (h1.to _ me1) (h2.to _ me2) q1.2.1 q2.2.1 hk mo zY (λc w=>by
   have:=hk i q1.1 (c::w);rw[dG,dG,bE,bE,g1,g2]at this;exact this)
  subst hr;have ad0:=Ct h1 h2 l1 l2 (i+1) (oK m r1) Dn Qy q1.2.2 q2.2.2 bM (by simp at n1;omega) (by simp at n2;omega)
  exact ⟨by rw[ad0.1],ad0.2⟩
theorem Canon.unique{m1 m2:Mc}(h1:Canon m1)(h2:Canon m2)(h:∀w,dG m1 w 0=dG m2 w 0):m1=m2:=by
 have he:=Ct h1 h2 m1.ed m2.ed 0 0 rfl rfl h1.meet h2.meet (λk hk w=>by rw[Nat.le_zero.1 hk];exact h w) (Nat.zero_le _) (Nat.zero_le _)
 obtain ⟨he,hk⟩:=he;have pg:m1.ac=m2.ac:=by
  apply List.ext_getElem
  .rw[h1.len,h2.len,he]
  .intro i a b;have:=hk i (by rw[<-h1.len];exact a) []
   simp only[dG]at this;rw[List.getElem?_eq_getElem a,List.getElem?_eq_getElem b]at this;exact this
 obtain ⟨e1,a1⟩:=m1;obtain ⟨e2,a2⟩:=m2;simp only at he pg;subst he pg
 rfl
theorem GU:∀(r1 r2:List Ed) (b:Nat),cm b r1->cm b r2->oJ r1->oJ r2->(∀c,bO r1 c=bO r2 c)->r1=r2
 | [],[],_,_,_,_,_,_=>rfl
 | [],e::r,_,_,s,_,_,h=>by
  have:=h e.lo;rw[bO,bO,if_pos ⟨I,s.2.1⟩]at this
  cases this
 |e::r,[],_,s,_,_,_,h=>by
  have:=h e.lo;rw[bO,bO,if_pos ⟨I,s.2.1⟩]at this
  cases this
 |e::r1,f::r2,b,s1,s2,x1,x2,h=>by
  have q1:=s1.2.1;have q2:=s2.2.1;have dy:e.lo=f.lo:=by
   rcases Nat.lt_trichotomy e.lo f.lo with g|g|g
   .have:=h e.lo;rw[bO,if_pos ⟨I,q1⟩,dh (b:=f.lo) (r:=f::r2) ⟨I,q2,s2.2.2⟩ g]at this
    cases this
   .exact g
   .have:=h f.lo;rw[dh (b:=e.lo) (r:=e::r1) ⟨I,q1,s1.2.2⟩ g,bO,if_pos ⟨I,q2⟩]at this
    cases this
  have qL:e.to=f.to:=by
   have:=h e.lo;rw[bO,if_pos ⟨I,q1⟩,bO,if_pos ⟨Y,Y⟩]at this;exact Option.some.inj this
  have uL:e.hi=f.hi:=by
   rcases Nat.lt_trichotomy e.hi f.hi with g|g|g
   .exfalso;have hc:=h (e.hi+1);rw[bO,bO,if_neg Y,if_pos ⟨Y,Y⟩]at hc
    match r1,s1,x1 with
    | [],_,_=>cases hc
    |a::r1,s1,x1=>
     have ha:=s1.2.2;have UR:=ha.1;by_cases hal:a.lo=e.hi+1
     .rw[bO,if_pos ⟨Y,by have:=ha.2.1;omega⟩]at hc
      exact x1.1 ⟨hal.symm,by rw[qL,Option.some.inj hc]⟩
     .rw[dh (b:=a.lo) (r:=a::r1) ⟨I,ha.2.1,ha.2.2⟩ Y]at hc
      cases hc
   .exact g
   .exfalso;have hc:=h (f.hi+1);rw[bO,bO,if_pos ⟨Y,Y⟩,if_neg Y]at hc
    match r2,s2,x2 with
    | [],_,_=>cases hc
    |a::r2,s2,x2=>
     have ha:=s2.2.2;have UR:=ha.1;by_cases hal:a.lo=f.hi+1
     .rw[bO,if_pos ⟨Y,by have:=ha.2.1;omega⟩]at hc
      exact x2.1 ⟨hal.symm,by rw[<-qL,Option.some.inj hc]⟩
     .rw[dh (b:=a.lo) (r:=a::r2) ⟨I,ha.2.1,ha.2.2⟩ Y]at hc
      cases hc
  have re:e=f:=by
   obtain ⟨a,b,c⟩:=e;obtain ⟨a',b',c'⟩:=f;simp only at dy uL qL;subst dy uL qL
   rfl
  subst re;have ZG:oJ r1:=by cases r1 with|nil=>trivial|cons g r=>exact x1.2
  have x2':oJ r2:=by cases r2 with|nil=>trivial|cons g r=>exact x2.2
  rw[GU r1 r2 (e.hi+1) s1.2.2 s2.2.2 ZG x2' (λc=>by
   by_cases hc:e.lo<=c/\c<=e.hi
   .rw[dh s1.2.2 Y,dh s2.2.2 Y]
   .have:=h c;rw[bO,bO,if_neg hc,if_neg hc]at this;exact this)]
def xN(cls:Nat->Option Nat):Option Ed->List Ed->List Ed
 |p,[]=>p.toList
 |p,e::r=>match cls e.to with
  |none=>xN cls p r
  |some t=>match p with
   |none=>xN cls (some ⟨e.lo,e.hi,t⟩) r
   |some q=>if q.to=t/\q.hi+1=e.lo then xN cls (some ⟨q.lo,e.hi,q.to⟩) r else q::xN cls (some ⟨e.lo,e.hi,t⟩) r
def b7(cls:Nat->Option Nat)(l:List Ed):List Ed:=xN cls none l
theorem qo{cls:Nat->Option Nat}:∀(l:List Ed) (q:Ed) (b:Nat),cm b l->q.lo<=q.hi->q.hi+1<=b->cm q.lo (xN cls (some q) l)/\oJ (xN cls (some q) l)/\(∃h r,xN cls (some q) l=⟨q.lo,h,q.to⟩::r/\q.hi<=h)/\∀c,bO (xN cls (some q) l) c=if q.lo<=c/\c<=q.hi then some q.to else (bO l c).bind cls
 | [],q,b,_,hq,_=>by
  refine ⟨⟨I,hq,trivial⟩,trivial,⟨q.hi,[],rfl,I⟩,λc=>?_⟩;show bO [q] c=_;rw[bO,bO];split <;> rfl
 |e::r,q,b,s,hq,hb=>by
  have s1:=s.1;have s2:=s.2.1;unfold xN
  cases hc:cls e.to with
  |none=>
   obtain ⟨h1,h2,h3,h4⟩:=qo (cls:=cls) r q (e.hi+1) s.2.2 hq Y;refine ⟨h1,h2,h3,λc=>?_⟩;rw[h4,bO];split
   .rfl
   .split
    .rw[dh s.2.2 Y,Option.bind_some,hc];rfl
    .rfl
  |some t=>
   simp only;by_cases hj:q.to=t/\q.hi+1=e.lo
   .rw[if_pos hj];obtain ⟨h1,h2,⟨h,r',h3,h5⟩,h4⟩:=qo (cls:=cls) r ⟨q.lo,e.hi,q.to⟩ (e.hi+1) s.2.2 (by show q.lo<=e.hi;omega) I
    refine ⟨h1,h2,⟨h,r',h3,by have:e.hi<=h:=h5;omega⟩,λc=>?_⟩
    rw[h4,bO];simp only;by_cases c1:q.lo<=c/\c<=q.hi
    .rw[if_pos c1,if_pos Y]
    .rw[if_neg c1];by_cases c2:e.lo<=c/\c<=e.hi
     .rw[if_pos c2,if_pos Y,Option.bind_some,hc,hj.1]
     .rw[if_neg c2,if_neg Y]
   .rw[if_neg hj];obtain ⟨h1,h2,⟨h,r',h3,h5⟩,h4⟩:=qo (cls:=cls) r ⟨e.lo,e.hi,t⟩ (e.hi+1) s.2.2 s2 I;refine ⟨⟨I,hq,?_⟩,?_,⟨q.hi,_,rfl,I⟩,λc=>?_⟩
    .rw[h3]at h1|-;exact ⟨by show q.hi+1<=e.lo;omega,h1.2⟩
    .rw[h3]at h2|-;exact ⟨λhx=>hj ⟨hx.2,hx.1⟩,h2⟩
    .rw[bO,h4,bO];simp only;split
     .rfl
     .split
      .rw[Option.bind_some,hc]
      .rfl
theorem gz{cls:Nat->Option Nat}:∀(l:List Ed) (b:Nat),cm b l->cm b (b7 cls l)/\oJ (b7 cls l)/\∀c,bO (b7 cls l) c=(bO l c).bind cls
 | [],_,_=>⟨trivial,trivial,λ_=>rfl⟩
 |e::r,b,s=>by
  unfold b7 xN
  cases hc:cls e.to with
  |none=>
   obtain ⟨h1,h2,h3⟩:=gz (cls:=cls) r (e.hi+1) s.2.2;have hsl:∀{b b':Nat} {l:List Ed},cm b' l->b<=b'->cm b l:=λ{b b' l} h hb=>by
    cases l with
    |nil=>trivial
    |cons e r=>exact ⟨Nat.le_trans hb h.1,h.2⟩
   refine ⟨hsl h1 (by have:=s.1;have:=s.2.1;omega),h2,λc=>?_⟩
   show bO (b7 cls r) c=_;rw[h3,bO];split
   .rw[dh s.2.2 Y,Option.bind_some,hc];rfl
   .rfl
  |some t=>
   obtain ⟨h1,h2,-,h4⟩:=qo (cls:=cls) r ⟨e.lo,e.hi,t⟩ (e.hi+1) s.2.2 s.2.1 I;simp only;refine ⟨?_,h2,λc=>?_⟩
   .generalize xN cls (some ⟨e.lo,e.hi,t⟩) r=L at h1
    cases L with
    |nil=>trivial
    |cons a l=>exact ⟨Nat.le_trans s.1 h1.1,h1.2⟩
   .rw[h4,bO];simp only;split
    .rw[Option.bind_some,hc]
    .rfl
theorem NA{c1 c2:Nat->Option Nat}{l1 l2:List Ed}(s1:cm 0 l1)(s2:cm 0 l2):b7 c1 l1=b7 c2 l2↔∀c,(bO l1 c).bind c1=(bO l2 c).bind c2:=by
 obtain ⟨a1,a2,a3⟩:=gz (cls:=c1) l1 0 s1;obtain ⟨b1,b2,b3⟩:=gz (cls:=c2) l2 0 s2;constructor
 .intro h c;rw[<-a3,<-b3,h]
 .intro h;exact GU _ _ 0 a1 b1 a2 b2 λc=>by rw[a3,b3,h]
theorem jR{α:Type}[DecidableEq α]:∀{l r:List α},l.Nodup->(∀x∈l,x∈r)->l.length<=r.length
 | [],_,_,_=>Nat.zero_le _
 |a::l,r,hn,h=>by
  have ha:a∈r:=h a ξ;rw[List.nodup_cons]at hn;have:=jR (l:=l) (r:=r.erase a) hn.2 (λx hx=>(List.mem_erase_of_ne (by rintro rfl;exact hn.1 hx)).2 (h x (by simp[hx])))
  rw[List.length_erase_of_mem ha]at this;have hp:0<r.length:=List.length_pos_of_mem ha;simp only[List.length_cons];omega
theorem yK{σ α β:Type}[DecidableEq α][DecidableEq β]{S:List σ}{f:σ->α}{g:σ->β}{F:List α}{G:List β}(hF:F.Nodup)(mF:∀x,x∈F↔∃s∈S,f s=x)(mG:∀y,y∈G↔∃s∈S,g s=y)
  (hr:∀s∈S,∀t∈S,g s=g t->f s=f t):F.length<=G.length/\(F.length=G.length->∀s∈S,∀t∈S,f s=f t->g s=g t):=by
 let φ:β->Option α:=λy=>(S.find? (λs=>decide (g s=y))).map f
 have hφ:∀s∈S,φ (g s)=some (f s):=λs hs=>by
  show (S.find? (λu=>decide (g u=g s))).map f=_
  cases h:S.find? (λu=>decide (g u=g s)) with
  |none=>
   have:=List.find?_eq_none.1 h s hs;simp at this
  |some u=>
   have h1:=List.find?_some h;have h2:=List.mem_of_find?_eq_some h;simp only[decide_eq_true_eq]at h1;rw[Option.map_some,hr u h2 s hs h1]
 have EI:∀G':List β,(∀x∈F,∃s∈S,g s∈G'/\f s=x)->F.length<=G'.length:=λG' h=>by
  have h1:(F.map some).Nodup:=List.Pairwise.map some (λa b hab=>by intro e;exact hab (Option.some.inj e)) hF
  have h2:=jR (l:=F.map some) (r:=G'.map φ) h1 (λx hx=>by
   obtain ⟨a,ha,rfl⟩:=List.mem_map.1 hx;obtain ⟨s,hs,h3,h4⟩:=h a ha;exact List.mem_map.2 ⟨g s,h3,by rw[hφ s hs,h4]⟩)
  simpa using h2
 refine ⟨EI G λx hx=>?_,λhlen s hs t ht cB=>?_⟩
 .obtain ⟨s,hs,e⟩:=(mF x).1 hx;exact ⟨s,hs,(mG _).2 ⟨s,hs,rfl⟩,e⟩
 .by_cases hg:g s=g t
  .exact hg
  .exfalso;have aZ:g t∈G:=(mG _).2 ⟨t,ht,rfl⟩;have:=EI (G.erase (g t)) λx hx=>by
    obtain ⟨u,hu,e⟩:=(mF x).1 hx;by_cases hgu:g u=g t
    .exact ⟨s,hs,(List.mem_erase_of_ne hg).2 ((mG _).2 ⟨s,hs,rfl⟩),by rw[cB,<-e,hr u hu t ht hgu]⟩
    .exact ⟨u,hu,(List.mem_erase_of_ne hgu).2 ((mG _).2 ⟨u,hu,rfl⟩),e⟩
   rw[List.length_erase_of_mem aZ]at this;have hp:0<G.length:=List.length_pos_of_mem aZ;omega
structure pC (m:Mc):Prop where
 len:m.ac.length=m.ed.length
 pd:∀r∈m.ed,cm 0 r
 to:∀r∈m.ed,∀e∈r,e.to<m.ed.length
def br(m:Mc)(s:Nat):Prop:=∃w,dG m w s=true
def Cu(m:Mc)(s t:Nat):Prop:=∀w,dG m w s=dG m w t
theorem pC.row{m:Mc}(h:pC m)(s:Nat):cm 0 (bE m s)/\∀e∈bE m s,e.to<m.ed.length:=by
 unfold bE
 cases hs:m.ed[s]? with
 |none=>exact ⟨trivial,λe he=>by cases he⟩
 |some r=>exact ⟨h.pd r (List.mem_of_getElem? hs),h.to r (List.mem_of_getElem? hs)⟩
theorem pC.bJ{m:Mc}(h:pC m){s b t:Nat}(ht:bO (bE m s) b=some t):t<m.ed.length:=by
 obtain ⟨e,he,-,-,rfl⟩:=ji ht;exact (h.row s).2 e he
theorem cC{m:Mc}{s b:Nat}{w:List Nat}:dG m (b::w) s=match bO (bE m s) b with|none=>false|some t=>dG m w t:=rfl
theorem Jv{m:Mc}{s t b:Nat}(h:Cu m s t):(match bO (bE m s) b with|none=>∀t',bO (bE m t) b=some t'->¬br m t'|some s'=>match bO (bE m t) b with|none=>¬br m s'|some t'=>Cu m s' t'):=by
 cases h1:bO (bE m s) b with
 |none=>
  intro t' h2;rintro ⟨w,hw⟩;have:=h (b::w);rw[cC,cC,h1,h2]at this;simp only at this;rw[hw]at this
  cases this
 |some s'=>
  cases h2:bO (bE m t) b with
  |none=>
   rintro ⟨w,hw⟩;have:=h (b::w);rw[cC,cC,h1,h2]at this;simp only at this;rw[hw]at this
   cases this
  |some t'=>
   intro w;have:=h (b::w);rw[cC,cC,h1,h2]at this;exact this
def mq(m:Mc)(c:Nat->Option Nat)(s:Nat):Bool×List Ed:=((m.ac[s]?).getD false,b7 c (bE m s))
structure uh (m:Mc) (c:Nat->Option Nat):Prop where
 dH:∀s,s<m.ed.length->(c s=none↔¬br m s)
 coarse:∀s t,s<m.ed.length->t<m.ed.length->br m s->br m t->Cu m s t->c s=c t
 fine:∀s t,s<m.ed.length->t<m.ed.length->br m s->br m t->mq m c s=mq m c t->c s=c t
structure LL (m:Mc) (c d:Nat->Option Nat):Prop where
 dH:∀s,s<m.ed.length->(d s=none↔¬br m s)
 eq:∀s t,s<m.ed.length->t<m.ed.length->br m s->br m t->(d s=d t↔mq m c s=mq m c t)
theorem qp{m:Mc}{c d:Nat->Option Nat}(h:pC m){s t:Nat}:mq m c s=mq m d t↔(m.ac[s]?).getD false=(m.ac[t]?).getD false/\∀b,(bO (bE m s) b).bind c=(bO (bE m t) b).bind d:=by
 unfold mq;rw[Prod.mk.injEq,NA (h.row s).1 (h.row t).1]
theorem uh.start{m:Mc}(c:Nat->Option Nat)(hd:∀s,s<m.ed.length->(c s=none↔¬br m s))(h0:∀s,s<m.ed.length->br m s->c s=some 0):uh m c:=
 ⟨hd,λs t h1 h2 h3 h4 _=>by rw[h0 s h1 h3,h0 t h2 h4],λs t h1 h2 h3 h4 _=>by rw[h0 s h1 h3,h0 t h2 h4]⟩
theorem uh.next{m:Mc}{c d:Nat->Option Nat}(hv:pC m)(h:uh m c)(hn:LL m c d):uh m d:=by
 refine ⟨hn.dH,λs t h1 h2 h3 h4 GV=>?_,λs t h1 h2 h3 h4 he=>?_⟩
 .rw[hn.eq s t h1 h2 h3 h4,qp hv];refine ⟨GV [],λb=>?_⟩;have:=Jv (b:=b) GV
  cases e1:bO (bE m s) b with
  |none=>
   rw[e1]at this
   cases e2:bO (bE m t) b with
   |none=>rfl
   |some t'=>
    have hd:=(h.dH t' (hv.bJ e2)).2 (this t' e2);simp[hd]
  |some s'=>
   rw[e1]at this
   cases e2:bO (bE m t) b with
   |none=>
    rw[e2]at this;have hd:=(h.dH s' (hv.bJ e1)).2 this;simp[hd]
   |some t'=>
    rw[e2]at this;simp only[Option.bind_some];by_cases hl:br m s'
    .have iV:br m t':=by obtain ⟨w,hw⟩:=hl;exact ⟨w,by rw[<-this w];exact hw⟩
     exact h.coarse s' t' (hv.bJ e1) (hv.bJ e2) hl iV this
    .have iV:¬br m t':=λ⟨w,hw⟩=>hl ⟨w,by rw[this w];exact hw⟩
     rw[(h.dH s' (hv.bJ e1)).2 hl,(h.dH t' (hv.bJ e2)).2 iV]
 .rw[hn.eq s t h1 h2 h3 h4,qp hv];obtain ⟨ha,hb⟩:=(qp hv).1 he;refine ⟨ha,λb=>?_⟩;have:=hb b
  cases e1:bO (bE m s) b with
  |none=>
   rw[e1]at this
   cases e2:bO (bE m t) b with
   |none=>rfl
   |some t'=>
    rw[e2]at this;simp only[Option.bind_none,Option.bind_some]at this|-;exact ((h.dH t' (hv.bJ e2)).2 ((hn.dH t' (hv.bJ e2)).1 this.symm)).symm
  |some s'=>
   rw[e1]at this
   cases e2:bO (bE m t) b with
   |none=>
    rw[e2]at this;simp only[Option.bind_none,Option.bind_some]at this|-;exact (h.dH s' (hv.bJ e1)).2 ((hn.dH s' (hv.bJ e1)).1 this)
   |some t'=>
    rw[e2]at this;simp only[Option.bind_some]at this|-;by_cases hl:br m s'
    .have iV:br m t':=by
      by_cases hx:br m t'
      .exact hx
      .have h5:=(hn.dH t' (hv.bJ e2)).2 hx;exact absurd hl ((hn.dH s' (hv.bJ e1)).1 (this.trans h5))
     exact h.fine s' t' (hv.bJ e1) (hv.bJ e2) hl iV ((hn.eq s' t' (hv.bJ e1) (hv.bJ e2) hl iV).1 this)
    .have iV:¬br m t':=by
      have h5:=(hn.dH s' (hv.bJ e1)).2 hl;rw[h5]at this;exact (hn.dH t' (hv.bJ e2)).1 this.symm
     rw[(h.dH s' (hv.bJ e1)).2 hl,(h.dH t' (hv.bJ e2)).2 iV]
structure ui (m:Mc) (c:Nat->Option Nat):Prop where
 dH:∀s,s<m.ed.length->(c s=none↔¬br m s)
 eq:∀s t,s<m.ed.length->t<m.ed.length->br m s->br m t->(c s=c t↔Cu m s t)
theorem uh.done{m:Mc}{c d:Nat->Option Nat}(hv:pC m)(h:uh m c)(hn:LL m c d)(cB:∀s t,s<m.ed.length->t<m.ed.length->br m s->br m t->c s=c t->d s=d t):ui m d:=by
 have hd:=h.next hv hn;refine ⟨hn.dH,λs t h1 h2 h3 h4=>⟨?_,hd.coarse s t h1 h2 h3 h4⟩⟩;intro he w
 induction w generalizing s t with
 |nil=>exact ((qp hv).1 ((hn.eq s t h1 h2 h3 h4).1 he)).1
 |cons b w ih=>
  have hb:=((qp hv).1 ((hn.eq s t h1 h2 h3 h4).1 he)).2 b;have dd:∀x,x<m.ed.length->c x=none->dG m w x=false:=λx hx hc=>by
   have:=(h.dH x hx).1 hc
   cases hw:dG m w x with
   |false=>rfl
   |true=>exact absurd ⟨w,hw⟩ this
  rw[cC,cC]
  cases e1:bO (bE m s) b with
  |none=>
   rw[e1]at hb
   cases e2:bO (bE m t) b with
   |none=>rfl
   |some t'=>
    rw[e2]at hb;exact (dd t' (hv.bJ e2) hb.symm).symm
  |some s'=>
   rw[e1]at hb
   cases e2:bO (bE m t) b with
   |none=>
    rw[e2]at hb;exact dd s' (hv.bJ e1) hb
   |some t'=>
    rw[e2]at hb;simp only[Option.bind_some]at hb|-
    cases hc:c s' with
    |none=>
     rw[hc]at hb;rw[dd s' (hv.bJ e1) hc,dd t' (hv.bJ e2) hb.symm]
    |some k=>
     have l1:br m s':=by
      by_cases hx:br m s'
      .exact hx
      .rw[(h.dH s' (hv.bJ e1)).2 hx]at hc;cases hc
     have l2:br m t':=by
      by_cases hx:br m t'
      .exact hx
      .rw[(h.dH t' (hv.bJ e2)).2 hx,hc]at hb;cases hb
     exact ih s' t' (hv.bJ e1) (hv.bJ e2) l1 l2 (cB s' t' (hv.bJ e1) (hv.bJ e2) l1 l2 hb)
def dE(f:Nat->Nat)(l:List Ed):List Ed:=l.map λe=>⟨e.lo,e.hi,f e.to⟩
theorem GW(f:Nat->Nat):∀(l:List Ed) (c:Nat),bO (dE f l) c=(bO l c).map f
 | [],_=>rfl
 |e::r,c=>by
  show bO (_::dE f r) c=_;rw[bO,bO,GW f r];simp only;split <;> rfl
theorem Cv(f:Nat->Nat):∀(l:List Ed) (b:Nat),cm b l->cm b (dE f l)
 | [],_,_=>trivial
 |_::r,_,h=>⟨h.1,h.2.1,Cv f r _ h.2.2⟩
theorem GX(f:Nat->Nat):∀(l:List Ed),(∀e∈l,∀g∈l,f e.to=f g.to->e.to=g.to)->oJ l->oJ (dE f l)
 | [],_,_=>trivial
 | [_],_,_=>trivial
 |e::g::r,hf,h=>⟨λhx=>h.1 ⟨hx.1,hf e ξ g ξ hx.2⟩,GX f (g::r) (λa ha b hb=>hf a (by simp[ha]) b (by simp[hb])) h.2⟩
def cO(m:Mc)(c:Nat->Option Nat)(f:Nat->Nat)(st:List Nat):Mc:=⟨st.map λs=>dE f (b7 c (bE m s)),st.map λs=>(m.ac[s]?).getD false⟩
theorem iO{m:Mc}{c:Nat->Option Nat}{f:Nat->Nat}{st:List Nat}(hv:pC m)(hc:ui m c)(hs:∀s∈st,s<m.ed.length/\br m s)(hf:∀k s cl,st[k]?=some s->c s=some cl->f cl=k)
  (ht:∀s∈st,∀e∈b7 c (bE m s),∃t∈st,c t=some e.to):∀(w:List Nat) (k s:Nat),st[k]?=some s->dG (cO m c f st) w k=dG m w s
 | [],k,s,h=>by
  unfold dG cO;simp only[List.getElem?_map,h,Option.map_some,Option.getD_some]
 |b::w,k,s,h=>by
  have j9:s∈st:=List.mem_of_getElem? h;have hr:bE (cO m c f st) k=dE f (b7 c (bE m s)):=by
   show ((cO m c f st).ed[k]?).getD []=_;unfold cO;simp only[List.getElem?_map,h,Option.map_some,Option.getD_some]
  rw[cC,cC,hr,GW,(gz _ _ (hv.row s).1).2.2]
  cases e1:bO (bE m s) b with
  |none=>rfl
  |some t=>
   simp only[Option.bind_some];have htl:=hv.bJ e1
   cases e2:c t with
   |none=>
    simp only[Option.map_none]
    cases hw:dG m w t with
    |false=>rfl
    |true=>exact absurd ⟨w,hw⟩ ((hc.dH t htl).1 e2)
   |some cl=>
    simp only[Option.map_some];have hj:bO (b7 c (bE m s)) b=some cl:=by rw[(gz _ _ (hv.row s).1).2.2,e1,Option.bind_some,e2]
    obtain ⟨e,he,-,-,rfl⟩:=ji hj;obtain ⟨u,hu,lD⟩:=ht s j9 e he;obtain ⟨j,hj'⟩:=List.mem_iff_getElem?.1 hu;rw[hf j u _ hj' lD,iO hv hc hs hf ht w j u hj'];have l1:br m t:=by
     by_cases hx:br m t
     .exact hx
     .rw[(hc.dH t htl).2 hx]at e2;cases e2
    exact (hc.eq u t (hs u hu).1 htl (hs u hu).2 l1).1 (lD.trans e2.symm) w
theorem Cq{m:Mc}{c:Nat->Option Nat}{f:Nat->Nat}{st:List Nat}(hv:pC m)(hc:ui m c)(hs:∀s∈st,s<m.ed.length/\br m s)(hf:∀k s cl,st[k]?=some s->c s=some cl->f cl=k)
  (ht:∀s∈st,∀e∈b7 c (bE m s),∃t∈st,c t=some e.to) (hm:jJ 0 0 (cO m c f st).ed):Canon (cO m c f st):=by
 have hlen:(cO m c f st).ed.length=st.length:=by unfold cO;simp
 have hrow:∀r∈(cO m c f st).ed,∃s∈st,r=dE f (b7 c (bE m s)):=λr hr=>by
  unfold cO at hr;obtain ⟨s,hs,rfl⟩:=List.mem_map.1 hr;exact ⟨s,hs,rfl⟩
 have qL:∀s∈st,∀e∈b7 c (bE m s),f e.to<st.length/\∃u,st[f e.to]?=some u/\c u=some e.to:=λs Kp e he=>by
  obtain ⟨u,hu,lD⟩:=ht s Kp e he;obtain ⟨j,hj⟩:=List.mem_iff_getElem?.1 hu;have:=hf j u _ hj lD;rw[this];exact ⟨(List.getElem?_eq_some_iff.1 hj).1,u,hj,lD⟩
 refine ⟨by unfold cO;simp,λr hr=>?_,λr hr=>?_,λr hr e he=>?_,λk hk=>?_,λk j hk hj h=>?_,hm⟩
 .obtain ⟨s,Kp,rfl⟩:=hrow r hr;exact Cv f _ _ (gz _ _ (hv.row s).1).1
 .obtain ⟨s,Kp,rfl⟩:=hrow r hr;refine GX f _ (λe he g hg hfe=>?_) (gz _ _ (hv.row s).1).2.1;obtain ⟨-,u,h1,h2⟩:=qL s Kp e he;obtain ⟨-,v,h3,h4⟩:=qL s Kp g hg;rw[hfe,h3]at h1;obtain rfl:=Option.some.inj h1;exact Option.some.inj (h2.symm.trans h4)
 .obtain ⟨s,Kp,rfl⟩:=hrow r hr;obtain ⟨e',he',rfl⟩:=List.mem_map.1 he;rw[hlen];exact (qL s Kp e' he').1
 .rw[hlen]at hk;have h1:st[k]?=some st[k]:=List.getElem?_eq_getElem hk;obtain ⟨w,hw⟩:=(hs st[k] (List.getElem_mem hk)).2;exact ⟨w,by rw[iO hv hc hs hf ht w k _ h1];exact hw⟩
 .rw[hlen]at hk hj;have h1:st[k]?=some st[k]:=List.getElem?_eq_getElem hk;have h2:st[j]?=some st[j]:=List.getElem?_eq_getElem hj;have GV:Cu m st[k] st[j]:=λw=>by rw[<-iO hv hc hs hf ht w k _ h1,<-iO hv hc hs hf ht w j _ h2];exact h w
  have dS:=hs _ (List.getElem_mem hk);have tv:=hs _ (List.getElem_mem hj);have mI:=(hc.eq _ _ dS.1 tv.1 dS.2 tv.2).2 GV
  cases e:c st[k] with
  |none=>exact absurd dS.2 ((hc.dH _ dS.1).1 e)
  |some cl=>rw[<-hf k _ cl h1 e,<-hf j _ cl h2 (mI.symm.trans e)]
structure VS (b:Pb) (x:dC) (gs:List (List Nat)) (m:Mc):Prop where
 acc:∀i,i<gs.length->((m.ac[i]?).getD false=true↔if i=0 then x.emp=true else ∃p∈(gs[i]?).getD [],p∈x.last)
 ajG:∀i,i<gs.length->∀c,match bO (bE m i) c with
  |none=>∀p,nQ b x gs i p->cD b p c=false
  |some t=>0<t/\t<gs.length/\∀p,p∈(gs[t]?).getD []↔nQ b x gs i p/\cD b p c=true
theorem VS.gG{b:Pb}{x:dC}{gs:List (List Nat)}{m:Mc}(h:VS b x gs m):∀(w:List Nat) (i:Nat),i<gs.length->(dG m w i=true↔IY b x gs i w)
 | [],i,hi=>by
  show (m.ac[i]?).getD false=true↔_;rw[h.acc i hi];unfold IY;by_cases h0:i=0
  .simp only[h0,if_true];exact Iff.rfl
  .simp only[h0,if_false];exact Iff.rfl
 |c::w,i,hi=>by
  rw[cC];have he:=h.ajG i hi c;have hg:IY b x gs i (c::w)↔∃p,nQ b x gs i p/\cD b p c=true/\wk b x.last w p:=by
   unfold IY nQ;by_cases h0:i=0
   .simp only[h0,if_true];exact ⟨λ⟨q,h1,h2,h3⟩=>⟨q,h1,h2,h3⟩,λ⟨q,h1,h2,h3⟩=>⟨q,h1,h2,h3⟩⟩
   .simp only[h0,if_false];constructor
    .rintro ⟨p,h1,h2⟩;obtain ⟨q,g1,g2,g3⟩:=h2;exact ⟨q,⟨p,h1,g1⟩,g2,g3⟩
    .rintro ⟨q,⟨p,h1,g1⟩,g2,g3⟩;exact ⟨p,h1,q,g1,g2,g3⟩
  rw[hg]
  cases ht:bO (bE m i) c with
  |none=>
   rw[ht]at he;simp only at he|-;constructor
   .intro hx;cases hx
   .rintro ⟨p,h1,h2,-⟩;rw[he p h1]at h2
    cases h2
  |some t=>
   rw[ht]at he;obtain ⟨t0,t1,t2⟩:=he;simp only;rw[h.gG w t t1];unfold IY;rw[if_neg Y];constructor
   .rintro ⟨p,h1,h2⟩;exact ⟨p,((t2 p).1 h1).1,((t2 p).1 h1).2,h2⟩
   .rintro ⟨p,h1,h2,h3⟩;exact ⟨p,(t2 p).2 ⟨h1,h2⟩,h3⟩
theorem xI:∀{r:List Ed} {b:Nat} {e:Ed},cm b r->(∀f∈r,f.hi<e.lo)->b<=e.lo->e.lo<=e.hi->cm b (r++[e])
 | [],_,_,_,_,h1,h2=>⟨h1,h2,trivial⟩
 |f::r,b,e,h,hf,_,h2=>⟨h.1,h.2.1,xI h.2.2 (λg hg=>hf g (by simp[hg])) (by have:=hf f ξ;omega) h2⟩
theorem Ca:∀{r:List Ed} {e:Ed} {c:Nat},(∀f∈r,f.hi<e.lo)->bO (r++[e]) c=if e.lo<=c/\c<=e.hi then some e.to else bO r c
 | [],e,c,_=>rfl
 |f::r,e,c,h=>by
  show bO (f::(r++[e])) c=_;rw[bO,Ca (λg hg=>h g (by simp[hg])),bO]
  have:=h f ξ;by_cases h1:f.lo<=c/\c<=f.hi
  .rw[if_pos h1,if_pos h1,if_neg Y]
  .rw[if_neg h1,if_neg h1]
theorem Gx{l:List Nat}(hs:l.Pairwise (·<·)){k:Nat}(hk:k+1<l.length){v:Nat}(hv:v∈l):v<=l[k]\/l[k+1]<=v:=by
 obtain ⟨j,hj,rfl⟩:=List.getElem_of_mem hv;rw[List.pairwise_iff_getElem]at hs;rcases Nat.lt_trichotomy j k with h|h|h
 .exact .inl (Nat.le_of_lt (hs j k hj Y h))
 .subst h;exact .inl I
 .by_cases h2:j=k+1
  .subst h2;exact .inr I
  .exact .inr (Nat.le_of_lt (hs (k+1) j hk hj Y))
theorem Em{l:List Nat}(hs:l.Pairwise (·<·)){k:Nat}(hk:k+1<l.length){rs:List (Nat×Nat)}(hr:∀r∈rs,r.1∈l/\r.2+1∈l){c:Nat}(h1:l[k]<=c)(h2:c<l[k+1]):lu rs c=lu rs l[k]:=by
 unfold lu
 induction rs with
 |nil=>rfl
 |cons r rs ih=>
  rw[List.any_cons,List.any_cons,ih (λx hx=>hr x (by simp[hx]))]
  obtain ⟨g1,g2⟩:=hr r ξ;have c1:=Gx hs hk g1;have c2:=Gx hs hk g2
  congr 1
  rw[Bool.eq_iff_iff];simp only[Bool.and_eq_true,decide_eq_true_eq];omega
theorem Mo{l:List Nat}{rs:List (Nat×Nat)}(hr:∀r∈rs,r.1∈l/\r.2+1∈l){c:Nat}(h:∀v∈l,c<v):lu rs c=false:=by
 unfold lu;rw[List.any_eq_false];intro r hx;have:=h _ (hr r hx).1;simp;omega
theorem I6{l:List Nat}{rs:List (Nat×Nat)}(hr:∀r∈rs,r.1∈l/\r.2+1∈l){c:Nat}(h:∀v∈l,v<=c):lu rs c=false:=by
 unfold lu;rw[List.any_eq_false];intro r hx;have:=h _ (hr r hx).2;simp;omega
structure eu (b:Pb) (fo:List Nat) (gs:List (List Nat)) (row:List Ed) (v:Nat):Prop where
 pd:cm 0 row
 hi:∀e∈row,e.hi<v
 sp:∀c,c<v->match bO row c with
  |none=>∀p∈fo,cD b p c=false
  |some t=>0<t/\t<gs.length/\∀p,p∈(gs[t]?).getD []↔p∈fo/\cD b p c=true
theorem eu.nil{b:Pb}{fo:List Nat}{gs:List (List Nat)}{v:Nat}(h:∀c,c<v->∀p∈fo,cD b p c=false):eu b fo gs [] v:=
 ⟨trivial,λe he=>absurd he ξ,λc hc=>h c hc⟩
theorem eu.skip{b:Pb}{fo:List Nat}{gs:List (List Nat)}{row:List Ed}{v v':Nat}(h:eu b fo gs row v)(hv:v<=v')(hn:∀c,v<=c->c<v'->∀p∈fo,cD b p c=false):eu b fo gs row v':=by
 refine ⟨h.pd,λe he=>by have:=h.hi e he;omega,λc hc=>?_⟩
 by_cases hcv:c<v
 .exact h.sp c hcv
 .have:bO row c=none:=by
   cases ht:bO row c with
   |none=>rfl
   |some t=>
    obtain ⟨e,he,-,h2,-⟩:=ji ht;have:=h.hi e he;omega
  rw[this];exact hn c Y hc
theorem eu.add{b:Pb}{fo:List Nat}{gs:List (List Nat)}{row:List Ed}{v v' t:Nat}(h:eu b fo gs row v)(hv:v<v')(Cb:0<t)(ht:t<gs.length)(hn:∀c,v<=c->c<v'->∀p,p∈(gs[t]?).getD []↔p∈fo/\cD b p c=true):eu b fo gs (row++[⟨v,v' - 1,t⟩]) v':=by
 refine ⟨xI h.pd h.hi (Nat.zero_le _) (by show v<=v' - 1;omega),λe he=>?_,λc hc=>?_⟩
 .rcases List.mem_append.1 he with g|g
  .have:=h.hi e g;omega
  .rw[List.mem_singleton.1 g];show v' - 1<v';omega
 .rw[Ca h.hi];by_cases hcv:c<v
  .rw[if_neg (by show ¬(v<=c/\_);omega)]
   exact h.sp c hcv
  .rw[if_pos (by show v<=c/\c<=v' - 1;omega)]
   exact ⟨Cb,ht,hn c Y hc⟩
theorem eu.grow{b:Pb}{fo:List Nat}{gs:List (List Nat)}{row:List Ed}{v:Nat}(h:eu b fo gs row v)(g:List Nat):eu b fo (gs++[g]) row v:=by
 refine ⟨h.pd,h.hi,λc hc=>?_⟩;have:=h.sp c hc
 cases ht:bO row c with
 |none=>rw[ht]at this;exact this
 |some t=>
  rw[ht]at this;obtain ⟨h0,h1,h2⟩:=this;refine ⟨h0,ψ,λp=>?_⟩;rw[List.getElem?_append_left h1];exact h2 p
theorem kE:∀{r:List Ed} {b:Nat} {e:Ed},cm b r->e∈r->bO r e.lo=some e.to
 |f::r,b,e,h,he=>by
  rw[bO];rcases List.mem_cons.1 he with rfl|he
  .rw[if_pos ⟨I,h.2.1⟩]
  .have dy:∀{r:List Ed} {b:Nat},cm b r->∀g∈r,b<=g.lo:=by
    intro r
    induction r with
    |nil=>intro b _ g hg;cases hg
    |cons a r ih=>
     intro b h g hg;rcases List.mem_cons.1 hg with rfl|hg
     .exact h.1
     .have h1:=ih h.2.2 g hg;have h2:=h.1;have h3:=h.2.1;omega
   have:=dy h.2.2 e he;rw[if_neg Y];exact kE h.2.2 he
theorem Hr{m:Mc}(hv:pC m){s:Nat}{e:Ed}(he:e∈bE m s)(hl:br m e.to):br m s:=by
 obtain ⟨w,hw⟩:=hl;exact ⟨e.lo::w,by rw[cC,kE (hv.row s).1 he];exact hw⟩
theorem KO{m:Mc}{s:Nat}(h:(m.ac[s]?).getD false=true):br m s:=⟨[],h⟩
theorem KP{m:Mc}(hv:pC m){out:Nat->Bool}(h0:∀s,s<m.ed.length->(m.ac[s]?).getD false=true->out s=true)(cB:∀s,s<m.ed.length->out s=false->∀e∈bE m s,out e.to=false){s:Nat}(hs:s<m.ed.length)(hl:br m s):out s=true:=by
 obtain ⟨w,hw⟩:=hl
 induction w generalizing s with
 |nil=>exact h0 s hs hw
 |cons c w ih=>
  rw[cC]at hw
  cases ht:bO (bE m s) c with
  |none=>rw[ht]at hw;cases hw
  |some t=>
   rw[ht]at hw;have:=ih (hv.bJ ht) hw;obtain ⟨e,he,-,-,rfl⟩:=ji ht
   cases ho:out s with
   |true=>rfl
   |false=>rw[cB s hs ho e he]at this;cases this
def kU:Nat->Nat->List (List Ed)->Nat->Prop
 |_,m,[],t=>t=m
 |i,m,r::rs,t=>i<=m/\oc m r/\kU (i+1) (oK m r) rs t
theorem kU.snoc{r:List Ed}:∀{rs:List (List Ed)} {i m t:Nat},kU i m rs t->i+rs.length<=t->oc t r->kU i m (rs++[r]) (oK t r)
 | [],i,m,t,h,h1,h2=>by
  have:t=m:=h;subst this;exact ⟨by simpa using h1,h2,rfl⟩
 |a::rs,i,m,t,h,h1,h2=>⟨h.1,h.2.1,kU.snoc h.2.2 (by simp at h1;omega) h2⟩
theorem kU.done:∀{rs:List (List Ed)} {i m t:Nat},kU i m rs t->i+rs.length=t+1->jJ i m rs
 | [],i,m,t,h,h1=>by
  have:t=m:=h;subst this;simpa [jJ] using h1
 |a::rs,i,m,t,h,h1=>⟨h.1,h.2.1,kU.done h.2.2 (by simp at h1;omega)⟩
theorem oW{e:Ed}:∀{r:List Ed} {m:Nat},oc m r->e.to<=oK m r+1->oc m (r++[e])/\oK m (r++[e])=max (oK m r) e.to
 | [],m,_,h=>⟨⟨h,trivial⟩,rfl⟩
 |f::r,m,h,h1=>by
  obtain ⟨q1,q2⟩:=oW (r:=r) (m:=max m f.to) h.2 h1;exact ⟨⟨h.1,q1⟩,q2⟩
def cG(c:Nat->Option Nat)(st:List Nat)(cl:Nat):Nat:=(st.map c).idxOf (some cl)
theorem Ry{c:Nat->Option Nat}{st:List Nat}(hn:(st.map c).Nodup){k s cl:Nat}(hk:st[k]?=some s)(hc:c s=some cl):cG c st cl=k:=by
 unfold cG;obtain ⟨hlt,he⟩:=List.getElem?_eq_some_iff.1 hk;have hlt':k<(st.map c).length:=by simpa using hlt
 have h2:(st.map c)[k]=some cl:=by rw[List.getElem_map,he,hc]
 rw[<-h2];exact hn.idxOf_getElem k hlt'
theorem xQ{c:Nat->Option Nat}{st:List Nat}{cl:Nat}(s:Nat)(h:some cl∈st.map c):cG c (st++[s]) cl=cG c st cl:=by
 unfold cG;rw[List.map_append,List.idxOf_append,if_pos h]
theorem Co{c:Nat->Option Nat}{st:List Nat}{cl s:Nat}(h:¬some cl∈st.map c)(hc:c s=some cl):cG c (st++[s]) cl=st.length:=by
 unfold cG;rw[List.map_append,List.idxOf_append,if_neg h];simp[hc]
theorem Rx{c:Nat->Option Nat}{st:List Nat}{cl:Nat}(h:some cl∈st.map c):cG c st cl<st.length:=by
 unfold cG;have:=List.idxOf_lt_length_of_mem h;simpa using this
theorem u6{c:Nat->Option Nat}{st:List Nat}(s:Nat){l:List Ed}(h:∀e∈l,some e.to∈st.map c):dE (cG c (st++[s])) l=dE (cG c st) l:=by
 unfold dE;exact List.map_congr_left λe he=>by rw[xQ s (h e he)]
def gh(m:Mc):List Nat->Nat->Nat->List Nat
 | [],s,k=>if (m.ac[s]?).getD false=true then [k] else []
 |c::w,s,k=>(if (m.ac[s]?).getD false=true then [k] else [])++match bO (bE m s) c with|none=>[]|some t=>gh m w t (k+1)
def sK(R:List Nat)(i:Nat)(mV:Nat->Bool):Option Nat:=R.reverse.find? λt=>decide (i<t) && mV t
def Bt(c:Nat):Bool:=(decide (97<=c) && decide (c<=122)) || (decide (65<=c) && decide (c<=90)) || (decide (48<=c) && decide (c<=57))
def pK(wh:Bool)(bs:List Nat)(i t:Nat):Bool:=
 (decide (i<=t) && decide (t<=bs.length)) && (!wh || ((decide (i=0) || !Bt ((bs[i - 1]?).getD 0)) && (decide (t=bs.length) || !Bt ((bs[t]?).getD 0))))
def Pd(m:Mc)(wh:Bool)(bs:List Nat)(i:Nat):Option Nat:=sK (gh m (bs.drop i) 0 i) i (pK wh bs i)
def dQ(f:Nat->Option Nat)(n:Nat):Nat->Nat->List (Nat×Nat)
 |0,_=>[]
 |k+1,i=>if i<n then match f i with|none=>dQ f n k (i+1)|some t=>(i,t)::dQ f n k t else []
def FB(d:Nat)(l:List (Nat×Nat)):List (Nat×Nat):=l.map λp=>(p.1+d,p.2+d)
theorem mi(m:Mc):∀(bs:List Nat) (s k t:Nat),t∈gh m bs s k↔∃j,t=k+j/\j<=bs.length/\dG m (bs.take j) s=true
 | [],s,k,t=>by
  rw[gh];constructor
  .intro h;by_cases hb:(m.ac[s]?).getD false=true
   .rw[if_pos hb,List.mem_singleton]at h;exact ⟨0,Y,I,hb⟩
   .rw[if_neg hb]at h;cases h
  .rintro ⟨j,rfl,hj,h⟩;have:j=0:=by simpa using hj
   subst this;have h:(m.ac[s]?).getD false=true:=h;rw[if_pos h];simp
 |c::w,s,k,t=>by
  rw[gh,List.mem_append];constructor
  .rintro (h|h)
   .by_cases hb:(m.ac[s]?).getD false=true
    .rw[if_pos hb,List.mem_singleton]at h;exact ⟨0,Y,Nat.zero_le _,hb⟩
    .rw[if_neg hb]at h;cases h
   .cases ht:bO (bE m s) c with
    |none=>rw[ht]at h;cases h
    |some q=>
     rw[ht]at h;obtain ⟨j,rfl,hj,h⟩:=(mi m w q (k+1) t).1 h;exact ⟨j+1,Y,by simpa using hj,by rw[List.take_succ_cons,dG,ht];exact h⟩
  .rintro ⟨j,rfl,hj,h⟩
   cases j with
   |zero=>exact .inl (by rw[if_pos (show (m.ac[s]?).getD false=true from h)];simp)
   |succ j=>
    right
    rw[List.take_succ_cons,dG]at h
    cases ht:bO (bE m s) c with
    |none=>rw[ht]at h;cases h
    |some q=>
     rw[ht]at h;exact (mi m w q (k+1) _).2 ⟨j,Y,by simpa using hj,h⟩
theorem CX(m:Mc):∀(bs:List Nat) (s k:Nat),(gh m bs s k).Pairwise (·<·)
 | [],s,k=>by rw[gh]; split <;> simp
 |c::w,s,k=>by
  rw[gh,List.pairwise_append];refine ⟨by split <;> simp,?_,λa ha b hb=>?_⟩
  .cases bO (bE m s) c with
   |none=>exact List.Pairwise.nil
   |some q=>exact CX m w q (k+1)
  .have ha:a=k:=by
    split at ha
    .simpa using ha
    .cases ha
   subst ha
   cases ht:bO (bE m s) c with
   |none=>rw[ht]at hb;cases hb
   |some q=>
    rw[ht]at hb;obtain ⟨j,rfl,-,-⟩:=(mi m w q (a+1) b).1 hb;omega
theorem CY{p:Nat->Bool}:∀{D:List Nat},D.Pairwise (· > ·)->∀t,D.find? p=some t↔(t∈D/\p t=true)/\∀x∈D,p x=true->x<=t
 | [],_,t=>ξ
 |a::D,hD,t=>by
  have hD':=List.pairwise_cons.1 hD;rw[List.find?_cons]
  cases ha:p a with
  |true=>
   constructor
   .intro e;injection e with e;subst e;refine ⟨⟨ξ,ha⟩,λx hx _=>?_⟩;rcases List.mem_cons.1 hx with rfl|hx
    .exact I
    .exact Nat.le_of_lt (hD'.1 x hx)
   .rintro ⟨⟨h1,-⟩,h3⟩;have hle:=h3 a ξ ha;rcases List.mem_cons.1 h1 with rfl|h1
    .rfl
    .have:=hD'.1 t h1;omega
  |false=>
   show D.find? p=some t↔_;rw[CY hD'.2 t];constructor
   .rintro ⟨⟨h1,h2⟩,h3⟩;refine ⟨⟨List.mem_cons_of_mem _ h1,h2⟩,λx hx h=>?_⟩;rcases List.mem_cons.1 hx with rfl|hx
    .rw[ha]at h;cases h
    .exact h3 x hx h
   .rintro ⟨⟨h1,h2⟩,h3⟩;rcases List.mem_cons.1 h1 with rfl|h1
    .rw[ha]at h2;cases h2
    .exact ⟨⟨h1,h2⟩,λx hx=>h3 x (List.mem_cons_of_mem _ hx)⟩
def SA(m:Mc)(wh:Bool)(bs:List Nat)(i t:Nat):Prop:=i<t/\t<=bs.length/\dG m ((bs.drop i).take (t-i)) 0=true/\pK wh bs i t=true
theorem MJ(m:Mc)(wh:Bool)(bs:List Nat)(i t:Nat)(hi:i<=bs.length):Pd m wh bs i=some t↔SA m wh bs i t/\∀x,SA m wh bs i x->x<=t:=by
 have aZ:∀x,(x∈(gh m (bs.drop i) 0 i).reverse/\(decide (i<x) && pK wh bs i x)=true)↔SA m wh bs i x:=λx=>by
  rw[List.mem_reverse,mi,List.length_drop,Bool.and_eq_true,decide_eq_true_eq];unfold SA;constructor
  .rintro ⟨⟨j,rfl,h1,h2⟩,h3,h4⟩;exact ⟨h3,Y,by rw[show i+j-i=j by omega];exact h2,h4⟩
  .rintro ⟨h1,h2,h3,h4⟩;exact ⟨⟨x-i,Y,Y,h3⟩,h1,h4⟩
 unfold Pd sK;rw[CY (by rw[List.pairwise_reverse];exact CX m _ 0 i) t,aZ]
 constructor
 .rintro ⟨h1,h2⟩;exact ⟨h1,λx hx=>h2 x ((aZ x).2 hx).1 ((aZ x).2 hx).2⟩
 .rintro ⟨h1,h2⟩;exact ⟨h1,λx hx hp=>h2 x ((aZ x).1 ⟨hx,hp⟩)⟩
theorem yE{m:Mc}{wh:Bool}{bs:List Nat}{i t:Nat}(hi:i<=bs.length)(h:Pd m wh bs i=some t):i<t/\t<=bs.length:=by
 have:=((MJ m wh bs i t hi).1 h).1;exact ⟨this.1,this.2.1⟩
section
variable {m:Mc} {wh:Bool} {c:Nat} (hc:∀w,dG m w 0=true->c∉w) (hs:Bt c=false) (a b:List Nat)
include hc hs
end
theorem mQ(f:Nat->Option Nat)(n:Nat)(hf:∀i t,i<n->f i=some t->i<t):∀(k k' i:Nat),n<=i+k->n<=i+k'->dQ f n k i=dQ f n k' i
 |0,0,_,_,_=>rfl
 |0,k'+1,i,h,_=>by rw[dQ,dQ,if_neg Y]
 |k+1,0,i,_,h=>by rw[dQ,dQ,if_neg Y]
 |k+1,k'+1,i,h,h'=>by
  rw[dQ,dQ];by_cases hi:i<n
  .rw[if_pos hi,if_pos hi]
   cases v8:f i with
   |none=>exact mQ f n hf k k' (i+1) Y Y
   |some t=>
    have:=hf i t hi v8;show (i,t)::dQ f n k t=(i,t)::dQ f n k' t;rw[mQ f n hf k k' t Y Y]
  .rw[if_neg hi,if_neg hi]
def FT(m:Mc)(wh:Bool)(bs:List Nat):List (Nat×Nat):=dQ (Pd m wh bs) bs.length bs.length 0
theorem j0(f:Nat->Nat)(l:List Ed)(e:Ed):dE f (l++[e])=dE f l++[⟨e.lo,e.hi,f e.to⟩]:=by unfold dE;rw[List.map_append];rfl
theorem qk(f:Nat->Nat)(l:List Ed):(dE f l).length=l.length:=by unfold dE;simp
structure zo (m:Mc) (c:Nat->Option Nat) (st:List Nat) (i:Nat) (rs:List (List Ed)) (p:List Ed) (t:Nat):Prop where
 nd:(st.map c).Nodup
 lv:∀s∈st,s<m.ed.length/\c s≠none
 zero:st[0]?=some 0
 rows:rs=(st.take i).map λs=>dE (cG c st) (b7 c (bE m s))
 tg:∀s∈st.take i,∀e∈b7 c (bE m s),some e.to∈st.map c
 ptg:∀e∈p,some e.to∈st.map c
 meet:kU 0 0 rs t
 pm:oc t (dE (cG c st) p)
 top:oK t (dE (cG c st) p)+1=st.length
 il:i<=st.length
theorem qm{α β:Type}{f:α->β}:∀{l:List α},(l.map f).Nodup->l.Nodup
 | [],_=>List.nodup_nil
 |a::l,h=>by
  rw[List.map_cons,List.nodup_cons]at h;rw[List.nodup_cons];exact ⟨λha=>h.1 (List.mem_map.2 ⟨a,ha,rfl⟩),qm h.2⟩
section
variable {m:Mc} {c:Nat->Option Nat} {st:List Nat} {i t:Nat} {rs:List (List Ed)} {p:List Ed}
theorem zo.start(h0:c 0≠none)(h1:0<m.ed.length):zo m c [0] 0 [] [] 0:=
 ⟨ξ,λs hs=>by simp at hs;subst hs;exact ⟨h1,h0⟩,rfl,rfl,λs hs=>(by cases hs),λe he=>(by cases he),rfl,trivial,rfl,Nat.zero_le _⟩
theorem zo.old(h:zo m c st i rs p t)(e:Ed)(he:some e.to∈st.map c):zo m c st i rs (p++[e]) t:=by
 have hlt:=Rx he;have Nj:=h.top;obtain ⟨h1,h2⟩:=oW (e:=⟨e.lo,e.hi,cG c st e.to⟩) h.pm (by show cG c st e.to<=_;omega)
 refine { h with ptg:=λf hf=>?_,pm:=by rw[j0];exact h1,top:=?_ }
 .rcases List.mem_append.1 hf with hf|hf
  .exact h.ptg f hf
  .rw[List.mem_singleton]at hf;rw[hf];exact he
 .rw[j0,h2];show max _ (cG c st e.to)+1=_;omega
theorem zo.new(h:zo m c st i rs p t)(e:Ed)(s:Nat)(he:¬some e.to∈st.map c)(hs:s<m.ed.length)(hc:c s=some e.to):zo m c (st++[s]) i rs (p++[e]) t/\cG c (st++[s]) e.to=st.length:=by
 have ra:=Co he hc;have Nj:=h.top;have cY:∀x,some x∈st.map c->some x∈(st++[s]).map c:=λx hx=>by rw[List.map_append];exact List.mem_append_left _ hx
 have tV:(st++[s]).take i=st.take i:=List.take_append_of_le_length h.il;have hp:dE (cG c (st++[s])) p=dE (cG c st) p:=u6 s h.ptg;obtain ⟨h1,h2⟩:=oW (e:=⟨e.lo,e.hi,st.length⟩) h.pm (by show st.length<=_;omega)
 refine ⟨⟨?_,?_,?_,?_,?_,?_,h.meet,?_,?_,?_⟩,ra⟩
 .rw[List.map_append,List.nodup_append];refine ⟨h.nd,ξ,λa ha b hb=>?_⟩;simp only[List.map_cons,List.map_nil,List.mem_singleton]at hb;rintro rfl;rw[hb,hc]at ha;exact he ha
 .intro x hx;rcases List.mem_append.1 hx with hx|hx
  .exact h.lv x hx
  .rw[List.mem_singleton]at hx;subst hx;exact ⟨hs,by rw[hc];simp⟩
 .rw[List.getElem?_append_left (by have:=(List.getElem?_eq_some_iff.1 h.zero).1;exact this)];exact h.zero
 .rw[tV,h.rows];exact List.map_congr_left λx hx=>(u6 s (h.tg x hx)).symm
 .rw[tV];exact λx hx f hf=>cY _ (h.tg x hx f hf)
 .intro f hf;rcases List.mem_append.1 hf with hf|hf
  .exact cY _ (h.ptg f hf)
  .rw[List.mem_singleton]at hf;subst hf;rw[List.map_append];exact List.mem_append_right _ (by simp[hc])
 .rw[j0,hp,ra];exact h1
 .rw[j0,hp,ra,h2,List.length_append];show max _ st.length+1=st.length+1;omega
 .rw[List.length_append];have:=h.il;omega
theorem zo.row(h:zo m c st i rs p t)(hit:i<=t){s:Nat}(hs:st[i]?=some s)(hp:p=b7 c (bE m s)):zo m c st (i+1) (rs++[dE (cG c st) p]) [] (oK t (dE (cG c st) p)):=by
 have hlt:i<st.length:=(List.getElem?_eq_some_iff.1 hs).1;have tV:st.take (i+1)=st.take i++[s]:=by rw[List.take_add_one,hs];rfl
 have hl:rs.length=i:=by rw[h.rows,List.length_map,List.length_take];omega
 have Nj:=h.top;refine ⟨h.nd,h.lv,h.zero,?_,?_,λe he=>(by cases he),?_,trivial,Nj,hlt⟩
 .rw[tV,List.map_append,<-h.rows,hp];rfl
 .rw[tV];intro x hx e he;rcases List.mem_append.1 hx with hx|hx
  .exact h.tg x hx e he
  .rw[List.mem_singleton]at hx;subst hx;exact h.ptg e (by rw[hp];exact he)
 .exact h.meet.snoc (by rw[hl];omega) h.pm
theorem zo.nodup(h:zo m c st i rs p t):st.length<=m.ed.length:=by
 have h1:st.Nodup:=qm h.nd;have:=jR (r:=List.range m.ed.length) h1 (λx hx=>List.mem_range.2 (h.lv x hx).1);rwa [List.length_range]at this
theorem zo.done(hv:pC m)(hc:ui m c)(h:zo m c st st.length rs [] t):rs=(cO m c (cG c st) st).ed/\Canon (cO m c (cG c st) st)/\∀w,dG (cO m c (cG c st) st) w 0=dG m w 0:=by
 have Dc:∀s∈st,s<m.ed.length/\br m s:=λs hs=>by
  obtain ⟨h1,h2⟩:=h.lv s hs;refine ⟨h1,?_⟩;by_cases hx:br m s
  .exact hx
  .exact absurd ((hc.dH s h1).2 hx) h2
 have hf:∀k s cl,st[k]?=some s->c s=some cl->cG c st cl=k:=λk s cl h1 h2=>Ry h.nd h1 h2;have hr:rs=(cO m c (cG c st) st).ed:=by rw[h.rows,List.take_length];rfl
 have ht:∀s∈st,∀e∈b7 c (bE m s),∃t∈st,c t=some e.to:=λs hs e he=>by
  have:=h.tg s (by rw[List.take_length];exact hs) e he
  obtain ⟨u,h1,h2⟩:=List.mem_map.1 this;exact ⟨u,h1,h2⟩
 refine ⟨hr,Cq hv hc Dc hf ht ?_,λw=>iO hv hc Dc hf ht w 0 0 h.zero⟩;rw[<-hr];have Nj:=h.top;have h3:t+1=st.length:=Nj;exact h.meet.done (by rw[hr];unfold cO;simp;omega)
end
theorem qg(cls:Nat->Option Nat):∀(l:List Ed) (p:Option Ed),(xN cls p l).length<=p.toList.length+l.length
 | [],p=>by unfold xN;simp
 |e::r,p=>by
  unfold xN
  cases hc:cls e.to with
  |none=>simp only;have:=qg cls r p;rw[List.length_cons];omega
  |some t=>
   cases p with
   |none=>simp only;have:=qg cls r (some ⟨e.lo,e.hi,t⟩);simp at this|-;omega
   |some q=>
    simp only;split
    .have:=qg cls r (some ⟨q.lo,e.hi,q.to⟩);simp at this|-;omega
    .have:=qg cls r (some ⟨e.lo,e.hi,t⟩);simp at this|-;omega
theorem qX(cls:Nat->Option Nat)(l:List Ed):(b7 cls l).length<=l.length:=by have:=qg cls l none;simpa [b7] using this
theorem oC:∀{r:List Ed} {b:Nat} {e:Ed},cm b r->e∈r->bO r e.hi=some e.to
 |f::r,b,e,h,he=>by
  rw[bO];rcases List.mem_cons.1 he with rfl|he
  .rw[if_pos ⟨h.2.1,I⟩]
  .have dy:∀{r:List Ed} {b:Nat},cm b r->∀g∈r,b<=g.hi:=by
    intro r
    induction r with
    |nil=>intro b _ g hg;cases hg
    |cons a r ih=>
     intro b h g hg;rcases List.mem_cons.1 hg with rfl|hg
     .have h1:=h.1;have h2:=h.2.1;omega
     .have h1:=ih h.2.2 g hg;have h2:=h.1;have h3:=h.2.1;omega
   have:=dy h.2.2 e he;rw[if_neg Y];exact oC h.2.2 he
theorem um{cls:Nat->Option Nat}{l:List Ed}(hs:cm 0 l)(hb:∀e∈l,e.lo<256/\e.hi<256):∀e∈b7 cls l,e.lo<256/\e.hi<256/\∃f∈l,cls f.to=some e.to:=by
 intro e he;obtain ⟨h1,h2,h3⟩:=gz (cls:=cls) l 0 hs;have k1:=kE h1 he;have k2:=oC h1 he;rw[h3]at k1 k2;obtain ⟨t,t1,t2⟩:=Option.bind_eq_some_iff.1 k1;obtain ⟨u,u1,-⟩:=Option.bind_eq_some_iff.1 k2;obtain ⟨f,f1,f2,f3,f4⟩:=ji t1;obtain ⟨g,g1,g2,g3,g4⟩:=ji u1;have:=hb f f1;have:=hb g g1;exact ⟨Y,Y,f,f1,by rw[f4];exact t2⟩
structure Mt where
 k:Nat
 f:Nat
 t:Nat
 deriving DecidableEq
instance ap0:Inhabited Mt:=⟨⟨0,0,0⟩⟩
def tP(a b:Mt):Bool:=decide (a.f<b.f) || (decide (a.f=b.f) && (decide (a.t<b.t) || (decide (a.t=b.t) && decide (a.k<b.k))))
theorem jX(a b:Mt):tP a b=true↔a.f<b.f\/(a.f=b.f/\(a.t<b.t\/(a.t=b.t/\a.k<b.k))):=by
 unfold tP;simp
def wN(a b:Mt):Prop:=tP b a=false
theorem wN.iff(a b:Mt):wN a b↔¬(b.f<a.f\/(b.f=a.f/\(b.t<a.t\/(b.t=a.t/\b.k<a.k)))):=by
 unfold wN;rw[<-jX,Bool.not_eq_true]
def Ai(i:Nat)(l:List (Nat×Nat)):List Mt:=l.map λp=>⟨i,p.1,p.2⟩
def eB(f:Nat->List (Nat×Nat)):Nat->Nat->List Mt
 |0,_=>[]
 |n+1,i=>Ai i (f i)++eB f n (i+1)
def Yn(d:Nat)(l:List Mt):List Mt:=l.map λa=>⟨a.k,a.f+d,a.t+d⟩
theorem JW(i d:Nat)(l:List (Nat×Nat)):Ai i (FB d l)=Yn d (Ai i l):=by unfold Ai FB Yn;simp
theorem SQ(i:Nat)(l1 l2:List (Nat×Nat)):Ai i (l1++l2)=Ai i l1++Ai i l2:=by unfold Ai;simp
theorem SR(d:Nat)(l1 l2:List Mt):Yn d (l1++l2)=Yn d l1++Yn d l2:=by unfold Yn;simp
theorem pZ{f:Nat->List (Nat×Nat)}:∀{n i:Nat} {a:Mt},a∈eB f n i↔(i<=a.k/\a.k<i+n)/\(a.f,a.t)∈f a.k
 |0,i,a=>by
  rw[eB];constructor
  .intro h;cases h
  .rintro ⟨h,-⟩;omega
 |n+1,i,a=>by
  rw[eB,List.mem_append,pZ];unfold Ai;rw[List.mem_map];constructor
  .rintro (⟨p,hp,rfl⟩|⟨h1,h2⟩)
   .exact ⟨⟨I,by show i<i+(n+1);omega⟩,hp⟩
   .exact ⟨Y,h2⟩
  .rintro ⟨h1,h2⟩;by_cases h:a.k=i
   .left
    rw[h]at h2;exact ⟨_,h2,by cases a;subst h;rfl⟩
   .exact .inr ⟨Y,h2⟩
theorem JX{f g h:Nat->List (Nat×Nat)}{d:Nat}:∀{n i:Nat},(∀j,i<=j->j<i+n->h j=f j++FB d (g j))->(eB h n i).Perm (eB f n i++Yn d (eB g n i))
 |0,i,_=>List.Perm.refl _
 |n+1,i,hh=>by
  rw[eB,eB,eB,hh i Y Y,SQ,JW,SR];have ih:=JX (n:=n) (i:=i+1) (λj h1 h2=>hh j Y Y);refine (List.Perm.append_left _ ih).trans ?_;rw[List.append_assoc,List.append_assoc];refine List.Perm.append_left _ ?_;rw[<-List.append_assoc,<-List.append_assoc];exact List.Perm.append_right _ List.perm_append_comm
theorem vG{f g:Nat->List (Nat×Nat)}:∀{n i:Nat},(∀j,i<=j->j<i+n->f j=g j)->eB f n i=eB g n i
 |0,i,_=>rfl
 |n+1,i,hh=>by
  rw[eB,eB,hh i Y Y,vG (n:=n) (i:=i+1) (λj h1 h2=>hh j Y Y)]
theorem tI{f:Nat->Option Nat}{n:Nat}(hf:∀i t,i<n->f i=some t->i<t/\t<=n):∀(k i:Nat) (p:Nat×Nat),p∈dQ f n k i->(i<=p.1/\p.1<p.2/\p.2<=n)/\f p.1=some p.2
 |0,i,p,h=>by cases h
 |k+1,i,p,h=>by
  rw[dQ]at h;by_cases hi:i<n
  .rw[if_pos hi]at h
   cases v8:f i with
   |none=>
    rw[v8]at h;obtain ⟨h1,h2⟩:=tI hf k (i+1) p h;exact ⟨Y,h2⟩
   |some t=>
    rw[v8]at h;obtain ⟨q1,q2⟩:=hf i t hi v8;rcases List.mem_cons.1 h with rfl|h
    .exact ⟨⟨I,q1,q2⟩,v8⟩
    .obtain ⟨h1,h2⟩:=tI hf k t p h;exact ⟨Y,h2⟩
  .rw[if_neg hi]at h;cases h
theorem EF{m:Mc}{wh:Bool}{bs:List Nat}{p:Nat×Nat}(h:p∈FT m wh bs):(p.1<p.2/\p.2<=bs.length)/\Pd m wh bs p.1=some p.2:=by
 obtain ⟨h1,h2⟩:=tI (λi t hi h=>yE (Nat.le_of_lt hi) h) _ _ p h;exact ⟨h1.2,h2⟩
def lL(L:List Nat->Prop)(bs:List Nat)(A:Nat->Prop)(j:Nat):Prop:=∃i,i<=j/\A i/\L ((bs.take j).drop i)
theorem Hf{bs:List Nat}{i k j:Nat}(h1:i<=k)(h2:k<=j)(h3:j<=bs.length):(bs.take j).drop i=(bs.take k).drop i++(bs.take j).drop k:=by
 have e:bs.take j=bs.take k++(bs.take j).drop k:=by
  have:=(List.take_append_drop k (bs.take j)).symm;rwa [List.take_take,Nat.min_eq_left h2]at this
 have hl:(bs.take k).length=k:=by rw[List.length_take];omega
 conv=>lhs;rw[e]
 rw[List.drop_append_of_le_length Y]
section
variable {L1 L2:List Nat->Prop} {bs:List Nat} {A:Nat->Prop} {j:Nat}
theorem fX(h:∀w,L1 w↔L2 w):lL L1 bs A j↔lL L2 bs A j:=⟨λ⟨i,a,b,c⟩=>⟨i,a,b,(h _).1 c⟩,λ⟨i,a,b,c⟩=>⟨i,a,b,(h _).2 c⟩⟩
theorem Hg(h:j<=bs.length):lL (λw=>∃u v,w=u++v/\L1 u/\L2 v) bs A j↔lL L2 bs (lL L1 bs A) j:=by
 constructor
 .rintro ⟨i,DN,hA,u,v,e,h1,h2⟩;have hlen:=congrArg List.length e;rw[List.length_drop,List.length_take,List.length_append,Nat.min_eq_left h]at hlen;have hc:=Hf (bs:=bs) (i:=i) (k:=i+u.length) (j:=j) Y Y h;rw[e]at hc;have hl:u.length=((bs.take (i+u.length)).drop i).length:=by rw[List.length_drop,List.length_take];omega
  obtain ⟨e1,e2⟩:=List.append_inj hc hl;exact ⟨i+u.length,Y,⟨i,Y,hA,e1▸h1⟩,e2▸h2⟩
 .rintro ⟨k,hkj,⟨i,GY,hA,h1⟩,h2⟩;exact ⟨i,Y,hA,_,_,Hf GY hkj h,h1,h2⟩
theorem Hh(h:j<=bs.length):lL (λw=>w=[]) bs A j↔A j:=by
 constructor
 .rintro ⟨i,DN,hA,e⟩;have hlen:=congrArg List.length e;rw[List.length_drop,List.length_take,Nat.min_eq_left h]at hlen;have:i=j:=by simp at hlen;omega
  exact this▸hA
 .exact λhA=>⟨j,I,hA,List.drop_eq_nil_of_le (by rw[List.length_take];omega)⟩
theorem Yo:lL (λw=>L1 w\/L2 w) bs A j↔lL L1 bs A j\/lL L2 bs A j:=
 ⟨λ⟨i,a,b,c⟩=>c.elim (λc=>.inl ⟨i,a,b,c⟩) (λc=>.inr ⟨i,a,b,c⟩),λh=>h.elim (λ⟨i,a,b,c⟩=>⟨i,a,b,.inl c⟩) (λ⟨i,a,b,c⟩=>⟨i,a,b,.inr c⟩)⟩
theorem Yp:¬lL (λ_=>False) bs A j:=λ⟨_,_,_,c⟩=>c
theorem S0{rs:List (Nat×Nat)}(h:j<=bs.length):lL (λw=>∃c,w=[c]/\lu rs c=true) bs A j↔∃i,∃(hi:i<bs.length),j=i+1/\A i/\lu rs bs[i]=true:=by
 constructor
 .rintro ⟨i,DN,hA,c,e,hc⟩;have hlen:=congrArg List.length e;rw[List.length_drop,List.length_take,Nat.min_eq_left h]at hlen;simp at hlen;have hj:j=i+1:=Y;subst hj;refine ⟨i,Y,rfl,hA,?_⟩;rw[List.take_succ_eq_append_getElem Y,List.drop_append_of_le_length (by rw[List.length_take];omega),List.drop_eq_nil_of_le (by rw[List.length_take];omega)]at e
  simp at e;rw[e];exact hc
 .rintro ⟨i,hi,rfl,hA,hc⟩;refine ⟨i,Y,hA,bs[i],?_,hc⟩;rw[List.take_succ_eq_append_getElem hi,List.drop_append_of_le_length (by rw[List.length_take];omega),List.drop_eq_nil_of_le (by rw[List.length_take];omega)]
  rfl
end
def nP(n:Nat)(A:Nat->Prop)(l:List Bool):Prop:=l.length=n+1/\∀j,j<=n->(l[j]?=some true↔A j)
theorem nP.congr{n:Nat}{A B:Nat->Prop}{l:List Bool}(h:nP n A l)(he:∀j,j<=n->(A j↔B j)):nP n B l:=⟨h.1,λj hj=>(h.2 j hj).trans (he j hj)⟩
theorem nP.no(n:Nat):nP n (λ_=>False) (List.replicate (n+1) false):=⟨ξ,λj hj=>by
 rw[List.getElem?_replicate,if_pos Y];simp⟩
def S1(a b:List Bool):List Bool:=(List.range a.length).map λi=>(a[i]?).getD false || (b[i]?).getD false
theorem nP.or{n:Nat}{A B:Nat->Prop}{a b:List Bool}(h:nP n A a)(g:nP n B b):nP n (λj=>A j\/B j) (S1 a b):=by
 have h1:=h.1;have g1:=g.1;refine ⟨by simp[S1,h1],λj hj=>?_⟩
 have e:(S1 a b)[j]?=some ((a[j]?).getD false || (b[j]?).getD false):=by
  unfold S1;rw[List.getElem?_map,List.getElem?_range Y];rfl
 have ha:a[j]?=some a[j]:=List.getElem?_eq_getElem Y;have hb:b[j]?=some b[j]:=List.getElem?_eq_getElem Y;rw[e,ha,hb];show some _=some true↔(A j\/B j);rw[<-h.2 j hj,<-g.2 j hj,ha,hb];simp
def Hi(a b:List Bool)(k:Nat):List Bool:=(List.range a.length).map λi=>decide (i<k) && ((a[i]?).getD false || (b[i]?).getD false)
theorem Oz(a b:List Bool):Hi a b 0=List.replicate a.length false:=by
 unfold Hi;rw[List.eq_replicate_iff];refine ⟨ξ,λx hx=>?_⟩;obtain ⟨i,-,rfl⟩:=List.mem_map.1 hx;simp
theorem nJ(a b:List Bool)(k:Nat):(Hi a b k).length=a.length:=by simp[Hi]
theorem S2(a b:List Bool):Hi a b a.length=S1 a b:=by
 unfold Hi S1;refine List.map_congr_left λi hi=>?_;simp[List.mem_range.1 hi]
theorem OA(a b:List Bool){k:Nat}(hk:k<a.length):(Hi a b k).set k ((a[k]?).getD false || (b[k]?).getD false)=Hi a b (k+1):=by
 refine List.ext_getElem? λi=>?_;rw[List.getElem?_set];by_cases hi:i<a.length
 .have e:∀m,(Hi a b m)[i]?=some (decide (i<m) && ((a[i]?).getD false || (b[i]?).getD false)):=λm=>by
   unfold Hi;rw[List.getElem?_map,List.getElem?_range hi];rfl
  by_cases GY:k=i
  .subst GY;rw[if_pos rfl,nJ,if_pos hk,e];simp
  .rw[if_neg GY,e,e];have:decide (i<k)=decide (i<k+1):=decide_eq_decide.2 Y;rw[this]
 .rw[List.getElem?_eq_none (l:=Hi a b (k+1)) (by rw[nJ];omega),nJ]
  split
  .omega
  .rw[List.getElem?_eq_none (by rw[nJ];omega)]
def Hj(rs:List (Nat×Nat))(bs:List Nat)(a:List Bool)(k:Nat):List Bool:=(List.range (bs.length+1)).map λi=>decide (0<i/\i<=k) && ((a[i - 1]?).getD false && lu rs ((bs[i - 1]?).getD 0))
theorem jm(rs:List (Nat×Nat))(bs:List Nat)(a:List Bool)(k:Nat):(Hj rs bs a k).length=bs.length+1:=by simp[Hj]
theorem tK(rs:List (Nat×Nat))(bs:List Nat)(a:List Bool)(k:Nat){i:Nat}(hi:i<=bs.length):(Hj rs bs a k)[i]?=some (decide (0<i/\i<=k) && ((a[i - 1]?).getD false && lu rs ((bs[i - 1]?).getD 0))):=by
 unfold Hj;rw[List.getElem?_map,List.getElem?_range Y];rfl
theorem OC(rs:List (Nat×Nat))(bs:List Nat)(a:List Bool):Hj rs bs a 0=List.replicate (bs.length+1) false:=by
 unfold Hj;rw[List.eq_replicate_iff];refine ⟨ξ,λx hx=>?_⟩;obtain ⟨i,-,rfl⟩:=List.mem_map.1 hx;have:decide (0<i/\i<=0)=false:=θ;rw[this];rfl
theorem OD(rs:List (Nat×Nat))(bs:List Nat)(a:List Bool){k:Nat}(hk:k<bs.length):(Hj rs bs a k).set (k+1) ((a[k]?).getD false && lu rs ((bs[k]?).getD 0))=Hj rs bs a (k+1):=by
 refine List.ext_getElem? λi=>?_;rw[List.getElem?_set];by_cases hi:i<=bs.length
 .by_cases GY:k+1=i
  .subst GY;rw[if_pos rfl,jm,if_pos Y,tK _ _ _ _ hi];have:decide (0<k+1/\k+1<=k+1)=true:=τ;rw[this];simp
  .rw[if_neg GY,tK _ _ _ _ hi,tK _ _ _ _ hi];have:decide (0<i/\i<=k)=decide (0<i/\i<=k+1):=decide_eq_decide.2 Y;rw[this]
 .rw[List.getElem?_eq_none (l:=Hj rs bs a (k+1)) (by rw[jm];omega),jm]
  split
  .omega
  .rw[List.getElem?_eq_none (by rw[jm];omega)]
theorem OE{rs:List (Nat×Nat)}{bs:List Nat}{a:List Bool}{A:Nat->Prop}(h:nP bs.length A a):nP bs.length (lL (λw=>∃c,w=[c]/\lu rs c=true) bs A) (Hj rs bs a bs.length):=by
 refine ⟨jm _ _ _ _,λj hj=>?_⟩;rw[S0 hj,tK _ _ _ _ hj];constructor
 .intro e;injection e with e;rw[Bool.and_eq_true,Bool.and_eq_true,decide_eq_true_eq]at e;obtain ⟨⟨h0,-⟩,h1,h2⟩:=e;obtain ⟨i,rfl⟩:∃i,j=i+1:=⟨j - 1,Y⟩;have hi:i<bs.length:=Y;rw[Nat.add_sub_cancel]at h1 h2;rw[List.getElem?_eq_getElem hi]at h2;refine ⟨i,hi,rfl,(h.2 i Y).1 ?_,h2⟩;have hl:=h.1;rw[List.getElem?_eq_getElem Y]at h1|-;exact congrArg some h1
 .rintro ⟨i,hi,rfl,hA,hc⟩;rw[Nat.add_sub_cancel,(h.2 i Y).2 hA,List.getElem?_eq_getElem hi];have:decide (0<i+1/\i+1<=bs.length)=true:=τ;rw[this];simp[hc]
def PH(L:List Nat->Prop)(bs:List Nat)(A:Nat->Prop)(mn:Int)(k:Nat)(j:Nat):Prop:=∃i:Nat,i<k/\mn<=(i:Int)/\lL (kh L i) bs A j
theorem OG{L:List Nat->Prop}{bs:List Nat}{A:Nat->Prop}{mn:Int}{j:Nat}:¬PH L bs A mn 0 j:=λ⟨i,h,_⟩=>Y
theorem S3{L:List Nat->Prop}{bs:List Nat}{A:Nat->Prop}{mn:Int}{k j:Nat}(h:mn<=(k:Int)):PH L bs A mn (k+1) j↔PH L bs A mn k j\/lL (kh L k) bs A j:=by
 constructor
 .rintro ⟨i,h1,h2,h3⟩;by_cases e:i=k
  .subst e;exact .inr h3
  .exact .inl ⟨i,Y,h2,h3⟩
 .rintro (⟨i,h1,h2,h3⟩|h3)
  .exact ⟨i,Y,h2,h3⟩
  .exact ⟨k,Y,h,h3⟩
theorem Yq{L:List Nat->Prop}{bs:List Nat}{A:Nat->Prop}{mn:Int}{k j:Nat}(h:¬mn<=(k:Int)):PH L bs A mn (k+1) j↔PH L bs A mn k j:=by
 constructor
 .rintro ⟨i,h1,h2,h3⟩;by_cases e:i=k
  .subst e;exact absurd h2 h
  .exact ⟨i,Y,h2,h3⟩
 .rintro ⟨i,h1,h2,h3⟩;exact ⟨i,Y,h2,h3⟩
theorem Da{L:List Nat->Prop}{bs:List Nat}{A:Nat->Prop}{k j:Nat}(hj:j<=bs.length):lL (kh L (k+1)) bs A j↔lL L bs (lL (kh L k) bs A) j:=(fX λw=>Iff.rfl).trans (Hg hj)
theorem pow_zero{L:List Nat->Prop}{bs:List Nat}{A:Nat->Prop}{j:Nat}(hj:j<=bs.length):lL (kh L 0) bs A j↔A j:=(fX λw=>Iff.rfl).trans (Hh hj)
theorem OH{k:Nd}{r:List Nd}{rs:List (Nat×Nat)}{mn mx:Int}{bs:List Nat}{A:Nat->Prop}{n j:Nat}(hn:(n:Int)=mx+1):PH (bg k) bs A mn n j↔lL (bg (.mk 4 rs (k::r) mn mx)) bs A j:=by
 have hl:∀w,bg (.mk 4 rs (k::r) mn mx) w↔∃j:Nat,mn<=(j:Int)/\(j:Int)<=mx/\kh (bg k) j w:=λw=>by
  rw[bg]
  rfl
 constructor
 .rintro ⟨i,h1,h2,a,h3,h4,h5⟩;exact ⟨a,h3,h4,(hl _).2 ⟨i,h2,Y,h5⟩⟩
 .rintro ⟨a,h3,h4,h5⟩;obtain ⟨i,h6,h7,h8⟩:=(hl _).1 h5;exact ⟨i,Y,h6,a,h3,h4,h8⟩
theorem OI{rs:List (Nat×Nat)}{kids:List Nd}{mn mx:Int}(w:List Nat):bg (.mk 1 rs kids mn mx) w↔∃c,w=[c]/\lu rs c=true:=by
 rw[bg]
 rfl
theorem OJ{rs:List (Nat×Nat)}{kids:List Nd}{mn mx:Int}(w:List Nat):bg (.mk 2 rs kids mn mx) w↔iQ kids w:=by
 rw[bg]
 rfl
theorem OL{rs:List (Nat×Nat)}{kids:List Nd}{mn mx:Int}(w:List Nat):bg (.mk 3 rs kids mn mx) w↔fM kids w:=by
 rw[bg]
 rfl
theorem OM{kids:List Nd}{k:Nat}(hk:k<kids.length){bs:List Nat}{A:Nat->Prop}{j:Nat}(hj:j<=bs.length):lL (iQ (kids.take (k+1))) bs A j↔lL (bg kids[k]) bs (lL (iQ (kids.take k)) bs A) j:=by
 rw[List.take_succ_eq_append_getElem hk];exact (fX λw=>kV _ _ w).trans (Hg hj)
theorem OO{kids:List Nd}{k:Nat}(hk:k<kids.length){bs:List Nat}{A:Nat->Prop}{j:Nat}:lL (fM (kids.take (k+1))) bs A j↔lL (fM (kids.take k)) bs A j\/lL (bg kids[k]) bs A j:=by
 rw[List.take_succ_eq_append_getElem hk];exact (fX λw=>oY _ _ w).trans Yo
end Go.Proofs.YtdmoogjddmdmbaaGreatDoor
