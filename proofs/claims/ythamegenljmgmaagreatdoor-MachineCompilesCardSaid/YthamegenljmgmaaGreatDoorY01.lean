/- Walks. -/
import Derived.Lib.Hide
import Derived.KernelRfl
import Derived.RowKit3
import Derived.Laws.Rows
set_option maxRecDepth 100000
set_option maxHeartbeats 16000000
set_option linter.unusedVariables false
set_option linter.unusedSimpArgs false
namespace Go.RowKit
theorem Hid.o {p:Prop} (h:Hid p):p:=h
theorem Below.cl {B:Nat} {w v:World} (g k:Nat) (h:Below B w v) (q:g<B):v.cell? ⟨g,k,none⟩=w.cell? ⟨g,k,none⟩:=h.cell (p:=⟨g,k,none⟩) q
theorem Below.t {B:Nat} {a b c:World} (h:Below B a b) (k:Below B b c):Below B a c:=h.trans k
theorem _root_.Eq.t {α:Sort _} {a b c:α} (h:a=b) (k:b=c):a=c:=h.trans k
theorem _root_.Iff.t {a b c:Prop} (h:a↔b) (k:b↔c):a↔c:=h.trans k
theorem Below.sc {B:Nat} {a w:World} (g k:Nat) (h:Below B a w) (q:B<=g) (u:Value):Below B a (w.setCell ⟨g,k,none⟩ u):=h.setCell (p:=⟨g,k,none⟩) q u
end Go.RowKit
namespace Go.Proofs.YthamegenljmgmaaGreatDoor
open Go.RowKit
instance:Coe World Nat:=⟨λw=>w.heap.size⟩
structure Ω where
 a:Nat
 b:Nat
def Z (a b:Nat):Ω:=⟨a,b⟩
instance (a b:Nat):CoeDep Ω (Z a b) Addr:=⟨⟨a,b,none⟩⟩
instance (a b:Nat):CoeDep Ω (Z a b) (Option Addr):=⟨some ⟨a,b,none⟩⟩
instance (a b:Nat):CoeDep (Nat×Nat) (a,b) Addr:=⟨⟨a,b,none⟩⟩
instance (a b:Nat):CoeDep (Nat×Nat) (a,b) (Option Addr):=⟨some ⟨a,b,none⟩⟩
theorem U {p:Prop} (h:p:=by omega):p:=h
theorem O {p:Prop} (h:p:=by decide):p:=h
theorem R {p:Prop} (h:p:=by kernel_rfl):p:=h
theorem H {p:Prop} (h:p:=by simp):p:=h
theorem ψ {p:Prop} (h:p:=by simp;omega):p:=h
theorem τ {p:Prop} [Decidable p] (h:p:=by omega):decide p=true:=decide_eq_true h
theorem θ {p:Prop} [Decidable p] (h:¬p:=by omega):decide p=false:=decide_eq_false h
theorem Y {p:Prop} (h:p):Hid p:=h
theorem I {a b:Prop} (x:a) (y:b):a/\b:=⟨x,y⟩
theorem V {n:Nat}:n<=n:=Nat.le_refl n
theorem D {B:Nat} {w:World}:Below B w w:=Below.refl B w
theorem γ {α:Type} {l:Array α} {i:Nat} {b:α} (h:l[i]?=some b):∃h:i<l.size,l[i]=b:=Array.getElem?_eq_some_iff.1 h
theorem χ {w v:World} (g k:Nat) (h:v.heap[g]?=w.heap[g]?):v.cell? ⟨g,k,none⟩=w.cell? ⟨g,k,none⟩:=World.cell?_of_block (a:=⟨g,k,none⟩) h
theorem dk{α:Type}(l:List α)(i:Nat)(a:α):l.toArray.setIfInBounds i a=(l.set i a).toArray:=by simp
theorem dm{α:Type}(l:List α)(a b:α):(a::l).set 0 b=b::l:=rfl
theorem dn{α:Type}(l:List α)(a b:α)(n:Nat):(a::l).set (n+1) b=a::l.set n b:=rfl
theorem ck{α:Type}(l:List α)(a:α)(n:Nat):(a::l).take (n+1)=a::l.take n:=rfl
theorem ct{α:Type}(l:List α):l.take 0=[]:=rfl
theorem Φ{w:World}{g j:Nat}{cs:Array Value}{t:TypeId}{fr:Nat×Nat}(h:w.heap[g]?=some (.cells cs t fr)):w.cell? ⟨g,j,none⟩=cs[j]?:=cell_of_row _ _ _ _ _ _ h
theorem Ψ{w:World}{g k:Nat}{cs:Array Value}{t:TypeId}(h:w.heap[g]?=some (.cells cs t (0,0))):w.frozen? ⟨g,k,none⟩=false:=by simp[World.frozen?,h]
instance:Coe Unit Value:=⟨λ_=>.slice none 0 0⟩
instance:Coe Int Value:=⟨λi=>.int .i64 i⟩
theorem ν {α:Type} (e:α):∃x,e=x:=⟨_,rfl⟩
end Go.Proofs.YthamegenljmgmaaGreatDoor
namespace Go.Proofs.YthamegenljmgmaaGreatDoor
open Go.RowKit
structure Pb where
 sets:List (List (Nat×Nat))
 fol:List (List Nat)
structure cI where
 first:List Nat
 last:List Nat
 emp:Bool
def qq(l:List (Nat×Nat))(c:Nat):Bool:=l.any λr=>decide (r.1<=c) && decide (c<=r.2)
def cH(b:Pb)(q c:Nat):Bool:=qq ((b.sets[q]?).getD []) c
def cN(b:Pb)(q:Nat):List Nat:=(b.fol[q]?).getD []
def wk(b:Pb)(last:List Nat):List Nat->Nat->Prop
 | [],q=>q∈last
 |c::w,q=>∃q'∈cN b q,cH b q' c=true/\wk b last w q'
def LP(b:Pb)(x:cI):List Nat->Prop
 | []=>x.emp=true
 |c::w=>∃q∈x.first,cH b q c=true/\wk b x.last w q
def jd(l:List Nat):List Nat->List (List Nat)->List (List Nat)
 | [],fol=>fol
 |p::r,fol=>jd l r (fol.set p ((fol[p]?).getD []++l))
theorem eT(l:List Nat):∀(ps:List Nat) (fol:List (List Nat)),(jd l ps fol).length=fol.length
 | [],_=>rfl
 |p::r,fol=>by rw[jd,eT l r];simp
theorem B5(l:List Nat):∀(ps:List Nat) (fol:List (List Nat)) (p q:Nat),(∀x∈ps,x<fol.length)->(q∈((jd l ps fol)[p]?).getD []↔q∈(fol[p]?).getD []\/(p∈ps/\q∈l))
 | [],fol,p,q,_=>by simp[jd]
 |a::r,fol,p,q,h=>by
  rw[jd,B5 l r _ p q (λx hx=>by simpa using h x (by simp[hx]))]
  have ha:=h a H;by_cases hp:a=p
  .subst hp;rw[List.getElem?_set_self ha];simp only[Option.getD_some,List.mem_append,List.mem_cons,true_or,true_and];constructor
   .rintro ((h|h)|⟨-,h⟩)
    .exact .inl h
    .exact .inr h
    .exact .inr h
   .rintro (h|h)
    .exact .inl (.inl h)
    .exact .inl (.inr h)
  .rw[List.getElem?_set_ne hp];simp only[List.mem_cons];constructor
   .rintro (h|⟨h1,h2⟩)
    .exact .inl h
    .exact .inr ⟨.inr h1,h2⟩
   .rintro (h|⟨rfl|h1,h2⟩)
    .exact .inl h
    .exact absurd rfl hp
    .exact .inr ⟨h1,h2⟩
def cO(b:Pb)(x y:cI):Pb:={ b with fol:=jd y.first x.last b.fol }
def bD(x y:cI):cI:={ first:=if x.emp then x.first++y.first else x.first,last:=if y.emp then x.last++y.last else y.last,emp:=x.emp && y.emp }
def kK(x y:cI):cI:={ first:=x.first++y.first,last:=x.last++y.last,emp:=x.emp || y.emp }
structure cX (b:Pb) (s e:Nat) (x:cI):Prop where
 se:s<=e
 size:e<=b.fol.length
 fst:∀p∈x.first,s<=p/\p<e
 iW:∀p∈x.last,s<=p/\p<e
 cls:∀p,s<=p->p<e->∀q∈cN b p,s<=q/\q<e
theorem fF{b:Pb}{x y:cI}(h:∀p∈x.last,p<b.fol.length)(p q:Nat):q∈cN (cO b x y) p↔q∈cN b p\/(p∈x.last/\q∈y.first):=B5 _ _ _ _ _ h
theorem qX{b b':Pb}{s e:Nat}{last:List Nat}(hl:∀p∈last,s<=p/\p<e)(aH:∀p,s<=p->p<e->∀c,cH b' p c=cH b p c)
  (bI:∀p,s<=p->p<e->∀q,s<=q->q<e->(q∈cN b' p↔q∈cN b p)) (dj:∀p,s<=p->p<e->∀q∈cN b p,s<=q/\q<e)
  (fB:∀p,s<=p->∀q∈cN b' p,s<=q) (py:∀p,e<=p->∀q∈cN b' p,e<=q):∀(w:List Nat) (q:Nat),s<=q->(wk b' last w q↔(q<e/\wk b last w q))
 | [],q,_=>⟨λh=>⟨(hl q h).2,h⟩,λh=>h.2⟩
 |c::w,q,hq=>by
  unfold wk;constructor
  .rintro ⟨q',h1,h2,h3⟩;have hs:=fB q hq q' h1;obtain ⟨aB,h4⟩:=(qX hl aH bI dj fB py w q' hs).1 h3;have Kk:q<e:=by
    by_cases Kk:q<e
    .exact Kk
    .have:=py q U q' h1;omega
   exact ⟨Kk,q',(bI q hq Kk q' hs aB).1 h1,by rw[<-aH q' hs aB];exact h2,h4⟩
  .rintro ⟨Kk,q',h1,h2,h3⟩;obtain ⟨hs,aB⟩:=dj q hq Kk q' h1;exact ⟨q',(bI q hq Kk q' hs aB).2 h1,by rw[aH q' hs aB];exact h2,(qX hl aH bI dj fB py w q' hs).2 ⟨aB,h3⟩⟩
theorem jG{b:Pb}{s m e:Nat}{x y:cI}(hx:cX b s m x)(hy:cX b m e y):∀(w:List Nat) (q:Nat),m<=q->q<e->(wk (cO b x y) (bD x y).last w q↔wk b y.last w q)
 | [],q,h1,_=>by
  unfold wk bD;simp only
  cases y.emp with
  |false=>simp
  |true=>
   simp only[if_true,List.mem_append];exact ⟨λh=>h.elim (λh=>by have:=(hx.iW q h).2;omega) id,.inr⟩
 |c::w,q,h1,h2=>by
  unfold wk;constructor
  .rintro ⟨q',g1,g2,g3⟩;rcases (fF (λp hp=>by have:=(hx.iW p hp).2;have:=hx.size;omega) q q').1 g1 with g|⟨g,-⟩
   .obtain ⟨i1,i2⟩:=hy.cls q h1 h2 q' g;exact ⟨q',g,g2,(jG hx hy w q' i1 i2).1 g3⟩
   .have:=(hx.iW q g).2;omega
  .rintro ⟨q',g1,g2,g3⟩;obtain ⟨i1,i2⟩:=hy.cls q h1 h2 q' g1;exact ⟨q',(fF (λp hp=>by have:=(hx.iW p hp).2;have:=hx.size;omega) q q').2 (.inl g1),g2,(jG hx hy w q' i1 i2).2 g3⟩
theorem qY{b:Pb}{s m e:Nat}{x y:cI}(hx:cX b s m x)(hy:cX b m e y):∀(w:List Nat) (q:Nat),s<=q->q<m->(wk (cO b x y) (bD x y).last w q↔∃u v,w=u++v/\wk b x.last u q/\LP b y v)
 | [],q,_,h2=>by
  unfold wk bD;simp only;constructor
  .intro h
   cases he:y.emp with
   |false=>
    rw[he]at h;have:=(hy.iW q (by simpa using h)).1
    omega
   |true=>
    rw[he]at h;simp only[if_true,List.mem_append]at h;refine ⟨[],[],rfl,?_,he⟩;exact h.elim id λh=>by have:=(hy.iW q h).1;omega
  .rintro ⟨u,v,h,h3,h4⟩;obtain ⟨rfl,rfl⟩:=List.append_eq_nil_iff.1 h.symm;have he:y.emp=true:=h4;rw[he];simp only[if_true,List.mem_append];exact .inl h3
 |c::w,q,h1,h2=>by
  have tF:=fF (b:=b) (x:=x) (y:=y) (λp hp=>by have:=(hx.iW p hp).2;have:=hx.size;have:=hx.se;omega) q
  constructor
  .intro h;unfold wk at h;obtain ⟨q',g1,g2,g3⟩:=h;rcases (tF q').1 g1 with g|⟨g,g'⟩
   .obtain ⟨i1,i2⟩:=hx.cls q h1 h2 q' g;obtain ⟨u,v,rfl,j1,j2⟩:=(qY hx hy w q' i1 i2).1 g3;exact ⟨c::u,v,rfl,⟨q',g,g2,j1⟩,j2⟩
   .obtain ⟨i1,i2⟩:=hy.fst q' g';exact ⟨[],c::w,rfl,g,q',g',g2,(jG hx hy w q' i1 i2).1 g3⟩
  .rintro ⟨u,v,h,j1,j2⟩;unfold wk
   cases u with
   |nil=>
    rw[List.nil_append]at h;subst h;obtain ⟨q',g1,g2,g3⟩:=j2;obtain ⟨i1,i2⟩:=hy.fst q' g1;exact ⟨q',(tF q').2 (.inr ⟨j1,g1⟩),g2,(jG hx hy w q' i1 i2).2 g3⟩
   |cons a u=>
    injection h with h3 h4;subst h3 h4;obtain ⟨q',g1,g2,g3⟩:=j1;obtain ⟨i1,i2⟩:=hx.cls q h1 h2 q' g1;exact ⟨q',(tF q').2 (.inl g1),g2,(qY hx hy _ q' i1 i2).2 ⟨u,v,rfl,g3,j2⟩⟩
theorem Bi{b:Pb}{s m e:Nat}{x y:cI}(hx:cX b s m x)(hy:cX b m e y):cX (cO b x y) s e (bD x y):=by
 have h1:=hx.se;have h2:=hy.se;refine ⟨U,by unfold cO;rw[eT];exact hy.size,λp hp=>?_,λp hp=>?_,λp C7 tW q hq=>?_⟩
 .unfold bD at hp;simp only at hp;split at hp
  .rcases List.mem_append.1 hp with h|h
   .have:=hx.fst p h;omega
   .have:=hy.fst p h;omega
  .have:=hx.fst p hp;omega
 .unfold bD at hp;simp only at hp;split at hp
  .rcases List.mem_append.1 hp with h|h
   .have:=hx.iW p h;omega
   .have:=hy.iW p h;omega
  .have:=hy.iW p hp;omega
 .rcases (fF (λp hp=>by have:=(hx.iW p hp).2;have:=hx.size;omega) p q).1 hq with h|⟨h,h'⟩
  .by_cases Hn:p<m
   .have:=hx.cls p C7 Hn q h;omega
   .have:=hy.cls p U tW q h;omega
  .have:=hy.fst q h';omega
theorem Mh{b:Pb}{s m e:Nat}{x y:cI}(hx:cX b s m x)(hy:cX b m e y)(w:List Nat):LP (cO b x y) (bD x y) w↔∃u v,w=u++v/\LP b x u/\LP b y v:=by
 cases w with
 |nil=>
  show (x.emp && y.emp)=true↔_;rw[Bool.and_eq_true];constructor
  .rintro ⟨h1,h2⟩;exact ⟨[],[],rfl,h1,h2⟩
  .rintro ⟨u,v,h,h1,h2⟩;obtain ⟨rfl,rfl⟩:=List.append_eq_nil_iff.1 h.symm;exact ⟨h1,h2⟩
 |cons c w=>
  have hf:∀q,q∈(bD x y).first↔q∈x.first\/(x.emp=true/\q∈y.first):=λq=>by
   unfold bD;simp only
   cases x.emp <;> simp
  constructor
  .rintro ⟨q,h1,h2,h3⟩;rcases (hf q).1 h1 with h|⟨h,h'⟩
   .obtain ⟨i1,i2⟩:=hx.fst q h;obtain ⟨u,v,rfl,j1,j2⟩:=(qY hx hy w q i1 i2).1 h3;exact ⟨c::u,v,rfl,⟨q,h,h2,j1⟩,j2⟩
   .obtain ⟨i1,i2⟩:=hy.fst q h';exact ⟨[],c::w,rfl,h,q,h',h2,(jG hx hy w q i1 i2).1 h3⟩
  .rintro ⟨u,v,h,j1,j2⟩
   cases u with
   |nil=>
    rw[List.nil_append]at h;subst h;obtain ⟨q,g1,g2,g3⟩:=j2;obtain ⟨i1,i2⟩:=hy.fst q g1;exact ⟨q,(hf q).2 (.inr ⟨j1,g1⟩),g2,(jG hx hy w q i1 i2).2 g3⟩
   |cons a u=>
    injection h with h3 h4;subst h3 h4;obtain ⟨q,g1,g2,g3⟩:=j1;obtain ⟨i1,i2⟩:=hx.fst q g1;exact ⟨q,(hf q).2 (.inl g1),g2,(qY hx hy _ q i1 i2).2 ⟨u,v,rfl,g3,j2⟩⟩
structure Au where
 em:Prop
 P:List Nat->Prop
 fi:List Nat->Prop
 la:List Nat->Prop
 fo:List Nat->List Nat->Prop
 sr:List Nat->Nat->Prop
instance alD:Inhabited Au:=⟨⟨False,λ_=>False,λ_=>False,λ_=>False,λ_ _=>False,λ_ _=>False⟩⟩
def yS(rs:List (Nat×Nat)):Au:=⟨False,λπ=>π=[],λπ=>π=[],λπ=>π=[],λ_ _=>False,λπ c=>π=[]/\qq rs c=true⟩
def eG(n:Nat)(F:Nat->Au):Au where
 em:=∀k,k<n->(F k).em
 P | []=>False|k::π=>k<n/\(F k).P π
 fi | []=>False|k::π=>k<n/\(F k).fi π/\∀j,j<k->(F j).em
 la | []=>False|k::π=>k<n/\(F k).la π/\∀j,k<j->j<n->(F j).em
 fo|k::π,l::ρ=>k<n/\l<n/\((k=l/\(F k).fo π ρ)\/(k<l/\(F k).la π/\(F l).fi ρ/\∀j,k<j->j<l->(F j).em))|_,_=>False
 sr | [],_=>False|k::π,c=>k<n/\(F k).sr π c
def mw(n:Nat)(F:Nat->Au):Au where
 em:=∃k,k<n/\(F k).em
 P | []=>False|k::π=>k<n/\(F k).P π
 fi | []=>False|k::π=>k<n/\(F k).fi π
 la | []=>False|k::π=>k<n/\(F k).la π
 fo|k::π,l::ρ=>k<n/\k=l/\(F k).fo π ρ|_,_=>False
 sr | [],_=>False|k::π,c=>k<n/\(F k).sr π c
def nt(mn n i:Nat)(A:Au):Au where
 em:=A.em\/mn<=i
 P | []=>False|k::π=>i<=k/\k<n/\A.P π
 fi | []=>False|k::π=>i<=k/\k<n/\A.fi π/\(k=i\/A.em)
 la | []=>False|k::π=>i<=k/\k<n/\A.la π/\(mn<=k+1\/A.em)
 fo|k::π,l::ρ=>i<=k/\l<n/\((k=l/\A.fo π ρ)\/(k<l/\A.la π/\A.fi ρ/\(l=k+1\/A.em)))|_,_=>False
 sr | [],_=>False|k::π,c=>i<=k/\k<n/\A.sr π c
structure kI (L:Nat->List Nat) (b:Pb) (s e:Nat) (x:cI) (A:Au):Prop where
 inj:∀p q,s<=p->p<e->s<=q->q<e->L p=L q->p=q
 uA:∀π,A.P π->∃p,s<=p/\p<e/\L p=π
 pos:∀p,s<=p->p<e->A.P (L p)
 em:x.emp=true↔A.em
 fi:∀p,s<=p->p<e->(p∈x.first↔A.fi (L p))
 la:∀p,s<=p->p<e->(p∈x.last↔A.la (L p))
 fo:∀p q,s<=p->p<e->s<=q->q<e->(q∈cN b p↔A.fo (L p) (L q))
 sr:∀p c,s<=p->p<e->(cH b p c=true↔A.sr (L p) c)
def KJ(L1 L2:Nat->List Nat)(m n:Nat)(p:Nat):List Nat:=if p<m then L1 p else n::L2 p
theorem kI.glue{L1 L2:Nat->List Nat}{b1 b2 b:Pb}{s m e n:Nat}{x y z:cI}{A1 A2 B:Au}(h1:kI L1 b1 s m x A1)(h2:kI L2 b2 m e y A2)
  (hP:∀π,B.P π↔A1.P π\/∃ρ,π=n::ρ/\A2.P ρ) (hd:∀ρ,¬A1.P (n::ρ)) (eg:s<=m) (Zu:m<=e)
  (SI:z.emp=true↔B.em)
  (fi1:∀p,s<=p->p<m->(p∈z.first↔B.fi (L1 p))) (fi2:∀p,m<=p->p<e->(p∈z.first↔B.fi (n::L2 p)))
  (la1:∀p,s<=p->p<m->(p∈z.last↔B.la (L1 p))) (la2:∀p,m<=p->p<e->(p∈z.last↔B.la (n::L2 p)))
  (af2:∀p q,s<=p->p<m->s<=q->q<m->(q∈cN b p↔B.fo (L1 p) (L1 q))) (af3:∀p q,s<=p->p<m->m<=q->q<e->(q∈cN b p↔B.fo (L1 p) (n::L2 q)))
  (af4:∀p q,m<=p->p<e->s<=q->q<m->(q∈cN b p↔B.fo (n::L2 p) (L1 q))) (af5:∀p q,m<=p->p<e->m<=q->q<e->(q∈cN b p↔B.fo (n::L2 p) (n::L2 q)))
  (sr1:∀p c,s<=p->p<m->(cH b p c=true↔B.sr (L1 p) c)) (sr2:∀p c,m<=p->p<e->(cH b p c=true↔B.sr (n::L2 p) c)):kI (KJ L1 L2 m n) b s e z B:=by
 have g1:∀p,p<m->KJ L1 L2 m n p=L1 p:=λp h=>if_pos h;have g2:∀p,m<=p->KJ L1 L2 m n p=n::L2 p:=λp h=>if_neg U;refine ⟨λp q p1 p2 q1 q2 h=>?_,λπ h=>?_,λp p1 p2=>?_,SI,λp p1 p2=>?_,λp p1 p2=>?_,λp q p1 p2 q1 q2=>?_,λp c p1 p2=>?_⟩
 .by_cases hp:p<m
  .by_cases hq:q<m
   .rw[g1 p hp,g1 q hq]at h;exact h1.inj p q p1 hp q1 hq h
   .rw[g1 p hp,g2 q U]at h;exact absurd (h▸h1.pos p p1 hp) (hd _)
  .by_cases hq:q<m
   .rw[g1 q hq,g2 p U]at h;exact absurd (h.symm▸h1.pos q q1 hq) (hd _)
   .rw[g2 p U,g2 q U]at h;injection h with _ h;exact h2.inj p q U p2 U q2 h
 .rcases (hP π).1 h with h|⟨ρ,rfl,hρ⟩
  .obtain ⟨p,p1,p2,p3⟩:=h1.uA π h;exact ⟨p,p1,U,by rw[g1 p p2];exact p3⟩
  .obtain ⟨p,p1,p2,p3⟩:=h2.uA ρ hρ;exact ⟨p,U,p2,by rw[g2 p p1,p3]⟩
 .by_cases hp:p<m
  .rw[g1 p hp];exact (hP _).2 (.inl (h1.pos p p1 hp))
  .rw[g2 p U];exact (hP _).2 (.inr ⟨_,rfl,h2.pos p U p2⟩)
 .by_cases hp:p<m
  .rw[g1 p hp];exact fi1 p p1 hp
  .rw[g2 p U];exact fi2 p U p2
 .by_cases hp:p<m
  .rw[g1 p hp];exact la1 p p1 hp
  .rw[g2 p U];exact la2 p U p2
 .by_cases hp:p<m
  .by_cases hq:q<m
   .rw[g1 p hp,g1 q hq];exact af2 p q p1 hp q1 hq
   .rw[g1 p hp,g2 q U];exact af3 p q p1 hp U q2
  .by_cases hq:q<m
   .rw[g2 p U,g1 q hq];exact af4 p q U p2 q1 hq
   .rw[g2 p U,g2 q U];exact af5 p q U p2 U q2
 .by_cases hp:p<m
  .rw[g1 p hp];exact sr1 p c p1 hp
  .rw[g2 p U];exact sr2 p c U p2
structure Mk (b b':Pb) (x:cI) (A:Au):Prop where
 len:b'.sets.length=b'.fol.length
 sets:∃ns,b'.sets=b.sets++ns
 fol:∃nf,b'.fol=b.fol++nf
 bP:cX b' b.fol.length b'.fol.length x
 uB:∃L,kI L b' b.fol.length b'.fol.length x A
section
variable {b b1 b2 b':Pb} {x y:cI} {A A':Au} {n:Nat} {F:Nat->Au}
theorem Mk.kJ(h:Mk b b' x A)(hl:b.sets.length=b.fol.length){p:Nat}(hp:p<b.fol.length)(c:Nat):cH b' p c=cH b p c:=by
 obtain ⟨ns,hs⟩:=h.sets;unfold cH;rw[hs,List.getElem?_append_left U]
theorem Mk.jN(h:Mk b b' x A){p:Nat}(hp:p<b.fol.length):cN b' p=cN b p:=by
 obtain ⟨nf,hf⟩:=h.fol;unfold cN;rw[hf,List.getElem?_append_left hp]
theorem cX.Dx{z:cI}{s e:Nat}(hx:cX b s e z)(h:Mk b b' x A)(he:e=b.fol.length):cX b' s e z:=by
 have hg:=h.bP.size;have hs:=h.bP.se;refine ⟨hx.se,U,hx.fst,hx.iW,λp h1 h2 q hq=>?_⟩;rw[h.jN U]at hq;exact hx.cls p h1 h2 q hq
theorem Mk.set(b:Pb)(hl:b.sets.length=b.fol.length)(rs:List (Nat×Nat)):Mk b ⟨b.sets++[rs],b.fol++[[]]⟩ ⟨[b.sets.length],[b.sets.length],false⟩ (yS rs):=by
 have aH:∀c,cH ⟨b.sets++[rs],b.fol++[[]]⟩ b.sets.length c=qq rs c:=λc=>by unfold cH;simp
 have tF:cN ⟨b.sets++[rs],b.fol++[[]]⟩ b.sets.length=[]:=by unfold cN;simp[hl]
 have one:∀p,b.fol.length<=p->p<(⟨b.sets++[rs],b.fol++[[]]⟩:Pb).fol.length->p=b.sets.length:=λp h1 h2=>by simp at h2;omega
 refine ⟨by simp[hl],⟨_,rfl⟩,⟨_,rfl⟩,⟨H,H,by simp[hl],by simp[hl],λp h1 h2 q hq=>?_⟩,λ_=>[],λp q p1 p2 q1 q2 _=>?_,λπ h=>⟨b.sets.length,U,by simp[hl],h.symm⟩,λp _ _=>rfl,by simp[yS],λp p1 p2=>?_,λp p1 p2=>?_,λp q p1 p2 q1 q2=>?_,λp c p1 p2=>?_⟩
 .rw[one p h1 h2,tF]at hq;cases hq
 .rw[one p p1 p2,one q q1 q2]
 .simp[yS,one p p1 p2]
 .simp[yS,one p p1 p2]
 .rw[one p p1 p2,tF];simp[yS]
 .rw[one p p1 p2,aH];simp[yS]
theorem Mk.nil(b:Pb)(hl:b.sets.length=b.fol.length)(hA:∀π,¬A.P π)(he:A.em):Mk b b ⟨[],[],true⟩ A:=
 ⟨hl,⟨[],H⟩,⟨[],H⟩,⟨V,V,H,H,λp h1 h2=>U⟩,λ_=>[],λp q p1 p2=>U,λπ h=>absurd h (hA π),λp p1 p2=>U,by simp[he],λp p1 p2=>U,λp p1 p2=>U,λp q p1 p2=>U,λp c p1 p2=>U⟩
theorem Bh(l:List Nat)(k:Nat):∀(ps:List Nat) (fol:List (List Nat)),(∀p∈ps,k<=p)->(jd l ps fol).take k=fol.take k
 | [],_,_=>rfl
 |a::r,fol,h=>by rw[jd,Bh l k r _ (λp hp=>h p (by simp[hp])),List.take_set_of_le (h a H)]
theorem FM{k:Nat}(hl:k<=b2.fol.length)(h:∀p∈x.last,k<=p){f:List (List Nat)}(hf:b2.fol.take k=f):(cO b2 x y).fol=f++(cO b2 x y).fol.drop k:=by
 have:(cO b2 x y).fol.take k=f:=by unfold cO;rw[Bh _ _ _ _ h];exact hf
 rw[<-this,List.take_append_drop]
theorem qC(b:Pb)(x y:cI)(p c:Nat):cH (cO b x y) p c=cH b p c:=rfl
theorem od{x y:cI}{p:Nat}:p∈(bD x y).first↔p∈x.first\/(x.emp=true/\p∈y.first):=by
 unfold bD; simp only; cases x.emp <;> simp
theorem oe{x y:cI}{p:Nat}:p∈(bD x y).last↔p∈y.last\/(y.emp=true/\p∈x.last):=by
 unfold bD; simp only; cases y.emp <;> simp[or_comm]
theorem kI.KL{L1 L2:Nat->List Nat}{s m e:Nat}(h1:kI L1 b1 s m x (eG n F))(h2:kI L2 b2 m e y (F n))(g1:cX b2 s m x)(g2:cX b2 m e y)
  (hf:∀p,p<m->cN b2 p=cN b1 p) (hs:∀p c,p<m->cH b2 p c=cH b1 p c):kI (KJ L1 L2 m n) (cO b2 x y) s e (bD x y) (eG (n+1) F):=by
 have fo:=fF (b:=b2) (x:=x) (y:=y) (λp hp=>by have:=(g1.iW p hp).2;have:=g2.size;have:=g2.se;omega)
 have hx:∀p,s<=p->p<m->∃k π,L1 p=k::π/\k<n/\(F k).P π:=λp p1 p2=>by
  have:=h1.pos p p1 p2
  cases hL:L1 p with
  |nil=>rw[hL]at this;exact this.elim
  |cons k π=>rw[hL]at this;exact ⟨k,π,rfl,this⟩
 have ny:∀{p},p<m->p∉y.first:=λhp h=>by have:=(g2.fst _ h).1;omega
 have ny':∀{p},p<m->p∉y.last:=λhp h=>by have:=(g2.iW _ h).1;omega
 have nx:∀{p},m<=p->p∉x.first:=λhp h=>by have:=(g1.fst _ h).2;omega
 have Uk:∀{p},m<=p->p∉x.last:=λhp h=>by have:=(g1.iW _ h).2;omega
 refine kI.glue h1 h2 (λπ=>?_) (λρ h=>by have:=h.1;omega) g1.se g2.se ?_ (λp p1 p2=>?_) (λp p1 p2=>?_) (λp p1 p2=>?_) (λp p1 p2=>?_) (λp q p1 p2 q1 q2=>?_) (λp q p1 p2 q1 q2=>?_) (λp q p1 p2 q1 q2=>?_) (λp q p1 p2 q1 q2=>?_) (λp c p1 p2=>?_) (λp c p1 p2=>?_)
 .cases π with
  |nil=>simp[eG]
  |cons k π=>
   simp only[eG,List.cons.injEq];constructor
   .rintro ⟨h,h3⟩;by_cases hk:k=n
    .subst hk;exact .inr ⟨π,⟨rfl,rfl⟩,h3⟩
    .exact .inl ⟨U,h3⟩
   .rintro (⟨h,h3⟩|⟨ρ,⟨rfl,rfl⟩,h3⟩)
    .exact ⟨U,h3⟩
    .exact ⟨U,h3⟩
 .show (x.emp && y.emp)=true↔_;rw[Bool.and_eq_true,h1.em,h2.em];constructor
  .rintro ⟨h3,h4⟩ k hk;by_cases jC:k=n
   .subst jC;exact h4
   .exact h3 k U
  .exact λh=>⟨λk hk=>h k U,h n U⟩
 .rw[od,h1.fi p p1 p2];obtain ⟨k,π,hL,hk,-⟩:=hx p p1 p2;rw[hL];simp only[eG];constructor
  .rintro (⟨-,h⟩|⟨-,h⟩)
   .exact ⟨U,h⟩
   .exact absurd h (ny p2)
  .exact λh=>.inl ⟨hk,h.2⟩
 .rw[od,h2.fi p p1 p2,h1.em];simp only[eG];constructor
  .rintro (h|⟨h,h3⟩)
   .exact absurd h (nx p1)
   .exact ⟨U,h3,h⟩
  .exact λh=>.inr ⟨h.2.2,h.2.1⟩
 .rw[oe,h1.la p p1 p2,h2.em];obtain ⟨k,π,hL,hk,-⟩:=hx p p1 p2;rw[hL];simp only[eG];constructor
  .rintro (h|⟨h,h3,h4,h5⟩)
   .exact absurd h (ny' p2)
   .refine ⟨U,h4,λj h6 h7=>?_⟩;by_cases hj:j=n
    .subst hj;exact h
    .exact h5 j h6 U
  .exact λ⟨_,h4,h5⟩=>.inr ⟨h5 n U U,hk,h4,λj h6 h7=>h5 j h6 U⟩
 .rw[oe,h2.la p p1 p2];simp only[eG];constructor
  .rintro (h|⟨-,h⟩)
   .exact ⟨U,h,λj h6 h7=>U⟩
   .exact absurd h (Uk p1)
  .exact λh=>.inl h.2.1
 .rw[fo,hf p p2,h1.fo p q p1 p2 q1 q2];obtain ⟨k,π,hL,hk,-⟩:=hx p p1 p2;obtain ⟨l,ρ,hM,hl,-⟩:=hx q q1 q2;rw[hL,hM];simp only[eG];constructor
  .rintro (h|⟨-,h⟩)
   .exact ⟨U,U,h.2.2⟩
   .exact absurd h (ny q2)
  .exact λh=>.inl ⟨hk,hl,h.2.2⟩
 .rw[fo,h1.la p p1 p2,h2.fi q q1 q2];obtain ⟨k,π,hL,hk,-⟩:=hx p p1 p2;rw[hL];simp only[eG];constructor
  .rintro (h|⟨⟨-,h3,h4⟩,h⟩)
   .have:=(g1.cls p p1 p2 q h).2;omega
   .exact ⟨U,U,.inr ⟨hk,h3,h,h4⟩⟩
  .rintro ⟨-,-,⟨h,-⟩|⟨-,h3,h,h4⟩⟩
   .omega
   .exact .inr ⟨⟨hk,h3,h4⟩,h⟩
 .obtain ⟨l,ρ,hM,hl,-⟩:=hx q q1 q2;rw[hM,fo];simp only[eG];constructor
  .rintro (h|⟨h,-⟩)
   .have:=(g2.cls p p1 p2 q h).1;omega
   .exact absurd h (Uk p1)
  .rintro ⟨-,-,⟨h,-⟩|⟨h,-⟩⟩ <;> omega
 .rw[fo,h2.fo p q p1 p2 q1 q2];simp only[eG];constructor
  .rintro (h|⟨h,-⟩)
   .exact ⟨U,U,.inl ⟨trivial,h⟩⟩
   .exact absurd h (Uk p1)
  .rintro ⟨-,-,⟨-,h⟩|⟨h,-⟩⟩
   .exact .inl h
   .omega
 .rw[qC,hs p c p2,h1.sr p c p1 p2];obtain ⟨k,π,hL,hk,-⟩:=hx p p1 p2;rw[hL];simp only[eG];exact ⟨λh=>⟨U,h.2⟩,λh=>⟨hk,h.2⟩⟩
 .rw[qC,h2.sr p c p1 p2];simp only[eG];exact ⟨λh=>⟨U,h⟩,λh=>h.2⟩
theorem kI.PE{L1 L2:Nat->List Nat}{s m e:Nat}(h1:kI L1 b1 s m x (mw n F))(h2:kI L2 b2 m e y (F n))(g1:cX b2 s m x)(g2:cX b2 m e y)
  (hf:∀p,p<m->cN b2 p=cN b1 p) (hs:∀p c,p<m->cH b2 p c=cH b1 p c):kI (KJ L1 L2 m n) b2 s e (kK x y) (mw (n+1) F):=by
 have hx:∀p,s<=p->p<m->∃k π,L1 p=k::π/\k<n/\(F k).P π:=λp p1 p2=>by
  have:=h1.pos p p1 p2
  cases hL:L1 p with
  |nil=>rw[hL]at this;exact this.elim
  |cons k π=>rw[hL]at this;exact ⟨k,π,rfl,this⟩
 refine kI.glue h1 h2 (λπ=>?_) (λρ h=>by have:=h.1;omega) g1.se g2.se ?_ (λp p1 p2=>?_) (λp p1 p2=>?_) (λp p1 p2=>?_) (λp p1 p2=>?_) (λp q p1 p2 q1 q2=>?_) (λp q p1 p2 q1 q2=>?_) (λp q p1 p2 q1 q2=>?_) (λp q p1 p2 q1 q2=>?_) (λp c p1 p2=>?_) (λp c p1 p2=>?_)
 .cases π with
  |nil=>simp[mw]
  |cons k π=>
   simp only[mw,List.cons.injEq];constructor
   .rintro ⟨h,h3⟩;by_cases hk:k=n
    .subst hk;exact .inr ⟨π,⟨rfl,rfl⟩,h3⟩
    .exact .inl ⟨U,h3⟩
   .rintro (⟨h,h3⟩|⟨ρ,⟨rfl,rfl⟩,h3⟩)
    .exact ⟨U,h3⟩
    .exact ⟨U,h3⟩
 .show (x.emp || y.emp)=true↔_;rw[Bool.or_eq_true,h1.em,h2.em];constructor
  .rintro (⟨k,h3,h4⟩|h)
   .exact ⟨k,U,h4⟩
   .exact ⟨n,U,h⟩
  .rintro ⟨k,hk,h⟩;by_cases jC:k=n
   .subst jC;exact .inr h
   .exact .inl ⟨k,U,h⟩
 .obtain ⟨k,π,hL,hk,-⟩:=hx p p1 p2;show p∈x.first++y.first↔_;rw[List.mem_append,h1.fi p p1 p2,hL];exact ⟨λh=>h.elim (λh=>⟨U,h.2⟩) λh=>by have:=(g2.fst p h).1;omega,λh=>.inl ⟨hk,h.2⟩⟩
 .show p∈x.first++y.first↔_;rw[List.mem_append,h2.fi p p1 p2];exact ⟨λh=>h.elim (λh=>by have:=(g1.fst p h).2;omega) λh=>⟨U,h⟩,λh=>.inr h.2⟩
 .obtain ⟨k,π,hL,hk,-⟩:=hx p p1 p2;show p∈x.last++y.last↔_;rw[List.mem_append,h1.la p p1 p2,hL];exact ⟨λh=>h.elim (λh=>⟨U,h.2⟩) λh=>by have:=(g2.iW p h).1;omega,λh=>.inl ⟨hk,h.2⟩⟩
 .show p∈x.last++y.last↔_;rw[List.mem_append,h2.la p p1 p2];exact ⟨λh=>h.elim (λh=>by have:=(g1.iW p h).2;omega) λh=>⟨U,h⟩,λh=>.inr h.2⟩
 .rw[hf p p2,h1.fo p q p1 p2 q1 q2];obtain ⟨k,π,hL,hk,-⟩:=hx p p1 p2;obtain ⟨l,ρ,hM,hl,-⟩:=hx q q1 q2;rw[hL,hM];exact ⟨λh=>⟨U,h.2⟩,λh=>⟨hk,h.2⟩⟩
 .obtain ⟨k,π,hL,hk,-⟩:=hx p p1 p2;rw[hL];exact ⟨λh=>by have:=(g1.cls p p1 p2 q h).2;omega,λh=>by have:=h.2.1;omega⟩
 .obtain ⟨l,ρ,hM,hl,-⟩:=hx q q1 q2;rw[hM];exact ⟨λh=>by have:=(g2.cls p p1 p2 q h).1;omega,λh=>by have:=h.2.1;omega⟩
 .rw[h2.fo p q p1 p2 q1 q2];exact ⟨λh=>⟨U,rfl,h⟩,λh=>h.2.2⟩
 .rw[hs p c p2,h1.sr p c p1 p2];obtain ⟨k,π,hL,hk,-⟩:=hx p p1 p2;rw[hL];exact ⟨λh=>⟨U,h.2⟩,λh=>⟨hk,h.2⟩⟩
 .rw[h2.sr p c p1 p2];exact ⟨λh=>⟨U,h⟩,λh=>h.2⟩
theorem Mk.KL(h1:Mk b b1 x (eG n F))(h2:Mk b1 b2 y (F n)):Mk b (cO b2 x y) (bD x y) (eG (n+1) F):=by
 have hx:=h1.bP.Dx h2 rfl;obtain ⟨PF,qB⟩:=h1.sets;obtain ⟨eH,tV⟩:=h2.sets;obtain ⟨Ya,k5⟩:=h1.fol;obtain ⟨Yb,uC⟩:=h2.fol;obtain ⟨L1,l1⟩:=h1.uB;obtain ⟨L2,l2⟩:=h2.uB;have q1:=h1.bP.se;have q2:=h2.bP.se;have hlen:(cO b2 x y).fol.length=b2.fol.length:=by unfold cO;rw[eT]
 refine ⟨by rw[hlen];exact h2.len,⟨PF++eH,by show b2.sets=_;rw[tV,qB,List.append_assoc]⟩,⟨_,FM U (λp hp=>(h1.bP.iW p hp).1) (f:=b.fol) (by rw[uC,k5,List.append_assoc,List.take_left])⟩,by rw[hlen];exact Bi hx h2.bP,KJ L1 L2 b1.fol.length n,?_⟩
 rw[hlen];exact l1.KL l2 hx h2.bP (λp hp=>h2.jN hp) (λp c hp=>h2.kJ h1.len hp c)
theorem Mk.PE(h1:Mk b b1 x (mw n F))(h2:Mk b1 b2 y (F n)):Mk b b2 (kK x y) (mw (n+1) F):=by
 have hx:=h1.bP.Dx h2 rfl;have hy:=h2.bP;obtain ⟨PF,qB⟩:=h1.sets;obtain ⟨eH,tV⟩:=h2.sets;obtain ⟨Ya,k5⟩:=h1.fol;obtain ⟨Yb,uC⟩:=h2.fol;obtain ⟨L1,l1⟩:=h1.uB;obtain ⟨L2,l2⟩:=h2.uB;have q1:=hx.se;have q2:=hy.se;refine ⟨h2.len,⟨PF++eH,by rw[tV,qB,List.append_assoc]⟩,⟨Ya++Yb,by rw[uC,k5,List.append_assoc]⟩,⟨U,V,λp hp=>?_,λp hp=>?_,λp p1 p2 q hq=>?_⟩,_,l1.PE l2 hx hy (λp hp=>h2.jN hp) (λp c hp=>h2.kJ h1.len hp c)⟩
 .rcases List.mem_append.1 hp with h|h
  .have:=hx.fst p h;omega
  .have:=hy.fst p h;omega
 .rcases List.mem_append.1 hp with h|h
  .have:=hx.iW p h;omega
  .have:=hy.iW p h;omega
 .by_cases Hn:p<b1.fol.length
  .have:=hx.cls p p1 Hn q hq;omega
  .have:=hy.cls p U p2 q hq;omega
theorem Ho{s m e:Nat}(hy:cX b s m y)(hx:cX b m e x):cX (cO b x y) s e (bD x y):=by
 have h1:=hx.se;have h2:=hy.se;refine ⟨U,by unfold cO;rw[eT];exact hx.size,λp hp=>?_,λp hp=>?_,λp C7 tW q hq=>?_⟩
 .rcases od.1 hp with h|⟨-,h⟩
  .have:=hx.fst p h;omega
  .have:=hy.fst p h;omega
 .rcases oe.1 hp with h|⟨-,h⟩
  .have:=hy.iW p h;omega
  .have:=hx.iW p h;omega
 .rcases (fF (λp hp=>by have:=(hx.iW p hp).2;have:=hx.size;omega) p q).1 hq with h|⟨h,h'⟩
  .by_cases Hn:p<m
   .have:=hy.cls p C7 Hn q h;omega
   .have:=hx.cls p U tW q h;omega
  .have:=hy.fst q h';omega
def Ul(x:cI)(e:Bool):cI:={ x with emp:=x.emp || e }
theorem kI.tail{L1 L2:Nat->List Nat}{s m e i mn:Nat}(h1:kI L1 b1 s m y (nt mn n (i+1) A))(h2:kI L2 b2 m e x A)(g1:cX b2 s m y)(g2:cX b2 m e x)(hi:i<n)
  (hf:∀p,p<m->cN b2 p=cN b1 p) (hs:∀p c,p<m->cH b2 p c=cH b1 p c):kI (KJ L1 L2 m i) (cO b2 x y) s e (Ul (bD x y) (decide (mn<=i))) (nt mn n i A):=by
 have fo:=fF (b:=b2) (x:=x) (y:=y) (λp hp=>by have:=(g2.iW p hp).2;have:=g2.size;omega)
 have hx:∀p,s<=p->p<m->∃k π,L1 p=k::π/\(i+1<=k/\k<n)/\A.P π:=λp p1 p2=>by
  have:=h1.pos p p1 p2
  cases hL:L1 p with
  |nil=>rw[hL]at this;exact this.elim
  |cons k π=>rw[hL]at this;exact ⟨k,π,rfl,⟨this.1,this.2.1⟩,this.2.2⟩
 have nx:∀{p},p<m->p∉x.first:=λhp h=>by have:=(g2.fst _ h).1;omega
 have Uk:∀{p},p<m->p∉x.last:=λhp h=>by have:=(g2.iW _ h).1;omega
 have ny:∀{p},m<=p->p∉y.first:=λhp h=>by have:=(g1.fst _ h).2;omega
 have ny':∀{p},m<=p->p∉y.last:=λhp h=>by have:=(g1.iW _ h).2;omega
 refine kI.glue h1 h2 (λπ=>?_) (λρ h=>by have:=h.1;omega) g1.se g2.se ?_ (λp p1 p2=>?_) (λp p1 p2=>?_) (λp p1 p2=>?_) (λp p1 p2=>?_) (λp q p1 p2 q1 q2=>?_) (λp q p1 p2 q1 q2=>?_) (λp q p1 p2 q1 q2=>?_) (λp q p1 p2 q1 q2=>?_) (λp c p1 p2=>?_) (λp c p1 p2=>?_)
 .cases π with
  |nil=>simp[nt]
  |cons k π=>
   simp only[nt,List.cons.injEq];constructor
   .rintro ⟨h,h3,h4⟩;by_cases hk:k=i
    .subst hk;exact .inr ⟨π,⟨rfl,rfl⟩,h4⟩
    .exact .inl ⟨U,h3,h4⟩
   .rintro (⟨h,h3,h4⟩|⟨ρ,⟨rfl,rfl⟩,h3⟩)
    .exact ⟨U,h3,h4⟩
    .exact ⟨U,hi,h3⟩
 .show ((x.emp && y.emp) || decide (mn<=i))=true↔_;rw[Bool.or_eq_true,Bool.and_eq_true,h1.em,h2.em,decide_eq_true_iff];simp only[nt];constructor
  .rintro (⟨h,-⟩|h)
   .exact .inl h
   .exact .inr h
  .rintro (h|h)
   .exact .inl ⟨h,.inl h⟩
   .exact .inr h
 .show p∈(bD x y).first↔_;rw[od,h1.fi p p1 p2,h2.em];obtain ⟨k,π,hL,hk,-⟩:=hx p p1 p2;rw[hL];simp only[nt];constructor
  .rintro (h|⟨h,h3,h4,h5,-⟩)
   .exact absurd h (nx p2)
   .exact ⟨U,h4,h5,.inr h⟩
  .rintro ⟨-,h4,h5,h6|h6⟩
   .omega
   .exact .inr ⟨h6,hk.1,h4,h5,.inr h6⟩
 .show p∈(bD x y).first↔_;rw[od,h2.fi p p1 p2];simp only[nt];constructor
  .rintro (h|⟨-,h⟩)
   .exact ⟨V,hi,h,.inl trivial⟩
   .exact absurd h (ny p1)
  .exact λh=>.inl h.2.2.1
 .show p∈(bD x y).last↔_;rw[oe,h1.la p p1 p2];obtain ⟨k,π,hL,hk,-⟩:=hx p p1 p2;rw[hL];simp only[nt];constructor
  .rintro (h|⟨-,h⟩)
   .exact ⟨U,h.2⟩
   .exact absurd h (Uk p2)
  .exact λh=>.inl ⟨hk.1,h.2⟩
 .show p∈(bD x y).last↔_;rw[oe,h2.la p p1 p2,h1.em];simp only[nt];constructor
  .rintro (h|⟨h,h3⟩)
   .exact absurd h (ny' p1)
   .exact ⟨V,hi,h3,h.symm⟩
  .exact λh=>.inr ⟨h.2.2.2.symm,h.2.2.1⟩
 .rw[fo,hf p p2,h1.fo p q p1 p2 q1 q2];obtain ⟨k,π,hL,hk,-⟩:=hx p p1 p2;obtain ⟨l,ρ,hM,hl,-⟩:=hx q q1 q2;rw[hL,hM];simp only[nt];constructor
  .rintro (h|⟨h,-⟩)
   .exact ⟨U,h.2⟩
   .exact absurd h (Uk p2)
  .exact λh=>.inl ⟨hk.1,h.2⟩
 .rw[fo];obtain ⟨k,π,hL,hk,-⟩:=hx p p1 p2;rw[hL];simp only[nt];constructor
  .rintro (h|⟨h,-⟩)
   .have:=(g1.cls p p1 p2 q h).2;omega
   .exact absurd h (Uk p2)
  .rintro ⟨-,-,⟨h,-⟩|⟨h,-⟩⟩ <;> omega
 .obtain ⟨l,ρ,hM,hl,-⟩:=hx q q1 q2;rw[hM,fo,h2.la p p1 p2,h1.fi q q1 q2,hM];simp only[nt];constructor
  .rintro (h|⟨h,h3,h4,h5,h6⟩)
   .have:=(g2.cls p p1 p2 q h).1;omega
   .exact ⟨V,h4,.inr ⟨U,h,h5,h6⟩⟩
  .rintro ⟨-,-,⟨h,-⟩|⟨-,h,h5,h6⟩⟩
   .omega
   .exact .inr ⟨h,hl.1,hl.2,h5,h6⟩
 .rw[fo,h2.fo p q p1 p2 q1 q2];simp only[nt];constructor
  .rintro (h|⟨-,h⟩)
   .exact ⟨V,hi,.inl ⟨trivial,h⟩⟩
   .exact absurd h (ny q1)
  .rintro ⟨-,-,⟨-,h⟩|⟨h,-⟩⟩
   .exact .inl h
   .omega
 .rw[qC,hs p c p2,h1.sr p c p1 p2];obtain ⟨k,π,hL,hk,-⟩:=hx p p1 p2;rw[hL];simp only[nt];exact ⟨λh=>⟨U,h.2⟩,λh=>⟨hk.1,h.2⟩⟩
 .rw[qC,h2.sr p c p1 p2];simp only[nt];exact ⟨λh=>⟨V,hi,h⟩,λh=>h.2.2⟩
theorem Mk.tail{i mn:Nat}(h1:Mk b b1 y (nt mn n (i+1) A))(h2:Mk b1 b2 x A)(hi:i<n):Mk b (cO b2 x y) (Ul (bD x y) (decide (mn<=i))) (nt mn n i A):=by
 have hy:=h1.bP.Dx h2 rfl;obtain ⟨PF,qB⟩:=h1.sets;obtain ⟨eH,tV⟩:=h2.sets;obtain ⟨Ya,k5⟩:=h1.fol;obtain ⟨Yb,uC⟩:=h2.fol;obtain ⟨L1,l1⟩:=h1.uB;obtain ⟨L2,l2⟩:=h2.uB;have q1:=h1.bP.se;have q2:=h2.bP.se;have hlen:(cO b2 x y).fol.length=b2.fol.length:=by unfold cO;rw[eT]
 have hg:=Ho hy h2.bP;refine ⟨by rw[hlen];exact h2.len,⟨PF++eH,by show b2.sets=_;rw[tV,qB,List.append_assoc]⟩,⟨_,FM (k:=b.fol.length) U (λp hp=>by have:=(h2.bP.iW p hp).1;omega) (f:=b.fol) (by rw[uC,k5,List.append_assoc,List.take_left])⟩,by rw[hlen];exact ⟨hg.se,hg.size,hg.fst,hg.iW,hg.cls⟩,KJ L1 L2 b1.fol.length i,?_⟩
 rw[hlen];exact l1.tail l2 hy h2.bP hi (λp hp=>h2.jN hp) (λp c hp=>h2.kJ h1.len hp c)
theorem kI.rep{L:Nat->List Nat}{s e mn:Nat}{z:cI}(h:kI L b s e x (eG n λ_=>A))(SJ:mn<=n)(hn:0<n)(he:z.emp=true↔A.em\/mn=0)(hfi:∀p,s<=p->p<e->(p∈z.first↔p∈x.first))
  (SB:∀p,s<=p->p<e->(p∈z.last↔(nt mn n 0 A).la (L p))):kI L b s e z (nt mn n 0 A):=by
 refine ⟨h.inj,λπ hπ=>h.uA π ?_,λp p1 p2=>?_,?_,λp p1 p2=>?_,SB,λp q p1 p2 q1 q2=>?_,λp c p1 p2=>?_⟩
 .cases π with
  |nil=>exact hπ
  |cons k π=>exact hπ.2
 .have:=h.pos p p1 p2
  cases hL:L p with
  |nil=>rw[hL]at this;exact this
  |cons k π=>rw[hL]at this;exact ⟨Nat.zero_le _,this⟩
 .rw[he];simp only[nt];exact ⟨λh=>h.imp id λh=>U,λh=>h.imp id λh=>U⟩
 .rw[hfi p p1 p2,h.fi p p1 p2]
  cases hL:L p with
  |nil=>exact Iff.rfl
  |cons k π=>
   simp only[eG,nt];constructor
   .rintro ⟨h1,h2,h3⟩;refine ⟨Nat.zero_le _,h1,h2,?_⟩;by_cases hk:k=0
    .exact .inl hk
    .exact .inr (h3 0 U)
   .rintro ⟨-,h1,h2,h3⟩;exact ⟨h1,h2,λj hj=>h3.resolve_left U⟩
 .rw[h.fo p q p1 p2 q1 q2]
  cases hL:L p with
  |nil=>exact Iff.rfl
  |cons k π=>
   cases hM:L q with
   |nil=>exact Iff.rfl
   |cons l ρ=>
    simp only[eG,nt];constructor
    .rintro ⟨h1,h2,h3|⟨h3,h4,h5,h6⟩⟩
     .exact ⟨Nat.zero_le _,h2,.inl h3⟩
     .refine ⟨Nat.zero_le _,h2,.inr ⟨h3,h4,h5,?_⟩⟩;by_cases hl:l=k+1
      .exact .inl hl
      .exact .inr (h6 (k+1) U U)
    .rintro ⟨-,h2,h3|⟨h3,h4,h5,h6⟩⟩
     .exact ⟨U,h2,.inl h3⟩
     .exact ⟨U,h2,.inr ⟨h3,h4,h5,λj j1 j2=>h6.resolve_left U⟩⟩
 .rw[h.sr p c p1 p2]
  cases hL:L p with
  |nil=>exact Iff.rfl
  |cons k π=>exact ⟨λh=>⟨Nat.zero_le _,h⟩,λh=>h.2⟩
theorem kI.one{L:Nat->List Nat}{s e:Nat}(h:kI L b s e x A)(hF:F 0=A):kI (λp=>0::L p) b s e x (mw 1 F):=by
 subst hF;refine ⟨λp q p1 p2 q1 q2 e=>h.inj p q p1 p2 q1 q2 (by injection e),λπ hπ=>?_,λp p1 p2=>⟨Nat.one_pos,h.pos p p1 p2⟩,h.em.t ⟨λh=>⟨0,Nat.one_pos,h⟩,λ⟨k,hk,h⟩=>?_⟩,λp p1 p2=>(h.fi p p1 p2).t ⟨λh=>⟨Nat.one_pos,h⟩,λh=>h.2⟩,λp p1 p2=>(h.la p p1 p2).t ⟨λh=>⟨Nat.one_pos,h⟩,λh=>h.2⟩,λp q p1 p2 q1 q2=>(h.fo p q p1 p2 q1 q2).t ⟨λh=>⟨Nat.one_pos,rfl,h⟩,λh=>h.2.2⟩,λp c p1 p2=>(h.sr p c p1 p2).t ⟨λh=>⟨Nat.one_pos,h⟩,λh=>h.2⟩⟩
 .cases π with
  |nil=>exact hπ.elim
  |cons k π=>
   obtain ⟨hk,hπ⟩:=hπ;obtain rfl:k=0:=U;obtain ⟨p,p1,p2,p3⟩:=h.uA π hπ;exact ⟨p,p1,p2,by rw[p3]⟩
 .obtain rfl:k=0:=U;exact h
end
theorem fI(b:Pb)(l1 l2:List Nat):∀(w:List Nat) (q:Nat),wk b (l1++l2) w q↔wk b l1 w q\/wk b l2 w q
 | [],q=>by unfold wk;exact List.mem_append
 |c::w,q=>by
  unfold wk;constructor
  .rintro ⟨q',h1,h2,h3⟩;rcases (fI b l1 l2 w q').1 h3 with h|h
   .exact .inl ⟨q',h1,h2,h⟩
   .exact .inr ⟨q',h1,h2,h⟩
  .rintro (⟨q',h1,h2,h3⟩|⟨q',h1,h2,h3⟩)
   .exact ⟨q',h1,h2,(fI b l1 l2 w q').2 (.inl h3)⟩
   .exact ⟨q',h1,h2,(fI b l1 l2 w q').2 (.inr h3)⟩
theorem zy{b:Pb}{l1 l2:List Nat}(h:∀p,p∈l1↔p∈l2):∀(w:List Nat) (q:Nat),wk b l1 w q↔wk b l2 w q
 | [],q=>h q
 |c::w,q=>by
  unfold wk;exact ⟨λ⟨q',h1,h2,h3⟩=>⟨q',h1,h2,(zy h w q').1 h3⟩,λ⟨q',h1,h2,h3⟩=>⟨q',h1,h2,(zy h w q').2 h3⟩⟩
theorem Eg{b:Pb}{s e:Nat}{last:List Nat}(dj:∀p,s<=p->p<e->∀q∈cN b p,s<=q/\q<e):∀(w:List Nat) (q:Nat),s<=q->q<e->wk b last w q->∃p∈last,s<=p/\p<e
 | [],q,h1,h2,h=>⟨q,h,h1,h2⟩
 |c::w,q,h1,h2,h=>by
  unfold wk at h;obtain ⟨q',g1,-,g3⟩:=h;obtain ⟨i1,i2⟩:=dj q h1 h2 q' g1;exact Eg dj w q' i1 i2 g3
structure LA where
 l:List Nat->Prop
 a:Au
structure Wr (b b':Pb) (x:cI) (K:LA):Prop where
 len:b'.sets.length=b'.fol.length
 sets:∃ns,b'.sets=b.sets++ns
 fol:∃nf,b'.fol=b.fol++nf
 bP:cX b' b.fol.length b'.fol.length x
 jk:∀w,LP b' x w↔K.l w
 uB:∃L,kI L b' b.fol.length b'.fol.length x K.a
theorem Wr.mk'{b b':Pb}{x:cI}{K:LA}(h:Wr b b' x K):Mk b b' x K.a:=⟨h.len,h.sets,h.fol,h.bP,h.uB⟩
theorem Wr.kJ{b b':Pb}{x:cI}{K:LA}(h:Wr b b' x K)(hl:b.sets.length=b.fol.length){p:Nat}(hp:p<b.fol.length)(c:Nat):cH b' p c=cH b p c:=by
 obtain ⟨ns,hs⟩:=h.sets;unfold cH;rw[hs,List.getElem?_append_left U]
theorem Wr.jN{b b':Pb}{x:cI}{K:LA}(h:Wr b b' x K){p:Nat}(hp:p<b.fol.length):cN b' p=cN b p:=by
 obtain ⟨nf,hf⟩:=h.fol;unfold cN;rw[hf,List.getElem?_append_left hp]
theorem qZ{b:Pb}{p:Nat}(h:b.fol.length<=p):cN b p=[]:=by
 unfold cN;rw[List.getElem?_eq_none h]
 rfl
theorem cX.later{b b':Pb}{x y:cI}{K:LA}{s e:Nat}(hx:cX b s e x)(h:Wr b b' y K)(he:e=b.fol.length):cX b' s e x:=by
 have hg:=h.bP.size;have hs:=h.bP.se;refine ⟨hx.se,U,hx.fst,hx.iW,λp h1 h2 q hq=>?_⟩;rw[h.jN U]at hq;exact hx.cls p h1 h2 q hq
theorem LP.later{b b':Pb}{x y:cI}{K:LA}{s e:Nat}(hx:cX b s e x)(h:Wr b b' y K)(hl:b.sets.length=b.fol.length)(he:e=b.fol.length)(w:List Nat):LP b' x w↔LP b x w:=by
 have Hh:=hx.se
 cases w with
 |nil=>exact Iff.rfl
 |cons c w=>
  have Mi:=qX (b:=b) (b':=b') (s:=s) (e:=e) (last:=x.last) hx.iW (λp h1 h2 c=>h.kJ hl U c) (λp h1 h2 q _ _=>by rw[h.jN U]) hx.cls
   (λp h1 q hq=>by
    by_cases hp:p<e
    .rw[h.jN U]at hq;exact (hx.cls p h1 hp q hq).1
    .by_cases tW:p<b'.fol.length
     .have:=(h.bP.cls p U tW q hq).1;omega
     .rw[qZ U]at hq;cases hq)
   (λp h1 q hq=>by
    by_cases tW:p<b'.fol.length
    .have:=(h.bP.cls p U tW q hq).1;omega
    .rw[qZ U]at hq;cases hq)
  unfold LP;constructor
  .rintro ⟨q,h1,h2,h3⟩;obtain ⟨i1,i2⟩:=hx.fst q h1;exact ⟨q,h1,by rw[<-h.kJ hl U];exact h2,((Mi w q i1).1 h3).2⟩
  .rintro ⟨q,h1,h2,h3⟩;obtain ⟨i1,i2⟩:=hx.fst q h1;exact ⟨q,h1,by rw[h.kJ hl U];exact h2,(Mi w q i1).2 ⟨i2,h3⟩⟩
theorem Wr.set(b:Pb)(hl:b.sets.length=b.fol.length)(rs:List (Nat×Nat)):Wr b ⟨b.sets++[rs],b.fol++[[]]⟩ ⟨[b.sets.length],[b.sets.length],false⟩ ⟨λw=>∃c,w=[c]/\qq rs c=true,yS rs⟩:=by
 have aH:∀c,cH ⟨b.sets++[rs],b.fol++[[]]⟩ b.sets.length c=qq rs c:=λc=>by unfold cH;simp
 have tF:cN ⟨b.sets++[rs],b.fol++[[]]⟩ b.sets.length=[]:=by unfold cN;simp[hl]
 refine ⟨by simp[hl],⟨_,rfl⟩,⟨_,rfl⟩,⟨H,H,by simp[hl],by simp[hl],λp h1 h2 q hq=>?_⟩,λw=>?_,(Mk.set b hl rs).uB⟩
 .have:p=b.sets.length:=by simp at h2;omega
  subst this;rw[tF]at hq
  cases hq
 .cases w with
  |nil=>simp[LP]
  |cons c w=>
   cases w with
   |nil=>simp[LP,wk,aH]
   |cons d w=>simp[LP,wk,tF]
theorem Wr.nil(b:Pb)(hl:b.sets.length=b.fol.length)(F:Nat->Au):Wr b b ⟨[],[],true⟩ ⟨λw=>w=[],eG 0 F⟩:=by
 refine ⟨hl,⟨[],H⟩,⟨[],H⟩,⟨V,V,H,H,λp h1 h2=>U⟩,λw=>?_,(Mk.nil b hl (λπ h=>by cases π with|nil=>exact h|cons k π=>exact absurd h.1 (Nat.not_lt_zero _)) (λk h=>absurd h (Nat.not_lt_zero _))).uB⟩
 cases w <;> simp[LP]
theorem Wr.beh{b b1 b2:Pb}{x y:cI}{K L:LA}{n:Nat}{F:Nat->Au}(h1:Wr b b1 x K)(h2:Wr b1 b2 y L)(e1:K.a=eG n F)(e2:L.a=F n):Wr b (cO b2 x y) (bD x y) ⟨λw=>∃u v,w=u++v/\K.l u/\L.l v,eG (n+1) F⟩:=by
 have hx:=h1.bP.later h2 rfl;obtain ⟨PF,qB⟩:=h1.sets;obtain ⟨eH,tV⟩:=h2.sets;obtain ⟨Ya,k5⟩:=h1.fol;obtain ⟨Yb,uC⟩:=h2.fol;have hlen:(cO b2 x y).fol.length=b2.fol.length:=by unfold cO;rw[eT]
 refine ⟨by rw[hlen];exact h2.len,⟨PF++eH,by show b2.sets=_;rw[tV,qB,List.append_assoc]⟩,⟨(cO b2 x y).fol.drop b.fol.length,?_⟩,by rw[hlen];exact Bi hx h2.bP,λw=>?_,(Mk.KL (e1▸h1.mk') (e2▸h2.mk')).uB⟩
 ·-- the elder positions are untouched
  have jo:(cO b2 x y).fol.take b.fol.length=b.fol:=by
   have gen:∀(ps:List Nat) (fol:List (List Nat)),(∀p∈ps,b.fol.length<=p)->(jd y.first ps fol).take b.fol.length=fol.take b.fol.length:=by
    intro ps
    induction ps with
    |nil=>intro fol _;rfl
    |cons a r ih=>
     intro fol h;rw[jd,ih _ (λp hp=>h p (by simp[hp])),List.take_set_of_le (h a H)]
   unfold cO;simp only;rw[gen _ _ (λp hp=>(h1.bP.iW p hp).1),uC,k5,List.append_assoc,List.take_left]
  rw[<-List.take_append_drop b.fol.length (cO b2 x y).fol,jo];simp
 .rw[Mh hx h2.bP];constructor
  .rintro ⟨u,v,e,g1,g2⟩;exact ⟨u,v,e,(h1.jk u).1 ((LP.later h1.bP h2 h1.len rfl u).1 g1),(h2.jk v).1 g2⟩
  .rintro ⟨u,v,e,g1,g2⟩;exact ⟨u,v,e,(LP.later h1.bP h2 h1.len rfl u).2 ((h1.jk u).2 g1),(h2.jk v).2 g2⟩
theorem Wr.eit{b b1 b2:Pb}{x y:cI}{K L:LA}{n:Nat}{F:Nat->Au}(h1:Wr b b1 x K)(h2:Wr b1 b2 y L)(e1:K.a=mw n F)(e2:L.a=F n):Wr b b2 (kK x y) ⟨λw=>K.l w\/L.l w,mw (n+1) F⟩:=by
 have hx:=h1.bP.later h2 rfl;have hy:=h2.bP;obtain ⟨PF,qB⟩:=h1.sets;obtain ⟨eH,tV⟩:=h2.sets;obtain ⟨Ya,k5⟩:=h1.fol;obtain ⟨Yb,uC⟩:=h2.fol;have q1:=hx.se;have q2:=hy.se;refine ⟨h2.len,⟨PF++eH,by rw[tV,qB,List.append_assoc]⟩,⟨Ya++Yb,by rw[uC,k5,List.append_assoc]⟩,⟨U,V,λp hp=>?_,λp hp=>?_,λp p1 p2 q hq=>?_⟩,λw=>?_,(Mk.PE (e1▸h1.mk') (e2▸h2.mk')).uB⟩
 .rcases List.mem_append.1 hp with h|h
  .have:=hx.fst p h;omega
  .have:=hy.fst p h;omega
 .rcases List.mem_append.1 hp with h|h
  .have:=hx.iW p h;omega
  .have:=hy.iW p h;omega
 .by_cases Hn:p<b1.fol.length
  .have:=hx.cls p p1 Hn q hq;omega
  .have:=hy.cls p U p2 q hq;omega
 .cases w with
  |nil=>
   have e1:=h1.jk [];have e2:=h2.jk [];show (x.emp || y.emp)=true↔_;rw[Bool.or_eq_true];exact ⟨λh=>h.imp e1.1 e2.1,λh=>h.imp e1.2 e2.2⟩
  |cons c w=>
   have e1:LP b2 x (c::w)↔K.l (c::w):=(LP.later h1.bP h2 h1.len rfl _).t (h1.jk _);have e2:=h2.jk (c::w);show _↔(K.l (c::w)\/L.l (c::w));rw[<-e1,<-e2];constructor
   .rintro ⟨q,g1,g2,g3⟩;rcases List.mem_append.1 g1 with g|g
    .obtain ⟨i1,i2⟩:=hx.fst q g;rcases (fI b2 x.last y.last w q).1 g3 with k|k
     .exact .inl ⟨q,g,g2,k⟩
     .obtain ⟨p,p1,p2,p3⟩:=Eg hx.cls w q i1 i2 k;have:=(hy.iW p p1).1;omega
    .obtain ⟨i1,i2⟩:=hy.fst q g;rcases (fI b2 x.last y.last w q).1 g3 with k|k
     .obtain ⟨p,p1,p2,p3⟩:=Eg hy.cls w q i1 i2 k;have:=(hx.iW p p1).2;omega
     .exact .inr ⟨q,g,g2,k⟩
   .rintro (⟨q,g1,g2,g3⟩|⟨q,g1,g2,g3⟩)
    .exact ⟨q,List.mem_append_left _ g1,g2,(fI b2 x.last y.last w q).2 (.inl g3)⟩
    .exact ⟨q,List.mem_append_right _ g1,g2,(fI b2 x.last y.last w q).2 (.inr g3)⟩
def yN(K:List Nat->Prop):Nat->List Nat->Prop
 |0,w=>w=[]
 |k+1,w=>∃u v,w=u++v/\yN K k u/\K v
def LX(K:LA)(i:Nat):LA:=⟨yN K.l i,eG i λ_=>K.a⟩
structure zu (b b':Pb) (K:LA) (j i:Nat) (out all:cI):Prop where
 wr:Wr b b' out (LX K i)
 fst:∀p∈all.first,p∈out.first
 iW:∀p∈all.last,b.fol.length<=p/\p<b'.fol.length
 emp:all.emp=true↔∃k,j<=k/\k<=i/\yN K.l k []
 to:∀c w q,q∈out.first->cH b' q c=true->wk b' all.last w q->∃k,j<=k/\k<=i/\yN K.l k (c::w)
 of:∀c w k,j<=k->k<=i->yN K.l k (c::w)->LP b' all (c::w)
 em:all.emp=true↔K.a.em
 uB:∃L,kI L b' b.fol.length b'.fol.length out (eG i λ_=>K.a)/\(∀p∈out.first,p∈all.first)/\∀p,b.fol.length<=p->p<b'.fol.length->(p∈all.last↔(nt j i 0 K.a).la (L p))
theorem zu.start{b b':Pb}{K:LA}{j:Nat}{out:cI}(h:Wr b b' out (LX K j))(hj:1<=j):zu b b' K j j out out:=by
 obtain ⟨L,hL⟩:=h.uB;refine ⟨h,λ_ h=>h,h.bP.iW,?_,λc w q h1 h2 h3=>⟨j,V,V,(h.jk _).1 ⟨q,h1,h2,h3⟩⟩,λc w k h1 h2 h3=>?_,hL.em.t ⟨λh=>h 0 U,λh _ _=>h⟩,L,hL,λ_ h=>h,λp p1 p2=>(hL.la p p1 p2).t ?_⟩
 .constructor
  .intro he;exact ⟨j,V,V,(h.jk []).1 he⟩
  .rintro ⟨k,h1,h2,h3⟩;have:k=j:=U;subst this;exact (h.jk []).2 h3
 .have:k=j:=U;subst this;exact (h.jk _).2 h3
 .cases hp:L p with
  |nil=>exact Iff.rfl
  |cons k π=>
   simp only[eG,nt];constructor
   .rintro ⟨h1,h2,h3⟩;refine ⟨Nat.zero_le _,h1,h2,?_⟩;by_cases hk:j<=k+1
    .exact .inl hk
    .exact .inr (h3 (k+1) U U)
   .rintro ⟨-,h1,h2,h3⟩;exact ⟨h1,h2,λl l1 l2=>h3.resolve_left U⟩
theorem zu.step{b b1 b2:Pb}{K:LA}{j i:Nat}{out all y:cI}(h:zu b b1 K j i out all)(hy:Wr b1 b2 y K)(Hr:j<=i)(hj:1<=j):zu b (cO b2 out y) K j (i+1) (bD out y) (kK all (bD out y)):=by
 have hb:=h.wr.beh hy (n:=i) (F:=λ_=>K.a) rfl rfl;have hw:Wr b (cO b2 out y) (bD out y) (LX K (i+1)):=⟨hb.len,hb.sets,hb.fol,hb.bP,λw=>hb.jk w,hb.uB⟩;have hx:=h.wr.bP.later hy rfl;have hlen:(cO b2 out y).fol.length=b2.fol.length:=by unfold cO;rw[eT]
 have aB:∀p∈out.last,p<b2.fol.length:=λp hp=>by have:=(hx.iW p hp).2;have:=hy.bP.se;have:=hy.bP.size;omega
 have Eh:∀p∈out.first,p∈(bD out y).first:=λp hp=>by
  unfold bD;simp only;split
  .exact List.mem_append_left _ hp
  .exact hp
 have hq:=hy.bP.se
 -- what lies within the elder copies reads as it did
 have Mi:=qX (b:=b1) (b':=cO b2 out y) (s:=b.fol.length) (e:=b1.fol.length) (last:=all.last) h.iW
  (λp h1 h2 c=>hy.kJ h.wr.len h2 c)
  (λp h1 h2 q h3 h4=>by
   rw[fF aB,hy.jN h2];exact ⟨λg=>g.elim id λg=>by have:=(hy.bP.fst q g.2).1;omega,.inl⟩)
  h.wr.bP.cls
  (λp h1 q VE=>by
   rcases (fF aB p q).1 VE with g|g
   .by_cases hp:p<b1.fol.length
    .rw[hy.jN hp]at g;exact (h.wr.bP.cls p h1 hp q g).1
    .by_cases tW:p<b2.fol.length
     .have:=(hy.bP.cls p U tW q g).1;have:=h.wr.bP.se;omega
     .rw[qZ U]at g;cases g
   .have:=(hy.bP.fst q g.2).1;have:=h.wr.bP.se;omega)
  (λp h1 q VE=>by
   rcases (fF aB p q).1 VE with g|g
   .by_cases tW:p<b2.fol.length
    .exact (hy.bP.cls p h1 tW q g).1
    .rw[qZ U]at g;cases g
   .exact (hy.bP.fst q g.2).1)
 have aH:∀q c,q<b1.fol.length->cH (cO b2 out y) q c=cH b1 q c:=λq c h2=>hy.kJ h.wr.len h2 c;obtain ⟨L,l1,l2,l3⟩:=h.uB;obtain ⟨L2,m1⟩:=hy.uB;have lem:=l1.KL m1 hx hy.bP (λp hp=>hy.jN hp) (λp c hp=>hy.kJ h.wr.len hp c);refine ⟨hw,λp hp=>?_,λp hp=>?_,?_,λc w q h1 h2 h3=>?_,λc w k h1 h2 h3=>?_,?_,KJ L L2 b1.fol.length i,by rw[hlen];exact lem,λp hp=>List.mem_append_right _ hp,λp p1 p2=>?_⟩
 .rcases List.mem_append.1 hp with g|g
  .exact Eh p (h.fst p g)
  .exact g
 .rw[hlen];rcases List.mem_append.1 hp with g|g
  .have:=h.iW p g;omega
  .have:=hw.bP.iW p g;rw[hlen]at this;exact this
 .show (all.emp || (bD out y).emp)=true↔_;rw[Bool.or_eq_true,h.emp];constructor
  .rintro (⟨k,g1,g2,g3⟩|g)
   .exact ⟨k,g1,U,g3⟩
   .exact ⟨i+1,U,V,(hw.jk []).1 g⟩
  .rintro ⟨k,g1,g2,g3⟩;by_cases hk:k<=i
   .exact .inl ⟨k,g1,hk,g3⟩
   .have:k=i+1:=U;subst this;exact .inr ((hw.jk []).2 g3)
 .rcases (fI _ all.last (bD out y).last w q).1 h3 with g|g
  ·-- it ends in an elder copy: so it begins in one
   have Tt:b.fol.length<=q:=(hw.bP.fst q h1).1;obtain ⟨yU,g'⟩:=(Mi w q Tt).1 g;have hqo:q∈out.first:=by
    unfold bD at h1;simp only at h1;split at h1
    .rcases List.mem_append.1 h1 with k|k
     .exact k
     .have:=(hy.bP.fst q k).1;omega
    .exact h1
   obtain ⟨k,k1,k2,k3⟩:=h.to c w q hqo (by rw[<-aH q c yU];exact h2) g'
   exact ⟨k,k1,U,k3⟩
  .exact ⟨i+1,U,V,(hw.jk _).1 ⟨q,h1,h2,g⟩⟩
 .by_cases hk:k<=i
  .obtain ⟨q,g1,g2,g3⟩:=h.of c w k h1 hk h3;obtain ⟨i1,i2⟩:=h.wr.bP.fst q (h.fst q g1);exact ⟨q,List.mem_append_left _ g1,by rw[aH q c i2];exact g2,(fI _ _ _ w q).2 (.inl ((Mi w q i1).2 ⟨i2,g3⟩))⟩
  .have:k=i+1:=U;subst this;obtain ⟨q,g1,g2,g3⟩:=(hw.jk _).2 h3;exact ⟨q,List.mem_append_right _ g1,g2,(fI _ _ _ w q).2 (.inr g3)⟩
 .show (all.emp || (bD out y).emp)=true↔_;rw[Bool.or_eq_true,h.em,lem.em];exact ⟨λh=>h.elim id λh=>h 0 U,.inl⟩
 .rw[hlen]at p2;show p∈all.last++(bD out y).last↔_;rw[List.mem_append,lem.la p p1 p2];by_cases hp:p<b1.fol.length
  .rw[l3 p p1 hp,KJ,if_pos hp];have hP:=l1.pos p p1 hp
   cases hL:L p with
   |nil=>rw[hL]at hP;exact hP.elim
   |cons k π=>
    rw[hL]at hP;have hk:=hP.1;simp only[eG,nt];constructor
    .rintro (⟨-,-,h3⟩|⟨-,h2,h3⟩)
     .exact ⟨Nat.zero_le _,U,h3⟩
     .exact ⟨Nat.zero_le _,U,h2,.inr (h3 i hk U)⟩
    .exact λh=>.inl ⟨Nat.zero_le _,hk,h.2.2⟩
  .rw[KJ,if_neg hp];simp only[eG,nt];constructor
   .rintro (h3|⟨-,h2,-⟩)
    .have:=(h.iW p h3).2;omega
    .exact ⟨Nat.zero_le _,U,h2,.inl U⟩
   .exact λh=>.inr ⟨U,h.2.2.1,λl l1 l2=>U⟩
theorem zu.done{b b':Pb}{K:LA}{j i:Nat}{out all:cI}(h:zu b b' K j i out all)(x:cI)(hf:∀p,p∈x.first↔p∈all.first)(hl:∀p,p∈x.last↔p∈all.last)(mn:Nat)(hj:j=max mn 1)(Hr:j<=i)(he:x.emp=(all.emp || mn == 0)):
  Wr b b' x ⟨λw=>∃k,mn<=k/\k<=i/\yN K.l k w,nt mn i 0 K.a⟩:=by
 have hg:=h.wr.bP;obtain ⟨L,l1,l2,l3⟩:=h.uB;refine ⟨h.wr.len,h.wr.sets,h.wr.fol,⟨hg.se,hg.size,λp hp=>hg.fst p (h.fst p ((hf p).1 hp)),λp hp=>h.iW p ((hl p).1 hp),hg.cls⟩,λw=>?_,L,l1.rep U U ?_ (λp _ _=>(hf p).t ⟨h.fst p,l2 p⟩) (λp p1 p2=>(hl p).t ((l3 p p1 p2).t ?_))⟩
 cases w with
 |nil=>
  show x.emp=true↔_;rw[he,Bool.or_eq_true,h.emp];constructor
  .rintro (⟨k,g1,g2,g3⟩|g)
   .exact ⟨k,U,g2,g3⟩
   .exact ⟨0,by simp at g;omega,Nat.zero_le _,rfl⟩
  .rintro ⟨k,g1,g2,g3⟩;by_cases hm:mn=0
   .right;simp[hm]
   .left;exact ⟨k,U,g2,g3⟩
 |cons c w=>
  constructor
  .rintro ⟨q,g1,g2,g3⟩;obtain ⟨k,k1,k2,k3⟩:=h.to c w q (h.fst q ((hf q).1 g1)) g2 ((zy hl w q).1 g3);exact ⟨k,U,k2,k3⟩
  .rintro ⟨k,g1,g2,g3⟩;have hk:j<=k:=by
    by_cases h0:k=0
    .subst h0;cases g3
    .omega
   obtain ⟨q,q1,q2,q3⟩:=h.of c w k hk g2 g3;exact ⟨q,(hf q).2 q1,q2,(zy hl w q).2 q3⟩
 .rw[he,Bool.or_eq_true,h.em,beq_iff_eq]
 .cases hp:L p with
  |nil=>exact Iff.rfl
  |cons k π=>
   simp only[nt];exact ⟨λh=>⟨h.1,h.2.1,h.2.2.1,h.2.2.2.imp (λh=>U) id⟩,λh=>⟨h.1,h.2.1,h.2.2.1,h.2.2.2.imp (λh=>U) id⟩⟩
inductive Nd where
 |mk (op:Int) (rs:List (Nat×Nat)) (kids:List Nd) (mn mx:Int)
def Nd.op:Nd->Int | .mk o _ _ _ _=>o
def Nd.rs:Nd->List (Nat×Nat) | .mk _ r _ _ _=>r
def Nd.kids:Nd->List Nd | .mk _ _ k _ _=>k
def Nd.mn:Nd->Int | .mk _ _ _ m _=>m
def Nd.mx:Nd->Int | .mk _ _ _ _ m=>m
mutual
def aA:Nd->Nat
 | .mk _ _ kids _ _=>1+a7 kids
def a7:List Nd->Nat
 | []=>0
 |k::r=>aA k+a7 r
end
mutual
def bZ:Nd->Nat
 | .mk _ _ kids _ _=>1+bS kids
def bS:List Nd->Nat
 | []=>0
 |k::r=>max (bZ k) (bS r)
end
def ep:List (Nat×Nat)->Bool
 | []=>true
 | [a]=>decide (a.1<=a.2)
 |a::c::r=>decide (a.1<=a.2) && (decide (a.2+2<=c.1) && ep (c::r))
def dy:Nd->Bool
 | .mk op rs kids mn mx=>
  if op=1 then !rs.isEmpty && (ep rs && (kids.isEmpty && (decide (mn=0) && decide (mx=0))))
  else if op=2\/op=3 then decide (2<=kids.length) && (rs.isEmpty && (decide (mn=0) && (decide (mx=0) && !(kids.any λk=>k.op == op))))
  else if op=4 then decide (kids.length=1) && (rs.isEmpty && (decide (0<=mn) && (decide (1<=mx) && (decide (mn<=mx) && (decide (mx<=64) && !(decide (mn=1) && decide (mx=1)))))))
  else false
mutual
def aF:Nd->Bool
 | .mk op rs kids mn mx=>dy (.mk op rs kids mn mx) && aX kids
def aX:List Nd->Bool
 | []=>true
 |k::r=>aF k && aX r
end
-- The greatest number of bytes, at most 1025.
mutual
def bW:Nd->Nat
 | .mk op _ kids _ mx=>min (if op=1 then 1 else if op=2 then dq kids else if op=3 then dI kids else mx.toNat*rm kids) 1025
def dq:List Nd->Nat
 | []=>0
 |k::r=>bW k+dq r
def dI:List Nd->Nat
 | []=>0
 |k::r=>max (bW k) (dI r)
def rm:List Nd->Nat
 | []=>0
 |k::_=>bW k
end
-- The number of positions, at most 601.
mutual
def aL:Nd->Nat
 | .mk op _ kids _ mx=>min (if op=1 then 1 else if op=4 then mx.toNat*qS kids else bp kids) 601
def bp:List Nd->Nat
 | []=>0
 |k::r=>aL k+bp r
def qS:List Nd->Nat
 | []=>0
 |k::_=>aL k
end
-- What belongs to a pattern.
mutual
def dT:Nd->List Nat->Prop
 | .mk op rs kids mn mx=>λw=>if op=1 then ∃c,w=[c]/\qq rs c=true else if op=2 then rn kids w else if op=3 then nC kids w else ∃j:Nat,mn<=(j:Int)/\(j:Int)<=mx/\yN (Tj kids) j w
def rn:List Nd->List Nat->Prop
 | []=>λw=>w=[]
 |k::r=>λw=>∃u v,w=u++v/\dT k u/\rn r v
def nC:List Nd->List Nat->Prop
 | []=>λ_=>False
 |k::r=>λw=>dT k w\/nC r w
def Tj:List Nd->List Nat->Prop
 | []=>λ_=>False
 |k::_=>dT k
end
-- The places of a pattern.
def me(l:List Au)(k:Nat):Au:=(l[k]?).getD default
mutual
def sV:Nd->Au
 | .mk op rs kids mn mx=>if op=1 then yS rs else if op=2 then eG kids.length (me (xB kids)) else if op=3 then mw kids.length (me (xB kids)) else nt mn.toNat mx.toNat 0 (me (xB kids) 0)
def xB:List Nd->List Au
 | []=>[]
 |k::r=>sV k::xB r
end
theorem kA:∀{l:List Nd} {k:Nat} {kd:Nd},l[k]?=some kd->me (xB l) k=sV kd
 |a::l,0,kd,h=>by injection h with h;subst h;unfold me;rw[xB];rfl
 |a::l,k+1,kd,h=>by
  have:=kA (l:=l) (k:=k) (kd:=kd) h;unfold me at this|-;rw[xB];exact this
def gN(nd:Nd):LA:=⟨dT nd,sV nd⟩
def gS(kids:List Nd)(k:Nat):LA:=⟨rn (kids.take k),eG k (me (xB kids))⟩
def gC(kids:List Nd)(k:Nat):LA:=⟨nC (kids.take k),mw k (me (xB kids))⟩
theorem qm(k:Nd):∀(l:List Nd) (w:List Nat),rn (l++[k]) w↔∃u v,w=u++v/\rn l u/\dT k v
 | [],w=>by
  show (∃u v,w=u++v/\dT k u/\rn [] v)↔_;constructor
  .rintro ⟨u,v,rfl,h,h2⟩;have:v=[]:=h2;subst this;exact ⟨[],u,H,rfl,h⟩
  .rintro ⟨u,v,rfl,h,h2⟩;have:u=[]:=h;subst this;exact ⟨v,[],H,h2,rfl⟩
 |a::l,w=>by
  show (∃u v,w=u++v/\dT a u/\rn (l++[k]) v)↔∃u v,w=u++v/\(∃u1 v1,u=u1++v1/\dT a u1/\rn l v1)/\dT k v;constructor
  .rintro ⟨u,v,rfl,h1,h2⟩;obtain ⟨x,y,rfl,h3,h4⟩:=(qm k l v).1 h2;exact ⟨u++x,y,H,⟨u,x,rfl,h1,h3⟩,h4⟩
  .rintro ⟨_,v,rfl,⟨u1,v1,rfl,h1,h2⟩,h3⟩;exact ⟨u1,v1++v,H,h1,(qm k l _).2 ⟨v1,v,rfl,h2,h3⟩⟩
theorem vQ(k:Nd):∀(l:List Nd) (w:List Nat),nC (l++[k]) w↔nC l w\/dT k w
 | [],w=>by show (dT k w\/nC [] w)↔_;simp[nC]
 |a::l,w=>by
  show (dT a w\/nC (l++[k]) w)↔(dT a w\/nC l w)\/dT k w;rw[vQ k l w,or_assoc]
theorem jZ(n:Nd):aF n=true↔dy n=true/\∀k∈n.kids,aF k=true:=by
 cases n with
 |mk op rs kids mn mx=>
  have gen:∀l:List Nd,aX l=true↔∀k∈l,aF k=true:=by
   intro l
   induction l with
   |nil=>simp[aX]
   |cons k r ih=>rw[aX,Bool.and_eq_true,ih];simp
  rw[aF,Bool.and_eq_true,gen]
  rfl
def Io(b:Pb)(x:cI)(gs:List (List Nat))(i:Nat)(w:List Nat):Prop:=
 if i=0 then LP b x w else ∃p∈(gs[i]?).getD [],wk b x.last w p
def ir(b:Pb)(x:cI)(gs:List (List Nat))(i:Nat)(p:Nat):Prop:=
 if i=0 then p∈x.first else ∃q∈(gs[i]?).getD [],p∈cN b q
structure Ed where
 lo:Nat
 hi:Nat
 to:Nat
deriving DecidableEq
structure Mc where
 ed:List (List Ed)
 ac:List Bool
deriving DecidableEq
def bA:List Ed->Nat->Option Nat
 | [],_=>none
 |e::r,c=>if e.lo<=c/\c<=e.hi then some e.to else bA r c
def aU(m:Mc)(s:Nat):List Ed:=(m.ed[s]?).getD []
def eM(m:Mc):List Nat->Nat->Bool
 | [],s=>(m.ac[s]?).getD false
 |c::w,s=>match bA (aU m s) c with
  |none=>false
  |some t=>eM m w t
def bK:Nat->List Ed->Prop
 |_,[]=>True
 |b,e::r=>b<=e.lo/\e.lo<=e.hi/\bK (e.hi+1) r
def lh:List Ed->Prop
 | []=>True
 | [_]=>True
 |e::f::r=>¬(e.hi+1=f.lo/\e.to=f.to)/\lh (f::r)
def mZ:Nat->List Ed->Prop
 |_,[]=>True
 |m,e::r=>e.to<=m+1/\mZ (max m e.to) r
def lp:Nat->List Ed->Nat
 |m,[]=>m
 |m,e::r=>lp (max m e.to) r
def lj:Nat->Nat->List (List Ed)->Prop
 |i,m,[]=>i=m+1
 |i,m,r::rs=>i<=m/\mZ m r/\lj (i+1) (lp m r) rs
theorem GF:∀(m:Nat) (r:List Ed),m<=lp m r
 |_,[]=>V
 |_,_::r=>Nat.le_trans (Nat.le_max_left _ _) (GF _ r)
theorem dS:∀{b:Nat} {r:List Ed} {c:Nat},bK b r->c<b->bA r c=none
 |_,[],_,_,_=>rfl
 |b,e::r,c,⟨h1,h2,h3⟩,hc=>by
  rw[bA,if_neg U];exact dS h3 U
theorem gI:∀{r:List Ed} {c t:Nat},bA r c=some t->∃e∈r,e.lo<=c/\c<=e.hi/\e.to=t
 | [],_,_,h=>by cases h
 |e::r,c,t,h=>by
  rw[bA]at h;split at h
  .next hc=>exact ⟨e,List.mem_cons_self,hc.1,hc.2,Option.some.inj h⟩
  .obtain ⟨f,hf,h1⟩:=gI h;exact ⟨f,List.mem_cons_of_mem _ hf,h1⟩
structure ld (m:Mc):Prop where
 len:m.ac.length=m.ed.length
 kE:∀r∈m.ed,bK 0 r
 mx:∀r∈m.ed,lh r
 to:∀r∈m.ed,∀e∈r,e.to<m.ed.length
 live:∀s,s<m.ed.length->∃w,eM m w s=true
 Ha:∀s t,s<m.ed.length->t<m.ed.length->(∀w,eM m w s=eM m w t)->s=t
 meet:lj 0 0 m.ed
theorem GG{m1 m2:Mc}(h1:ld m1)(h2:ld m2):∀(r1 r2:List Ed) (b m:Nat),bK b r1->bK b r2->lh r1->lh r2->(∀e∈r1,e.to<m1.ed.length)->(∀e∈r2,e.to<m2.ed.length)->mZ m r1->mZ m r2->
  (∀k,k<=m->(∀w,eM m1 w k=eM m2 w k))->m<m1.ed.length->m<m2.ed.length->
  (∀c w,(match bA r1 c with|none=>false|some t=>eM m1 w t)=(match bA r2 c with|none=>false|some t=>eM m2 w t))->
  r1=r2/\∀k,k<=lp m r1->(∀w,eM m1 w k=eM m2 w k)
 | [],[],b,m,_,_,_,_,_,_,_,_,hk,_,_,_=>⟨rfl,hk⟩
 | [],e::r2,b,m,_,s2,_,_,_,t2,_,_,_,_,_,ht=>by
  exfalso;obtain ⟨w,hw⟩:=h2.live e.to (t2 e List.mem_cons_self);have:=ht e.lo w;rw[bA,bA,if_pos ⟨V,s2.2.1⟩]at this;simp only at this;rw[hw]at this
  cases this
 |e::r1,[],b,m,s1,_,_,_,t1,_,_,_,_,_,_,ht=>by
  exfalso;obtain ⟨w,hw⟩:=h1.live e.to (t1 e List.mem_cons_self);have:=ht e.lo w;rw[bA,bA,if_pos ⟨V,s1.2.1⟩]at this;simp only at this;rw[hw]at this
  cases this
 |e::r1,f::r2,b,m,s1,s2,x1,x2,t1,t2,e1,e2,hk,qd,sY,ht=>by
  have te:=t1 e List.mem_cons_self;have tf:=t2 f List.mem_cons_self;obtain ⟨w1,AF⟩:=h1.live e.to te;obtain ⟨w2,eh⟩:=h2.live f.to tf
  -- the beginnings
  have bX:e.lo=f.lo:=by
   rcases Nat.lt_trichotomy e.lo f.lo with h|h|h
   .exfalso;have:=ht e.lo w1;rw[bA,if_pos ⟨V,s1.2.1⟩,dS (b:=f.lo) (r:=f::r2) ⟨V,s2.2.1,s2.2.2⟩ h]at this;simp only at this;rw[AF]at this
    cases this
   .exact h
   .exfalso;have:=ht f.lo w2;rw[dS (b:=e.lo) (r:=e::r1) ⟨V,s1.2.1,s1.2.2⟩ h,bA,if_pos ⟨V,s2.2.1⟩]at this;simp only at this;rw[eh]at this
    cases this
  -- the states
  have hL:∀w,eM m1 w e.to=eM m2 w f.to:=λw=>by
   have:=ht e.lo w;rw[bA,if_pos ⟨V,s1.2.1⟩,bA,if_pos ⟨U,by have:=s2.2.1;omega⟩]at this
   exact this
  have jM:e.to=f.to:=by
   by_cases he:e.to<=m
   .by_cases hf:f.to<=m
    .exact h2.Ha _ _ U tf λw=>by rw[<-hk _ he w,hL]
    .exfalso;have:e.to=f.to:=h2.Ha _ _ U tf λw=>by rw[<-hk _ he w,hL]
     omega
   .by_cases hf:f.to<=m
    .exfalso;have:e.to=f.to:=h1.Ha _ _ te U λw=>by rw[hL,hk _ hf w]
     omega
    .have:=e1.1;have:=e2.1;omega
  have ec:∀k,k<=max m e.to->∀w,eM m1 w k=eM m2 w k:=λk xS w=>by
   by_cases h:k<=m
   .exact hk k h w
   .have:k=e.to:=by have:=e1.1;omega
    subst this;rw[hL w,<-jM]
  have q1:=s1.2.1;have q2:=s2.2.1
  -- the ends
  have sj:e.hi=f.hi:=by
   rcases Nat.lt_trichotomy e.hi f.hi with h|h|h
   .exfalso;have hc:=λw=>ht (e.hi+1) w;rw[bA,bA,if_neg U,if_pos ⟨U,U⟩]at hc
    match r1,s1,x1,t1 with
    | [],_,_,_=>
     have:=hc w2;simp only[bA]at this;rw[eh]at this
     cases this
    |g::r1,s1,x1,t1=>
     have hg:=s1.2.2;by_cases jm:g.lo=e.hi+1
     .rw[bA,if_pos ⟨U,by have:=hg.2.1;omega⟩]at hc
      have:g.to=e.to:=h1.Ha _ _ (t1 g H) te λw=>by have:=hc w;simp only at this;rw[this,hL w]
      exact x1.1 ⟨jm.symm,this.symm⟩
     .rw[dS (b:=g.lo) (r:=g::r1) ⟨V,hg.2.1,hg.2.2⟩ (by have:=hg.1;omega)]at hc
      have:=hc w2;simp only at this;rw[eh]at this
      cases this
   .exact h
   .exfalso;have hc:=λw=>ht (f.hi+1) w;rw[bA,bA,if_pos ⟨U,U⟩,if_neg U]at hc
    match r2,s2,x2,t2 with
    | [],_,_,_=>
     have:=hc w1;simp only[bA]at this;rw[AF]at this
     cases this
    |g::r2,s2,x2,t2=>
     have hg:=s2.2.2;by_cases jm:g.lo=f.hi+1
     .rw[bA,if_pos ⟨U,by have:=hg.2.1;omega⟩]at hc
      have:g.to=f.to:=h2.Ha _ _ (t2 g H) tf λw=>by have:=hc w;simp only at this;rw[<-this,hL w]
      exact x2.1 ⟨jm.symm,this.symm⟩
     .rw[dS (b:=g.lo) (r:=g::r2) ⟨V,hg.2.1,hg.2.2⟩ (by have:=hg.1;omega)]at hc
      have:=hc w1;simp only at this;rw[AF]at this
      cases this
  have p9:e=f:=by
   obtain ⟨a,b,c⟩:=e;obtain ⟨a',b',c'⟩:=f;simp only at bX sj jM;subst bX sj jM
   rfl
  subst p9;have YK:lh r1:=by cases r1 with|nil=>trivial|cons g r=>exact x1.2
  have x2':lh r2:=by cases r2 with|nil=>trivial|cons g r=>exact x2.2
  obtain ⟨hr,dW⟩:=GG h1 h2 r1 r2 (e.hi+1) (max m e.to) s1.2.2 s2.2.2 YK x2' (λx hx=>t1 x (by simp[hx])) (λx hx=>t2 x (by simp[hx])) e1.2 e2.2 ec U U (λc w=>by
   by_cases hc:e.lo<=c/\c<=e.hi
   .rw[dS s1.2.2 U,dS s2.2.2 U]
   .have:=ht c w;rw[bA,bA,if_neg hc,if_neg hc]at this;exact this)
  exact ⟨by rw[hr],dW⟩
theorem drop_cons{α:Type}{l:List α}{i:Nat}{x:α}{r:List α}(h:l.drop i=x::r):l[i]?=some x/\l.drop (i+1)=r:=by
 have h0:(l.drop i)[0]?=some x:=by rw[h];rfl
 rw[List.getElem?_drop,Nat.add_zero]at h0;refine ⟨h0,?_⟩;have:(l.drop i).drop 1=r:=by rw[h];rfl
 rwa [List.drop_drop]at this
theorem Cl{m1 m2:Mc}(h1:ld m1)(h2:ld m2):∀(l1 l2:List (List Ed)) (i m:Nat),m1.ed.drop i=l1->m2.ed.drop i=l2->lj i m l1->lj i m l2->(∀k,k<=m->∀w,eM m1 w k=eM m2 w k)->(i<=m1.ed.length)->(i<=m2.ed.length)->l1=l2/\∀k,k<m1.ed.length->∀w,eM m1 w k=eM m2 w k
 | [],[],i,m,d1,_,q1,_,hk,i1,_=>⟨rfl,λk aV=>hk k (by have:=List.drop_eq_nil_iff.1 d1;simp only[lj]at q1;omega)⟩
 | [],_::l2,i,m,_,_,q1,q2,_,_,_=>by have:=q1;have:=q2.1;simp only[lj]at *;omega
 |_::l1,[],i,m,_,_,q1,q2,_,_,_=>by have:=q2;have:=q1.1;simp only[lj]at *;omega
 |r1::l1,r2::l2,i,m,d1,d2,q1,q2,hk,i1,i2=>by
  obtain ⟨g1,zk⟩:=drop_cons d1;obtain ⟨g2,J4⟩:=drop_cons d2;have me1:r1∈m1.ed:=List.mem_of_getElem? g1;have me2:r2∈m2.ed:=List.mem_of_getElem? g2
  -- the top met is a state of both
  have abQ:∀(l:List (List Ed)) (j q n:Nat),lj j q l->j+l.length=n->q<n:=by
   intro l
   induction l with
   |nil=>intro j q n h hn;simp only[lj]at h;simp at hn;omega
   |cons r l ih=>
    intro j q n h hn;have:=ih (j+1) (lp q r) n h.2.2 (by simp at hn|-;omega)
    have:=GF q r;omega
  have n1:i+(r1::l1).length=m1.ed.length:=by rw[<-d1,List.length_drop];omega
  have n2:i+(r2::l2).length=m2.ed.length:=by rw[<-d2,List.length_drop];omega
  have qd:=abQ _ i m _ q1 n1;have sY:=abQ _ i m _ q2 n2;obtain ⟨hr,dW⟩:=GG h1 h2 r1 r2 0 m (h1.kE _ me1) (h2.kE _ me2) (h1.mx _ me1) (h2.mx _ me2) (h1.to _ me1) (h2.to _ me2) q1.2.1 q2.2.1 hk qd sY (λc w=>by
   have:=hk i q1.1 (c::w);rw[eM,eM,aU,aU,g1,g2]at this;exact this)
  subst hr;have abR:=Cl h1 h2 l1 l2 (i+1) (lp m r1) zk J4 q1.2.2 q2.2.2 dW (by simp at n1;omega) (by simp at n2;omega)
  exact ⟨by rw[abR.1],abR.2⟩
theorem ld.unique{m1 m2:Mc}(h1:ld m1)(h2:ld m2)(h:∀w,eM m1 w 0=eM m2 w 0):m1=m2:=by
 have he:=Cl h1 h2 m1.ed m2.ed 0 0 rfl rfl h1.meet h2.meet (λk hk w=>by rw[Nat.le_zero.1 hk];exact h w) (Nat.zero_le _) (Nat.zero_le _)
 obtain ⟨he,hk⟩:=he;have ej:m1.ac=m2.ac:=by
  apply List.ext_getElem
  .rw[h1.len,h2.len,he]
  .intro i a b;have:=hk i (by rw[<-h1.len];exact a) []
   simp only[eM]at this;rw[List.getElem?_eq_getElem a,List.getElem?_eq_getElem b]at this;exact this
 obtain ⟨e1,a1⟩:=m1;obtain ⟨e2,a2⟩:=m2;simp only at he ej;subst he ej
 rfl
theorem zO:∀(r1 r2:List Ed) (b:Nat),bK b r1->bK b r2->lh r1->lh r2->(∀c,bA r1 c=bA r2 c)->r1=r2
 | [],[],_,_,_,_,_,_=>rfl
 | [],e::r,_,_,s,_,_,h=>by
  have:=h e.lo;rw[bA,bA,if_pos ⟨V,s.2.1⟩]at this
  cases this
 |e::r,[],_,s,_,_,_,h=>by
  have:=h e.lo;rw[bA,bA,if_pos ⟨V,s.2.1⟩]at this
  cases this
 |e::r1,f::r2,b,s1,s2,x1,x2,h=>by
  have q1:=s1.2.1;have q2:=s2.2.1;have bX:e.lo=f.lo:=by
   rcases Nat.lt_trichotomy e.lo f.lo with g|g|g
   .have:=h e.lo;rw[bA,if_pos ⟨V,q1⟩,dS (b:=f.lo) (r:=f::r2) ⟨V,q2,s2.2.2⟩ g]at this
    cases this
   .exact g
   .have:=h f.lo;rw[dS (b:=e.lo) (r:=e::r1) ⟨V,q1,s1.2.2⟩ g,bA,if_pos ⟨V,q2⟩]at this
    cases this
  have jM:e.to=f.to:=by
   have:=h e.lo;rw[bA,if_pos ⟨V,q1⟩,bA,if_pos ⟨U,U⟩]at this;exact Option.some.inj this
  have sj:e.hi=f.hi:=by
   rcases Nat.lt_trichotomy e.hi f.hi with g|g|g
   .exfalso;have hc:=h (e.hi+1);rw[bA,bA,if_neg U,if_pos ⟨U,U⟩]at hc
    match r1,s1,x1 with
    | [],_,_=>cases hc
    |a::r1,s1,x1=>
     have ha:=s1.2.2;have SM:=ha.1;by_cases ky:a.lo=e.hi+1
     .rw[bA,if_pos ⟨U,by have:=ha.2.1;omega⟩]at hc
      exact x1.1 ⟨ky.symm,by rw[jM,Option.some.inj hc]⟩
     .rw[dS (b:=a.lo) (r:=a::r1) ⟨V,ha.2.1,ha.2.2⟩ U]at hc
      cases hc
   .exact g
   .exfalso;have hc:=h (f.hi+1);rw[bA,bA,if_pos ⟨U,U⟩,if_neg U]at hc
    match r2,s2,x2 with
    | [],_,_=>cases hc
    |a::r2,s2,x2=>
     have ha:=s2.2.2;have SM:=ha.1;by_cases ky:a.lo=f.hi+1
     .rw[bA,if_pos ⟨U,by have:=ha.2.1;omega⟩]at hc
      exact x2.1 ⟨ky.symm,by rw[<-jM,Option.some.inj hc]⟩
     .rw[dS (b:=a.lo) (r:=a::r2) ⟨V,ha.2.1,ha.2.2⟩ U]at hc
      cases hc
  have p9:e=f:=by
   obtain ⟨a,b,c⟩:=e;obtain ⟨a',b',c'⟩:=f;simp only at bX sj jM;subst bX sj jM
   rfl
  subst p9;have YK:lh r1:=by cases r1 with|nil=>trivial|cons g r=>exact x1.2
  have x2':lh r2:=by cases r2 with|nil=>trivial|cons g r=>exact x2.2
  rw[zO r1 r2 (e.hi+1) s1.2.2 s2.2.2 YK x2' (λc=>by
   by_cases hc:e.lo<=c/\c<=e.hi
   .rw[dS s1.2.2 U,dS s2.2.2 U]
   .have:=h c;rw[bA,bA,if_neg hc,if_neg hc]at this;exact this)]
def yo(cls:Nat->Option Nat):Option Ed->List Ed->List Ed
 |p,[]=>p.toList
 |p,e::r=>match cls e.to with
  |none=>yo cls p r
  |some t=>match p with
   |none=>yo cls (some ⟨e.lo,e.hi,t⟩) r
   |some q=>if q.to=t/\q.hi+1=e.lo then yo cls (some ⟨q.lo,e.hi,q.to⟩) r else q::yo cls (some ⟨e.lo,e.hi,t⟩) r
def cD(cls:Nat->Option Nat)(l:List Ed):List Ed:=yo cls none l
theorem rf{cls:Nat->Option Nat}:∀(l:List Ed) (q:Ed) (b:Nat),bK b l->q.lo<=q.hi->q.hi+1<=b->bK q.lo (yo cls (some q) l)/\lh (yo cls (some q) l)/\(∃h r,yo cls (some q) l=⟨q.lo,h,q.to⟩::r/\q.hi<=h)/\∀c,bA (yo cls (some q) l) c=if q.lo<=c/\c<=q.hi then some q.to else (bA l c).bind cls
 | [],q,b,_,hq,_=>by
  refine ⟨⟨V,hq,trivial⟩,trivial,⟨q.hi,[],rfl,V⟩,λc=>?_⟩;show bA [q] c=_;rw[bA,bA];split <;> rfl
 |e::r,q,b,s,hq,hb=>by
  have s1:=s.1;have s2:=s.2.1;unfold yo
  cases hc:cls e.to with
  |none=>
   obtain ⟨h1,h2,h3,h4⟩:=rf (cls:=cls) r q (e.hi+1) s.2.2 hq U;refine ⟨h1,h2,h3,λc=>?_⟩;rw[h4,bA];split
   .rfl
   .split
    .rw[dS s.2.2 U,Option.bind_some,hc];rfl
    .rfl
  |some t=>
   simp only;by_cases hj:q.to=t/\q.hi+1=e.lo
   .rw[if_pos hj];obtain ⟨h1,h2,⟨h,r',h3,h5⟩,h4⟩:=rf (cls:=cls) r ⟨q.lo,e.hi,q.to⟩ (e.hi+1) s.2.2 (by show q.lo<=e.hi;omega) V
    refine ⟨h1,h2,⟨h,r',h3,by have:e.hi<=h:=h5;omega⟩,λc=>?_⟩
    rw[h4,bA];simp only;by_cases c1:q.lo<=c/\c<=q.hi
    .rw[if_pos c1,if_pos U]
    .rw[if_neg c1];by_cases c2:e.lo<=c/\c<=e.hi
     .rw[if_pos c2,if_pos U,Option.bind_some,hc,hj.1]
     .rw[if_neg c2,if_neg U]
   .rw[if_neg hj];obtain ⟨h1,h2,⟨h,r',h3,h5⟩,h4⟩:=rf (cls:=cls) r ⟨e.lo,e.hi,t⟩ (e.hi+1) s.2.2 s2 V;refine ⟨⟨V,hq,?_⟩,?_,⟨q.hi,_,rfl,V⟩,λc=>?_⟩
    .rw[h3]at h1|-;exact ⟨by show q.hi+1<=e.lo;omega,h1.2⟩
    .rw[h3]at h2|-;exact ⟨λhx=>hj ⟨hx.2,hx.1⟩,h2⟩
    .rw[bA,h4,bA];simp only;split
     .rfl
     .split
      .rw[Option.bind_some,hc]
      .rfl
theorem gM{cls:Nat->Option Nat}:∀(l:List Ed) (b:Nat),bK b l->bK b (cD cls l)/\lh (cD cls l)/\∀c,bA (cD cls l) c=(bA l c).bind cls
 | [],_,_=>⟨trivial,trivial,λ_=>rfl⟩
 |e::r,b,s=>by
  unfold cD yo
  cases hc:cls e.to with
  |none=>
   obtain ⟨h1,h2,h3⟩:=gM (cls:=cls) r (e.hi+1) s.2.2;have eP:∀{b b':Nat} {l:List Ed},bK b' l->b<=b'->bK b l:=λ{b b' l} h hb=>by
    cases l with
    |nil=>trivial
    |cons e r=>exact ⟨Nat.le_trans hb h.1,h.2⟩
   refine ⟨eP h1 (by have:=s.1;have:=s.2.1;omega),h2,λc=>?_⟩
   show bA (cD cls r) c=_;rw[h3,bA];split
   .rw[dS s.2.2 U,Option.bind_some,hc];rfl
   .rfl
  |some t=>
   obtain ⟨h1,h2,-,h4⟩:=rf (cls:=cls) r ⟨e.lo,e.hi,t⟩ (e.hi+1) s.2.2 s.2.1 V;simp only;refine ⟨?_,h2,λc=>?_⟩
   .generalize yo cls (some ⟨e.lo,e.hi,t⟩) r=L at h1
    cases L with
    |nil=>trivial
    |cons a l=>exact ⟨Nat.le_trans s.1 h1.1,h1.2⟩
   .rw[h4,bA];simp only;split
    .rw[Option.bind_some,hc]
    .rfl
theorem MI{c1 c2:Nat->Option Nat}{l1 l2:List Ed}(s1:bK 0 l1)(s2:bK 0 l2):cD c1 l1=cD c2 l2↔∀c,(bA l1 c).bind c1=(bA l2 c).bind c2:=by
 obtain ⟨a1,a2,a3⟩:=gM (cls:=c1) l1 0 s1;obtain ⟨b1,b2,b3⟩:=gM (cls:=c2) l2 0 s2;constructor
 .intro h c;rw[<-a3,<-b3,h]
 .intro h;exact zO _ _ 0 a1 b1 a2 b2 λc=>by rw[a3,b3,h]
theorem gH{α:Type}[DecidableEq α]:∀{l r:List α},l.Nodup->(∀x∈l,x∈r)->l.length<=r.length
 | [],_,_,_=>Nat.zero_le _
 |a::l,r,hn,h=>by
  have ha:a∈r:=h a H;rw[List.nodup_cons]at hn;have:=gH (l:=l) (r:=r.erase a) hn.2 (λx hx=>(List.mem_erase_of_ne (by rintro rfl;exact hn.1 hx)).2 (h x (by simp[hx])))
  rw[List.length_erase_of_mem ha]at this;have hp:0<r.length:=List.length_pos_of_mem ha;simp only[List.length_cons];omega
theorem qJ{σ α β:Type}[DecidableEq α][DecidableEq β]{S:List σ}{f:σ->α}{g:σ->β}{F:List α}{G:List β}(hF:F.Nodup)(mF:∀x,x∈F↔∃s∈S,f s=x)(mG:∀y,y∈G↔∃s∈S,g s=y)
  (hr:∀s∈S,∀t∈S,g s=g t->f s=f t):F.length<=G.length/\(F.length=G.length->∀s∈S,∀t∈S,f s=f t->g s=g t):=by
 let φ:β->Option α:=λy=>(S.find? (λs=>decide (g s=y))).map f
 have hφ:∀s∈S,φ (g s)=some (f s):=λs hs=>by
  show (S.find? (λu=>decide (g u=g s))).map f=_
  cases h:S.find? (λu=>decide (g u=g s)) with
  |none=>
   have:=List.find?_eq_none.1 h s hs;simp at this
  |some u=>
   have h1:=List.find?_some h;have h2:=List.mem_of_find?_eq_some h;simp only[decide_eq_true_eq]at h1;rw[Option.map_some,hr u h2 s hs h1]
 have Eh:∀G':List β,(∀x∈F,∃s∈S,g s∈G'/\f s=x)->F.length<=G'.length:=λG' h=>by
  have h1:(F.map some).Nodup:=List.Pairwise.map some (λa b hab=>by intro e;exact hab (Option.some.inj e)) hF
  have h2:=gH (l:=F.map some) (r:=G'.map φ) h1 (λx hx=>by
   obtain ⟨a,ha,rfl⟩:=List.mem_map.1 hx;obtain ⟨s,hs,h3,h4⟩:=h a ha;exact List.mem_map.2 ⟨g s,h3,by rw[hφ s hs,h4]⟩)
  simpa using h2
 refine ⟨Eh G λx hx=>?_,λhlen s hs t ht fw=>?_⟩
 .obtain ⟨s,hs,e⟩:=(mF x).1 hx;exact ⟨s,hs,(mG _).2 ⟨s,hs,rfl⟩,e⟩
 .by_cases hg:g s=g t
  .exact hg
  .exfalso;have b7:g t∈G:=(mG _).2 ⟨t,ht,rfl⟩;have:=Eh (G.erase (g t)) λx hx=>by
    obtain ⟨u,hu,e⟩:=(mF x).1 hx;by_cases VH:g u=g t
    .exact ⟨s,hs,(List.mem_erase_of_ne hg).2 ((mG _).2 ⟨s,hs,rfl⟩),by rw[fw,<-e,hr u hu t ht VH]⟩
    .exact ⟨u,hu,(List.mem_erase_of_ne VH).2 ((mG _).2 ⟨u,hu,rfl⟩),e⟩
   rw[List.length_erase_of_mem b7]at this;have hp:0<G.length:=List.length_pos_of_mem b7;omega
structure jB (m:Mc):Prop where
 len:m.ac.length=m.ed.length
 kE:∀r∈m.ed,bK 0 r
 to:∀r∈m.ed,∀e∈r,e.to<m.ed.length
def aW(m:Mc)(s:Nat):Prop:=∃w,eM m w s=true
def oJ(m:Mc)(s t:Nat):Prop:=∀w,eM m w s=eM m w t
theorem jB.row{m:Mc}(h:jB m)(s:Nat):bK 0 (aU m s)/\∀e∈aU m s,e.to<m.ed.length:=by
 unfold aU
 cases hs:m.ed[s]? with
 |none=>exact ⟨trivial,λe he=>by cases he⟩
 |some r=>exact ⟨h.kE r (List.mem_of_getElem? hs),h.to r (List.mem_of_getElem? hs)⟩
theorem jB.a6{m:Mc}(h:jB m){s b t:Nat}(ht:bA (aU m s) b=some t):t<m.ed.length:=by
 obtain ⟨e,he,-,-,rfl⟩:=gI ht;exact (h.row s).2 e he
theorem cJ{m:Mc}{s b:Nat}{w:List Nat}:eM m (b::w) s=match bA (aU m s) b with|none=>false|some t=>eM m w t:=rfl
theorem yu{m:Mc}{s t b:Nat}(h:oJ m s t):(match bA (aU m s) b with|none=>∀t',bA (aU m t) b=some t'->¬aW m t'|some s'=>match bA (aU m t) b with|none=>¬aW m s'|some t'=>oJ m s' t'):=by
 cases h1:bA (aU m s) b with
 |none=>
  intro t' h2;rintro ⟨w,hw⟩;have:=h (b::w);rw[cJ,cJ,h1,h2]at this;simp only at this;rw[hw]at this
  cases this
 |some s'=>
  cases h2:bA (aU m t) b with
  |none=>
   rintro ⟨w,hw⟩;have:=h (b::w);rw[cJ,cJ,h1,h2]at this;simp only at this;rw[hw]at this
   cases this
  |some t'=>
   intro w;have:=h (b::w);rw[cJ,cJ,h1,h2]at this;exact this
def ot(m:Mc)(c:Nat->Option Nat)(s:Nat):Bool×List Ed:=((m.ac[s]?).getD false,cD c (aU m s))
structure uQ (m:Mc) (c:Nat->Option Nat):Prop where
 eJ:∀s,s<m.ed.length->(c s=none↔¬aW m s)
 coarse:∀s t,s<m.ed.length->t<m.ed.length->aW m s->aW m t->oJ m s t->c s=c t
 ZN:∀s t,s<m.ed.length->t<m.ed.length->aW m s->aW m t->ot m c s=ot m c t->c s=c t
structure Lk (m:Mc) (c d:Nat->Option Nat):Prop where
 eJ:∀s,s<m.ed.length->(d s=none↔¬aW m s)
 eq:∀s t,s<m.ed.length->t<m.ed.length->aW m s->aW m t->(d s=d t↔ot m c s=ot m c t)
theorem rh{m:Mc}{c d:Nat->Option Nat}(h:jB m){s t:Nat}:ot m c s=ot m d t↔(m.ac[s]?).getD false=(m.ac[t]?).getD false/\∀b,(bA (aU m s) b).bind c=(bA (aU m t) b).bind d:=by
 unfold ot;rw[Prod.mk.injEq,MI (h.row s).1 (h.row t).1]
theorem uQ.start{m:Mc}(c:Nat->Option Nat)(hd:∀s,s<m.ed.length->(c s=none↔¬aW m s))(h0:∀s,s<m.ed.length->aW m s->c s=some 0):uQ m c:=
 ⟨hd,λs t h1 h2 h3 h4 _=>by rw[h0 s h1 h3,h0 t h2 h4],λs t h1 h2 h3 h4 _=>by rw[h0 s h1 h3,h0 t h2 h4]⟩
theorem uQ.next{m:Mc}{c d:Nat->Option Nat}(hv:jB m)(h:uQ m c)(hn:Lk m c d):uQ m d:=by
 refine ⟨hn.eJ,λs t h1 h2 h3 h4 GH=>?_,λs t h1 h2 h3 h4 he=>?_⟩
 .rw[hn.eq s t h1 h2 h3 h4,rh hv];refine ⟨GH [],λb=>?_⟩;have:=yu (b:=b) GH
  cases e1:bA (aU m s) b with
  |none=>
   rw[e1]at this
   cases e2:bA (aU m t) b with
   |none=>rfl
   |some t'=>
    have hd:=(h.eJ t' (hv.a6 e2)).2 (this t' e2);simp[hd]
  |some s'=>
   rw[e1]at this
   cases e2:bA (aU m t) b with
   |none=>
    rw[e2]at this;have hd:=(h.eJ s' (hv.a6 e1)).2 this;simp[hd]
   |some t'=>
    rw[e2]at this;simp only[Option.bind_some];by_cases hl:aW m s'
    .have dU:aW m t':=by obtain ⟨w,hw⟩:=hl;exact ⟨w,by rw[<-this w];exact hw⟩
     exact h.coarse s' t' (hv.a6 e1) (hv.a6 e2) hl dU this
    .have dU:¬aW m t':=λ⟨w,hw⟩=>hl ⟨w,by rw[this w];exact hw⟩
     rw[(h.eJ s' (hv.a6 e1)).2 hl,(h.eJ t' (hv.a6 e2)).2 dU]
 .rw[hn.eq s t h1 h2 h3 h4,rh hv];obtain ⟨ha,hb⟩:=(rh hv).1 he;refine ⟨ha,λb=>?_⟩;have:=hb b
  cases e1:bA (aU m s) b with
  |none=>
   rw[e1]at this
   cases e2:bA (aU m t) b with
   |none=>rfl
   |some t'=>
    rw[e2]at this;simp only[Option.bind_none,Option.bind_some]at this|-;exact ((h.eJ t' (hv.a6 e2)).2 ((hn.eJ t' (hv.a6 e2)).1 this.symm)).symm
  |some s'=>
   rw[e1]at this
   cases e2:bA (aU m t) b with
   |none=>
    rw[e2]at this;simp only[Option.bind_none,Option.bind_some]at this|-;exact (h.eJ s' (hv.a6 e1)).2 ((hn.eJ s' (hv.a6 e1)).1 this)
   |some t'=>
    rw[e2]at this;simp only[Option.bind_some]at this|-;by_cases hl:aW m s'
    .have dU:aW m t':=by
      by_cases hx:aW m t'
      .exact hx
      .have h5:=(hn.eJ t' (hv.a6 e2)).2 hx;exact absurd hl ((hn.eJ s' (hv.a6 e1)).1 (this.t h5))
     exact h.ZN s' t' (hv.a6 e1) (hv.a6 e2) hl dU ((hn.eq s' t' (hv.a6 e1) (hv.a6 e2) hl dU).1 this)
    .have dU:¬aW m t':=by
      have h5:=(hn.eJ s' (hv.a6 e1)).2 hl;rw[h5]at this;exact (hn.eJ t' (hv.a6 e2)).1 this.symm
     rw[(h.eJ s' (hv.a6 e1)).2 hl,(h.eJ t' (hv.a6 e2)).2 dU]
structure sT (m:Mc) (c:Nat->Option Nat):Prop where
 eJ:∀s,s<m.ed.length->(c s=none↔¬aW m s)
 eq:∀s t,s<m.ed.length->t<m.ed.length->aW m s->aW m t->(c s=c t↔oJ m s t)
theorem uQ.done{m:Mc}{c d:Nat->Option Nat}(hv:jB m)(h:uQ m c)(hn:Lk m c d)(fw:∀s t,s<m.ed.length->t<m.ed.length->aW m s->aW m t->c s=c t->d s=d t):sT m d:=by
 have hd:=h.next hv hn;refine ⟨hn.eJ,λs t h1 h2 h3 h4=>⟨?_,hd.coarse s t h1 h2 h3 h4⟩⟩;intro he w
 induction w generalizing s t with
 |nil=>exact ((rh hv).1 ((hn.eq s t h1 h2 h3 h4).1 he)).1
 |cons b w ih=>
  have hb:=((rh hv).1 ((hn.eq s t h1 h2 h3 h4).1 he)).2 b;have dd:∀x,x<m.ed.length->c x=none->eM m w x=false:=λx hx hc=>by
   have:=(h.eJ x hx).1 hc
   cases hw:eM m w x with
   |false=>rfl
   |true=>exact absurd ⟨w,hw⟩ this
  rw[cJ,cJ]
  cases e1:bA (aU m s) b with
  |none=>
   rw[e1]at hb
   cases e2:bA (aU m t) b with
   |none=>rfl
   |some t'=>
    rw[e2]at hb;exact (dd t' (hv.a6 e2) hb.symm).symm
  |some s'=>
   rw[e1]at hb
   cases e2:bA (aU m t) b with
   |none=>
    rw[e2]at hb;exact dd s' (hv.a6 e1) hb
   |some t'=>
    rw[e2]at hb;simp only[Option.bind_some]at hb|-
    cases hc:c s' with
    |none=>
     rw[hc]at hb;rw[dd s' (hv.a6 e1) hc,dd t' (hv.a6 e2) hb.symm]
    |some k=>
     have l1:aW m s':=by
      by_cases hx:aW m s'
      .exact hx
      .rw[(h.eJ s' (hv.a6 e1)).2 hx]at hc;cases hc
     have l2:aW m t':=by
      by_cases hx:aW m t'
      .exact hx
      .rw[(h.eJ t' (hv.a6 e2)).2 hx,hc]at hb;cases hb
     exact ih s' t' (hv.a6 e1) (hv.a6 e2) l1 l2 (fw s' t' (hv.a6 e1) (hv.a6 e2) l1 l2 hb)
def bO(f:Nat->Nat)(l:List Ed):List Ed:=l.map λe=>⟨e.lo,e.hi,f e.to⟩
theorem GI(f:Nat->Nat):∀(l:List Ed) (c:Nat),bA (bO f l) c=(bA l c).map f
 | [],_=>rfl
 |e::r,c=>by
  show bA (_::bO f r) c=_;rw[bA,bA,GI f r];simp only;split <;> rfl
theorem Cm(f:Nat->Nat):∀(l:List Ed) (b:Nat),bK b l->bK b (bO f l)
 | [],_,_=>trivial
 |_::r,_,h=>⟨h.1,h.2.1,Cm f r _ h.2.2⟩
theorem GJ(f:Nat->Nat):∀(l:List Ed),(∀e∈l,∀g∈l,f e.to=f g.to->e.to=g.to)->lh l->lh (bO f l)
 | [],_,_=>trivial
 | [_],_,_=>trivial
 |e::g::r,hf,h=>⟨λhx=>h.1 ⟨hx.1,hf e H g H hx.2⟩,GJ f (g::r) (λa ha b hb=>hf a (by simp[ha]) b (by simp[hb])) h.2⟩
def cQ(m:Mc)(c:Nat->Option Nat)(f:Nat->Nat)(st:List Nat):Mc:=⟨st.map λs=>bO f (cD c (aU m s)),st.map λs=>(m.ac[s]?).getD false⟩
theorem jW{m:Mc}{c:Nat->Option Nat}{f:Nat->Nat}{st:List Nat}(hv:jB m)(hc:sT m c)(hs:∀s∈st,s<m.ed.length/\aW m s)(hf:∀k s cl,st[k]?=some s->c s=some cl->f cl=k)
  (ht:∀s∈st,∀e∈cD c (aU m s),∃t∈st,c t=some e.to):∀(w:List Nat) (k s:Nat),st[k]?=some s->eM (cQ m c f st) w k=eM m w s
 | [],k,s,h=>by
  unfold eM cQ;simp only[List.getElem?_map,h,Option.map_some,Option.getD_some]
 |b::w,k,s,h=>by
  have eg:s∈st:=List.mem_of_getElem? h;have hr:aU (cQ m c f st) k=bO f (cD c (aU m s)):=by
   show ((cQ m c f st).ed[k]?).getD []=_;unfold cQ;simp only[List.getElem?_map,h,Option.map_some,Option.getD_some]
  rw[cJ,cJ,hr,GI,(gM _ _ (hv.row s).1).2.2]
  cases e1:bA (aU m s) b with
  |none=>rfl
  |some t=>
   simp only[Option.bind_some];have Dj:=hv.a6 e1
   cases e2:c t with
   |none=>
    simp only[Option.map_none]
    cases hw:eM m w t with
    |false=>rfl
    |true=>exact absurd ⟨w,hw⟩ ((hc.eJ t Dj).1 e2)
   |some cl=>
    simp only[Option.map_some];have hj:bA (cD c (aU m s)) b=some cl:=by rw[(gM _ _ (hv.row s).1).2.2,e1,Option.bind_some,e2]
    obtain ⟨e,he,-,-,rfl⟩:=gI hj;obtain ⟨u,hu,yh⟩:=ht s eg e he;obtain ⟨j,hj'⟩:=List.mem_iff_getElem?.1 hu;rw[hf j u _ hj' yh,jW hv hc hs hf ht w j u hj'];have l1:aW m t:=by
     by_cases hx:aW m t
     .exact hx
     .rw[(hc.eJ t Dj).2 hx]at e2;cases e2
    exact (hc.eq u t (hs u hu).1 Dj (hs u hu).2 l1).1 (yh.t e2.symm) w
theorem Ci{m:Mc}{c:Nat->Option Nat}{f:Nat->Nat}{st:List Nat}(hv:jB m)(hc:sT m c)(hs:∀s∈st,s<m.ed.length/\aW m s)(hf:∀k s cl,st[k]?=some s->c s=some cl->f cl=k)
  (ht:∀s∈st,∀e∈cD c (aU m s),∃t∈st,c t=some e.to) (hm:lj 0 0 (cQ m c f st).ed):ld (cQ m c f st):=by
 have hlen:(cQ m c f st).ed.length=st.length:=by unfold cQ;simp
 have aC:∀r∈(cQ m c f st).ed,∃s∈st,r=bO f (cD c (aU m s)):=λr hr=>by
  unfold cQ at hr;obtain ⟨s,hs,rfl⟩:=List.mem_map.1 hr;exact ⟨s,hs,rfl⟩
 have jM:∀s∈st,∀e∈cD c (aU m s),f e.to<st.length/\∃u,st[f e.to]?=some u/\c u=some e.to:=λs zt e he=>by
  obtain ⟨u,hu,yh⟩:=ht s zt e he;obtain ⟨j,hj⟩:=List.mem_iff_getElem?.1 hu;have:=hf j u _ hj yh;rw[this];exact ⟨(List.getElem?_eq_some_iff.1 hj).1,u,hj,yh⟩
 refine ⟨by unfold cQ;simp,λr hr=>?_,λr hr=>?_,λr hr e he=>?_,λk hk=>?_,λk j hk hj h=>?_,hm⟩
 .obtain ⟨s,zt,rfl⟩:=aC r hr;exact Cm f _ _ (gM _ _ (hv.row s).1).1
 .obtain ⟨s,zt,rfl⟩:=aC r hr;refine GJ f _ (λe he g hg Uu=>?_) (gM _ _ (hv.row s).1).2.1;obtain ⟨-,u,h1,h2⟩:=jM s zt e he;obtain ⟨-,v,h3,h4⟩:=jM s zt g hg;rw[Uu,h3]at h1;obtain rfl:=Option.some.inj h1;exact Option.some.inj (h2.symm.t h4)
 .obtain ⟨s,zt,rfl⟩:=aC r hr;obtain ⟨e',he',rfl⟩:=List.mem_map.1 he;rw[hlen];exact (jM s zt e' he').1
 .rw[hlen]at hk;have h1:st[k]?=some st[k]:=List.getElem?_eq_getElem hk;obtain ⟨w,hw⟩:=(hs st[k] (List.getElem_mem hk)).2;exact ⟨w,by rw[jW hv hc hs hf ht w k _ h1];exact hw⟩
 .rw[hlen]at hk hj;have h1:st[k]?=some st[k]:=List.getElem?_eq_getElem hk;have h2:st[j]?=some st[j]:=List.getElem?_eq_getElem hj;have GH:oJ m st[k] st[j]:=λw=>by rw[<-jW hv hc hs hf ht w k _ h1,<-jW hv hc hs hf ht w j _ h2];exact h w
  have bQ:=hs _ (List.getElem_mem hk);have iI:=hs _ (List.getElem_mem hj);have nZ:=(hc.eq _ _ bQ.1 iI.1 bQ.2 iI.2).2 GH
  cases e:c st[k] with
  |none=>exact absurd bQ.2 ((hc.eJ _ bQ.1).1 e)
  |some cl=>rw[<-hf k _ cl h1 e,<-hf j _ cl h2 (nZ.symm.t e)]
structure Vq (b:Pb) (x:cI) (gs:List (List Nat)) (m:Mc):Prop where
 acc:∀i,i<gs.length->((m.ac[i]?).getD false=true↔if i=0 then x.emp=true else ∃p∈(gs[i]?).getD [],p∈x.last)
 VI:∀i,i<gs.length->∀c,match bA (aU m i) c with
  |none=>∀p,ir b x gs i p->cH b p c=false
  |some t=>0<t/\t<gs.length/\∀p,p∈(gs[t]?).getD []↔ir b x gs i p/\cH b p c=true
theorem Vq.jk{b:Pb}{x:cI}{gs:List (List Nat)}{m:Mc}(h:Vq b x gs m):∀(w:List Nat) (i:Nat),i<gs.length->(eM m w i=true↔Io b x gs i w)
 | [],i,hi=>by
  show (m.ac[i]?).getD false=true↔_;rw[h.acc i hi];unfold Io;by_cases h0:i=0
  .simp only[h0,if_true];exact Iff.rfl
  .simp only[h0,if_false];exact Iff.rfl
 |c::w,i,hi=>by
  rw[cJ];have he:=h.VI i hi c;have hg:Io b x gs i (c::w)↔∃p,ir b x gs i p/\cH b p c=true/\wk b x.last w p:=by
   unfold Io ir;by_cases h0:i=0
   .simp only[h0,if_true];exact ⟨λ⟨q,h1,h2,h3⟩=>⟨q,h1,h2,h3⟩,λ⟨q,h1,h2,h3⟩=>⟨q,h1,h2,h3⟩⟩
   .simp only[h0,if_false];constructor
    .rintro ⟨p,h1,h2⟩;obtain ⟨q,g1,g2,g3⟩:=h2;exact ⟨q,⟨p,h1,g1⟩,g2,g3⟩
    .rintro ⟨q,⟨p,h1,g1⟩,g2,g3⟩;exact ⟨p,h1,q,g1,g2,g3⟩
  rw[hg]
  cases ht:bA (aU m i) c with
  |none=>
   rw[ht]at he;simp only at he|-;constructor
   .intro hx;cases hx
   .rintro ⟨p,h1,h2,-⟩;rw[he p h1]at h2
    cases h2
  |some t=>
   rw[ht]at he;obtain ⟨t0,t1,t2⟩:=he;simp only;rw[h.jk w t t1];unfold Io;rw[if_neg U];constructor
   .rintro ⟨p,h1,h2⟩;exact ⟨p,((t2 p).1 h1).1,((t2 p).1 h1).2,h2⟩
   .rintro ⟨p,h1,h2,h3⟩;exact ⟨p,(t2 p).2 ⟨h1,h2⟩,h3⟩
theorem sq:∀{r:List Ed} {b:Nat} {e:Ed},bK b r->(∀f∈r,f.hi<e.lo)->b<=e.lo->e.lo<=e.hi->bK b (r++[e])
 | [],_,_,_,_,h1,h2=>⟨h1,h2,trivial⟩
 |f::r,b,e,h,hf,_,h2=>⟨h.1,h.2.1,sq h.2.2 (λg hg=>hf g (by simp[hg])) (by have:=hf f H;omega) h2⟩
theorem oG:∀{r:List Ed} {e:Ed} {c:Nat},(∀f∈r,f.hi<e.lo)->bA (r++[e]) c=if e.lo<=c/\c<=e.hi then some e.to else bA r c
 | [],e,c,_=>rfl
 |f::r,e,c,h=>by
  show bA (f::(r++[e])) c=_;rw[bA,oG (λg hg=>h g (by simp[hg])),bA]
  have:=h f H;by_cases h1:f.lo<=c/\c<=f.hi
  .rw[if_pos h1,if_pos h1,if_neg U]
  .rw[if_neg h1,if_neg h1]
theorem Gr{l:List Nat}(hs:l.Pairwise (·<·)){k:Nat}(hk:k+1<l.length){v:Nat}(hv:v∈l):v<=l[k]\/l[k+1]<=v:=by
 obtain ⟨j,hj,rfl⟩:=List.getElem_of_mem hv;rw[List.pairwise_iff_getElem]at hs;rcases Nat.lt_trichotomy j k with h|h|h
 .exact .inl (Nat.le_of_lt (hs j k hj U h))
 .subst h;exact .inl V
 .by_cases h2:j=k+1
  .subst h2;exact .inr V
  .exact .inr (Nat.le_of_lt (hs (k+1) j hk hj U))
theorem D7{l:List Nat}(hs:l.Pairwise (·<·)){k:Nat}(hk:k+1<l.length){rs:List (Nat×Nat)}(hr:∀r∈rs,r.1∈l/\r.2+1∈l){c:Nat}(h1:l[k]<=c)(h2:c<l[k+1]):qq rs c=qq rs l[k]:=by
 unfold qq
 induction rs with
 |nil=>rfl
 |cons r rs ih=>
  rw[List.any_cons,List.any_cons,ih (λx hx=>hr x (by simp[hx]))]
  obtain ⟨g1,g2⟩:=hr r H;have c1:=Gr hs hk g1;have c2:=Gr hs hk g2
  congr 1
  rw[Bool.eq_iff_iff];simp only[Bool.and_eq_true,decide_eq_true_eq];omega
theorem L9{l:List Nat}{rs:List (Nat×Nat)}(hr:∀r∈rs,r.1∈l/\r.2+1∈l){c:Nat}(h:∀v∈l,c<v):qq rs c=false:=by
 unfold qq;rw[List.any_eq_false];intro r hx;have:=h _ (hr r hx).1;simp;omega
theorem Is{l:List Nat}{rs:List (Nat×Nat)}(hr:∀r∈rs,r.1∈l/\r.2+1∈l){c:Nat}(h:∀v∈l,v<=c):qq rs c=false:=by
 unfold qq;rw[List.any_eq_false];intro r hx;have:=h _ (hr r hx).2;simp;omega
structure ft (b:Pb) (fo:List Nat) (gs:List (List Nat)) (row:List Ed) (v:Nat):Prop where
 kE:bK 0 row
 hi:∀e∈row,e.hi<v
 sp:∀c,c<v->match bA row c with
  |none=>∀p∈fo,cH b p c=false
  |some t=>0<t/\t<gs.length/\∀p,p∈(gs[t]?).getD []↔p∈fo/\cH b p c=true
theorem ft.nil{b:Pb}{fo:List Nat}{gs:List (List Nat)}{v:Nat}(h:∀c,c<v->∀p∈fo,cH b p c=false):ft b fo gs [] v:=
 ⟨trivial,λe he=>absurd he H,λc hc=>h c hc⟩
theorem ft.skip{b:Pb}{fo:List Nat}{gs:List (List Nat)}{row:List Ed}{v v':Nat}(h:ft b fo gs row v)(hv:v<=v')(hn:∀c,v<=c->c<v'->∀p∈fo,cH b p c=false):ft b fo gs row v':=by
 refine ⟨h.kE,λe he=>by have:=h.hi e he;omega,λc hc=>?_⟩
 by_cases dx:c<v
 .exact h.sp c dx
 .have:bA row c=none:=by
   cases ht:bA row c with
   |none=>rfl
   |some t=>
    obtain ⟨e,he,-,h2,-⟩:=gI ht;have:=h.hi e he;omega
  rw[this];exact hn c U hc
theorem ft.add{b:Pb}{fo:List Nat}{gs:List (List Nat)}{row:List Ed}{v v' t:Nat}(h:ft b fo gs row v)(hv:v<v')(Ml:0<t)(ht:t<gs.length)(hn:∀c,v<=c->c<v'->∀p,p∈(gs[t]?).getD []↔p∈fo/\cH b p c=true):ft b fo gs (row++[⟨v,v' - 1,t⟩]) v':=by
 refine ⟨sq h.kE h.hi (Nat.zero_le _) (by show v<=v' - 1;omega),λe he=>?_,λc hc=>?_⟩
 .rcases List.mem_append.1 he with g|g
  .have:=h.hi e g;omega
  .rw[List.mem_singleton.1 g];show v' - 1<v';omega
 .rw[oG h.hi];by_cases dx:c<v
  .rw[if_neg (by show ¬(v<=c/\_);omega)]
   exact h.sp c dx
  .rw[if_pos (by show v<=c/\c<=v' - 1;omega)]
   exact ⟨Ml,ht,hn c U hc⟩
theorem ft.grow{b:Pb}{fo:List Nat}{gs:List (List Nat)}{row:List Ed}{v:Nat}(h:ft b fo gs row v)(g:List Nat):ft b fo (gs++[g]) row v:=by
 refine ⟨h.kE,h.hi,λc hc=>?_⟩;have:=h.sp c hc
 cases ht:bA row c with
 |none=>rw[ht]at this;exact this
 |some t=>
  rw[ht]at this;obtain ⟨h0,h1,h2⟩:=this;refine ⟨h0,ψ,λp=>?_⟩;rw[List.getElem?_append_left h1];exact h2 p
theorem mE:∀{r:List Ed} {b:Nat} {e:Ed},bK b r->e∈r->bA r e.lo=some e.to
 |f::r,b,e,h,he=>by
  rw[bA];rcases List.mem_cons.1 he with rfl|he
  .rw[if_pos ⟨V,h.2.1⟩]
  .have bX:∀{r:List Ed} {b:Nat},bK b r->∀g∈r,b<=g.lo:=by
    intro r
    induction r with
    |nil=>intro b _ g hg;cases hg
    |cons a r ih=>
     intro b h g hg;rcases List.mem_cons.1 hg with rfl|hg
     .exact h.1
     .have h1:=ih h.2.2 g hg;have h2:=h.1;have h3:=h.2.1;omega
   have:=bX h.2.2 e he;rw[if_neg U];exact mE h.2.2 he
theorem Hf{m:Mc}(hv:jB m){s:Nat}{e:Ed}(he:e∈aU m s)(hl:aW m e.to):aW m s:=by
 obtain ⟨w,hw⟩:=hl;exact ⟨e.lo::w,by rw[cJ,mE (hv.row s).1 he];exact hw⟩
theorem KC{m:Mc}{s:Nat}(h:(m.ac[s]?).getD false=true):aW m s:=⟨[],h⟩
theorem KD{m:Mc}(hv:jB m){out:Nat->Bool}(h0:∀s,s<m.ed.length->(m.ac[s]?).getD false=true->out s=true)(fw:∀s,s<m.ed.length->out s=false->∀e∈aU m s,out e.to=false){s:Nat}(hs:s<m.ed.length)(hl:aW m s):out s=true:=by
 obtain ⟨w,hw⟩:=hl
 induction w generalizing s with
 |nil=>exact h0 s hs hw
 |cons c w ih=>
  rw[cJ]at hw
  cases ht:bA (aU m s) c with
  |none=>rw[ht]at hw;cases hw
  |some t=>
   rw[ht]at hw;have:=ih (hv.a6 ht) hw;obtain ⟨e,he,-,-,rfl⟩:=gI ht
   cases ho:out s with
   |true=>rfl
   |false=>rw[fw s hs ho e he]at this;cases this
def mN:Nat->Nat->List (List Ed)->Nat->Prop
 |_,m,[],t=>t=m
 |i,m,r::rs,t=>i<=m/\mZ m r/\mN (i+1) (lp m r) rs t
theorem mN.snoc{r:List Ed}:∀{rs:List (List Ed)} {i m t:Nat},mN i m rs t->i+rs.length<=t->mZ t r->mN i m (rs++[r]) (lp t r)
 | [],i,m,t,h,h1,h2=>by
  have:t=m:=h;subst this;exact ⟨by simpa using h1,h2,rfl⟩
 |a::rs,i,m,t,h,h1,h2=>⟨h.1,h.2.1,mN.snoc h.2.2 (by simp at h1;omega) h2⟩
theorem mN.done:∀{rs:List (List Ed)} {i m t:Nat},mN i m rs t->i+rs.length=t+1->lj i m rs
 | [],i,m,t,h,h1=>by
  have:t=m:=h;subst this;simpa [lj] using h1
 |a::rs,i,m,t,h,h1=>⟨h.1,h.2.1,mN.done h.2.2 (by simp at h1;omega)⟩
theorem qj{e:Ed}:∀{r:List Ed} {m:Nat},mZ m r->e.to<=lp m r+1->mZ m (r++[e])/\lp m (r++[e])=max (lp m r) e.to
 | [],m,_,h=>⟨⟨h,trivial⟩,rfl⟩
 |f::r,m,h,h1=>by
  obtain ⟨q1,q2⟩:=qj (r:=r) (m:=max m f.to) h.2 h1;exact ⟨⟨h.1,q1⟩,q2⟩
def aZ(c:Nat->Option Nat)(st:List Nat)(cl:Nat):Nat:=(st.map c).idxOf (some cl)
theorem Q2{c:Nat->Option Nat}{st:List Nat}(hn:(st.map c).Nodup){k s cl:Nat}(hk:st[k]?=some s)(hc:c s=some cl):aZ c st cl=k:=by
 unfold aZ;obtain ⟨aB,he⟩:=List.getElem?_eq_some_iff.1 hk;have yU:k<(st.map c).length:=by simpa using aB
 have h2:(st.map c)[k]=some cl:=by rw[List.getElem_map,he,hc]
 rw[<-h2];exact hn.idxOf_getElem k yU
theorem oY{c:Nat->Option Nat}{st:List Nat}{cl:Nat}(s:Nat)(h:some cl∈st.map c):aZ c (st++[s]) cl=aZ c st cl:=by
 unfold aZ;rw[List.map_append,List.idxOf_append,if_pos h]
theorem vN{c:Nat->Option Nat}{st:List Nat}{cl s:Nat}(h:¬some cl∈st.map c)(hc:c s=some cl):aZ c (st++[s]) cl=st.length:=by
 unfold aZ;rw[List.map_append,List.idxOf_append,if_neg h];simp[hc]
theorem GA{c:Nat->Option Nat}{st:List Nat}{cl:Nat}(h:some cl∈st.map c):aZ c st cl<st.length:=by
 unfold aZ;have:=List.idxOf_lt_length_of_mem h;simpa using this
theorem ra{c:Nat->Option Nat}{st:List Nat}(s:Nat){l:List Ed}(h:∀e∈l,some e.to∈st.map c):bO (aZ c (st++[s])) l=bO (aZ c st) l:=by
 unfold bO;exact List.map_congr_left λe he=>by rw[oY s (h e he)]
end Go.Proofs.YthamegenljmgmaaGreatDoor
