/- Scanning as plain functions: choices in a text; a byte that no token has parts the text. No program in sight. · Matches of several kinds, in order. No program in sight. -/
import Derived.Test.YtadjdkickjjieaaGreatDoorY01
namespace Go.Proofs.YtadjdkickjjieaaGreatDoor
set_option linter.unusedVariables false
set_option linter.unusedSimpArgs false
set_option maxRecDepth 100000
def rchF (m:Mc):List Nat->Nat->Nat->List Nat
 | [],s,k=>if (m.ac[s]?).getD false=true then [k] else []
 | c::w,s,k=>(if (m.ac[s]?).getD false=true then [k] else [])++match trn (rowM m s) c with | none=>[] | some t=>rchF m w t (k+1)
def choF (R:List Nat) (i:Nat) (clr:Nat->Bool):Option Nat:=R.reverse.find? λt=>decide (i<t) && clr t
def sgN (c:Nat):Bool:=(decide (97<=c) && decide (c<=122)) || (decide (65<=c) && decide (c<=90)) || (decide (48<=c) && decide (c<=57))
def clrF (wh:Bool) (bs:List Nat) (i t:Nat):Bool:=
 (decide (i<=t) && decide (t<=bs.length)) && (!wh || ((decide (i=0) || !sgN ((bs[i - 1]?).getD 0)) && (decide (t=bs.length) || !sgN ((bs[t]?).getD 0))))
def chF (m:Mc) (wh:Bool) (bs:List Nat) (i:Nat):Option Nat:=choF (rchF m (bs.drop i) 0 i) i (clrF wh bs i)
def chsF (f:Nat->Option Nat) (n:Nat):Nat->Nat->List (Nat×Nat)
 | 0,_=>[]
 | k+1,i=>if i<n then match f i with | none=>chsF f n k (i+1) | some t=>(i,t)::chsF f n k t else []
def zNn (d:Nat) (l:List (Nat×Nat)):List (Nat×Nat):=l.map λp=>(p.1+d,p.2+d)
theorem zCf (m:Mc):∀(bs:List Nat) (s k t:Nat),t∈rchF m bs s k↔∃j,t=k+j/\j<=bs.length/\acF m (bs.take j) s=true
 | [],s,k,t=>by
  rw[rchF];constructor
  .intro h;by_cases hb:(m.ac[s]?).getD false=true
   .rw[if_pos hb,List.mem_singleton]at h;exact ⟨0,by omega,Nat.le_refl _,hb⟩
   .rw[if_neg hb]at h;cases h
  .rintro ⟨j,rfl,hj,h⟩;have:j=0:=by simpa using hj
   subst this;have h:(m.ac[s]?).getD false=true:=h;rw[if_pos h];simp
 | c::w,s,k,t=>by
  rw[rchF,List.mem_append];constructor
  .rintro (h | h)
   .by_cases hb:(m.ac[s]?).getD false=true
    .rw[if_pos hb,List.mem_singleton]at h;exact ⟨0,by omega,Nat.zero_le _,hb⟩
    .rw[if_neg hb]at h;cases h
   .cases ht:trn (rowM m s) c with
    | none=>rw[ht]at h;cases h
    | some q=>
     rw[ht]at h;obtain ⟨j,rfl,hj,h⟩:=(zCf m w q (k+1) t).1 h;exact ⟨j+1,by omega,by simpa using hj,by rw[List.take_succ_cons,acF,ht];exact h⟩
  .rintro ⟨j,rfl,hj,h⟩
   cases j with
   | zero=>exact .inl (by rw[if_pos (show (m.ac[s]?).getD false=true from h)];simp)
   | succ j=>
    right
    rw[List.take_succ_cons,acF]at h
    cases ht:trn (rowM m s) c with
    | none=>rw[ht]at h;cases h
    | some q=>
     rw[ht]at h;exact (zCf m w q (k+1) _).2 ⟨j,by omega,by simpa using hj,h⟩
theorem zGV (m:Mc):∀(bs:List Nat) (s k:Nat),(rchF m bs s k).Pairwise (·<·)
 | [],s,k=>by rw[rchF]; split <;> simp
 | c::w,s,k=>by
  rw[rchF,List.pairwise_append];refine ⟨by split <;> simp,?_,λa ha b hb=>?_⟩
  .cases trn (rowM m s) c with
   | none=>exact List.Pairwise.nil
   | some q=>exact zGV m w q (k+1)
  .have ha:a=k:=by
    split at ha
    .simpa using ha
    .cases ha
   subst ha
   cases ht:trn (rowM m s) c with
   | none=>rw[ht]at hb;cases hb
   | some q=>
    rw[ht]at hb;obtain ⟨j,rfl,-,-⟩:=(zCf m w q (a+1) b).1 hb;omega
theorem zGm {p:Nat->Bool}:∀{D:List Nat},D.Pairwise (· > ·)->∀t,D.find? p=some t↔(t∈D/\p t=true)/\∀x∈D,p x=true->x<=t
 | [],_,t=>by simp
 | a::D,hD,t=>by
  have hD':=List.pairwise_cons.1 hD;rw[List.find?_cons]
  cases ha:p a with
  | true=>
   constructor
   .intro e;injection e with e;subst e;refine ⟨⟨by simp,ha⟩,λx hx _=>?_⟩
    rcases List.mem_cons.1 hx with rfl | hx
    .exact Nat.le_refl _
    .exact Nat.le_of_lt (hD'.1 x hx)
   .rintro ⟨⟨h1,-⟩,h3⟩;have hle:=h3 a (by simp) ha
    rcases List.mem_cons.1 h1 with rfl | h1
    .rfl
    .have:=hD'.1 t h1;omega
  | false=>
   show D.find? p=some t↔_;rw[zGm hD'.2 t];constructor
   .rintro ⟨⟨h1,h2⟩,h3⟩;refine ⟨⟨List.mem_cons_of_mem _ h1,h2⟩,λx hx h=>?_⟩;rcases List.mem_cons.1 hx with rfl | hx
    .rw[ha]at h;cases h
    .exact h3 x hx h
   .rintro ⟨⟨h1,h2⟩,h3⟩;rcases List.mem_cons.1 h1 with rfl | h1
    .rw[ha]at h2;cases h2
    .exact ⟨⟨h1,h2⟩,λx hx=>h3 x (List.mem_cons_of_mem _ hx)⟩
def AccT (m:Mc) (wh:Bool) (bs:List Nat) (i t:Nat):Prop:=i<t/\t<=bs.length/\acF m ((bs.drop i).take (t-i)) 0=true/\clrF wh bs i t=true
theorem zIx (m:Mc) (wh:Bool) (bs:List Nat) (i t:Nat) (hi:i<=bs.length):chF m wh bs i=some t↔AccT m wh bs i t/\∀x,AccT m wh bs i x->x<=t:=by
 have hmem:∀x,(x∈(rchF m (bs.drop i) 0 i).reverse/\(decide (i<x) && clrF wh bs i x)=true)↔AccT m wh bs i x:=λx=>by
  rw[List.mem_reverse,zCf,List.length_drop,Bool.and_eq_true,decide_eq_true_eq];unfold AccT;constructor
  .rintro ⟨⟨j,rfl,h1,h2⟩,h3,h4⟩;exact ⟨h3,by omega,by rw[show i+j-i=j by omega];exact h2,h4⟩
  .rintro ⟨h1,h2,h3,h4⟩;exact ⟨⟨x-i,by omega,by omega,h3⟩,h1,h4⟩
 unfold chF choF;rw[zGm (by rw[List.pairwise_reverse];exact zGV m _ 0 i) t,hmem]
 constructor
 .rintro ⟨h1,h2⟩;exact ⟨h1,λx hx=>h2 x ((hmem x).2 hx).1 ((hmem x).2 hx).2⟩
 .rintro ⟨h1,h2⟩;exact ⟨h1,λx hx hp=>h2 x ((hmem x).1 ⟨hx,hp⟩)⟩
theorem zGj {m:Mc} {wh:Bool} {bs:List Nat} {i t:Nat} (hi:i<=bs.length) (h:chF m wh bs i=some t):i<t/\t<=bs.length:=by
 have:=((zIx m wh bs i t hi).1 h).1;exact ⟨this.1,this.2.1⟩
section
variable {m:Mc} {wh:Bool} {c:Nat} (hc:∀w,acF m w 0=true->c∉w) (hs:sgN c=false) (a b:List Nat)
include hc hs
end
theorem zCQ (f:Nat->Option Nat) (n:Nat) (hf:∀i t,i<n->f i=some t->i<t):∀(k k' i:Nat),n<=i+k->n<=i+k'->chsF f n k i=chsF f n k' i
 | 0,0,_,_,_=>rfl
 | 0,k'+1,i,h,_=>by rw[chsF,chsF,if_neg (by omega)]
 | k+1,0,i,_,h=>by rw[chsF,chsF,if_neg (by omega)]
 | k+1,k'+1,i,h,h'=>by
  rw[chsF,chsF];by_cases hi:i<n
  .rw[if_pos hi,if_pos hi]
   cases hfi:f i with
   | none=>exact zCQ f n hf k k' (i+1) (by omega) (by omega)
   | some t=>
    have:=hf i t hi hfi;show (i,t)::chsF f n k t=(i,t)::chsF f n k' t;rw[zCQ f n hf k k' t (by omega) (by omega)]
  .rw[if_neg hi,if_neg hi]
def chA (m:Mc) (wh:Bool) (bs:List Nat):List (Nat×Nat):=chsF (chF m wh bs) bs.length bs.length 0
structure Mt where
 k:Nat
 f:Nat
 t:Nat
 deriving DecidableEq
instance zNs:Inhabited Mt:=⟨⟨0,0,0⟩⟩
def ltMt (a b:Mt):Bool:=decide (a.f<b.f) || (decide (a.f=b.f) && (decide (a.t<b.t) || (decide (a.t=b.t) && decide (a.k<b.k))))
def LeMt (a b:Mt):Prop:=ltMt b a=false
def mtK (i:Nat) (l:List (Nat×Nat)):List Mt:=l.map λp=>⟨i,p.1,p.2⟩
def allK (f:Nat->List (Nat×Nat)):Nat->Nat->List Mt
 | 0,_=>[]
 | n+1,i=>mtK i (f i)++allK f n (i+1)
def shM (d:Nat) (l:List Mt):List Mt:=l.map λa=>⟨a.k,a.f+d,a.t+d⟩
theorem zFn {f:Nat->Option Nat} {n:Nat} (hf:∀i t,i<n->f i=some t->i<t/\t<=n):∀(k i:Nat) (p:Nat×Nat),p∈chsF f n k i->(i<=p.1/\p.1<p.2/\p.2<=n)/\f p.1=some p.2
 | 0,i,p,h=>by cases h
 | k+1,i,p,h=>by
  rw[chsF]at h;by_cases hi:i<n
  .rw[if_pos hi]at h
   cases hfi:f i with
   | none=>
    rw[hfi]at h;obtain ⟨h1,h2⟩:=zFn hf k (i+1) p h;exact ⟨by omega,h2⟩
   | some t=>
    rw[hfi]at h;obtain ⟨q1,q2⟩:=hf i t hi hfi;rcases List.mem_cons.1 h with rfl | h
    .exact ⟨⟨Nat.le_refl _,q1,q2⟩,hfi⟩
    .obtain ⟨h1,h2⟩:=zFn hf k t p h;exact ⟨by omega,h2⟩
  .rw[if_neg hi]at h;cases h
theorem zMc {m:Mc} {wh:Bool} {bs:List Nat} {p:Nat×Nat} (h:p∈chA m wh bs):(p.1<p.2/\p.2<=bs.length)/\chF m wh bs p.1=some p.2:=by
 obtain ⟨h1,h2⟩:=zFn (λi t hi h=>zGj (Nat.le_of_lt hi) h) _ _ p h;exact ⟨h1.2,h2⟩
end Go.Proofs.YtadjdkickjjieaaGreatDoor
