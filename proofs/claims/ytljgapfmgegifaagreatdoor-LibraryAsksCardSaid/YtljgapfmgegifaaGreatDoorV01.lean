/- The measure of how irregular bytes are, as a plain function: it is never below 0. No program in sight. · Decimal digits: what they spell, how many there are. No program in sight. -/
import Derived.Lib.ItoaNum
import Derived.Lib.Itoa
namespace Go.Proofs.YtljgapfmgegifaaGreatDoor
set_option linter.unusedVariables false
set_option linter.unusedSimpArgs false
set_option maxRecDepth 100000
def stL (p:Nat×Nat):Nat×Nat:=if 2147483648<=p.2*p.2 / 1073741824 then (2*p.1+1,p.2*p.2 / 1073741824 / 2) else (2*p.1,p.2*p.2 / 1073741824)
def itL:Nat->Nat×Nat->Nat×Nat
 | 0,p=>p
 | k+1,p=>itL k (stL p)
def lgY (n:Nat):Nat:=Lib.bitLen n - 1
def logF (n:Nat):Nat:=if n<1\/1073741824<n then 0 else (itL 16 (lgY n,n*2 ^ (30-lgY n))).1
theorem lgY_is {n:Nat} (h1:1<=n) (h2:n<=1073741824):2 ^ lgY n<=n/\n<2 ^ (lgY n+1)/\lgY n<=30/\Lib.bitLen n=lgY n+1:=by
 obtain ⟨q1,q2,q3⟩:=Lib.bitLenAux_bounds 64 n (by omega) (by omega)
 have hb:Lib.bitLen n=Lib.bitLenAux 64 n:=rfl;unfold lgY;rw[hb];refine ⟨q2,by rw[show Lib.bitLenAux 64 n - 1+1=Lib.bitLenAux 64 n by omega];exact q3,?_,by omega⟩
 by_cases h:Lib.bitLenAux 64 n - 1<=30
 .exact h
 .have:2 ^ 31<=2 ^ (Lib.bitLenAux 64 n - 1):=Nat.pow_le_pow_right (by decide) (by omega)
  omega
def InL (x:Nat):Prop:=1073741824<=x/\x<2147483648
theorem inL_start {n:Nat} (h1:1<=n) (h2:n<=1073741824):InL (n*2 ^ (30-lgY n)):=by
 obtain ⟨q1,q2,q3,-⟩:=lgY_is h1 h2;have e:2 ^ lgY n*2 ^ (30-lgY n)=1073741824:=by rw[<-Nat.pow_add,show lgY n+(30-lgY n)=30 by omega]
 have e2:2 ^ (lgY n+1)*2 ^ (30-lgY n)=2147483648:=by rw[<-Nat.pow_add,show lgY n+1+(30-lgY n)=31 by omega]
 have hp:0<2 ^ (30-lgY n):=Nat.two_pow_pos _;have g1:=Nat.mul_le_mul_right (2 ^ (30-lgY n)) q1;have g2:=Nat.mul_lt_mul_of_pos_right q2 hp;exact ⟨by omega,by omega⟩
theorem inL_sq {x:Nat} (h:InL x):1073741824<=x*x / 1073741824/\x*x / 1073741824<4294967296/\x*x<4611686018427387904:=by
 have g1:1073741824*1073741824<=x*x:=Nat.mul_le_mul h.1 h.1;have g2:x*x<=2147483647*2147483647:=Nat.mul_le_mul (by have:=h.2;omega) (by have:=h.2;omega)
 refine ⟨?_,?_,by omega⟩
 .rw[Nat.le_div_iff_mul_le (by decide)];exact g1
 .rw[Nat.div_lt_iff_lt_mul (by decide)];omega
theorem inL_step {p:Nat×Nat} (h:InL p.2):InL (stL p).2:=by
 obtain ⟨h1,h2,-⟩:=inL_sq h;unfold stL
 split
 .exact ⟨by show 1073741824<=_ / 2;omega,by show _ / 2<2147483648;omega⟩
 .exact ⟨h1,by show _<2147483648;omega⟩
def LexL (p q:Nat×Nat):Prop:=p.1<q.1\/(p.1=q.1/\p.2<=q.2)
theorem lexL_step {p q:Nat×Nat} (h:LexL p q):LexL (stL p) (stL q):=by
 rcases h with h | ⟨h1,h2⟩
 .left
  have g1:(stL p).1<=2*p.1+1:=by unfold stL; split <;> simp
  have g2:2*q.1<=(stL q).1:=by unfold stL; split <;> simp
  omega
 .have hs:p.2*p.2 / 1073741824<=q.2*q.2 / 1073741824:=Nat.div_le_div_right (Nat.mul_le_mul h2 h2);unfold stL;generalize p.2*p.2 / 1073741824=a at *;generalize q.2*q.2 / 1073741824=b at *;by_cases h3:2147483648<=a
  .have h4:2147483648<=b:=Nat.le_trans h3 hs;rw[if_pos h3,if_pos h4];exact .inr ⟨by show 2*p.1+1=2*q.1+1;omega,Nat.div_le_div_right hs⟩
  .rw[if_neg h3];by_cases h4:2147483648<=b
   .rw[if_pos h4];exact .inl (by show 2*p.1<2*q.1+1;omega)
   .rw[if_neg h4];exact .inr ⟨by show 2*p.1=2*q.1;omega,hs⟩
theorem lexL_it:∀(k:Nat) {p q:Nat×Nat},LexL p q->LexL (itL k p) (itL k q)
 | 0,_,_,h=>h
 | k+1,_,_,h=>lexL_it k (lexL_step h)
theorem logF_mono {a b:Nat} (h1:1<=a) (h2:a<=b) (h3:b<=1073741824):logF a<=logF b:=by
 unfold logF;rw[if_neg (by omega),if_neg (by omega)]
 have hl:LexL (lgY a,a*2 ^ (30-lgY a)) (lgY b,b*2 ^ (30-lgY b)):=by
  obtain ⟨q1,-,-,-⟩:=lgY_is h1 (by omega)
  obtain ⟨-,q2,-,-⟩:=lgY_is (n:=b) (by omega) h3
  have hy:lgY a<=lgY b:=by
   by_cases h:lgY a<=lgY b
   .exact h
   .have:2 ^ (lgY b+1)<=2 ^ lgY a:=Nat.pow_le_pow_right (by decide) (by omega)
    omega
  by_cases he:lgY a=lgY b
  .right
   refine ⟨he,?_⟩;show a*2 ^ (30-lgY a)<=b*2 ^ (30-lgY b);rw[he];exact Nat.mul_le_mul_right _ h2
  .exact .inl (by show lgY a<lgY b;omega)
 rcases lexL_it 16 hl with h | ⟨h,-⟩ <;> omega
theorem itL_le:∀(k:Nat) (p:Nat×Nat),(itL k p).1<=2 ^ k*p.1+(2 ^ k - 1)
 | 0,p=>by show p.1<=1*p.1+0;omega
 | k+1,p=>by
  have h:=itL_le k (stL p);have g1:(stL p).1<=2*p.1+1:=by unfold stL; split <;> simp
  have h2:2 ^ k*(stL p).1<=2 ^ k*(2*p.1+1):=Nat.mul_le_mul_left _ g1;have h3:2 ^ k*(2*p.1+1)=2 ^ (k+1)*p.1+2 ^ k:=by rw[Nat.mul_add,Nat.pow_succ,Nat.mul_assoc];omega
  have h4:2 ^ (k+1)=2 ^ k+2 ^ k:=by rw[Nat.pow_succ];omega
  have h5:0<2 ^ k:=Nat.two_pow_pos _;show (itL k (stL p)).1<=_;omega
theorem logF_le (n:Nat):logF n<=2031615:=by
 unfold logF;by_cases h:n<1\/1073741824<n
 .rw[if_pos h];omega
 .rw[if_neg h];have:=itL_le 16 (lgY n,n*2 ^ (30-lgY n));have h3:=(lgY_is (n:=n) (by omega) (by omega)).2.2.1
  simp only at this;omega
def addE (len n:Nat):Nat:=if 0<n then n*(logF len-logF n) else 0
def cntF (bs:List Nat) (c:Nat):Nat:=if 65536<bs.length then 0 else bs.count c
def sumE (f:Nat->Nat) (len:Nat):Nat->Nat->Nat
 | 0,_=>0
 | k+1,c=>addE len (f c)+sumE f len k (c+1)
def meaF (bs:List Nat):Nat:=sumE (cntF bs) bs.length 256 0
theorem addE_le {len n:Nat} (h:n<=65536):addE len n<=133143920640:=by
 unfold addE
 split
 .have h1:logF len-logF n<=2031615:=by have:=logF_le len;omega
  have:=Nat.mul_le_mul h h1;omega
 .omega
theorem cntF_le (bs:List Nat) (c:Nat):cntF bs c<=65536/\(bs.length<=65536->cntF bs c<=bs.length):=by
 unfold cntF
 split
 .exact ⟨by omega,by omega⟩
 .have:=List.count_le_length (a:=c) (l:=bs);exact ⟨by omega,λ_=>this⟩
end Go.Proofs.YtljgapfmgegifaaGreatDoor
namespace Go.Proofs.YtljgapfmgegifaaGreatDoor
set_option linter.unusedVariables false
set_option linter.unusedSimpArgs false
set_option maxRecDepth 100000
open Go
theorem dig_digit (n:Nat):∀c∈Lib.decDigits n,48<=c.toNat/\c.toNat<=57:=by
 induction n using Nat.strongRecOn with
 | _ n ih=>
  rw[Lib.decDigits]
  split
  .intro c hc;simp only[List.mem_singleton]at hc;subst hc;rw[UInt8.toNat_ofNat'];omega
  .intro c hc;rcases List.mem_append.1 hc with hc | hc
   .exact ih (n / 10) (by omega) c hc
   .simp only[List.mem_singleton]at hc;subst hc;rw[UInt8.toNat_ofNat'];omega
def valF:List UInt8->Nat->Nat
 | [],a=>a
 | c::r,a=>valF r (a*10+(c.toNat - 48))
theorem valF_app:∀(a b:List UInt8) (n:Nat),valF (a++b) n=valF b (valF a n)
 | [],b,n=>rfl
 | c::r,b,n=>by rw[List.cons_append,valF,valF,valF_app r b]
theorem valF_dec (n:Nat):valF (Lib.decDigits n) 0=n:=by
 induction n using Nat.strongRecOn with
 | _ n ih=>
  rw[Lib.decDigits]
  split
  .show 0*10+_=n;rw[UInt8.toNat_ofNat'];omega
  .rw[valF_app,ih (n / 10) (by omega)]
   show n / 10*10+_=n;rw[UInt8.toNat_ofNat'];omega
theorem dec_len (n k:Nat) (h:n<10 ^ (k+1)):(Lib.decDigits n).length<=k+1:=by
 induction k generalizing n with
 | zero=>rw[Lib.decDigits,dif_pos (by simpa using h)];simp
 | succ k ih=>
  rw[Lib.decDigits]
  split
  .simp
  .rw[List.length_append];have:=ih (n / 10) (by rw[Nat.pow_succ]at h;omega)
   simp;omega
end Go.Proofs.YtljgapfmgegifaaGreatDoor
