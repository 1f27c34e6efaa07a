/- Walks. -/
import Derived.Test.YtdmoogjddmdmbaaGreatDoorX01
import Derived.Lib.ItoaNum
import Derived.Lib.Itoa
set_option maxRecDepth 100000
set_option maxHeartbeats 16000000
set_option linter.unusedVariables false
set_option linter.unusedSimpArgs false
namespace Go.Proofs.YtdmoogjddmdmbaaGreatDoor
open Go.RowKit
def wM(p:Nat×Nat):Nat×Nat:=if 2147483648<=p.2*p.2 / 1073741824 then (2*p.1+1,p.2*p.2 / 1073741824 / 2) else (2*p.1,p.2*p.2 / 1073741824)
def Ah:Nat->Nat×Nat->Nat×Nat
 |0,p=>p
 |k+1,p=>Ah k (wM p)
def jA(n:Nat):Nat:=Lib.bitLen n - 1
def fT(n:Nat):Nat:=if n<1\/1073741824<n then 0 else (Ah 16 (jA n,n*2 ^ (30-jA n))).1
theorem rk{n:Nat}(h1:1<=n)(h2:n<=1073741824):2 ^ jA n<=n/\n<2 ^ (jA n+1)/\jA n<=30/\Lib.bitLen n=jA n+1:=by
 obtain ⟨q1,q2,q3⟩:=Lib.bitLenAux_bounds 64 n Y Y;have hb:Lib.bitLen n=Lib.bitLenAux 64 n:=rfl;unfold jA;rw[hb];refine ⟨q2,by rw[show Lib.bitLenAux 64 n - 1+1=Lib.bitLenAux 64 n by omega];exact q3,?_,Y⟩
 by_cases h:Lib.bitLenAux 64 n - 1<=30
 .exact h
 .have:2 ^ 31<=2 ^ (Lib.bitLenAux 64 n - 1):=Nat.pow_le_pow_right O Y;omega
def Zx(x:Nat):Prop:=1073741824<=x/\x<2147483648
theorem xE{n:Nat}(h1:1<=n)(h2:n<=1073741824):Zx (n*2 ^ (30-jA n)):=by
 obtain ⟨q1,q2,q3,-⟩:=rk h1 h2;have e:2 ^ jA n*2 ^ (30-jA n)=1073741824:=by rw[<-Nat.pow_add,show jA n+(30-jA n)=30 by omega]
 have e2:2 ^ (jA n+1)*2 ^ (30-jA n)=2147483648:=by rw[<-Nat.pow_add,show jA n+1+(30-jA n)=31 by omega]
 have hp:0<2 ^ (30-jA n):=Nat.two_pow_pos _;have g1:=Nat.mul_le_mul_right (2 ^ (30-jA n)) q1;have g2:=Nat.mul_lt_mul_of_pos_right q2 hp;exact ⟨Y,Y⟩
theorem Et{x:Nat}(h:Zx x):1073741824<=x*x / 1073741824/\x*x / 1073741824<4294967296/\x*x<4611686018427387904:=by
 have g1:1073741824*1073741824<=x*x:=Nat.mul_le_mul h.1 h.1;have g2:x*x<=2147483647*2147483647:=Nat.mul_le_mul (by have:=h.2;omega) (by have:=h.2;omega)
 refine ⟨?_,?_,Y⟩
 .rw[Nat.le_div_iff_mul_le O];exact g1
 .rw[Nat.div_lt_iff_lt_mul O];omega
theorem BP{p:Nat×Nat}(h:Zx p.2):Zx (wM p).2:=by
 obtain ⟨h1,h2,-⟩:=Et h;unfold wM;split
 .exact ⟨by show 1073741824<=_ / 2;omega,by show _ / 2<2147483648;omega⟩
 .exact ⟨h1,by show _<2147483648;omega⟩
def Mz(p q:Nat×Nat):Prop:=p.1<q.1\/(p.1=q.1/\p.2<=q.2)
theorem I9{p q:Nat×Nat}(h:Mz p q):Mz (wM p) (wM q):=by
 rcases h with h|⟨h1,h2⟩
 .left
  have g1:(wM p).1<=2*p.1+1:=by unfold wM; split <;> simp
  have g2:2*q.1<=(wM q).1:=by unfold wM; split <;> simp
  omega
 .have hs:p.2*p.2 / 1073741824<=q.2*q.2 / 1073741824:=Nat.div_le_div_right (Nat.mul_le_mul h2 h2);unfold wM;generalize p.2*p.2 / 1073741824=a at *;generalize q.2*q.2 / 1073741824=b at *;by_cases h3:2147483648<=a
  .have h4:2147483648<=b:=Nat.le_trans h3 hs;rw[if_pos h3,if_pos h4];exact .inr ⟨by show 2*p.1+1=2*q.1+1;omega,Nat.div_le_div_right hs⟩
  .rw[if_neg h3];by_cases h4:2147483648<=b
   .rw[if_pos h4];exact .inl (by show 2*p.1<2*q.1+1;omega)
   .rw[if_neg h4];exact .inr ⟨by show 2*p.1=2*q.1;omega,hs⟩
theorem Gs:∀(k:Nat) {p q:Nat×Nat},Mz p q->Mz (Ah k p) (Ah k q)
 |0,_,_,h=>h
 |k+1,_,_,h=>Gs k (I9 h)
theorem xF{a b:Nat}(h1:1<=a)(h2:a<=b)(h3:b<=1073741824):fT a<=fT b:=by
 unfold fT;rw[if_neg Y,if_neg Y];have hl:Mz (jA a,a*2 ^ (30-jA a)) (jA b,b*2 ^ (30-jA b)):=by
  obtain ⟨q1,-,-,-⟩:=rk h1 Y;obtain ⟨-,q2,-,-⟩:=rk (n:=b) Y h3;have hy:jA a<=jA b:=by
   by_cases h:jA a<=jA b
   .exact h
   .have:2 ^ (jA b+1)<=2 ^ jA a:=Nat.pow_le_pow_right O Y;omega
  by_cases he:jA a=jA b
  .right
   refine ⟨he,?_⟩;show a*2 ^ (30-jA a)<=b*2 ^ (30-jA b);rw[he];exact Nat.mul_le_mul_right _ h2
  .exact .inl (by show jA a<jA b;omega)
 rcases Gs 16 hl with h|⟨h,-⟩ <;> omega
theorem MA:∀(k:Nat) (p:Nat×Nat),(Ah k p).1<=2 ^ k*p.1+(2 ^ k - 1)
 |0,p=>by show p.1<=1*p.1+0;omega
 |k+1,p=>by
  have h:=MA k (wM p);have g1:(wM p).1<=2*p.1+1:=by unfold wM; split <;> simp
  have h2:2 ^ k*(wM p).1<=2 ^ k*(2*p.1+1):=Nat.mul_le_mul_left _ g1;have h3:2 ^ k*(2*p.1+1)=2 ^ (k+1)*p.1+2 ^ k:=by rw[Nat.mul_add,Nat.pow_succ,Nat.mul_assoc];omega
  have h4:2 ^ (k+1)=2 ^ k+2 ^ k:=by rw[Nat.pow_succ];omega
  have h5:0<2 ^ k:=Nat.two_pow_pos _;show (Ah k (wM p)).1<=_;omega
theorem y8(n:Nat):fT n<=2031615:=by
 unfold fT;by_cases h:n<1\/1073741824<n
 .rw[if_pos h];omega
 .rw[if_neg h];have:=MA 16 (jA n,n*2 ^ (30-jA n));have h3:=(rk (n:=n) Y Y).2.2.1;simp only at this;omega
def lQ(len n:Nat):Nat:=if 0<n then n*(fT len-fT n) else 0
def cntF(bs:List Nat)(c:Nat):Nat:=if 65536<bs.length then 0 else bs.count c
def sP(f:Nat->Nat)(len:Nat):Nat->Nat->Nat
 |0,_=>0
 |k+1,c=>lQ len (f c)+sP f len k (c+1)
def BQ(bs:List Nat):Nat:=sP (cntF bs) bs.length 256 0
theorem QZ{len n:Nat}(h:n<=65536):lQ len n<=133143920640:=by
 unfold lQ;split
 .have h1:fT len-fT n<=2031615:=by have:=y8 len;omega
  have:=Nat.mul_le_mul h h1;omega
 .omega
theorem nn(bs:List Nat)(c:Nat):cntF bs c<=65536/\(bs.length<=65536->cntF bs c<=bs.length):=by
 unfold cntF;split
 .exact ⟨Y,Y⟩
 .have:=List.count_le_length (a:=c) (l:=bs);exact ⟨Y,λ_=>this⟩
section
open Go
theorem xC(n:Nat):∀c∈Lib.decDigits n,48<=c.toNat/\c.toNat<=57:=by
 induction n using Nat.strongRecOn with
 |_ n ih=>
  rw[Lib.decDigits];split
  .intro c hc;simp only[List.mem_singleton]at hc;subst hc;rw[UInt8.toNat_ofNat'];omega
  .intro c hc;rcases List.mem_append.1 hc with hc|hc
   .exact ih (n / 10) Y c hc
   .simp only[List.mem_singleton]at hc;subst hc;rw[UInt8.toNat_ofNat'];omega
def En:List UInt8->Nat->Nat
 | [],a=>a
 |c::r,a=>En r (a*10+(c.toNat - 48))
theorem BM:∀(a b:List UInt8) (n:Nat),En (a++b) n=En b (En a n)
 | [],b,n=>rfl
 |c::r,b,n=>by rw[List.cons_append,En,En,BM r b]
theorem BN(n:Nat):En (Lib.decDigits n) 0=n:=by
 induction n using Nat.strongRecOn with
 |_ n ih=>
  rw[Lib.decDigits];split
  .show 0*10+_=n;rw[UInt8.toNat_ofNat'];omega
  .rw[BM,ih (n / 10) Y];show n / 10*10+_=n;rw[UInt8.toNat_ofNat'];omega
theorem jj(n k:Nat)(h:n<10 ^ (k+1)):(Lib.decDigits n).length<=k+1:=by
 induction k generalizing n with
 |zero=>rw[Lib.decDigits,dif_pos (by simpa using h)];simp
 |succ k ih=>
  rw[Lib.decDigits];split
  .simp
  .rw[List.length_append];have:=ih (n / 10) (by rw[Nat.pow_succ]at h;omega)
   simp;omega
end
def fL(c:UInt8):Prop:=48<=c.toNat/\c.toNat<=57
theorem xW:∀{u v:List UInt8} {x y:UInt8} {r s:List UInt8},(∀c∈u,fL c)->(∀c∈v,fL c)->¬fL x->¬fL y->u++x::r=v++y::s->u=v/\x=y/\r=s
 | [],[],x,y,r,s,_,_,_,_,h=>by
  injection h with h1 h2;exact ⟨rfl,h1,h2⟩
 | [],b::v,x,y,r,s,_,hv,hx,_,h=>by
  injection h with h1 h2;subst h1;exact absurd (hv x ξ) hx
 |a::u,[],x,y,r,s,hu,_,_,hy,h=>by
  injection h with h1 h2;subst h1;exact absurd (hu a ξ) hy
 |a::u,b::v,x,y,r,s,hu,hv,hx,hy,h=>by
  injection h with h1 h2;obtain ⟨h3,h4,h5⟩:=xW (λc hc=>hu c (by simp[hc])) (λc hc=>hv c (by simp[hc])) hx hy h2
  exact ⟨by rw[h1,h3],h4,h5⟩
theorem nB{a b:Nat}{x y:UInt8}{r s:List UInt8}(hx:¬fL x)(hy:¬fL y)(h:Lib.decDigits a++x::r=Lib.decDigits b++y::s):a=b/\x=y/\r=s:=by
 obtain ⟨h1,h2,h3⟩:=xW (xC a) (xC b) hx hy h;refine ⟨?_,h2,h3⟩;have:=BN a;rw[h1,BN]at this;exact this.symm
def dP:List Nat->List UInt8
 | []=>[]
 |p::r=>Lib.decDigits p++32::dP r
theorem xX:∀{a b:List Nat},dP a=dP b->a=b
 | [],[],_=>rfl
 | [],q::s,h=>by
  have:=congrArg List.length h;simp[dP]at this
 |p::r,[],h=>by
  have:=congrArg List.length h;simp[dP]at this
 |p::r,q::s,h=>by
  obtain ⟨h1,-,h3⟩:=nB (by unfold fL;decide) (by unfold fL;decide) h
  rw[h1,xX h3]
theorem xY:∀(a b:List Nat),dP (a++b)=dP a++dP b
 | [],_=>rfl
 |p::r,b=>by rw[List.cons_append,dP,dP,xY r b,List.append_assoc,List.cons_append]
theorem Ff(a:List Nat)(p:Nat):dP (a++[p])=dP a++(Lib.decDigits p++[32]):=by
 rw[xY];rfl
theorem rA:∀(a:List Nat),(∀p∈a,p<1000000000)->(dP a).length<=10*a.length
 | [],_=>I
 |p::r,h=>by
  have h1:=rA r (λq hq=>h q (by simp[hq]))
  have h2:=jj p 8 (by have:=h p ξ;omega)
  rw[dP,List.length_append,List.length_cons,List.length_cons];omega
def ia(gs:List (List Nat))(l:List Nat):List (List Nat):=if l∈gs then gs else gs++[l]
def de:List Ed->List UInt8
 | []=>[]
 |e::r=>32::(Lib.decDigits e.lo++45::(Lib.decDigits e.hi++58::(Lib.decDigits e.to++de r)))
def boolT:Bool->List UInt8
 |true=>[116,114,117,101]
 |false=>[102,97,108,115,101]
def ou(b:Bool)(l:List Ed):List UInt8:=boolT b++de l
theorem rB:∀{a b:List Ed},de a=de b->a=b
 | [],[],_=>rfl
 | [],q::s,h=>by cases h
 |p::r,[],h=>by cases h
 |p::r,q::s,h=>by
  unfold de at h;injection h with _ h;obtain ⟨h1,-,h⟩:=nB (by unfold fL;decide) (by unfold fL;decide) h
  obtain ⟨h2,-,h⟩:=nB (by unfold fL;decide) (by unfold fL;decide) h
  have qL:p.to=q.to/\de r=de s:=by
   have Uf:∀l:List Ed,de l=[]\/∃t,de l=32::t:=λl=>by
    cases l with
    |nil=>exact .inl rfl
    |cons e l=>exact .inr ⟨_,rfl⟩
   -- a byte that is no digit behind both
   have h':Lib.decDigits p.to++(de r++[32])=Lib.decDigits q.to++(de s++[32]):=by rw[<-List.append_assoc,h,List.append_assoc]
   obtain ⟨x,t,e1,hx⟩:∃x t,de r++[32]=x::t/\¬fL x:=by
    rcases Uf r with e|⟨t,e⟩
    .exact ⟨32,[],by rw[e];rfl,by unfold fL;decide⟩
    .exact ⟨32,t++[32],by rw[e];rfl,by unfold fL;decide⟩
   obtain ⟨y,t2,e2,hy⟩:∃x t,de s++[32]=x::t/\¬fL x:=by
    rcases Uf s with e|⟨t,e⟩
    .exact ⟨32,[],by rw[e];rfl,by unfold fL;decide⟩
    .exact ⟨32,t++[32],by rw[e];rfl,by unfold fL;decide⟩
   rw[e1,e2]at h';obtain ⟨g1,g2,g3⟩:=nB hx hy h';refine ⟨g1,?_⟩;have:de r++[32]=de s++[32]:=by rw[e1,e2,g2,g3]
   exact List.append_cancel_right this
  obtain ⟨a1,a2,a3⟩:=p;obtain ⟨b1,b2,b3⟩:=q;simp only at h1 h2 qL;rw[h1,h2,qL.1,rB qL.2]
theorem IC{a b:Bool}{l m:List Ed}(h:ou a l=ou b m):a=b/\l=m:=by
 unfold ou at h
 cases a <;> cases b
 .exact ⟨rfl,rB (List.append_cancel_left h)⟩
 .injection h with h;cases h
 .injection h with h;cases h
 .exact ⟨rfl,rB (List.append_cancel_left h)⟩
theorem uJ:∀(l:List Ed) (e:Ed),de (l++[e])=de l++(32::(Lib.decDigits e.lo++45::(Lib.decDigits e.hi++58::Lib.decDigits e.to)))
 | [],e=>by simp[de]
 |a::r,e=>by rw[List.cons_append,de,de,uJ r e];simp
def iJ:List (Nat×Nat)->List Nat
 | []=>[]
 |r::l=>r.1::(r.2+1)::iJ l
def kJ(sets:List (List (Nat×Nat))):List Nat->List Nat
 | []=>[]
 |p::l=>iJ ((sets[p]?).getD [])++kJ sets l
theorem xA(r:Nat×Nat):∀l,iJ (l++[r])=iJ l++[r.1,r.2+1]
 | []=>rfl
 |a::l=>by rw[List.cons_append,iJ,xA r l,iJ];rfl
theorem xB(sets:List (List (Nat×Nat)))(p:Nat):∀l,kJ sets (l++[p])=kJ sets l++iJ ((sets[p]?).getD [])
 | []=>by simp[kJ]
 |a::l=>by rw[List.cons_append,kJ,xB sets p l,kJ,List.append_assoc]
theorem BI{r:Nat×Nat}:∀{l:List (Nat×Nat)},r∈l->r.1∈iJ l/\r.2+1∈iJ l
 |a::l,h=>by
  rw[iJ];rcases List.mem_cons.1 h with rfl|h
  .simp
  .have:=BI h;exact ⟨by simp[this.1],by simp[this.2]⟩
theorem BJ{sets:List (List (Nat×Nat))}{p:Nat}{r:Nat×Nat}:∀{l:List Nat},p∈l->r∈(sets[p]?).getD []->r.1∈kJ sets l/\r.2+1∈kJ sets l
 |a::l,h,hr=>by
  rw[kJ];rcases List.mem_cons.1 h with rfl|h
  .have:=BI hr;exact ⟨List.mem_append_left _ this.1,List.mem_append_left _ this.2⟩
  .have:=BJ h hr;exact ⟨List.mem_append_right _ this.1,List.mem_append_right _ this.2⟩
theorem Gm{m:Nat}:∀{l:List (Nat×Nat)},(∀r∈l,r.1<m/\r.2<m)->∀v∈iJ l,v<=m
 | [],_,v,h=>by cases h
 |a::l,hb,v,h=>by
  rw[iJ]at h;have h1:=hb a ξ;rcases List.mem_cons.1 h with rfl|h
  .omega
  .rcases List.mem_cons.1 h with rfl|h
   .omega
   .exact Gm (λr hr=>hb r (by simp[hr])) v h
theorem Gn{sets:List (List (Nat×Nat))}{m:Nat}(hb:∀rs∈sets,∀r∈rs,r.1<m/\r.2<m):∀{l:List Nat},∀v∈kJ sets l,v<=m
 | [],v,h=>by cases h
 |a::l,v,h=>by
  rw[kJ]at h;rcases List.mem_append.1 h with h|h
  .refine Gm (λr hr=>?_) v h
   cases hs:sets[a]? with
   |none=>rw[hs]at hr;cases hr
   |some rs=>rw[hs]at hr;exact hb rs (List.mem_of_getElem? hs) r hr
  .exact Gn hb v h
theorem uF:∀l,(iJ l).length=2*l.length
 | []=>rfl
 |a::l=>by rw[iJ,List.length_cons,List.length_cons,uF l,List.length_cons];omega
theorem uG{sets:List (List (Nat×Nat))}{m:Nat}(hb:∀rs∈sets,rs.length<=m):∀l:List Nat,(kJ sets l).length<=2*m*l.length
 | []=>Nat.zero_le _
 |a::l=>by
  rw[kJ,List.length_append,uF,List.length_cons,Nat.mul_succ];have h1:=uG hb l;have h2:((sets[a]?).getD []).length<=m:=by
   cases hs:sets[a]? with
   |none=>exact Nat.zero_le _
   |some rs=>exact hb rs (List.mem_of_getElem? hs)
  omega
theorem BK:∀{rs:List (Nat×Nat)} {a:Nat},dU rs=true->rs≠[]->(∀r∈rs,r.2<256)->(∀x,rs.head?=some x->a<=x.1)->rs.length+a<=257
 | [],a,_,h,_,_=>absurd rfl h
 | [x],a,h,_,hb,ha=>by
  have h1:=ha x rfl;have h2:=hb x ξ;simp[dU]at h;simp;omega
 |x::y::r,a,h,_,hb,ha=>by
  have h1:=ha x rfl;simp only[dU,Bool.and_eq_true,decide_eq_true_eq]at h;have:=BK (rs:=y::r) (a:=x.2+2) h.2.2 ξ (λz hz=>hb z (by simp[hz])) (λz hz=>by simp at hz;subst hz;exact h.2.1)
  simp at this|-;omega
theorem QR{rs:List (Nat×Nat)}(h:dU rs=true)(hb:∀r∈rs,r.2<256):rs.length<=257:=by
 by_cases h0:rs=[]
 .subst h0;simp
 .have:=BK (a:=0) h h0 hb (λ_ _=>Nat.zero_le _);omega
def jz(cuts:List Nat)(i:Nat):Nat:=(cuts[i]?).getD 256
def gw(b:Pb)(fo:List Nat)(c:Nat):List Nat:=fo.filter λp=>cD b p c
theorem jV{b:Pb}{fo:List Nat}{c p:Nat}:p∈gw b fo c↔p∈fo/\cD b p c=true:=by unfold gw;exact List.mem_filter
section
variable {b:Pb} {fo cuts:List Nat}
structure rj (b:Pb) (fo cuts:List Nat):Prop where
 pd:cuts.Pairwise (·<·)
 mem:∀p∈fo,∀r∈(b.sets[p]?).getD [],r.1∈cuts/\r.2+1∈cuts
 le:∀v∈cuts,v<=256
theorem rj.start(h:rj b fo cuts)(gs:List (List Nat)):eu b fo gs [] (jz cuts 0):=by
 refine eu.nil λc hc p hp=>?_;unfold cD;refine Mo (h.mem p hp) λv hv=>?_;unfold jz at hc
 match cuts,hc,hv,h.pd with
 |a::l,hc,hv,hs=>
  simp at hc;rcases List.mem_cons.1 hv with rfl|hv
  .exact hc
  .have:=(List.pairwise_cons.1 hs).1 v hv;omega
theorem rj.done(h:rj b fo cuts){gs:List (List Nat)}{row:List Ed}{i:Nat}(hi:cuts.length<=i+1)(hr:eu b fo gs row (jz cuts i)):eu b fo gs row 256:=by
 by_cases eW:i<cuts.length
 .have hv:jz cuts i=cuts[i]:=by unfold jz;rw[List.getElem?_eq_getElem eW];rfl
  rw[hv]at hr;refine hr.skip (h.le _ (List.getElem_mem eW)) λc h1 _ p hp=>?_;unfold cD;refine I6 (h.mem p hp) λv hv=>?_;obtain ⟨j,hj,rfl⟩:=List.getElem_of_mem hv;have hs:=h.pd;rw[List.pairwise_iff_getElem]at hs;by_cases AU:j=i
  .subst AU;exact h1
  .have:=hs j i hj eW Y;omega
 .have:jz cuts i=256:=by unfold jz;rw[List.getElem?_eq_none Y];rfl
  rwa [this]at hr
theorem rj.const(h:rj b fo cuts){i:Nat}(hi:i+1<cuts.length){c:Nat}(h1:jz cuts i<=c)(h2:c<jz cuts (i+1)):∀p∈fo,cD b p c=cD b p (jz cuts i):=by
 have e1:jz cuts i=cuts[i]:=by unfold jz;rw[List.getElem?_eq_getElem Y];rfl
 have e2:jz cuts (i+1)=cuts[i+1]:=by unfold jz;rw[List.getElem?_eq_getElem hi];rfl
 intro p hp;rw[e1]at h1|-;rw[e2]at h2;exact Em h.pd hi (h.mem p hp) h1 h2
theorem rj.lt(h:rj b fo cuts){i:Nat}(hi:i+1<cuts.length):jz cuts i<jz cuts (i+1)/\jz cuts (i+1)<=256:=by
 have e1:jz cuts i=cuts[i]:=by unfold jz;rw[List.getElem?_eq_getElem Y];rfl
 have e2:jz cuts (i+1)=cuts[i+1]:=by unfold jz;rw[List.getElem?_eq_getElem hi];rfl
 have hs:=h.pd;rw[List.pairwise_iff_getElem]at hs;rw[e1,e2];exact ⟨hs i (i+1) Y hi Y,h.le _ (List.getElem_mem hi)⟩
theorem rj.skip(h:rj b fo cuts){gs:List (List Nat)}{row:List Ed}{i:Nat}(hi:i+1<cuts.length)(hr:eu b fo gs row (jz cuts i))(hn:gw b fo (jz cuts i)=[]):eu b fo gs row (jz cuts (i+1)):=
 hr.skip (Nat.le_of_lt (h.lt hi).1) λc h1 h2 p hp=>by
  rw[h.const hi h1 h2 p hp]
  cases hs:cD b p (jz cuts i) with
  |false=>rfl
  |true=>
   have:p∈gw b fo (jz cuts i):=jV.2 ⟨hp,hs⟩;rw[hn]at this
   cases this
theorem Mp(gs:List (List Nat))(l:List Nat):gs.length<=(ia gs l).length/\(ia gs l).length<=gs.length+1:=by
 unfold ia;split
 .omega
 .simp
theorem Mq(gs:List (List Nat))(l:List Nat):l∈ia gs l:=by
 unfold ia;split
 .assumption
 .simp
theorem Mr(gs:List (List Nat))(l:List Nat):∃more,ia gs l=gs++more/\∀x∈more,x=l:=by
 unfold ia;split
 .exact ⟨[],ξ,λx hx=>by cases hx⟩
 .exact ⟨[l],rfl,λx hx=>List.mem_singleton.1 hx⟩
theorem eu.ia{gs:List (List Nat)}{row:List Ed}{v:Nat}(h:eu b fo gs row v)(l:List Nat):eu b fo (ia gs l) row v:=by
 unfold Go.Proofs.YtdmoogjddmdmbaaGreatDoor.ia;split
 .exact h
 .exact h.grow l
theorem uH{gs:List (List Nat)}{l:List Nat}(h:l∈gs):gs.idxOf l<gs.length/\gs[gs.idxOf l]?=some l:=by
 have h1:=List.idxOf_lt_length_of_mem h;refine ⟨h1,?_⟩;rw[List.getElem?_eq_getElem h1,List.getElem_idxOf]
theorem rj.add(h:rj b fo cuts){gs:List (List Nat)}{row:List Ed}{i:Nat}(hi:i+1<cuts.length)(hr:eu b fo gs row (jz cuts i))(h0:gs[0]?=some [])(hn:gw b fo (jz cuts i)≠[]):
  eu b fo (Go.Proofs.YtdmoogjddmdmbaaGreatDoor.ia gs (gw b fo (jz cuts i))) (row++[⟨jz cuts i,jz cuts (i+1) - 1,(Go.Proofs.YtdmoogjddmdmbaaGreatDoor.ia gs (gw b fo (jz cuts i))).idxOf (gw b fo (jz cuts i))⟩]) (jz cuts (i+1)):=by
 obtain ⟨q1,q2⟩:=uH (Mq gs (gw b fo (jz cuts i)));refine (hr.ia _).add (h.lt hi).1 ?_ q1 λc h1 h2 p=>?_
 .refine Nat.pos_of_ne_zero λe=>?_;rw[e]at q2;obtain ⟨more,e2,-⟩:=Mr gs (gw b fo (jz cuts i));have hl:0<gs.length:=(List.getElem?_eq_some_iff.1 h0).1;rw[e2,List.getElem?_append_left hl,h0]at q2;exact hn (Option.some.inj q2).symm
 .rw[q2,Option.getD_some,jV];constructor
  .rintro ⟨g1,g2⟩;exact ⟨g1,by rw[h.const hi h1 h2 p g1];exact g2⟩
  .rintro ⟨g1,g2⟩;exact ⟨g1,by rw[<-h.const hi h1 h2 p g1];exact g2⟩
end
def my(b:Pb)(fo:List Nat)(gs eX:List (List Nat)):Prop:=∃more,eX=gs++more/\(gs.Nodup->eX.Nodup)/\∀l∈more,l≠[]/\∃c,c<256/\l=gw b fo c
theorem my.refl(b:Pb)(fo:List Nat)(gs:List (List Nat)):my b fo gs gs:=⟨[],ξ,id,λl hl=>by cases hl⟩
theorem my.add{b:Pb}{fo:List Nat}{gs eX:List (List Nat)}(h:my b fo gs eX){c:Nat}(hc:c<256)(hn:gw b fo c≠[]):my b fo gs (ia eX (gw b fo c)):=by
 obtain ⟨more,e,hd,hm⟩:=h;by_cases cY:gw b fo c∈eX
 .rw[ia,if_pos cY];exact ⟨more,e,hd,hm⟩
 .rw[ia,if_neg cY];refine ⟨more++[gw b fo c],by rw[e,List.append_assoc],λhg=>?_,λl hl=>?_⟩
  .rw[List.nodup_append];exact ⟨hd hg,ξ,λx hx y hy=>by rw[List.mem_singleton]at hy;subst hy;rintro rfl;exact cY hx⟩
  .rcases List.mem_append.1 hl with hl|hl
   .exact hm l hl
   .rw[List.mem_singleton]at hl;subst hl;exact ⟨hn,c,hc,rfl⟩
theorem xw:∀{r:List Ed} {b v:Nat},cm b r->(∀e∈r,e.hi<v)->b<=v->r.length+b<=v
 | [],b,v,_,_,h=>by simpa using h
 |e::r,b,v,h,hv,_=>by
  have h1:=hv e ξ;have:=xw h.2.2 (λf hf=>hv f (by simp[hf])) (by omega:e.hi+1<=v)
  have:=h.1;have:=h.2.1;rw[List.length_cons];omega
theorem eu.ab3{b:Pb}{fo fo':List Nat}{gs eX:List (List Nat)}{row:List Ed}{v:Nat}(h:eu b fo gs row v)(hg:my b fo' gs eX):eu b fo eX row v:=by
 obtain ⟨more,rfl,-,-⟩:=hg;refine ⟨h.pd,h.hi,λc hc=>?_⟩;have:=h.sp c hc
 cases ht:bO row c with
 |none=>rw[ht]at this;exact this
 |some t=>
  rw[ht]at this;obtain ⟨h0,h1,h2⟩:=this;refine ⟨h0,by rw[List.length_append];omega,λp=>?_⟩
  rw[List.getElem?_append_left h1];exact h2 p
theorem eu.to{b:Pb}{fo:List Nat}{gs:List (List Nat)}{row:List Ed}(h:eu b fo gs row 256):∀e∈row,e.to<gs.length/\e.lo<256/\e.hi<256:=λe he=>by
 have h1:=kE h.pd he;have h2:=h.hi e he;have h3:e.lo<=e.hi:=by
  have:∀{r:List Ed} {b:Nat},cm b r->∀g∈r,g.lo<=g.hi:=by
   intro r
   induction r with
   |nil=>intro b _ g hg;cases hg
   |cons a r ih=>
    intro b h g hg;rcases List.mem_cons.1 hg with rfl|hg
    .exact h.2.1
    .exact ih h.2.2 g hg
  exact this h.pd e he
 have h4:=h.sp e.lo Y;rw[h1]at h4;exact ⟨h4.2.1,Y,h2⟩
def VR(b:Pb)(x:dC):List Nat->Nat->Prop
 | []=>λ_=>False
 | [c]=>λp=>p∈x.first/\cD b p c=true
 |c::d::w=>λp=>(∃q,VR b x (d::w) q/\p∈dp b q)/\cD b p c=true
structure Eg (b:Pb) (x:dC) (gs:List (List Nat)) (rows:List (List Ed)) (bL:List Bool) (i:Nat):Prop where
 g0:gs[0]?=some []
 nd:gs.Nodup
 gl:∀g∈gs,∀p∈g,p<b.sets.length
 rl:rows.length=i
 al:bL.length=max i 1
 il:i<=gs.length
 acc:∀j,j<bL.length->((bL[j]?).getD false=true↔if j=0 then x.emp=true else ∃p∈(gs[j]?).getD [],p∈x.last)
 row:∀j,j<i->∃fo,(∀p,p∈fo↔nQ b x gs j p)/\eu b fo gs ((rows[j]?).getD []) 256
 pd:∀g∈gs,g.Pairwise (·<·)
 rch:∀j,0<j->j<gs.length->(gs[j]?).getD []≠[]/\∃w,∀p,p∈(gs[j]?).getD []↔VR b x w p
section
variable {b:Pb} {x:dC} {gs eX:List (List Nat)} {rows:List (List Ed)} {bL:List Bool} {i:Nat}
theorem Eg.start(b:Pb)(x:dC):Eg b x [[]] [] [x.emp] 0:=by
 refine ⟨rfl,ξ,λg hg p hp=>?_,rfl,rfl,Nat.zero_le _,λj hj=>?_,λj hj=>absurd hj (Nat.not_lt_zero _),λg hg=>by simp at hg;subst hg;exact List.Pairwise.nil,λj h0 hj=>by simp at hj;omega⟩
 .simp at hg;subst hg;cases hp
 .simp at hj;subst hj;simp
theorem BH{b:Pb}{x:dC}{gs:List (List Nat)}{more:List (List Nat)}{j:Nat}(hj:j<gs.length)(p:Nat):nQ b x (gs++more) j p↔nQ b x gs j p:=by
 unfold nQ;rw[List.getElem?_append_left hj]
theorem Eg.step(h:Eg b x gs rows bL i)(hi:i<gs.length){fo:List Nat}(Zh:∀p,p∈fo↔nQ b x gs i p)(Td:fo.Pairwise (·<·))(qG:∀p∈fo,p<b.sets.length)(hg:my b fo gs eX){row:List Ed}(hr:eu b fo eX row 256)
  {IX:List Bool} (ha:if i=0 then IX=bL else ∃a,IX=bL++[a]/\(a=true↔∃p∈(gs[i]?).getD [],p∈x.last)):Eg b x eX (rows++[row]) IX (i+1):=by
 have yP:=hg;obtain ⟨more,rfl,bc,Mg⟩:=hg;have h0:0<gs.length:=Y;have hal:=h.al;have eW:=h.il;refine ⟨by rw[List.getElem?_append_left h0];exact h.g0,bc h.nd,?_,by rw[List.length_append,h.rl];rfl,?_,by rw[List.length_append];omega,?_,?_,?_,?_⟩
 .intro g hg p hp;rcases List.mem_append.1 hg with hg|hg
  .exact h.gl g hg p hp
  .obtain ⟨-,c,-,rfl⟩:=Mg g hg;exact qG p (jV.1 hp).1
 .by_cases hz:i=0
  .rw[if_pos hz]at ha;subst ha;rw[hal];omega
  .rw[if_neg hz]at ha;obtain ⟨a,rfl,-⟩:=ha;rw[List.length_append,hal];simp;omega
 .intro j hj;by_cases hz:i=0
  .rw[if_pos hz]at ha;subst ha;have:=h.acc j hj;rw[hal]at hj;have Gf:j=0:=Y;subst Gf;simpa using this
  .rw[if_neg hz]at ha;obtain ⟨a,rfl,US⟩:=ha;rw[List.length_append,hal]at hj;simp at hj;by_cases AU:j<bL.length
   .have:=h.acc j AU;rw[List.getElem?_append_left AU,this,List.getElem?_append_left Y]
   .have hje:j=bL.length:=Y;have aiH:j=i:=Y;subst aiH;rw[List.getElem?_append_right Y,if_neg hz,List.getElem?_append_left hi,<-US];simp[hje]
 .intro j hj;by_cases AU:j<i
  .obtain ⟨fo',h1,h2⟩:=h.row j AU;refine ⟨fo',λp=>by rw[BH Y];exact h1 p,?_⟩
   rw[List.getElem?_append_left (by rw[h.rl];exact AU)]
   exact h2.ab3 yP
  .have:j=i:=Y;subst this;refine ⟨fo,λp=>by rw[BH hi];exact Zh p,?_⟩
   rw[List.getElem?_append_right (by rw[h.rl];exact I),h.rl]
   simpa using hr
 .intro g hg;rcases List.mem_append.1 hg with hg|hg
  .exact h.pd g hg
  .obtain ⟨-,c,-,rfl⟩:=Mg g hg;exact Td.filter _
 .intro j Gf hj;by_cases oh:j<gs.length
  .rw[List.getElem?_append_left oh];exact h.rch j Gf oh
  .have hjm:(gs++more)[j]?=some (gs++more)[j]:=List.getElem?_eq_getElem hj;have aZ:(gs++more)[j]∈more:=by
    rw[List.getElem_append_right Y];exact List.getElem_mem _
   rw[hjm,Option.getD_some];obtain ⟨h1,c,-,h2⟩:=Mg _ aZ;refine ⟨h1,?_⟩;by_cases hz:i=0
   .refine ⟨[c],λp=>?_⟩;rw[h2,jV,Zh p,hz];unfold nQ;rw[if_pos rfl]
    rfl
   .obtain ⟨h3,w,hw⟩:=h.rch i Y hi
    cases w with
    |nil=>
     exfalso
     cases hq:(gs[i]?).getD [] with
     |nil=>exact h3 hq
     |cons a r=>
      have:=(hw a).1 (by rw[hq];simp)
      exact this
    |cons d w=>
     refine ⟨c::d::w,λp=>?_⟩;rw[h2,jV,Zh p];unfold nQ;rw[if_neg hz];show _↔(∃q,VR b x (d::w) q/\p∈dp b q)/\cD b p c=true;constructor
     .rintro ⟨⟨q,q1,q2⟩,q3⟩;exact ⟨⟨q,(hw q).1 q1,q2⟩,q3⟩
     .rintro ⟨⟨q,q1,q2⟩,q3⟩;exact ⟨⟨q,(hw q).2 q1,q2⟩,q3⟩
theorem Mh(hb:∀rs∈b.sets,∀r∈rs,r.2<256){p c:Nat}(hc:256<=c):cD b p c=false:=by
 unfold cD lu;rw[List.any_eq_false];intro r hr
 cases hs:b.sets[p]? with
 |none=>rw[hs]at hr;cases hr
 |some rs=>
  rw[hs]at hr;have:=hb rs (List.mem_of_getElem? hs) r hr;simp;omega
def ux:Nat->List (List Nat)
 |0=>[[]]
 |n+1=>ux n++(ux n).map (·++[n])
theorem xx:∀n,(ux n).length=2 ^ n
 |0=>rfl
 |n+1=>by rw[ux,List.length_append,List.length_map,xx n,Nat.pow_succ];omega
theorem rh:∀(n:Nat) (l:List Nat),l.Pairwise (·<·)->(∀p∈l,p<n)->l∈ux n
 |0,l,_,h=>by
  cases l with
  |nil=>simp[ux]
  |cons a r=>exact absurd (h a ξ) (Nat.not_lt_zero _)
 |n+1,l,hs,h=>by
  rw[ux,List.mem_append,List.mem_map];by_cases hn:n∈l
  .right
   have hne:l≠[]:=by rintro rfl;cases hn
   have hl:l=l.dropLast++[l.getLast hne]:=(List.dropLast_concat_getLast hne).symm;have Bf:l.getLast hne=n:=by
    have h1:=h (l.getLast hne) (List.getLast_mem hne);rw[hl]at hn hs;rcases List.mem_append.1 hn with hn|hn
    .have:=(List.pairwise_append.1 hs).2.2 n hn _ (List.mem_singleton.2 rfl);omega
    .exact (List.mem_singleton.1 hn).symm
   refine ⟨l.dropLast,rh n _ ?_ λp hp=>?_,by rw[<-Bf];exact hl.symm⟩
   .rw[hl]at hs;exact (List.pairwise_append.1 hs).1
   .rw[hl]at hs;have:=(List.pairwise_append.1 hs).2.2 p hp _ (List.mem_singleton.2 rfl);omega
  .left
   exact rh n l hs λp hp=>by
    have:=h p hp;have:p≠n:=by rintro rfl;exact hn hp
    omega
theorem Eg.count(h:Eg b x gs rows bL i):gs.length<=2 ^ b.sets.length:=by
 rw[<-xx];exact jR h.nd λg hg=>rh _ _ (h.pd g hg) (h.gl g hg)
theorem Eg.done(h:Eg b x gs rows bL gs.length)(hb:∀rs∈b.sets,∀r∈rs,r.2<256):pC ⟨rows,bL⟩/\(∀r∈rows,r.length<=256/\∀e∈r,e.lo<256/\e.hi<256)/\∀w,dG ⟨rows,bL⟩ w 0=true↔LP b x w:=by
 have h0:0<gs.length:=(List.getElem?_eq_some_iff.1 h.g0).1;have hal:bL.length=gs.length:=by rw[h.al];omega
 have hrow:∀r∈rows,∃fo,eu b fo gs r 256:=λr hr=>by
  obtain ⟨j,hj⟩:=List.mem_iff_getElem?.1 hr;have oh:=(List.getElem?_eq_some_iff.1 hj).1;obtain ⟨fo,-,h2⟩:=h.row j (by rw[<-h.rl];exact oh)
  rw[hj]at h2;exact ⟨fo,h2⟩
 have hG:VS b x gs ⟨rows,bL⟩:=by
  refine ⟨λj hj=>h.acc j Y,λj hj c=>?_⟩;obtain ⟨fo,h1,h2⟩:=h.row j hj;show match bO ((rows[j]?).getD []) c with
   |none=>_
   |some t=>_
  by_cases hc:c<256
  .have h3:=h2.sp c hc
   cases ht:bO ((rows[j]?).getD []) c with
   |none=>rw[ht]at h3;exact λp hp=>h3 p ((h1 p).2 hp)
   |some t=>
    rw[ht]at h3;exact ⟨h3.1,h3.2.1,λp=>by rw[h3.2.2 p,h1 p]⟩
  .have ht:bO ((rows[j]?).getD []) c=none:=by
    cases ht:bO ((rows[j]?).getD []) c with
    |none=>rfl
    |some t=>
     obtain ⟨e,he,-,h4,-⟩:=ji ht;have:=h2.hi e he;omega
   rw[ht];exact λp _=>Mh hb Y
 refine ⟨⟨by rw[hal,h.rl],λr hr=>?_,λr hr e he=>?_⟩,λr hr=>?_,λw=>?_⟩
 .obtain ⟨fo,h2⟩:=hrow r hr;exact h2.pd
 .obtain ⟨fo,h2⟩:=hrow r hr;show e.to<rows.length;rw[h.rl];exact (h2.to e he).1
 .obtain ⟨fo,h2⟩:=hrow r hr;have:=xw h2.pd h2.hi (Nat.zero_le _);exact ⟨Y,λe he=>(h2.to e he).2⟩
 .rw[hG.gG w 0 h0];unfold IY;rw[if_pos rfl]
end
end Go.Proofs.YtdmoogjddmdmbaaGreatDoor
