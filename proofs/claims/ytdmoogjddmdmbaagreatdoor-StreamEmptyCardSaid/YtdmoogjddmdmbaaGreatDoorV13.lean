/- Walks. -/
import Derived.Lib.ItoaNum
import Derived.Lib.Itoa
import Derived.Test.YtdmoogjddmdmbaaGreatDoorV05
set_option maxRecDepth 100000
set_option maxHeartbeats 16000000
set_option linter.unusedVariables false
set_option linter.unusedSimpArgs false
namespace Go.Proofs.YtdmoogjddmdmbaaGreatDoor
section
set_option linter.unusedVariables false
set_option linter.unusedSimpArgs false
open Go
theorem xV (n:Nat):∀c∈Lib.decDigits n,48<=c.toNat/\c.toNat<=57:=by
 induction n using Nat.strongRecOn with
 | _ n ih=>
  rw[Lib.decDigits]
  split
  .intro c hc;simp only[List.mem_singleton]at hc;subst hc;rw[UInt8.toNat_ofNat'];omega
  .intro c hc;rcases List.mem_append.1 hc with hc | hc
   .exact ih (n / 10) (by omega) c hc
   .simp only[List.mem_singleton]at hc;subst hc;rw[UInt8.toNat_ofNat'];omega
def EY:List UInt8->Nat->Nat
 | [],a=>a
 | c::r,a=>EY r (a*10+(c.toNat - 48))
theorem Cu:∀(a b:List UInt8) (n:Nat),EY (a++b) n=EY b (EY a n)
 | [],b,n=>rfl
 | c::r,b,n=>by rw[List.cons_append,EY,EY,Cu r b]
theorem Cv (n:Nat):EY (Lib.decDigits n) 0=n:=by
 induction n using Nat.strongRecOn with
 | _ n ih=>
  rw[Lib.decDigits]
  split
  .show 0*10+_=n;rw[UInt8.toNat_ofNat'];omega
  .rw[Cu,ih (n / 10) (by omega)]
   show n / 10*10+_=n;rw[UInt8.toNat_ofNat'];omega
theorem jw (n k:Nat) (h:n<10 ^ (k+1)):(Lib.decDigits n).length<=k+1:=by
 induction k generalizing n with
 | zero=>rw[Lib.decDigits,dif_pos (by simpa using h)];simp
 | succ k ih=>
  rw[Lib.decDigits]
  split
  .simp
  .rw[List.length_append];have:=ih (n / 10) (by rw[Nat.pow_succ]at h;omega)
   simp;omega
end
section
set_option linter.unusedVariables false
set_option linter.unusedSimpArgs false
def fR (c:UInt8):Prop:=48<=c.toNat/\c.toNat<=57
theorem yo:∀{u v:List UInt8} {x y:UInt8} {r s:List UInt8},(∀c∈u,fR c)->(∀c∈v,fR c)->¬fR x->¬fR y->u++x::r=v++y::s->u=v/\x=y/\r=s
 | [],[],x,y,r,s,_,_,_,_,h=>by
  injection h with h1 h2;exact ⟨rfl,h1,h2⟩
 | [],b::v,x,y,r,s,_,hv,hx,_,h=>by
  injection h with h1 h2;subst h1;exact absurd (hv x (by simp)) hx
 | a::u,[],x,y,r,s,hu,_,_,hy,h=>by
  injection h with h1 h2;subst h1;exact absurd (hu a (by simp)) hy
 | a::u,b::v,x,y,r,s,hu,hv,hx,hy,h=>by
  injection h with h1 h2;obtain ⟨h3,h4,h5⟩:=yo (λc hc=>hu c (by simp[hc])) (λc hc=>hv c (by simp[hc])) hx hy h2
  exact ⟨by rw[h1,h3],h4,h5⟩
theorem nz {a b:Nat} {x y:UInt8} {r s:List UInt8} (hx:¬fR x) (hy:¬fR y) (h:Lib.decDigits a++x::r=Lib.decDigits b++y::s):a=b/\x=y/\r=s:=by
 obtain ⟨h1,h2,h3⟩:=yo (xV a) (xV b) hx hy h;refine ⟨?_,h2,h3⟩;have:=Cv a;rw[h1,Cv]at this;exact this.symm
def dI:List Nat->List UInt8
 | []=>[]
 | p::r=>Lib.decDigits p++32::dI r
theorem yp:∀{a b:List Nat},dI a=dI b->a=b
 | [],[],_=>rfl
 | [],q::s,h=>by
  have:=congrArg List.length h;simp[dI]at this
 | p::r,[],h=>by
  have:=congrArg List.length h;simp[dI]at this
 | p::r,q::s,h=>by
  obtain ⟨h1,-,h3⟩:=nz (by unfold fR;decide) (by unfold fR;decide) h
  rw[h1,yp h3]
theorem yq:∀(a b:List Nat),dI (a++b)=dI a++dI b
 | [],_=>rfl
 | p::r,b=>by rw[List.cons_append,dI,dI,yq r b,List.append_assoc,List.cons_append]
theorem FE (a:List Nat) (p:Nat):dI (a++[p])=dI a++(Lib.decDigits p++[32]):=by
 rw[yq];rfl
theorem rz:∀(a:List Nat),(∀p∈a,p<1000000000)->(dI a).length<=10*a.length
 | [],_=>Nat.le_refl _
 | p::r,h=>by
  have h1:=rz r (λq hq=>h q (by simp[hq]))
  have h2:=jw p 8 (by have:=h p (by simp);omega)
  rw[dI,List.length_append,List.length_cons,List.length_cons];omega
def ir (gs:List (List Nat)) (l:List Nat):List (List Nat):=if l∈gs then gs else gs++[l]
def cU:List Ed->List UInt8
 | []=>[]
 | e::r=>32::(Lib.decDigits e.lo++45::(Lib.decDigits e.hi++58::(Lib.decDigits e.to++cU r)))
def boolT:Bool->List UInt8
 | true=>[116,114,117,101]
 | false=>[102,97,108,115,101]
def oh (b:Bool) (l:List Ed):List UInt8:=boolT b++cU l
theorem rA:∀{a b:List Ed},cU a=cU b->a=b
 | [],[],_=>rfl
 | [],q::s,h=>by cases h
 | p::r,[],h=>by cases h
 | p::r,q::s,h=>by
  unfold cU at h;injection h with _ h;obtain ⟨h1,-,h⟩:=nz (by unfold fR;decide) (by unfold fR;decide) h
  obtain ⟨h2,-,h⟩:=nz (by unfold fR;decide) (by unfold fR;decide) h
  have tI:p.to=q.to/\cU r=cU s:=by
   have Ua:∀l:List Ed,cU l=[]\/∃t,cU l=32::t:=λl=>by
    cases l with
    | nil=>exact .inl rfl
    | cons e l=>exact .inr ⟨_,rfl⟩
   -- a byte that is no digit behind both
   have h':Lib.decDigits p.to++(cU r++[32])=Lib.decDigits q.to++(cU s++[32]):=by rw[<-List.append_assoc,h,List.append_assoc]
   obtain ⟨x,t,e1,hx⟩:∃x t,cU r++[32]=x::t/\¬fR x:=by
    rcases Ua r with e | ⟨t,e⟩
    .exact ⟨32,[],by rw[e];rfl,by unfold fR;decide⟩
    .exact ⟨32,t++[32],by rw[e];rfl,by unfold fR;decide⟩
   obtain ⟨y,t2,e2,hy⟩:∃x t,cU s++[32]=x::t/\¬fR x:=by
    rcases Ua s with e | ⟨t,e⟩
    .exact ⟨32,[],by rw[e];rfl,by unfold fR;decide⟩
    .exact ⟨32,t++[32],by rw[e];rfl,by unfold fR;decide⟩
   rw[e1,e2]at h';obtain ⟨g1,g2,g3⟩:=nz hx hy h';refine ⟨g1,?_⟩;have:cU r++[32]=cU s++[32]:=by rw[e1,e2,g2,g3]
   exact List.append_cancel_right this
  obtain ⟨a1,a2,a3⟩:=p;obtain ⟨b1,b2,b3⟩:=q;simp only at h1 h2 tI;rw[h1,h2,tI.1,rA tI.2]
theorem I9 {a b:Bool} {l m:List Ed} (h:oh a l=oh b m):a=b/\l=m:=by
 unfold oh at h
 cases a <;> cases b
 .exact ⟨rfl,rA (List.append_cancel_left h)⟩
 .injection h with h;cases h
 .injection h with h;cases h
 .exact ⟨rfl,rA (List.append_cancel_left h)⟩
theorem uG:∀(l:List Ed) (e:Ed),cU (l++[e])=cU l++(32::(Lib.decDigits e.lo++45::(Lib.decDigits e.hi++58::Lib.decDigits e.to)))
 | [],e=>by simp[cU]
 | a::r,e=>by rw[List.cons_append,cU,cU,uG r e];simp
end
section
set_option linter.unusedVariables false
set_option linter.unusedSimpArgs false
def iT:List (Nat×Nat)->List Nat
 | []=>[]
 | r::l=>r.1::(r.2+1)::iT l
def kO (sets:List (List (Nat×Nat))):List Nat->List Nat
 | []=>[]
 | p::l=>iT ((sets[p]?).getD [])++kO sets l
theorem xR (r:Nat×Nat):∀l,iT (l++[r])=iT l++[r.1,r.2+1]
 | []=>rfl
 | a::l=>by rw[List.cons_append,iT,xR r l,iT];rfl
theorem xS (sets:List (List (Nat×Nat))) (p:Nat):∀l,kO sets (l++[p])=kO sets l++iT ((sets[p]?).getD [])
 | []=>by simp[kO]
 | a::l=>by rw[List.cons_append,kO,xS sets p l,kO,List.append_assoc]
theorem Cr {r:Nat×Nat}:∀{l:List (Nat×Nat)},r∈l->r.1∈iT l/\r.2+1∈iT l
 | a::l,h=>by
  rw[iT];rcases List.mem_cons.1 h with rfl | h
  .simp
  .have:=Cr h;exact ⟨by simp[this.1],by simp[this.2]⟩
theorem Cs {sets:List (List (Nat×Nat))} {p:Nat} {r:Nat×Nat}:∀{l:List Nat},p∈l->r∈(sets[p]?).getD []->r.1∈kO sets l/\r.2+1∈kO sets l
 | a::l,h,hr=>by
  rw[kO];rcases List.mem_cons.1 h with rfl | h
  .have:=Cr hr;exact ⟨List.mem_append_left _ this.1,List.mem_append_left _ this.2⟩
  .have:=Cs h hr;exact ⟨List.mem_append_right _ this.1,List.mem_append_right _ this.2⟩
theorem GS {m:Nat}:∀{l:List (Nat×Nat)},(∀r∈l,r.1<m/\r.2<m)->∀v∈iT l,v<=m
 | [],_,v,h=>by cases h
 | a::l,hb,v,h=>by
  rw[iT]at h;have h1:=hb a (by simp)
  rcases List.mem_cons.1 h with rfl | h
  .omega
  .rcases List.mem_cons.1 h with rfl | h
   .omega
   .exact GS (λr hr=>hb r (by simp[hr])) v h
theorem GU {sets:List (List (Nat×Nat))} {m:Nat} (hb:∀rs∈sets,∀r∈rs,r.1<m/\r.2<m):∀{l:List Nat},∀v∈kO sets l,v<=m
 | [],v,h=>by cases h
 | a::l,v,h=>by
  rw[kO]at h;rcases List.mem_append.1 h with h | h
  .refine GS (λr hr=>?_) v h
   cases hs:sets[a]? with
   | none=>rw[hs]at hr;cases hr
   | some rs=>rw[hs]at hr;exact hb rs (List.mem_of_getElem? hs) r hr
  .exact GU hb v h
theorem uC:∀l,(iT l).length=2*l.length
 | []=>rfl
 | a::l=>by rw[iT,List.length_cons,List.length_cons,uC l,List.length_cons];omega
theorem uD {sets:List (List (Nat×Nat))} {m:Nat} (hb:∀rs∈sets,rs.length<=m):∀l:List Nat,(kO sets l).length<=2*m*l.length
 | []=>Nat.zero_le _
 | a::l=>by
  rw[kO,List.length_append,uC,List.length_cons,Nat.mul_succ];have h1:=uD hb l;have h2:((sets[a]?).getD []).length<=m:=by
   cases hs:sets[a]? with
   | none=>exact Nat.zero_le _
   | some rs=>exact hb rs (List.mem_of_getElem? hs)
  omega
theorem Ct:∀{rs:List (Nat×Nat)} {a:Nat},fN rs=true->rs≠[]->(∀r∈rs,r.2<256)->(∀x,rs.head?=some x->a<=x.1)->rs.length+a<=257
 | [],a,_,h,_,_=>absurd rfl h
 | [x],a,h,_,hb,ha=>by
  have h1:=ha x rfl;have h2:=hb x (by simp)
  simp[fN]at h;simp;omega
 | x::y::r,a,h,_,hb,ha=>by
  have h1:=ha x rfl;simp only[fN,Bool.and_eq_true,decide_eq_true_eq]at h;have:=Ct (rs:=y::r) (a:=x.2+2) h.2.2 (by simp) (λz hz=>hb z (by simp[hz])) (λz hz=>by simp at hz;subst hz;exact h.2.1)
  simp at this|-;omega
theorem Q5 {rs:List (Nat×Nat)} (h:fN rs=true) (hb:∀r∈rs,r.2<256):rs.length<=257:=by
 by_cases h0:rs=[]
 .subst h0;simp
 .have:=Ct (a:=0) h h0 hb (λ_ _=>Nat.zero_le _);omega
def jH (cuts:List Nat) (i:Nat):Nat:=(cuts[i]?).getD 256
def gz (b:Pb) (fo:List Nat) (c:Nat):List Nat:=fo.filter λp=>bU b p c
theorem jZ {b:Pb} {fo:List Nat} {c p:Nat}:p∈gz b fo c↔p∈fo/\bU b p c=true:=by unfold gz;exact List.mem_filter
section
variable {b:Pb} {fo cuts:List Nat}
structure rm (b:Pb) (fo cuts:List Nat):Prop where
 rR:cuts.Pairwise (·<·)
 mem:∀p∈fo,∀r∈(b.sets[p]?).getD [],r.1∈cuts/\r.2+1∈cuts
 le:∀v∈cuts,v<=256
theorem rm.start (h:rm b fo cuts) (gs:List (List Nat)):eu b fo gs [] (jH cuts 0):=by
 refine eu.nil λc hc p hp=>?_;unfold bU;refine M4 (h.mem p hp) λv hv=>?_;unfold jH at hc
 match cuts,hc,hv,h.rR with
 | a::l,hc,hv,hs=>
  simp at hc;rcases List.mem_cons.1 hv with rfl | hv
  .exact hc
  .have:=(List.pairwise_cons.1 hs).1 v hv;omega
theorem rm.done (h:rm b fo cuts) {gs:List (List Nat)} {row:List Ed} {i:Nat} (hi:cuts.length<=i+1) (hr:eu b fo gs row (jH cuts i)):eu b fo gs row 256:=by
 by_cases eY:i<cuts.length
 .have hv:jH cuts i=cuts[i]:=by unfold jH;rw[List.getElem?_eq_getElem eY];rfl
  rw[hv]at hr;refine hr.skip (h.le _ (List.getElem_mem eY)) λc h1 _ p hp=>?_;unfold bU;refine Js (h.mem p hp) λv hv=>?_;obtain ⟨j,hj,rfl⟩:=List.getElem_of_mem hv;have hs:=h.rR;rw[List.pairwise_iff_getElem]at hs;by_cases Gk:j=i
  .subst Gk;exact h1
  .have:=hs j i hj eY (by omega);omega
 .have:jH cuts i=256:=by unfold jH;rw[List.getElem?_eq_none (by omega)];rfl
  rwa [this]at hr
theorem rm.const (h:rm b fo cuts) {i:Nat} (hi:i+1<cuts.length) {c:Nat} (h1:jH cuts i<=c) (h2:c<jH cuts (i+1)):∀p∈fo,bU b p c=bU b p (jH cuts i):=by
 have e1:jH cuts i=cuts[i]:=by unfold jH;rw[List.getElem?_eq_getElem (by omega)];rfl
 have e2:jH cuts (i+1)=cuts[i+1]:=by unfold jH;rw[List.getElem?_eq_getElem hi];rfl
 intro p hp;rw[e1]at h1|-;rw[e2]at h2;exact EX h.rR hi (h.mem p hp) h1 h2
theorem rm.lt (h:rm b fo cuts) {i:Nat} (hi:i+1<cuts.length):jH cuts i<jH cuts (i+1)/\jH cuts (i+1)<=256:=by
 have e1:jH cuts i=cuts[i]:=by unfold jH;rw[List.getElem?_eq_getElem (by omega)];rfl
 have e2:jH cuts (i+1)=cuts[i+1]:=by unfold jH;rw[List.getElem?_eq_getElem hi];rfl
 have hs:=h.rR;rw[List.pairwise_iff_getElem]at hs;rw[e1,e2];exact ⟨hs i (i+1) (by omega) hi (by omega),h.le _ (List.getElem_mem hi)⟩
theorem rm.skip (h:rm b fo cuts) {gs:List (List Nat)} {row:List Ed} {i:Nat} (hi:i+1<cuts.length) (hr:eu b fo gs row (jH cuts i)) (hn:gz b fo (jH cuts i)=[]):eu b fo gs row (jH cuts (i+1)):=
 hr.skip (Nat.le_of_lt (h.lt hi).1) λc h1 h2 p hp=>by
  rw[h.const hi h1 h2 p hp]
  cases hs:bU b p (jH cuts i) with
  | false=>rfl
  | true=>
   have:p∈gz b fo (jH cuts i):=jZ.2 ⟨hp,hs⟩;rw[hn]at this
   cases this
theorem M5 (gs:List (List Nat)) (l:List Nat):gs.length<=(ir gs l).length/\(ir gs l).length<=gs.length+1:=by
 unfold ir
 split
 .omega
 .simp
theorem M6 (gs:List (List Nat)) (l:List Nat):l∈ir gs l:=by
 unfold ir
 split
 .assumption
 .simp
theorem M7 (gs:List (List Nat)) (l:List Nat):∃more,ir gs l=gs++more/\∀x∈more,x=l:=by
 unfold ir
 split
 .exact ⟨[],by simp,λx hx=>by cases hx⟩
 .exact ⟨[l],rfl,λx hx=>List.mem_singleton.1 hx⟩
theorem eu.ir {gs:List (List Nat)} {row:List Ed} {v:Nat} (h:eu b fo gs row v) (l:List Nat):eu b fo (ir gs l) row v:=by
 unfold Go.Proofs.YtdmoogjddmdmbaaGreatDoor.ir
 split
 .exact h
 .exact h.grow l
theorem uE {gs:List (List Nat)} {l:List Nat} (h:l∈gs):gs.idxOf l<gs.length/\gs[gs.idxOf l]?=some l:=by
 have h1:=List.idxOf_lt_length_of_mem h;refine ⟨h1,?_⟩;rw[List.getElem?_eq_getElem h1,List.getElem_idxOf]
theorem rm.add (h:rm b fo cuts) {gs:List (List Nat)} {row:List Ed} {i:Nat} (hi:i+1<cuts.length) (hr:eu b fo gs row (jH cuts i)) (h0:gs[0]?=some []) (hn:gz b fo (jH cuts i)≠[]) :
  eu b fo (Go.Proofs.YtdmoogjddmdmbaaGreatDoor.ir gs (gz b fo (jH cuts i))) (row++[⟨jH cuts i,jH cuts (i+1) - 1,(Go.Proofs.YtdmoogjddmdmbaaGreatDoor.ir gs (gz b fo (jH cuts i))).idxOf (gz b fo (jH cuts i))⟩]) (jH cuts (i+1)):=by
 obtain ⟨q1,q2⟩:=uE (M6 gs (gz b fo (jH cuts i)));refine (hr.ir _).add (h.lt hi).1 ?_ q1 λc h1 h2 p=>?_
 .refine Nat.pos_of_ne_zero λe=>?_;rw[e]at q2;obtain ⟨more,e2,-⟩:=M7 gs (gz b fo (jH cuts i));have hl:0<gs.length:=(List.getElem?_eq_some_iff.1 h0).1;rw[e2,List.getElem?_append_left hl,h0]at q2;exact hn (Option.some.inj q2).symm
 .rw[q2,Option.getD_some,jZ];constructor
  .rintro ⟨g1,g2⟩;exact ⟨g1,by rw[h.const hi h1 h2 p g1];exact g2⟩
  .rintro ⟨g1,g2⟩;exact ⟨g1,by rw[<-h.const hi h1 h2 p g1];exact g2⟩
end
def mq (b:Pb) (fo:List Nat) (gs eZ:List (List Nat)):Prop:=∃more,eZ=gs++more/\(gs.Nodup->eZ.Nodup)/\∀l∈more,l≠[]/\∃c,c<256/\l=gz b fo c
theorem mq.refl (b:Pb) (fo:List Nat) (gs:List (List Nat)):mq b fo gs gs:=⟨[],by simp,id,λl hl=>by cases hl⟩
theorem mq.add {b:Pb} {fo:List Nat} {gs eZ:List (List Nat)} (h:mq b fo gs eZ) {c:Nat} (hc:c<256) (hn:gz b fo c≠[]):mq b fo gs (ir eZ (gz b fo c)):=by
 obtain ⟨more,e,hd,hm⟩:=h;by_cases dk:gz b fo c∈eZ
 .rw[ir,if_pos dk];exact ⟨more,e,hd,hm⟩
 .rw[ir,if_neg dk];refine ⟨more++[gz b fo c],by rw[e,List.append_assoc],λhg=>?_,λl hl=>?_⟩
  .rw[List.nodup_append];exact ⟨hd hg,by simp,λx hx y hy=>by rw[List.mem_singleton]at hy;subst hy;rintro rfl;exact dk hx⟩
  .rcases List.mem_append.1 hl with hl | hl
   .exact hm l hl
   .rw[List.mem_singleton]at hl;subst hl;exact ⟨hn,c,hc,rfl⟩
end
section
set_option linter.unusedVariables false
set_option linter.unusedSimpArgs false
theorem xL:∀{r:List Ed} {b v:Nat},cB b r->(∀e∈r,e.hi<v)->b<=v->r.length+b<=v
 | [],b,v,_,_,h=>by simpa using h
 | e::r,b,v,h,hv,_=>by
  have h1:=hv e (by simp)
  have:=xL h.2.2 (λf hf=>hv f (by simp[hf])) (by omega:e.hi+1<=v)
  have:=h.1;have:=h.2.1;rw[List.length_cons];omega
theorem eu.abS {b:Pb} {fo fo':List Nat} {gs eZ:List (List Nat)} {row:List Ed} {v:Nat} (h:eu b fo gs row v) (hg:mq b fo' gs eZ):eu b fo eZ row v:=by
 obtain ⟨more,rfl,-,-⟩:=hg;refine ⟨h.rR,h.hi,λc hc=>?_⟩;have:=h.sp c hc
 cases ht:bS row c with
 | none=>rw[ht]at this;exact this
 | some t=>
  rw[ht]at this;obtain ⟨h0,h1,h2⟩:=this;refine ⟨h0,by rw[List.length_append];omega,λp=>?_⟩
  rw[List.getElem?_append_left h1];exact h2 p
theorem eu.to {b:Pb} {fo:List Nat} {gs:List (List Nat)} {row:List Ed} (h:eu b fo gs row 256):∀e∈row,e.to<gs.length/\e.lo<256/\e.hi<256:=λe he=>by
 have h1:=kK h.rR he;have h2:=h.hi e he;have h3:e.lo<=e.hi:=by
  have:∀{r:List Ed} {b:Nat},cB b r->∀g∈r,g.lo<=g.hi:=by
   intro r
   induction r with
   | nil=>intro b _ g hg;cases hg
   | cons a r ih=>
    intro b h g hg;rcases List.mem_cons.1 hg with rfl | hg
    .exact h.2.1
    .exact ih h.2.2 g hg
  exact this h.rR e he
 have h4:=h.sp e.lo (by omega)
 rw[h1]at h4;exact ⟨h4.2.1,by omega,h2⟩
def VP (b:Pb) (x:dw):List Nat->Nat->Prop
 | []=>λ_=>False
 | [c]=>λp=>p∈x.first/\bU b p c=true
 | c::d::w=>λp=>(∃q,VP b x (d::w) q/\p∈de b q)/\bU b p c=true
structure ER (b:Pb) (x:dw) (gs:List (List Nat)) (rows:List (List Ed)) (bE:List Bool) (i:Nat):Prop where
 g0:gs[0]?=some []
 nd:gs.Nodup
 gl:∀g∈gs,∀p∈g,p<b.sets.length
 rl:rows.length=i
 al:bE.length=max i 1
 il:i<=gs.length
 acc:∀j,j<bE.length->((bE[j]?).getD false=true↔if j=0 then x.emp=true else ∃p∈(gs[j]?).getD [],p∈x.last)
 row:∀j,j<i->∃fo,(∀p,p∈fo↔nT b x gs j p)/\eu b fo gs ((rows[j]?).getD []) 256
 rR:∀g∈gs,g.Pairwise (·<·)
 rch:∀j,0<j->j<gs.length->(gs[j]?).getD []≠[]/\∃w,∀p,p∈(gs[j]?).getD []↔VP b x w p
section
variable {b:Pb} {x:dw} {gs eZ:List (List Nat)} {rows:List (List Ed)} {bE:List Bool} {i:Nat}
theorem ER.start (b:Pb) (x:dw):ER b x [[]] [] [x.emp] 0:=by
 refine ⟨rfl,by simp,λg hg p hp=>?_,rfl,rfl,Nat.zero_le _,λj hj=>?_,λj hj=>absurd hj (Nat.not_lt_zero _),λg hg=>by simp at hg;subst hg;exact List.Pairwise.nil,λj h0 hj=>by simp at hj;omega⟩
 .simp at hg;subst hg;cases hp
 .simp at hj;subst hj;simp
theorem Co {b:Pb} {x:dw} {gs:List (List Nat)} {more:List (List Nat)} {j:Nat} (hj:j<gs.length) (p:Nat):nT b x (gs++more) j p↔nT b x gs j p:=by
 unfold nT;rw[List.getElem?_append_left hj]
theorem ER.step (h:ER b x gs rows bE i) (hi:i<gs.length) {fo:List Nat} (Zq:∀p,p∈fo↔nT b x gs i p) (DU:fo.Pairwise (·<·)) (kF:∀p∈fo,p<b.sets.length) (hg:mq b fo gs eZ) {row:List Ed} (hr:eu b fo eZ row 256)
  {Jm:List Bool} (ha:if i=0 then Jm=bE else ∃a,Jm=bE++[a]/\(a=true↔∃p∈(gs[i]?).getD [],p∈x.last)):ER b x eZ (rows++[row]) Jm (i+1):=by
 have ur:=hg;obtain ⟨more,rfl,bL,MS⟩:=hg;have h0:0<gs.length:=by omega
 have nQ:=h.al;have eY:=h.il;refine ⟨by rw[List.getElem?_append_left h0];exact h.g0,bL h.nd,?_,by rw[List.length_append,h.rl];rfl,?_,by rw[List.length_append];omega,?_,?_,?_,?_⟩
 .intro g hg p hp;rcases List.mem_append.1 hg with hg | hg
  .exact h.gl g hg p hp
  .obtain ⟨-,c,-,rfl⟩:=MS g hg;exact kF p (jZ.1 hp).1
 .by_cases hz:i=0
  .rw[if_pos hz]at ha;subst ha;rw[nQ];omega
  .rw[if_neg hz]at ha;obtain ⟨a,rfl,-⟩:=ha;rw[List.length_append,nQ];simp;omega
 .intro j hj;by_cases hz:i=0
  .rw[if_pos hz]at ha;subst ha;have:=h.acc j hj;rw[nQ]at hj;have GH:j=0:=by omega
   subst GH;simpa using this
  .rw[if_neg hz]at ha;obtain ⟨a,rfl,UY⟩:=ha;rw[List.length_append,nQ]at hj;simp at hj;by_cases Gk:j<bE.length
   .have:=h.acc j Gk;rw[List.getElem?_append_left Gk,this,List.getElem?_append_left (by omega)]
   .have hje:j=bE.length:=by omega
    have aiq:j=i:=by omega
    subst aiq;rw[List.getElem?_append_right (by omega),if_neg hz,List.getElem?_append_left hi,<-UY]
    simp[hje]
 .intro j hj;by_cases Gk:j<i
  .obtain ⟨fo',h1,h2⟩:=h.row j Gk;refine ⟨fo',λp=>by rw[Co (by omega)];exact h1 p,?_⟩
   rw[List.getElem?_append_left (by rw[h.rl];exact Gk)]
   exact h2.abS ur
  .have:j=i:=by omega
   subst this;refine ⟨fo,λp=>by rw[Co hi];exact Zq p,?_⟩
   rw[List.getElem?_append_right (by rw[h.rl];exact Nat.le_refl _),h.rl]
   simpa using hr
 .intro g hg;rcases List.mem_append.1 hg with hg | hg
  .exact h.rR g hg
  .obtain ⟨-,c,-,rfl⟩:=MS g hg;exact DU.filter _
 .intro j GH hj;by_cases oa:j<gs.length
  .rw[List.getElem?_append_left oa];exact h.rch j GH oa
  .have hjm:(gs++more)[j]?=some (gs++more)[j]:=List.getElem?_eq_getElem hj;have bW:(gs++more)[j]∈more:=by
    rw[List.getElem_append_right (by omega)];exact List.getElem_mem _
   rw[hjm,Option.getD_some];obtain ⟨h1,c,-,h2⟩:=MS _ bW;refine ⟨h1,?_⟩;by_cases hz:i=0
   .refine ⟨[c],λp=>?_⟩;rw[h2,jZ,Zq p,hz];unfold nT;rw[if_pos rfl]
    rfl
   .obtain ⟨h3,w,hw⟩:=h.rch i (by omega) hi
    cases w with
    | nil=>
     exfalso
     cases hq:(gs[i]?).getD [] with
     | nil=>exact h3 hq
     | cons a r=>
      have:=(hw a).1 (by rw[hq];simp)
      exact this
    | cons d w=>
     refine ⟨c::d::w,λp=>?_⟩;rw[h2,jZ,Zq p];unfold nT;rw[if_neg hz];show _↔(∃q,VP b x (d::w) q/\p∈de b q)/\bU b p c=true;constructor
     .rintro ⟨⟨q,q1,q2⟩,q3⟩;exact ⟨⟨q,(hw q).1 q1,q2⟩,q3⟩
     .rintro ⟨⟨q,q1,q2⟩,q3⟩;exact ⟨⟨q,(hw q).2 q1,q2⟩,q3⟩
theorem MT (hb:∀rs∈b.sets,∀r∈rs,r.2<256) {p c:Nat} (hc:256<=c):bU b p c=false:=by
 unfold bU yR;rw[List.any_eq_false];intro r hr
 cases hs:b.sets[p]? with
 | none=>rw[hs]at hr;cases hr
 | some rs=>
  rw[hs]at hr;have:=hb rs (List.mem_of_getElem? hs) r hr;simp;omega
def uv:Nat->List (List Nat)
 | 0=>[[]]
 | n+1=>uv n++(uv n).map (·++[n])
theorem xM:∀n,(uv n).length=2 ^ n
 | 0=>rfl
 | n+1=>by rw[uv,List.length_append,List.length_map,xM n,Nat.pow_succ];omega
theorem rj:∀(n:Nat) (l:List Nat),l.Pairwise (·<·)->(∀p∈l,p<n)->l∈uv n
 | 0,l,_,h=>by
  cases l with
  | nil=>simp[uv]
  | cons a r=>exact absurd (h a (by simp)) (Nat.not_lt_zero _)
 | n+1,l,hs,h=>by
  rw[uv,List.mem_append,List.mem_map];by_cases hn:n∈l
  .right
   have hne:l≠[]:=by rintro rfl;cases hn
   have hl:l=l.dropLast++[l.getLast hne]:=(List.dropLast_concat_getLast hne).symm;have BN:l.getLast hne=n:=by
    have h1:=h (l.getLast hne) (List.getLast_mem hne);rw[hl]at hn hs;rcases List.mem_append.1 hn with hn | hn
    .have:=(List.pairwise_append.1 hs).2.2 n hn _ (List.mem_singleton.2 rfl);omega
    .exact (List.mem_singleton.1 hn).symm
   refine ⟨l.dropLast,rj n _ ?_ λp hp=>?_,by rw[<-BN];exact hl.symm⟩
   .rw[hl]at hs;exact (List.pairwise_append.1 hs).1
   .rw[hl]at hs;have:=(List.pairwise_append.1 hs).2.2 p hp _ (List.mem_singleton.2 rfl);omega
  .left
   exact rj n l hs λp hp=>by
    have:=h p hp;have:p≠n:=by rintro rfl;exact hn hp
    omega
theorem ER.count (h:ER b x gs rows bE i):gs.length<=2 ^ b.sets.length:=by
 rw[<-xM];exact jW h.nd λg hg=>rj _ _ (h.rR g hg) (h.gl g hg)
theorem ER.done (h:ER b x gs rows bE gs.length) (hb:∀rs∈b.sets,∀r∈rs,r.2<256):pL ⟨rows,bE⟩/\(∀r∈rows,r.length<=256/\∀e∈r,e.lo<256/\e.hi<256)/\∀w,jn ⟨rows,bE⟩ w 0=true↔LP b x w:=by
 have h0:0<gs.length:=(List.getElem?_eq_some_iff.1 h.g0).1;have nQ:bE.length=gs.length:=by rw[h.al];omega
 have hrow:∀r∈rows,∃fo,eu b fo gs r 256:=λr hr=>by
  obtain ⟨j,hj⟩:=List.mem_iff_getElem?.1 hr;have oa:=(List.getElem?_eq_some_iff.1 hj).1;obtain ⟨fo,-,h2⟩:=h.row j (by rw[<-h.rl];exact oa)
  rw[hj]at h2;exact ⟨fo,h2⟩
 have hG:VQ b x gs ⟨rows,bE⟩:=by
  refine ⟨λj hj=>h.acc j (by omega),λj hj c=>?_⟩
  obtain ⟨fo,h1,h2⟩:=h.row j hj;show match bS ((rows[j]?).getD []) c with
   | none=>_
   | some t=>_
  by_cases hc:c<256
  .have h3:=h2.sp c hc
   cases ht:bS ((rows[j]?).getD []) c with
   | none=>rw[ht]at h3;exact λp hp=>h3 p ((h1 p).2 hp)
   | some t=>
    rw[ht]at h3;exact ⟨h3.1,h3.2.1,λp=>by rw[h3.2.2 p,h1 p]⟩
  .have ht:bS ((rows[j]?).getD []) c=none:=by
    cases ht:bS ((rows[j]?).getD []) c with
    | none=>rfl
    | some t=>
     obtain ⟨e,he,-,h4,-⟩:=ju ht;have:=h2.hi e he;omega
   rw[ht];exact λp _=>MT hb (by omega)
 refine ⟨⟨by rw[nQ,h.rl],λr hr=>?_,λr hr e he=>?_⟩,λr hr=>?_,λw=>?_⟩
 .obtain ⟨fo,h2⟩:=hrow r hr;exact h2.rR
 .obtain ⟨fo,h2⟩:=hrow r hr;show e.to<rows.length;rw[h.rl];exact (h2.to e he).1
 .obtain ⟨fo,h2⟩:=hrow r hr;have:=xL h2.rR h2.hi (Nat.zero_le _);exact ⟨by omega,λe he=>(h2.to e he).2⟩
 .rw[hG.iu w 0 h0];unfold Jn;rw[if_pos rfl]
end
end
section
set_option linter.unusedVariables false
set_option linter.unusedSimpArgs false
def Bm (p:Nat×Nat):Nat×Nat:=if 2147483648<=p.2*p.2 / 1073741824 then (2*p.1+1,p.2*p.2 / 1073741824 / 2) else (2*p.1,p.2*p.2 / 1073741824)
def Le:Nat->Nat×Nat->Nat×Nat
 | 0,p=>p
 | k+1,p=>Le k (Bm p)
def ko (n:Nat):Nat:=Lib.bitLen n - 1
def lO (n:Nat):Nat:=if n<1\/1073741824<n then 0 else (Le 16 (ko n,n*2 ^ (30-ko n))).1
theorem uJ {n:Nat} (h1:1<=n) (h2:n<=1073741824):2 ^ ko n<=n/\n<2 ^ (ko n+1)/\ko n<=30/\Lib.bitLen n=ko n+1:=by
 obtain ⟨q1,q2,q3⟩:=Lib.bitLenAux_bounds 64 n (by omega) (by omega)
 have hb:Lib.bitLen n=Lib.bitLenAux 64 n:=rfl;unfold ko;rw[hb];refine ⟨q2,by rw[show Lib.bitLenAux 64 n - 1+1=Lib.bitLenAux 64 n by omega];exact q3,?_,by omega⟩
 by_cases h:Lib.bitLenAux 64 n - 1<=30
 .exact h
 .have:2 ^ 31<=2 ^ (Lib.bitLenAux 64 n - 1):=Nat.pow_le_pow_right (by decide) (by omega)
  omega
def InL (x:Nat):Prop:=1073741824<=x/\x<2147483648
theorem Jw {n:Nat} (h1:1<=n) (h2:n<=1073741824):InL (n*2 ^ (30-ko n)):=by
 obtain ⟨q1,q2,q3,-⟩:=uJ h1 h2;have e:2 ^ ko n*2 ^ (30-ko n)=1073741824:=by rw[<-Nat.pow_add,show ko n+(30-ko n)=30 by omega]
 have e2:2 ^ (ko n+1)*2 ^ (30-ko n)=2147483648:=by rw[<-Nat.pow_add,show ko n+1+(30-ko n)=31 by omega]
 have hp:0<2 ^ (30-ko n):=Nat.two_pow_pos _;have g1:=Nat.mul_le_mul_right (2 ^ (30-ko n)) q1;have g2:=Nat.mul_lt_mul_of_pos_right q2 hp;exact ⟨by omega,by omega⟩
theorem Nf {x:Nat} (h:InL x):1073741824<=x*x / 1073741824/\x*x / 1073741824<4294967296/\x*x<4611686018427387904:=by
 have g1:1073741824*1073741824<=x*x:=Nat.mul_le_mul h.1 h.1;have g2:x*x<=2147483647*2147483647:=Nat.mul_le_mul (by have:=h.2;omega) (by have:=h.2;omega)
 refine ⟨?_,?_,by omega⟩
 .rw[Nat.le_div_iff_mul_le (by decide)];exact g1
 .rw[Nat.div_lt_iff_lt_mul (by decide)];omega
theorem Ng {p:Nat×Nat} (h:InL p.2):InL (Bm p).2:=by
 obtain ⟨h1,h2,-⟩:=Nf h;unfold Bm
 split
 .exact ⟨by show 1073741824<=_ / 2;omega,by show _ / 2<2147483648;omega⟩
 .exact ⟨h1,by show _<2147483648;omega⟩
def Nh (p q:Nat×Nat):Prop:=p.1<q.1\/(p.1=q.1/\p.2<=q.2)
theorem Jy {p q:Nat×Nat} (h:Nh p q):Nh (Bm p) (Bm q):=by
 rcases h with h | ⟨h1,h2⟩
 .left
  have g1:(Bm p).1<=2*p.1+1:=by unfold Bm; split <;> simp
  have g2:2*q.1<=(Bm q).1:=by unfold Bm; split <;> simp
  omega
 .have hs:p.2*p.2 / 1073741824<=q.2*q.2 / 1073741824:=Nat.div_le_div_right (Nat.mul_le_mul h2 h2);unfold Bm;generalize p.2*p.2 / 1073741824=a at *;generalize q.2*q.2 / 1073741824=b at *;by_cases h3:2147483648<=a
  .have h4:2147483648<=b:=Nat.le_trans h3 hs;rw[if_pos h3,if_pos h4];exact .inr ⟨by show 2*p.1+1=2*q.1+1;omega,Nat.div_le_div_right hs⟩
  .rw[if_neg h3];by_cases h4:2147483648<=b
   .rw[if_pos h4];exact .inl (by show 2*p.1<2*q.1+1;omega)
   .rw[if_neg h4];exact .inr ⟨by show 2*p.1=2*q.1;omega,hs⟩
theorem GZ:∀(k:Nat) {p q:Nat×Nat},Nh p q->Nh (Le k p) (Le k q)
 | 0,_,_,h=>h
 | k+1,_,_,h=>GZ k (Jy h)
theorem Jz {a b:Nat} (h1:1<=a) (h2:a<=b) (h3:b<=1073741824):lO a<=lO b:=by
 unfold lO;rw[if_neg (by omega),if_neg (by omega)]
 have hl:Nh (ko a,a*2 ^ (30-ko a)) (ko b,b*2 ^ (30-ko b)):=by
  obtain ⟨q1,-,-,-⟩:=uJ h1 (by omega)
  obtain ⟨-,q2,-,-⟩:=uJ (n:=b) (by omega) h3
  have hy:ko a<=ko b:=by
   by_cases h:ko a<=ko b
   .exact h
   .have:2 ^ (ko b+1)<=2 ^ ko a:=Nat.pow_le_pow_right (by decide) (by omega)
    omega
  by_cases he:ko a=ko b
  .right
   refine ⟨he,?_⟩;show a*2 ^ (30-ko a)<=b*2 ^ (30-ko b);rw[he];exact Nat.mul_le_mul_right _ h2
  .exact .inl (by show ko a<ko b;omega)
 rcases GZ 16 hl with h | ⟨h,-⟩ <;> omega
theorem Ni:∀(k:Nat) (p:Nat×Nat),(Le k p).1<=2 ^ k*p.1+(2 ^ k - 1)
 | 0,p=>by show p.1<=1*p.1+0;omega
 | k+1,p=>by
  have h:=Ni k (Bm p);have g1:(Bm p).1<=2*p.1+1:=by unfold Bm; split <;> simp
  have h2:2 ^ k*(Bm p).1<=2 ^ k*(2*p.1+1):=Nat.mul_le_mul_left _ g1;have h3:2 ^ k*(2*p.1+1)=2 ^ (k+1)*p.1+2 ^ k:=by rw[Nat.mul_add,Nat.pow_succ,Nat.mul_assoc];omega
  have h4:2 ^ (k+1)=2 ^ k+2 ^ k:=by rw[Nat.pow_succ];omega
  have h5:0<2 ^ k:=Nat.two_pow_pos _;show (Le k (Bm p)).1<=_;omega
theorem G0 (n:Nat):lO n<=2031615:=by
 unfold lO;by_cases h:n<1\/1073741824<n
 .rw[if_pos h];omega
 .rw[if_neg h];have:=Ni 16 (ko n,n*2 ^ (30-ko n));have h3:=(uJ (n:=n) (by omega) (by omega)).2.2.1
  simp only at this;omega
def ux (len n:Nat):Nat:=if 0<n then n*(lO len-lO n) else 0
def cntF (bs:List Nat) (c:Nat):Nat:=if 65536<bs.length then 0 else bs.count c
def JA (f:Nat->Nat) (len:Nat):Nat->Nat->Nat
 | 0,_=>0
 | k+1,c=>ux len (f c)+JA f len k (c+1)
def Rf (bs:List Nat):Nat:=JA (cntF bs) bs.length 256 0
theorem Rg {len n:Nat} (h:n<=65536):ux len n<=133143920640:=by
 unfold ux
 split
 .have h1:lO len-lO n<=2031615:=by have:=G0 len;omega
  have:=Nat.mul_le_mul h h1;omega
 .omega
theorem zB (bs:List Nat) (c:Nat):cntF bs c<=65536/\(bs.length<=65536->cntF bs c<=bs.length):=by
 unfold cntF
 split
 .exact ⟨by omega,by omega⟩
 .have:=List.count_le_length (a:=c) (l:=bs);exact ⟨by omega,λ_=>this⟩
end
end Go.Proofs.YtdmoogjddmdmbaaGreatDoor
