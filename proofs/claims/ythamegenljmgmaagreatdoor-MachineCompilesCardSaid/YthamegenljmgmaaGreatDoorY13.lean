/- Walks. -/
import Derived.Test.YthamegenljmgmaaGreatDoorY01
import Derived.Lib.ItoaNum
import Derived.Lib.Itoa
set_option maxRecDepth 100000
set_option maxHeartbeats 16000000
set_option linter.unusedVariables false
set_option linter.unusedSimpArgs false
namespace Go.Proofs.YthamegenljmgmaaGreatDoor
open Go.RowKit
section
open Go
theorem yd(n:Nat):∀c∈Lib.decDigits n,48<=c.toNat/\c.toNat<=57:=by
 induction n using Nat.strongRecOn with
 |_ n ih=>
  rw[Lib.decDigits];split
  .intro c hc;simp only[List.mem_singleton]at hc;subst hc;rw[UInt8.toNat_ofNat'];omega
  .intro c hc;rcases List.mem_append.1 hc with hc|hc
   .exact ih (n / 10) U c hc
   .simp only[List.mem_singleton]at hc;subst hc;rw[UInt8.toNat_ofNat'];omega
def D8:List UInt8->Nat->Nat
 | [],a=>a
 |c::r,a=>D8 r (a*10+(c.toNat - 48))
theorem BV:∀(a b:List UInt8) (n:Nat),D8 (a++b) n=D8 b (D8 a n)
 | [],b,n=>rfl
 |c::r,b,n=>by rw[List.cons_append,D8,D8,BV r b]
theorem BW(n:Nat):D8 (Lib.decDigits n) 0=n:=by
 induction n using Nat.strongRecOn with
 |_ n ih=>
  rw[Lib.decDigits];split
  .show 0*10+_=n;rw[UInt8.toNat_ofNat'];omega
  .rw[BV,ih (n / 10) U];show n / 10*10+_=n;rw[UInt8.toNat_ofNat'];omega
theorem kB(n k:Nat)(h:n<10 ^ (k+1)):(Lib.decDigits n).length<=k+1:=by
 induction k generalizing n with
 |zero=>rw[Lib.decDigits,dif_pos (by simpa using h)];simp
 |succ k ih=>
  rw[Lib.decDigits];split
  .simp
  .rw[List.length_append];have:=ih (n / 10) (by rw[Nat.pow_succ]at h;omega)
   simp;omega
end
def hQ(c:UInt8):Prop:=48<=c.toNat/\c.toNat<=57
theorem yw:∀{u v:List UInt8} {x y:UInt8} {r s:List UInt8},(∀c∈u,hQ c)->(∀c∈v,hQ c)->¬hQ x->¬hQ y->u++x::r=v++y::s->u=v/\x=y/\r=s
 | [],[],x,y,r,s,_,_,_,_,h=>by
  injection h with h1 h2;exact ⟨rfl,h1,h2⟩
 | [],b::v,x,y,r,s,_,hv,hx,_,h=>by
  injection h with h1 h2;subst h1;exact absurd (hv x H) hx
 |a::u,[],x,y,r,s,hu,_,_,hy,h=>by
  injection h with h1 h2;subst h1;exact absurd (hu a H) hy
 |a::u,b::v,x,y,r,s,hu,hv,hx,hy,h=>by
  injection h with h1 h2;obtain ⟨h3,h4,h5⟩:=yw (λc hc=>hu c (by simp[hc])) (λc hc=>hv c (by simp[hc])) hx hy h2
  exact ⟨by rw[h1,h3],h4,h5⟩
theorem oZ{a b:Nat}{x y:UInt8}{r s:List UInt8}(hx:¬hQ x)(hy:¬hQ y)(h:Lib.decDigits a++x::r=Lib.decDigits b++y::s):a=b/\x=y/\r=s:=by
 obtain ⟨h1,h2,h3⟩:=yw (yd a) (yd b) hx hy h;refine ⟨?_,h2,h3⟩;have:=BW a;rw[h1,BW]at this;exact this.symm
def eO:List Nat->List UInt8
 | []=>[]
 |p::r=>Lib.decDigits p++32::eO r
theorem yx:∀{a b:List Nat},eO a=eO b->a=b
 | [],[],_=>rfl
 | [],q::s,h=>by
  have:=congrArg List.length h;simp[eO]at this
 |p::r,[],h=>by
  have:=congrArg List.length h;simp[eO]at this
 |p::r,q::s,h=>by
  obtain ⟨h1,-,h3⟩:=oZ (by unfold hQ;decide) (by unfold hQ;decide) h
  rw[h1,yx h3]
theorem yy:∀(a b:List Nat),eO (a++b)=eO a++eO b
 | [],_=>rfl
 |p::r,b=>by rw[List.cons_append,eO,eO,yy r b,List.append_assoc,List.cons_append]
theorem EB(a:List Nat)(p:Nat):eO (a++[p])=eO a++(Lib.decDigits p++[32]):=by
 rw[yy];rfl
theorem sB:∀(a:List Nat),(∀p∈a,p<1000000000)->(eO a).length<=10*a.length
 | [],_=>V
 |p::r,h=>by
  have h1:=sB r (λq hq=>h q (by simp[hq]))
  have h2:=kB p 8 (by have:=h p H;omega)
  rw[eO,List.length_append,List.length_cons,List.length_cons];omega
def iL(gs:List (List Nat))(l:List Nat):List (List Nat):=if l∈gs then gs else gs++[l]
def dL:List Ed->List UInt8
 | []=>[]
 |e::r=>32::(Lib.decDigits e.lo++45::(Lib.decDigits e.hi++58::(Lib.decDigits e.to++dL r)))
def uU:Bool->List UInt8
 |true=>[116,114,117,101]
 |false=>[102,97,108,115,101]
def pK(b:Bool)(l:List Ed):List UInt8:=uU b++dL l
theorem sC:∀{a b:List Ed},dL a=dL b->a=b
 | [],[],_=>rfl
 | [],q::s,h=>by cases h
 |p::r,[],h=>by cases h
 |p::r,q::s,h=>by
  unfold dL at h;injection h with _ h;obtain ⟨h1,-,h⟩:=oZ (by unfold hQ;decide) (by unfold hQ;decide) h
  obtain ⟨h2,-,h⟩:=oZ (by unfold hQ;decide) (by unfold hQ;decide) h
  have jM:p.to=q.to/\dL r=dL s:=by
   have TG:∀l:List Ed,dL l=[]\/∃t,dL l=32::t:=λl=>by
    cases l with
    |nil=>exact .inl rfl
    |cons e l=>exact .inr ⟨_,rfl⟩
   -- a byte that is no digit behind both
   have h':Lib.decDigits p.to++(dL r++[32])=Lib.decDigits q.to++(dL s++[32]):=by rw[<-List.append_assoc,h,List.append_assoc]
   obtain ⟨x,t,e1,hx⟩:∃x t,dL r++[32]=x::t/\¬hQ x:=by
    rcases TG r with e|⟨t,e⟩
    .exact ⟨32,[],by rw[e];rfl,by unfold hQ;decide⟩
    .exact ⟨32,t++[32],by rw[e];rfl,by unfold hQ;decide⟩
   obtain ⟨y,t2,e2,hy⟩:∃x t,dL s++[32]=x::t/\¬hQ x:=by
    rcases TG s with e|⟨t,e⟩
    .exact ⟨32,[],by rw[e];rfl,by unfold hQ;decide⟩
    .exact ⟨32,t++[32],by rw[e];rfl,by unfold hQ;decide⟩
   rw[e1,e2]at h';obtain ⟨g1,g2,g3⟩:=oZ hx hy h';refine ⟨g1,?_⟩;have:dL r++[32]=dL s++[32]:=by rw[e1,e2,g2,g3]
   exact List.append_cancel_right this
  obtain ⟨a1,a2,a3⟩:=p;obtain ⟨b1,b2,b3⟩:=q;simp only at h1 h2 jM;rw[h1,h2,jM.1,sC jM.2]
theorem Hw{a b:Bool}{l m:List Ed}(h:pK a l=pK b m):a=b/\l=m:=by
 unfold pK at h
 cases a <;> cases b
 .exact ⟨rfl,sC (List.append_cancel_left h)⟩
 .injection h with h;cases h
 .injection h with h;cases h
 .exact ⟨rfl,sC (List.append_cancel_left h)⟩
theorem vt:∀(l:List Ed) (e:Ed),dL (l++[e])=dL l++(32::(Lib.decDigits e.lo++45::(Lib.decDigits e.hi++58::Lib.decDigits e.to)))
 | [],e=>by simp[dL]
 |a::r,e=>by rw[List.cons_append,dL,dL,vt r e];simp
def fV:List (Nat×Nat)->List Nat
 | []=>[]
 |r::l=>r.1::(r.2+1)::fV l
def kQ(sets:List (List (Nat×Nat))):List Nat->List Nat
 | []=>[]
 |p::l=>fV ((sets[p]?).getD [])++kQ sets l
theorem sf(r:Nat×Nat):∀l,fV (l++[r])=fV l++[r.1,r.2+1]
 | []=>rfl
 |a::l=>by rw[List.cons_append,fV,sf r l,fV];rfl
theorem si(sets:List (List (Nat×Nat)))(p:Nat):∀l,kQ sets (l++[p])=kQ sets l++fV ((sets[p]?).getD [])
 | []=>by simp[kQ]
 |a::l=>by rw[List.cons_append,kQ,si sets p l,kQ,List.append_assoc]
theorem BS{r:Nat×Nat}:∀{l:List (Nat×Nat)},r∈l->r.1∈fV l/\r.2+1∈fV l
 |a::l,h=>by
  rw[fV];rcases List.mem_cons.1 h with rfl|h
  .simp
  .have:=BS h;exact ⟨by simp[this.1],by simp[this.2]⟩
theorem vm{sets:List (List (Nat×Nat))}{p:Nat}{r:Nat×Nat}:∀{l:List Nat},p∈l->r∈(sets[p]?).getD []->r.1∈kQ sets l/\r.2+1∈kQ sets l
 |a::l,h,hr=>by
  rw[kQ];rcases List.mem_cons.1 h with rfl|h
  .have:=BS hr;exact ⟨List.mem_append_left _ this.1,List.mem_append_left _ this.2⟩
  .have:=vm h hr;exact ⟨List.mem_append_right _ this.1,List.mem_append_right _ this.2⟩
theorem Gl{m:Nat}:∀{l:List (Nat×Nat)},(∀r∈l,r.1<m/\r.2<m)->∀v∈fV l,v<=m
 | [],_,v,h=>by cases h
 |a::l,hb,v,h=>by
  rw[fV]at h;have h1:=hb a H;rcases List.mem_cons.1 h with rfl|h
  .omega
  .rcases List.mem_cons.1 h with rfl|h
   .omega
   .exact Gl (λr hr=>hb r (by simp[hr])) v h
theorem Gm{sets:List (List (Nat×Nat))}{m:Nat}(hb:∀rs∈sets,∀r∈rs,r.1<m/\r.2<m):∀{l:List Nat},∀v∈kQ sets l,v<=m
 | [],v,h=>by cases h
 |a::l,v,h=>by
  rw[kQ]at h;rcases List.mem_append.1 h with h|h
  .refine Gl (λr hr=>?_) v h
   cases hs:sets[a]? with
   |none=>rw[hs]at hr;cases hr
   |some rs=>rw[hs]at hr;exact hb rs (List.mem_of_getElem? hs) r hr
  .exact Gm hb v h
theorem vn:∀l,(fV l).length=2*l.length
 | []=>rfl
 |a::l=>by rw[fV,List.length_cons,List.length_cons,vn l,List.length_cons];omega
theorem vp{sets:List (List (Nat×Nat))}{m:Nat}(hb:∀rs∈sets,rs.length<=m):∀l:List Nat,(kQ sets l).length<=2*m*l.length
 | []=>Nat.zero_le _
 |a::l=>by
  rw[kQ,List.length_append,vn,List.length_cons,Nat.mul_succ];have h1:=vp hb l;have h2:((sets[a]?).getD []).length<=m:=by
   cases hs:sets[a]? with
   |none=>exact Nat.zero_le _
   |some rs=>exact hb rs (List.mem_of_getElem? hs)
  omega
theorem BU:∀{rs:List (Nat×Nat)} {a:Nat},ep rs=true->rs≠[]->(∀r∈rs,r.2<256)->(∀x,rs.head?=some x->a<=x.1)->rs.length+a<=257
 | [],a,_,h,_,_=>absurd rfl h
 | [x],a,h,_,hb,ha=>by
  have h1:=ha x rfl;have h2:=hb x H;simp[ep]at h;simp;omega
 |x::y::r,a,h,_,hb,ha=>by
  have h1:=ha x rfl;simp only[ep,Bool.and_eq_true,decide_eq_true_eq]at h;have:=BU (rs:=y::r) (a:=x.2+2) h.2.2 H (λz hz=>hb z (by simp[hz])) (λz hz=>by simp at hz;subst hz;exact h.2.1)
  simp at this|-;omega
theorem Qu{rs:List (Nat×Nat)}(h:ep rs=true)(hb:∀r∈rs,r.2<256):rs.length<=257:=by
 by_cases h0:rs=[]
 .subst h0;simp
 .have:=BU (a:=0) h h0 hb (λ_ _=>Nat.zero_le _);omega
def fm(bM:List Nat)(i:Nat):Nat:=(bM[i]?).getD 256
def gW(b:Pb)(fo:List Nat)(c:Nat):List Nat:=fo.filter λp=>cH b p c
theorem iN{b:Pb}{fo:List Nat}{c p:Nat}:p∈gW b fo c↔p∈fo/\cH b p c=true:=by unfold gW;exact List.mem_filter
section
variable {b:Pb} {fo bM:List Nat}
structure qU (b:Pb) (fo bM:List Nat):Prop where
 kE:bM.Pairwise (·<·)
 mem:∀p∈fo,∀r∈(b.sets[p]?).getD [],r.1∈bM/\r.2+1∈bM
 le:∀v∈bM,v<=256
theorem qU.start(h:qU b fo bM)(gs:List (List Nat)):ft b fo gs [] (fm bM 0):=by
 refine ft.nil λc hc p hp=>?_;unfold cH;refine L9 (h.mem p hp) λv hv=>?_;unfold fm at hc
 match bM,hc,hv,h.kE with
 |a::l,hc,hv,hs=>
  simp at hc;rcases List.mem_cons.1 hv with rfl|hv
  .exact hc
  .have:=(List.pairwise_cons.1 hs).1 v hv;omega
theorem qU.done(h:qU b fo bM){gs:List (List Nat)}{row:List Ed}{i:Nat}(hi:bM.length<=i+1)(hr:ft b fo gs row (fm bM i)):ft b fo gs row 256:=by
 by_cases dE:i<bM.length
 .have hv:fm bM i=bM[i]:=by unfold fm;rw[List.getElem?_eq_getElem dE];rfl
  rw[hv]at hr;refine hr.skip (h.le _ (List.getElem_mem dE)) λc h1 _ p hp=>?_;unfold cH;refine Is (h.mem p hp) λv hv=>?_;obtain ⟨j,hj,rfl⟩:=List.getElem_of_mem hv;have hs:=h.kE;rw[List.pairwise_iff_getElem]at hs;by_cases Hr:j=i
  .subst Hr;exact h1
  .have:=hs j i hj dE U;omega
 .have:fm bM i=256:=by unfold fm;rw[List.getElem?_eq_none U];rfl
  rwa [this]at hr
theorem qU.const(h:qU b fo bM){i:Nat}(hi:i+1<bM.length){c:Nat}(h1:fm bM i<=c)(h2:c<fm bM (i+1)):∀p∈fo,cH b p c=cH b p (fm bM i):=by
 have e1:fm bM i=bM[i]:=by unfold fm;rw[List.getElem?_eq_getElem U];rfl
 have e2:fm bM (i+1)=bM[i+1]:=by unfold fm;rw[List.getElem?_eq_getElem hi];rfl
 intro p hp;rw[e1]at h1|-;rw[e2]at h2;exact D7 h.kE hi (h.mem p hp) h1 h2
theorem qU.lt(h:qU b fo bM){i:Nat}(hi:i+1<bM.length):fm bM i<fm bM (i+1)/\fm bM (i+1)<=256:=by
 have e1:fm bM i=bM[i]:=by unfold fm;rw[List.getElem?_eq_getElem U];rfl
 have e2:fm bM (i+1)=bM[i+1]:=by unfold fm;rw[List.getElem?_eq_getElem hi];rfl
 have hs:=h.kE;rw[List.pairwise_iff_getElem]at hs;rw[e1,e2];exact ⟨hs i (i+1) U hi U,h.le _ (List.getElem_mem hi)⟩
theorem qU.skip(h:qU b fo bM){gs:List (List Nat)}{row:List Ed}{i:Nat}(hi:i+1<bM.length)(hr:ft b fo gs row (fm bM i))(hn:gW b fo (fm bM i)=[]):ft b fo gs row (fm bM (i+1)):=
 hr.skip (Nat.le_of_lt (h.lt hi).1) λc h1 h2 p hp=>by
  rw[h.const hi h1 h2 p hp]
  cases hs:cH b p (fm bM i) with
  |false=>rfl
  |true=>
   have:p∈gW b fo (fm bM i):=iN.2 ⟨hp,hs⟩;rw[hn]at this
   cases this
theorem Ma(gs:List (List Nat))(l:List Nat):gs.length<=(iL gs l).length/\(iL gs l).length<=gs.length+1:=by
 unfold iL;split
 .omega
 .simp
theorem Mb(gs:List (List Nat))(l:List Nat):l∈iL gs l:=by
 unfold iL;split
 .assumption
 .simp
theorem Md(gs:List (List Nat))(l:List Nat):∃more,iL gs l=gs++more/\∀x∈more,x=l:=by
 unfold iL;split
 .exact ⟨[],H,λx hx=>by cases hx⟩
 .exact ⟨[l],rfl,λx hx=>List.mem_singleton.1 hx⟩
theorem ft.iL{gs:List (List Nat)}{row:List Ed}{v:Nat}(h:ft b fo gs row v)(l:List Nat):ft b fo (iL gs l) row v:=by
 unfold Go.Proofs.YthamegenljmgmaaGreatDoor.iL;split
 .exact h
 .exact h.grow l
theorem vq{gs:List (List Nat)}{l:List Nat}(h:l∈gs):gs.idxOf l<gs.length/\gs[gs.idxOf l]?=some l:=by
 have h1:=List.idxOf_lt_length_of_mem h;refine ⟨h1,?_⟩;rw[List.getElem?_eq_getElem h1,List.getElem_idxOf]
theorem qU.add(h:qU b fo bM){gs:List (List Nat)}{row:List Ed}{i:Nat}(hi:i+1<bM.length)(hr:ft b fo gs row (fm bM i))(h0:gs[0]?=some [])(hn:gW b fo (fm bM i)≠[]):
  ft b fo (Go.Proofs.YthamegenljmgmaaGreatDoor.iL gs (gW b fo (fm bM i))) (row++[⟨fm bM i,fm bM (i+1) - 1,(Go.Proofs.YthamegenljmgmaaGreatDoor.iL gs (gW b fo (fm bM i))).idxOf (gW b fo (fm bM i))⟩]) (fm bM (i+1)):=by
 obtain ⟨q1,q2⟩:=vq (Mb gs (gW b fo (fm bM i)));refine (hr.iL _).add (h.lt hi).1 ?_ q1 λc h1 h2 p=>?_
 .refine Nat.pos_of_ne_zero λe=>?_;rw[e]at q2;obtain ⟨more,e2,-⟩:=Md gs (gW b fo (fm bM i));have hl:0<gs.length:=(List.getElem?_eq_some_iff.1 h0).1;rw[e2,List.getElem?_append_left hl,h0]at q2;exact hn (Option.some.inj q2).symm
 .rw[q2,Option.getD_some,iN];constructor
  .rintro ⟨g1,g2⟩;exact ⟨g1,by rw[h.const hi h1 h2 p g1];exact g2⟩
  .rintro ⟨g1,g2⟩;exact ⟨g1,by rw[<-h.const hi h1 h2 p g1];exact g2⟩
end
def kz(b:Pb)(fo:List Nat)(gs eW:List (List Nat)):Prop:=∃more,eW=gs++more/\(gs.Nodup->eW.Nodup)/\∀l∈more,l≠[]/\∃c,c<256/\l=gW b fo c
theorem kz.refl(b:Pb)(fo:List Nat)(gs:List (List Nat)):kz b fo gs gs:=⟨[],H,id,λl hl=>by cases hl⟩
theorem kz.add{b:Pb}{fo:List Nat}{gs eW:List (List Nat)}(h:kz b fo gs eW){c:Nat}(hc:c<256)(hn:gW b fo c≠[]):kz b fo gs (iL eW (gW b fo c)):=by
 obtain ⟨more,e,hd,hm⟩:=h;by_cases bI:gW b fo c∈eW
 .rw[iL,if_pos bI];exact ⟨more,e,hd,hm⟩
 .rw[iL,if_neg bI];refine ⟨more++[gW b fo c],by rw[e,List.append_assoc],λhg=>?_,λl hl=>?_⟩
  .rw[List.nodup_append];exact ⟨hd hg,H,λx hx y hy=>by rw[List.mem_singleton]at hy;subst hy;rintro rfl;exact bI hx⟩
  .rcases List.mem_append.1 hl with hl|hl
   .exact hm l hl
   .rw[List.mem_singleton]at hl;subst hl;exact ⟨hn,c,hc,rfl⟩
theorem x8:∀{r:List Ed} {b v:Nat},bK b r->(∀e∈r,e.hi<v)->b<=v->r.length+b<=v
 | [],b,v,_,_,h=>by simpa using h
 |e::r,b,v,h,hv,_=>by
  have h1:=hv e H;have:=x8 h.2.2 (λf hf=>hv f (by simp[hf])) (by omega:e.hi+1<=v)
  have:=h.1;have:=h.2.1;rw[List.length_cons];omega
theorem ft.aaA{b:Pb}{fo fo':List Nat}{gs eW:List (List Nat)}{row:List Ed}{v:Nat}(h:ft b fo gs row v)(hg:kz b fo' gs eW):ft b fo eW row v:=by
 obtain ⟨more,rfl,-,-⟩:=hg;refine ⟨h.kE,h.hi,λc hc=>?_⟩;have:=h.sp c hc
 cases ht:bA row c with
 |none=>rw[ht]at this;exact this
 |some t=>
  rw[ht]at this;obtain ⟨h0,h1,h2⟩:=this;refine ⟨h0,by rw[List.length_append];omega,λp=>?_⟩
  rw[List.getElem?_append_left h1];exact h2 p
theorem ft.to{b:Pb}{fo:List Nat}{gs:List (List Nat)}{row:List Ed}(h:ft b fo gs row 256):∀e∈row,e.to<gs.length/\e.lo<256/\e.hi<256:=λe he=>by
 have h1:=mE h.kE he;have h2:=h.hi e he;have h3:e.lo<=e.hi:=by
  have:∀{r:List Ed} {b:Nat},bK b r->∀g∈r,g.lo<=g.hi:=by
   intro r
   induction r with
   |nil=>intro b _ g hg;cases hg
   |cons a r ih=>
    intro b h g hg;rcases List.mem_cons.1 hg with rfl|hg
    .exact h.2.1
    .exact ih h.2.2 g hg
  exact this h.kE e he
 have h4:=h.sp e.lo U;rw[h1]at h4;exact ⟨h4.2.1,U,h2⟩
def qc(b:Pb)(x:cI):List Nat->Nat->Prop
 | []=>λ_=>False
 | [c]=>λp=>p∈x.first/\cH b p c=true
 |c::d::w=>λp=>(∃q,qc b x (d::w) q/\p∈cN b q)/\cH b p c=true
structure uc (b:Pb) (x:cI) (gs:List (List Nat)) (rows:List (List Ed)) (aN:List Bool) (i:Nat):Prop where
 g0:gs[0]?=some []
 nd:gs.Nodup
 gl:∀g∈gs,∀p∈g,p<b.sets.length
 rl:rows.length=i
 al:aN.length=max i 1
 il:i<=gs.length
 acc:∀j,j<aN.length->((aN[j]?).getD false=true↔if j=0 then x.emp=true else ∃p∈(gs[j]?).getD [],p∈x.last)
 row:∀j,j<i->∃fo,(∀p,p∈fo↔ir b x gs j p)/\ft b fo gs ((rows[j]?).getD []) 256
 kE:∀g∈gs,g.Pairwise (·<·)
 Yv:∀j,0<j->j<gs.length->(gs[j]?).getD []≠[]/\∃w,∀p,p∈(gs[j]?).getD []↔qc b x w p
section
variable {b:Pb} {x:cI} {gs eW:List (List Nat)} {rows:List (List Ed)} {aN:List Bool} {i:Nat}
theorem uc.start(b:Pb)(x:cI):uc b x [[]] [] [x.emp] 0:=by
 refine ⟨rfl,H,λg hg p hp=>?_,rfl,rfl,Nat.zero_le _,λj hj=>?_,λj hj=>absurd hj (Nat.not_lt_zero _),λg hg=>by simp at hg;subst hg;exact List.Pairwise.nil,λj h0 hj=>by simp at hj;omega⟩
 .simp at hg;subst hg;cases hp
 .simp at hj;subst hj;simp
theorem BJ{b:Pb}{x:cI}{gs:List (List Nat)}{more:List (List Nat)}{j:Nat}(hj:j<gs.length)(p:Nat):ir b x (gs++more) j p↔ir b x gs j p:=by
 unfold ir;rw[List.getElem?_append_left hj]
theorem uc.step(h:uc b x gs rows aN i)(hi:i<gs.length){fo:List Nat}(DY:∀p,p∈fo↔ir b x gs i p)(Pu:fo.Pairwise (·<·))(nO:∀p∈fo,p<b.sets.length)(hg:kz b fo gs eW){row:List Ed}(hr:ft b fo eW row 256)
  {BK:List Bool} (ha:if i=0 then BK=aN else ∃a,BK=aN++[a]/\(a=true↔∃p∈(gs[i]?).getD [],p∈x.last)):uc b x eW (rows++[row]) BK (i+1):=by
 have oz:=hg;obtain ⟨more,rfl,aY,qQ⟩:=hg;have h0:0<gs.length:=U;have ky:=h.al;have dE:=h.il;refine ⟨by rw[List.getElem?_append_left h0];exact h.g0,aY h.nd,?_,by rw[List.length_append,h.rl];rfl,?_,by rw[List.length_append];omega,?_,?_,?_,?_⟩
 .intro g hg p hp;rcases List.mem_append.1 hg with hg|hg
  .exact h.gl g hg p hp
  .obtain ⟨-,c,-,rfl⟩:=qQ g hg;exact nO p (iN.1 hp).1
 .by_cases hz:i=0
  .rw[if_pos hz]at ha;subst ha;rw[ky];omega
  .rw[if_neg hz]at ha;obtain ⟨a,rfl,-⟩:=ha;rw[List.length_append,ky];simp;omega
 .intro j hj;by_cases hz:i=0
  .rw[if_pos hz]at ha;subst ha;have:=h.acc j hj;rw[ky]at hj;have r5:j=0:=U;subst r5;simpa using this
  .rw[if_neg hz]at ha;obtain ⟨a,rfl,JY⟩:=ha;rw[List.length_append,ky]at hj;simp at hj;by_cases Hr:j<aN.length
   .have:=h.acc j Hr;rw[List.getElem?_append_left Hr,this,List.getElem?_append_left U]
   .have hje:j=aN.length:=U;have ahl:j=i:=U;subst ahl;rw[List.getElem?_append_right U,if_neg hz,List.getElem?_append_left hi,<-JY];simp[hje]
 .intro j hj;by_cases Hr:j<i
  .obtain ⟨fo',h1,h2⟩:=h.row j Hr;refine ⟨fo',λp=>by rw[BJ U];exact h1 p,?_⟩
   rw[List.getElem?_append_left (by rw[h.rl];exact Hr)]
   exact h2.aaA oz
  .have:j=i:=U;subst this;refine ⟨fo,λp=>by rw[BJ hi];exact DY p,?_⟩
   rw[List.getElem?_append_right (by rw[h.rl];exact V),h.rl]
   simpa using hr
 .intro g hg;rcases List.mem_append.1 hg with hg|hg
  .exact h.kE g hg
  .obtain ⟨-,c,-,rfl⟩:=qQ g hg;exact Pu.filter _
 .intro j r5 hj;by_cases hU:j<gs.length
  .rw[List.getElem?_append_left hU];exact h.Yv j r5 hU
  .have DZ:(gs++more)[j]?=some (gs++more)[j]:=List.getElem?_eq_getElem hj;have b7:(gs++more)[j]∈more:=by
    rw[List.getElem_append_right U];exact List.getElem_mem _
   rw[DZ,Option.getD_some];obtain ⟨h1,c,-,h2⟩:=qQ _ b7;refine ⟨h1,?_⟩;by_cases hz:i=0
   .refine ⟨[c],λp=>?_⟩;rw[h2,iN,DY p,hz];unfold ir;rw[if_pos rfl]
    rfl
   .obtain ⟨h3,w,hw⟩:=h.Yv i U hi
    cases w with
    |nil=>
     exfalso
     cases hq:(gs[i]?).getD [] with
     |nil=>exact h3 hq
     |cons a r=>
      have:=(hw a).1 (by rw[hq];simp)
      exact this
    |cons d w=>
     refine ⟨c::d::w,λp=>?_⟩;rw[h2,iN,DY p];unfold ir;rw[if_neg hz];show _↔(∃q,qc b x (d::w) q/\p∈cN b q)/\cH b p c=true;constructor
     .rintro ⟨⟨q,q1,q2⟩,q3⟩;exact ⟨⟨q,(hw q).1 q1,q2⟩,q3⟩
     .rintro ⟨⟨q,q1,q2⟩,q3⟩;exact ⟨⟨q,(hw q).2 q1,q2⟩,q3⟩
theorem BM(hb:∀rs∈b.sets,∀r∈rs,r.2<256){p c:Nat}(hc:256<=c):cH b p c=false:=by
 unfold cH qq;rw[List.any_eq_false];intro r hr
 cases hs:b.sets[p]? with
 |none=>rw[hs]at hr;cases hr
 |some rs=>
  rw[hs]at hr;have:=hb rs (List.mem_of_getElem? hs) r hr;simp;omega
def uZ:Nat->List (List Nat)
 |0=>[[]]
 |n+1=>uZ n++(uZ n).map (·++[n])
theorem ya:∀n,(uZ n).length=2 ^ n
 |0=>rfl
 |n+1=>by rw[uZ,List.length_append,List.length_map,ya n,Nat.pow_succ];omega
theorem r8:∀(n:Nat) (l:List Nat),l.Pairwise (·<·)->(∀p∈l,p<n)->l∈uZ n
 |0,l,_,h=>by
  cases l with
  |nil=>simp[uZ]
  |cons a r=>exact absurd (h a H) (Nat.not_lt_zero _)
 |n+1,l,hs,h=>by
  rw[uZ,List.mem_append,List.mem_map];by_cases hn:n∈l
  .right
   have bf:l≠[]:=by rintro rfl;cases hn
   have hl:l=l.dropLast++[l.getLast bf]:=(List.dropLast_concat_getLast bf).symm;have Bq:l.getLast bf=n:=by
    have h1:=h (l.getLast bf) (List.getLast_mem bf);rw[hl]at hn hs;rcases List.mem_append.1 hn with hn|hn
    .have:=(List.pairwise_append.1 hs).2.2 n hn _ (List.mem_singleton.2 rfl);omega
    .exact (List.mem_singleton.1 hn).symm
   refine ⟨l.dropLast,r8 n _ ?_ λp hp=>?_,by rw[<-Bq];exact hl.symm⟩
   .rw[hl]at hs;exact (List.pairwise_append.1 hs).1
   .rw[hl]at hs;have:=(List.pairwise_append.1 hs).2.2 p hp _ (List.mem_singleton.2 rfl);omega
  .left
   exact r8 n l hs λp hp=>by
    have:=h p hp;have:p≠n:=by rintro rfl;exact hn hp
    omega
theorem uc.count(h:uc b x gs rows aN i):gs.length<=2 ^ b.sets.length:=by
 rw[<-ya];exact gH h.nd λg hg=>r8 _ _ (h.kE g hg) (h.gl g hg)
theorem uc.done(h:uc b x gs rows aN gs.length)(hb:∀rs∈b.sets,∀r∈rs,r.2<256):jB ⟨rows,aN⟩/\(∀r∈rows,r.length<=256/\∀e∈r,e.lo<256/\e.hi<256)/\∀w,eM ⟨rows,aN⟩ w 0=true↔LP b x w:=by
 have h0:0<gs.length:=(List.getElem?_eq_some_iff.1 h.g0).1;have ky:aN.length=gs.length:=by rw[h.al];omega
 have aC:∀r∈rows,∃fo,ft b fo gs r 256:=λr hr=>by
  obtain ⟨j,hj⟩:=List.mem_iff_getElem?.1 hr;have hU:=(List.getElem?_eq_some_iff.1 hj).1;obtain ⟨fo,-,h2⟩:=h.row j (by rw[<-h.rl];exact hU)
  rw[hj]at h2;exact ⟨fo,h2⟩
 have hG:Vq b x gs ⟨rows,aN⟩:=by
  refine ⟨λj hj=>h.acc j U,λj hj c=>?_⟩;obtain ⟨fo,h1,h2⟩:=h.row j hj;show match bA ((rows[j]?).getD []) c with
   |none=>_
   |some t=>_
  by_cases hc:c<256
  .have h3:=h2.sp c hc
   cases ht:bA ((rows[j]?).getD []) c with
   |none=>rw[ht]at h3;exact λp hp=>h3 p ((h1 p).2 hp)
   |some t=>
    rw[ht]at h3;exact ⟨h3.1,h3.2.1,λp=>by rw[h3.2.2 p,h1 p]⟩
  .have ht:bA ((rows[j]?).getD []) c=none:=by
    cases ht:bA ((rows[j]?).getD []) c with
    |none=>rfl
    |some t=>
     obtain ⟨e,he,-,h4,-⟩:=gI ht;have:=h2.hi e he;omega
   rw[ht];exact λp _=>BM hb U
 refine ⟨⟨by rw[ky,h.rl],λr hr=>?_,λr hr e he=>?_⟩,λr hr=>?_,λw=>?_⟩
 .obtain ⟨fo,h2⟩:=aC r hr;exact h2.kE
 .obtain ⟨fo,h2⟩:=aC r hr;show e.to<rows.length;rw[h.rl];exact (h2.to e he).1
 .obtain ⟨fo,h2⟩:=aC r hr;have:=x8 h2.kE h2.hi (Nat.zero_le _);exact ⟨U,λe he=>(h2.to e he).2⟩
 .rw[hG.jk w 0 h0];unfold Io;rw[if_pos rfl]
end
def wkA(A:Au):List Nat->List Nat->Prop
 | [],π=>A.la π
 |c::w,π=>∃ρ,A.P ρ/\A.fo π ρ/\A.sr ρ c/\wkA A w ρ
def LPA(A:Au):List Nat->Prop
 | []=>A.em
 |c::w=>∃ρ,A.P ρ/\A.fi ρ/\A.sr ρ c/\wkA A w ρ
def B4(A:Au):List Nat->List Nat->Prop
 | []=>λ_=>False
 | [c]=>λπ=>A.P π/\A.fi π/\A.sr π c
 |c::d::w=>λπ=>A.P π/\(∃ρ,B4 A (d::w) ρ/\A.fo ρ π)/\A.sr π c
section
variable {L:Nat->List Nat} {b:Pb} {s e:Nat} {x:cI} {A:Au}
theorem kI.wk(h:kI L b s e x A)(g:cX b s e x):∀(w:List Nat) (q:Nat),s<=q->q<e->(wk b x.last w q↔wkA A w (L q))
 | [],q,h1,h2=>h.la q h1 h2
 |c::w,q,h1,h2=>by
  unfold Go.Proofs.YthamegenljmgmaaGreatDoor.wk wkA;constructor
  .rintro ⟨p,p1,p2,p3⟩;obtain ⟨i1,i2⟩:=g.cls q h1 h2 p p1;exact ⟨L p,h.pos p i1 i2,(h.fo q p h1 h2 i1 i2).1 p1,(h.sr p c i1 i2).1 p2,(kI.wk h g w p i1 i2).1 p3⟩
  .rintro ⟨ρ,r1,r2,r3,r4⟩;obtain ⟨p,i1,i2,rfl⟩:=h.uA ρ r1;exact ⟨p,(h.fo q p h1 h2 i1 i2).2 r2,(h.sr p c i1 i2).2 r3,(kI.wk h g w p i1 i2).2 r4⟩
theorem kI.LP(h:kI L b s e x A)(g:cX b s e x)(w:List Nat):LP b x w↔LPA A w:=by
 cases w with
 |nil=>exact h.em
 |cons c w=>
  unfold Go.Proofs.YthamegenljmgmaaGreatDoor.LP LPA;constructor
  .rintro ⟨p,p1,p2,p3⟩;obtain ⟨i1,i2⟩:=g.fst p p1;exact ⟨L p,h.pos p i1 i2,(h.fi p i1 i2).1 p1,(h.sr p c i1 i2).1 p2,(h.wk g w p i1 i2).1 p3⟩
  .rintro ⟨ρ,r1,r2,r3,r4⟩;obtain ⟨p,i1,i2,rfl⟩:=h.uA ρ r1;exact ⟨p,(h.fi p i1 i2).2 r2,(h.sr p c i1 i2).2 r3,(h.wk g w p i1 i2).2 r4⟩
theorem sn(g:cX b s e x):∀(w:List Nat) (p:Nat),qc b x w p->s<=p/\p<e
 | [],_,h=>h.elim
 | [_],p,h=>g.fst p h.1
 |_::d::w,p,h=>by
  obtain ⟨⟨q,q1,q2⟩,-⟩:=h;obtain ⟨i1,i2⟩:=sn g (d::w) q q1;exact g.cls q i1 i2 p q2
theorem kI.hit(h:kI L b s e x A)(g:cX b s e x):∀(w:List Nat) (p:Nat),s<=p->p<e->(qc b x w p↔B4 A w (L p))
 | [],_,_,_=>Iff.rfl
 | [c],p,h1,h2=>by
  show (p∈x.first/\cH b p c=true)↔(A.P (L p)/\A.fi (L p)/\A.sr (L p) c);rw[h.fi p h1 h2,h.sr p c h1 h2];exact ⟨λk=>⟨h.pos p h1 h2,k⟩,λk=>k.2⟩
 |c::d::w,p,h1,h2=>by
  show ((∃q,qc b x (d::w) q/\p∈cN b q)/\cH b p c=true)↔(A.P (L p)/\(∃ρ,B4 A (d::w) ρ/\A.fo ρ (L p))/\A.sr (L p) c);rw[h.sr p c h1 h2];constructor
  .rintro ⟨⟨q,q1,q2⟩,q3⟩;obtain ⟨i1,i2⟩:=sn g _ q q1;exact ⟨h.pos p h1 h2,⟨L q,(kI.hit h g (d::w) q i1 i2).1 q1,(h.fo q p i1 i2 h1 h2).1 q2⟩,q3⟩
  .rintro ⟨-,⟨ρ,r1,r2⟩,r3⟩;have hP:∀(w:List Nat) (ρ:List Nat),B4 A w ρ->A.P ρ:=λw ρ k=>by
    match w,k with
    | [_],k=>exact k.1
    |_::_::_,k=>exact k.1
   obtain ⟨q,i1,i2,rfl⟩:=h.uA ρ (hP _ _ r1);exact ⟨⟨q,(kI.hit h g (d::w) q i1 i2).2 r1,(h.fo q p i1 i2 h1 h2).2 r2⟩,r3⟩
end
theorem Ef{A:Au}{w:List Nat}{ρ:List Nat}(k:B4 A w ρ):A.P ρ:=by
 match w,k with
 | [_],k=>exact k.1
 |_::_::_,k=>exact k.1
theorem uc.closed{b:Pb}{x:cI}{gs:List (List Nat)}{rows:List (List Ed)}{aN:List Bool}(h:uc b x gs rows aN gs.length)(hb:∀rs∈b.sets,∀r∈rs,r.2<256):∀(w:List Nat),(∃p,qc b x w p)->∃j,0<j/\j<gs.length/\∀p,p∈(gs[j]?).getD []↔qc b x w p:=by
 have h0:0<gs.length:=(List.getElem?_eq_some_iff.1 h.g0).1;have key:∀(i c:Nat),i<gs.length->(∃p,ir b x gs i p/\cH b p c=true)->∃j,0<j/\j<gs.length/\∀p,p∈(gs[j]?).getD []↔(ir b x gs i p/\cH b p c=true):=by
  rintro i c hi ⟨p,C7,tW⟩;obtain ⟨fo,h1,h2⟩:=h.row i hi;have hc:c<256:=by
   by_cases hc:c<256
   .exact hc
   .rw[BM hb U]at tW;cases tW
  have h3:=h2.sp c hc
  cases ht:bA ((rows[i]?).getD []) c with
  |none=>
   rw[ht]at h3;have:=h3 p ((h1 p).2 C7);rw[tW]at this;cases this
  |some t=>
   rw[ht]at h3;exact ⟨t,h3.1,h3.2.1,λq=>by rw[h3.2.2 q,h1 q]⟩
 intro w
 induction w with
 |nil=>rintro ⟨p,hp⟩;exact hp.elim
 |cons c w ih=>
  cases w with
  |nil=>
   rintro ⟨p,hp⟩;obtain ⟨j,j1,j2,j3⟩:=key 0 c h0 ⟨p,by unfold ir;rw[if_pos rfl];exact hp.1,hp.2⟩
   refine ⟨j,j1,j2,λq=>(j3 q).t ?_⟩;unfold ir;rw[if_pos rfl]
   rfl
  |cons d w=>
   rintro ⟨p,⟨⟨q,q1,q2⟩,q3⟩⟩;obtain ⟨i,i1,i2,i3⟩:=ih ⟨q,q1⟩;have hg:∀r,ir b x gs i r↔∃q,qc b x (d::w) q/\r∈cN b q:=λr=>by
    unfold ir;rw[if_neg U];constructor
    .rintro ⟨q,h1,h2⟩;exact ⟨q,(i3 q).1 h1,h2⟩
    .rintro ⟨q,h1,h2⟩;exact ⟨q,(i3 q).2 h1,h2⟩
   obtain ⟨j,j1,j2,j3⟩:=key i c i2 ⟨p,(hg p).2 ⟨q,q1,q2⟩,q3⟩;refine ⟨j,j1,j2,λr=>(j3 r).t ?_⟩;rw[hg r]
   rfl
theorem Gp:∀{l1 l2:List Nat},l1.Pairwise (·<·)->l2.Pairwise (·<·)->(∀p,p∈l1↔p∈l2)->l1=l2
 | [],[],_,_,_=>rfl
 | [],a::_,_,_,h=>absurd ((h a).2 H) H
 |a::_,[],_,_,h=>absurd ((h a).1 H) H
 |a::l1,c::l2,h1,h2,h=>by
  have p1:=List.pairwise_cons.1 h1;have p2:=List.pairwise_cons.1 h2;have ej:a=c:=by
   have ha:=(h a).1 H;have hc:=(h c).2 H;rcases List.mem_cons.1 ha with e|ha
   .exact e
   .rcases List.mem_cons.1 hc with e|hc
    .exact e.symm
    .have:=p1.1 c hc;have:=p2.1 a ha;omega
  subst ej;rw[Gp p1.2 p2.2 λp=>?_];have:=h p;simp only[List.mem_cons]at this;constructor
  .intro hp;rcases this.1 (.inr hp) with rfl|k
   .have:=p1.1 _ hp;omega
   .exact k
  .intro hp;rcases this.2 (.inr hp) with rfl|k
   .have:=p2.1 _ hp;omega
   .exact k
theorem yb{L1 L2:Nat->List Nat}{b1 b2:Pb}{e1 e2:Nat}{x1 x2:cI}{A:Au}(m1:kI L1 b1 0 e1 x1 A)(k1:cX b1 0 e1 x1)(m2:kI L2 b2 0 e2 x2 A)(k2:cX b2 0 e2 x2)
  {g1 g2:List (List Nat)} {rows:List (List Ed)} {aN:List Bool} (n1:g1.Nodup) (z1:g1[0]?=some []) (s1:∀g∈g1,g.Pairwise (·<·)) (r1:∀j,0<j->j<g1.length->(g1[j]?).getD []≠[]/\∃w,∀p,p∈(g1[j]?).getD []↔qc b1 x1 w p)
  (h2:uc b2 x2 g2 rows aN g2.length) (hb:∀rs∈b2.sets,∀r∈rs,r.2<256):g1.length<=g2.length:=by
 -- each group of the first has one of the second with the same places
 have hf:∀g:List Nat,∃g':List Nat,g∈g1->(g'∈g2/\(∀p∈g,p<e1)/\∀π,(∃p∈g,L1 p=π)↔∃p∈g',L2 p=π):=by
  intro g;by_cases hg:g∈g1
  .obtain ⟨j,hj⟩:=List.mem_iff_getElem?.1 hg;have hU:=(List.getElem?_eq_some_iff.1 hj).1;by_cases r5:j=0
   .subst r5;rw[z1]at hj;injection hj with hj;subst hj;exact ⟨[],λ_=>⟨List.mem_of_getElem? h2.g0,H,H⟩⟩
   .obtain ⟨bf,w,hw⟩:=r1 j U hU;rw[hj,Option.getD_some]at bf hw;obtain ⟨p,hp⟩:∃p,p∈g:=by
     cases g with
     |nil=>exact absurd rfl bf
     |cons a r=>exact ⟨a,H⟩
    have C7:=(hw p).1 hp;obtain ⟨i1,i2⟩:=sn k1 w p C7;have hA:=(m1.hit k1 w p i1 i2).1 C7;obtain ⟨q,q1,q2,q3⟩:=m2.uA _ (Ef hA);obtain ⟨i,i0,il,hi⟩:=h2.closed hb w ⟨q,(m2.hit k2 w q q1 q2).2 (q3▸hA)⟩;refine ⟨(g2[i]?).getD [],λ_=>⟨?_,λp hp=>(sn k1 w p ((hw p).1 hp)).2,λπ=>?_⟩⟩
    .rw[List.getElem?_eq_getElem il];exact List.getElem_mem il
    .constructor
     .rintro ⟨p,hp,rfl⟩;have C7:=(hw p).1 hp;obtain ⟨i1,i2⟩:=sn k1 w p C7;have hA:=(m1.hit k1 w p i1 i2).1 C7;obtain ⟨q,q1,q2,q3⟩:=m2.uA _ (Ef hA);exact ⟨q,(hi q).2 ((m2.hit k2 w q q1 q2).2 (q3▸hA)),q3⟩
     .rintro ⟨q,hq,rfl⟩;have Tt:=(hi q).1 hq;obtain ⟨i1,i2⟩:=sn k2 w q Tt;have hA:=(m2.hit k2 w q i1 i2).1 Tt;obtain ⟨p,p1,p2,p3⟩:=m1.uA _ (Ef hA);exact ⟨p,(hw p).2 ((m1.hit k1 w p p1 p2).2 (p3▸hA)),p3⟩
  .exact ⟨[],λh=>absurd h hg⟩
 obtain ⟨f,hF⟩:=Classical.axiomOfChoice hf;have aY:(g1.map f).Nodup:=by
  refine List.pairwise_map.2 (n1.imp_of_mem ?_);intro a c ha hc ej e;apply ej;obtain ⟨-,a2,a3⟩:=hF a ha;obtain ⟨-,c2,c3⟩:=hF c hc;refine Gp (s1 a ha) (s1 c hc) λp=>?_;constructor
  .intro hp;obtain ⟨q,hq,Ti⟩:=(c3 (L1 p)).2 (e▸(a3 (L1 p)).1 ⟨p,hp,rfl⟩);rw[<-m1.inj q p (Nat.zero_le _) (c2 q hq) (Nat.zero_le _) (a2 p hp) Ti];exact hq
  .intro hp;obtain ⟨q,hq,Ti⟩:=(a3 (L1 p)).2 (e▸(c3 (L1 p)).1 ⟨p,hp,rfl⟩);rw[<-m1.inj q p (Nat.zero_le _) (a2 q hq) (Nat.zero_le _) (c2 p hp) Ti];exact hq
 have:=gH aY λg hg=>by
  obtain ⟨a,ha,rfl⟩:=List.mem_map.1 hg;exact (hF a ha).1
 rwa [List.length_map]at this
theorem uc.more{b:Pb}{x:cI}{gs eW:List (List Nat)}{rows:List (List Ed)}{aN:List Bool}{i:Nat}(h:uc b x gs rows aN i)(hi:i<gs.length){fo:List Nat}(DY:∀p,p∈fo↔ir b x gs i p)(Pu:fo.Pairwise (·<·))(hg:kz b fo gs eW):
  eW.Nodup/\eW[0]?=some []/\(∀g∈eW,g.Pairwise (·<·))/\∀j,0<j->j<eW.length->(eW[j]?).getD []≠[]/\∃w,∀p,p∈(eW[j]?).getD []↔qc b x w p:=by
 obtain ⟨more,rfl,aY,qQ⟩:=hg;have h0:0<gs.length:=U;refine ⟨aY h.nd,by rw[List.getElem?_append_left h0];exact h.g0,λg hg=>?_,λj r5 hj=>?_⟩
 .rcases List.mem_append.1 hg with hg|hg
  .exact h.kE g hg
  .obtain ⟨-,c,-,rfl⟩:=qQ g hg;exact Pu.filter _
 .by_cases hU:j<gs.length
  .rw[List.getElem?_append_left hU];exact h.Yv j r5 hU
  .have DZ:(gs++more)[j]?=some (gs++more)[j]:=List.getElem?_eq_getElem hj;have b7:(gs++more)[j]∈more:=by
    rw[List.getElem_append_right U];exact List.getElem_mem _
   rw[DZ,Option.getD_some];obtain ⟨h1,c,-,h2⟩:=qQ _ b7;refine ⟨h1,?_⟩;by_cases hz:i=0
   .refine ⟨[c],λp=>?_⟩;rw[h2,iN,DY p,hz];unfold ir;rw[if_pos rfl]
    rfl
   .obtain ⟨h3,w,hw⟩:=h.Yv i U hi
    cases w with
    |nil=>
     exfalso
     cases hq:(gs[i]?).getD [] with
     |nil=>exact h3 hq
     |cons a r=>
      have:=(hw a).1 (by rw[hq];simp)
      exact this
    |cons d w=>
     refine ⟨c::d::w,λp=>?_⟩;rw[h2,iN,DY p];unfold ir;rw[if_neg hz];show _↔(∃q,qc b x (d::w) q/\p∈cN b q)/\cH b p c=true;constructor
     .rintro ⟨⟨q,q1,q2⟩,q3⟩;exact ⟨⟨q,(hw q).1 q1,q2⟩,q3⟩
     .rintro ⟨⟨q,q1,q2⟩,q3⟩;exact ⟨⟨q,(hw q).2 q1,q2⟩,q3⟩
def iu(x y:cI):cI:={ first:=if x.emp then x.first++y.first else x.first,last:=if y.emp then y.last++x.last else y.last,emp:=x.emp && y.emp }
theorem CG(x y:cI)(p:Nat):p∈(bD x y).last↔p∈(iu x y).last:=by
 unfold bD iu;simp only
 cases y.emp
 .exact Iff.rfl
 .simp only[if_true,List.mem_append];exact Or.comm
theorem kI.mem{L:Nat->List Nat}{b:Pb}{s e:Nat}{x z:cI}{A:Au}(h:kI L b s e x A)(h1:∀p,p∈x.first↔p∈z.first)(h2:∀p,p∈x.last↔p∈z.last)(h3:x.emp=z.emp):kI L b s e z A:=
 ⟨h.inj,h.uA,h.pos,h3▸h.em,λp p1 p2=>(h1 p).symm.t (h.fi p p1 p2),λp p1 p2=>(h2 p).symm.t (h.la p p1 p2),h.fo,h.sr⟩
theorem cX.mem{b:Pb}{s e:Nat}{x z:cI}(h:cX b s e x)(h1:∀p,p∈x.first↔p∈z.first)(h2:∀p,p∈x.last↔p∈z.last):cX b s e z:=
 ⟨h.se,h.size,λp hp=>h.fst p ((h1 p).2 hp),λp hp=>h.iW p ((h2 p).2 hp),h.cls⟩
theorem Mk.mem{b b':Pb}{x z:cI}{A:Au}(h:Mk b b' x A)(h1:∀p,p∈x.first↔p∈z.first)(h2:∀p,p∈x.last↔p∈z.last)(h3:x.emp=z.emp):Mk b b' z A:=
 ⟨h.len,h.sets,h.fol,h.bP.mem h1 h2,h.uB.imp λ_ h=>h.mem h1 h2 h3⟩
section
variable {b b1 b2 b':Pb} {x y:cI} {A:Au} {n:Nat} {F:Nat->Au}
theorem Mk.ac8(h1:Mk b b1 x (eG n F))(h2:Mk b1 b2 y (F n)):Mk b (cO b2 x y) (iu x y) (eG (n+1) F):=
 (h1.KL h2).mem (λ_=>Iff.rfl) (CG x y) rfl
theorem Mk.ac9{i mn:Nat}(h1:Mk b b1 y (nt mn n (i+1) A))(h2:Mk b1 b2 x A)(hi:i<n):Mk b (cO b2 x y) (Ul (iu x y) (decide (mn<=i))) (nt mn n i A):=
 (h1.tail h2 hi).mem (λ_=>Iff.rfl) (CG x y) rfl
theorem Mk.ada(b:Pb)(hl:b.sets.length=b.fol.length){mn:Nat}(hm:mn<=n):Mk b b ⟨[],[],true⟩ (nt mn n n A):=
 Mk.nil b hl (λπ h=>by cases π with|nil=>exact h|cons k π=>exact absurd h.2.1 (by have:=h.1;omega)) (.inr hm)
theorem Mk.ajI(b:Pb)(hl:b.sets.length=b.fol.length):Mk b b ⟨[],[],false⟩ (mw 0 F):=
 ⟨hl,⟨[],H⟩,⟨[],H⟩,⟨V,V,H,H,λp h1 h2=>U⟩,λ_=>[],λp q p1 p2=>U,λπ h=>by cases π with|nil=>exact h.elim|cons k π=>exact absurd h.1 (Nat.not_lt_zero _),λp p1 p2=>U,by simp[mw],λp p1 p2=>U,λp p1 p2=>U,λp q p1 p2=>U,λp c p1 p2=>U⟩
end
end Go.Proofs.YthamegenljmgmaaGreatDoor
