/- Decimal digits: what they spell, how many there are. No program in sight. · Names of groups of positions and of what states do: told apart. No program in sight. · Edges of a group between cuts. No program in sight. · Compile: what the groups are on the way, and the machine of all of them. No program in sight. · Two written-out patterns with the same places: the same belongs to them, and they have as many groups. No program in sight. · Plain: at which times a place can stand, and how many groups there are then. No program in sight. · Plain: patterns of at most three levels, as the maker makes them, have at most 2000 groups. No program in sight. -/
import Derived.Lib.ItoaNum
import Derived.Lib.Itoa
import Derived.Test.YtadjdkickjjieaaGreatDoorY01
namespace Go.Proofs.YtadjdkickjjieaaGreatDoor
set_option linter.unusedVariables false
set_option linter.unusedSimpArgs false
set_option maxRecDepth 100000
open Go
theorem zFa (n:Nat):∀c∈Lib.decDigits n,48<=c.toNat/\c.toNat<=57:=by
 induction n using Nat.strongRecOn with
 | _ n ih=>
  rw[Lib.decDigits]
  split
  .intro c hc;simp only[List.mem_singleton]at hc;subst hc;rw[UInt8.toNat_ofNat'];omega
  .intro c hc;rcases List.mem_append.1 hc with hc | hc
   .exact ih (n / 10) (by omega) c hc
   .simp only[List.mem_singleton]at hc;subst hc;rw[UInt8.toNat_ofNat'];omega
def valF:List UInt8->Nat->Nat
 | [],a=>a
 | c::r,a=>valF r (a*10+(c.toNat - 48))
theorem zGb:∀(a b:List UInt8) (n:Nat),valF (a++b) n=valF b (valF a n)
 | [],b,n=>rfl
 | c::r,b,n=>by rw[List.cons_append,valF,valF,zGb r b]
theorem zGL (n:Nat):valF (Lib.decDigits n) 0=n:=by
 induction n using Nat.strongRecOn with
 | _ n ih=>
  rw[Lib.decDigits]
  split
  .show 0*10+_=n;rw[UInt8.toNat_ofNat'];omega
  .rw[zGb,ih (n / 10) (by omega)]
   show n / 10*10+_=n;rw[UInt8.toNat_ofNat'];omega
theorem zBu (n k:Nat) (h:n<10 ^ (k+1)):(Lib.decDigits n).length<=k+1:=by
 induction k generalizing n with
 | zero=>rw[Lib.decDigits,dif_pos (by simpa using h)];simp
 | succ k ih=>
  rw[Lib.decDigits]
  split
  .simp
  .rw[List.length_append];have:=ih (n / 10) (by rw[Nat.pow_succ]at h;omega)
   simp;omega
end Go.Proofs.YtadjdkickjjieaaGreatDoor
namespace Go.Proofs.YtadjdkickjjieaaGreatDoor
set_option linter.unusedVariables false
set_option linter.unusedSimpArgs false
set_option maxRecDepth 100000
def zBs (c:UInt8):Prop:=48<=c.toNat/\c.toNat<=57
theorem zEt:∀{u v:List UInt8} {x y:UInt8} {r s:List UInt8},(∀c∈u,zBs c)->(∀c∈v,zBs c)->¬zBs x->¬zBs y->u++x::r=v++y::s->u=v/\x=y/\r=s
 | [],[],x,y,r,s,_,_,_,_,h=>by
  injection h with h1 h2;exact ⟨rfl,h1,h2⟩
 | [],b::v,x,y,r,s,_,hv,hx,_,h=>by
  injection h with h1 h2;subst h1;exact absurd (hv x (by simp)) hx
 | a::u,[],x,y,r,s,hu,_,_,hy,h=>by
  injection h with h1 h2;subst h1;exact absurd (hu a (by simp)) hy
 | a::u,b::v,x,y,r,s,hu,hv,hx,hy,h=>by
  injection h with h1 h2;obtain ⟨h3,h4,h5⟩:=zEt (λc hc=>hu c (by simp[hc])) (λc hc=>hv c (by simp[hc])) hx hy h2
  exact ⟨by rw[h1,h3],h4,h5⟩
theorem zCN {a b:Nat} {x y:UInt8} {r s:List UInt8} (hx:¬zBs x) (hy:¬zBs y) (h:Lib.decDigits a++x::r=Lib.decDigits b++y::s):a=b/\x=y/\r=s:=by
 obtain ⟨h1,h2,h3⟩:=zEt (zFa a) (zFa b) hx hy h;refine ⟨?_,h2,h3⟩;have:=zGL a;rw[h1,zGL]at this;exact this.symm
def zBC:List Nat->List UInt8
 | []=>[]
 | p::r=>Lib.decDigits p++32::zBC r
theorem zE3:∀{a b:List Nat},zBC a=zBC b->a=b
 | [],[],_=>rfl
 | [],q::s,h=>by
  have:=congrArg List.length h;simp[zBC]at this
 | p::r,[],h=>by
  have:=congrArg List.length h;simp[zBC]at this
 | p::r,q::s,h=>by
  obtain ⟨h1,-,h3⟩:=zCN (by unfold zBs;decide) (by unfold zBs;decide) h
  rw[h1,zE3 h3]
theorem zFO:∀(a b:List Nat),zBC (a++b)=zBC a++zBC b
 | [],_=>rfl
 | p::r,b=>by rw[List.cons_append,zBC,zBC,zFO r b,List.append_assoc,List.cons_append]
theorem zHd (a:List Nat) (p:Nat):zBC (a++[p])=zBC a++(Lib.decDigits p++[32]):=by
 rw[zFO];rfl
theorem zDV:∀(a:List Nat),(∀p∈a,p<1000000000)->(zBC a).length<=10*a.length
 | [],_=>Nat.le_refl _
 | p::r,h=>by
  have h1:=zDV r (λq hq=>h q (by simp[hq]))
  have h2:=zBu p 8 (by have:=h p (by simp);omega)
  rw[zBC,List.length_append,List.length_cons,List.length_cons];omega
def addG (gs:List (List Nat)) (l:List Nat):List (List Nat):=if l∈gs then gs else gs++[l]
def zA4:List Ed->List UInt8
 | []=>[]
 | e::r=>32::(Lib.decDigits e.lo++45::(Lib.decDigits e.hi++58::(Lib.decDigits e.to++zA4 r)))
def zFt:Bool->List UInt8
 | true=>[116,114,117,101]
 | false=>[102,97,108,115,101]
def zD1 (b:Bool) (l:List Ed):List UInt8:=zFt b++zA4 l
theorem zDc:∀{a b:List Ed},zA4 a=zA4 b->a=b
 | [],[],_=>rfl
 | [],q::s,h=>by cases h
 | p::r,[],h=>by cases h
 | p::r,q::s,h=>by
  unfold zA4 at h;injection h with _ h;obtain ⟨h1,-,h⟩:=zCN (by unfold zBs;decide) (by unfold zBs;decide) h
  obtain ⟨h2,-,h⟩:=zCN (by unfold zBs;decide) (by unfold zBs;decide) h
  have hto:p.to=q.to/\zA4 r=zA4 s:=by
   have hform:∀l:List Ed,zA4 l=[]\/∃t,zA4 l=32::t:=λl=>by
    cases l with
    | nil=>exact .inl rfl
    | cons e l=>exact .inr ⟨_,rfl⟩
   -- a byte that is no digit behind both
   have h':Lib.decDigits p.to++(zA4 r++[32])=Lib.decDigits q.to++(zA4 s++[32]):=by rw[<-List.append_assoc,h,List.append_assoc]
   obtain ⟨x,t,e1,hx⟩:∃x t,zA4 r++[32]=x::t/\¬zBs x:=by
    rcases hform r with e | ⟨t,e⟩
    .exact ⟨32,[],by rw[e];rfl,by unfold zBs;decide⟩
    .exact ⟨32,t++[32],by rw[e];rfl,by unfold zBs;decide⟩
   obtain ⟨y,t2,e2,hy⟩:∃x t,zA4 s++[32]=x::t/\¬zBs x:=by
    rcases hform s with e | ⟨t,e⟩
    .exact ⟨32,[],by rw[e];rfl,by unfold zBs;decide⟩
    .exact ⟨32,t++[32],by rw[e];rfl,by unfold zBs;decide⟩
   rw[e1,e2]at h';obtain ⟨g1,g2,g3⟩:=zCN hx hy h';refine ⟨g1,?_⟩;have:zA4 r++[32]=zA4 s++[32]:=by rw[e1,e2,g2,g3]
   exact List.append_cancel_right this
  obtain ⟨a1,a2,a3⟩:=p;obtain ⟨b1,b2,b3⟩:=q;simp only at h1 h2 hto;rw[h1,h2,hto.1,zDc hto.2]
theorem zH3 {a b:Bool} {l m:List Ed} (h:zD1 a l=zD1 b m):a=b/\l=m:=by
 unfold zD1 at h
 cases a <;> cases b
 .exact ⟨rfl,zDc (List.append_cancel_left h)⟩
 .injection h with h;cases h
 .injection h with h;cases h
 .exact ⟨rfl,zDc (List.append_cancel_left h)⟩
theorem zEI:∀(l:List Ed) (e:Ed),zA4 (l++[e])=zA4 l++(32::(Lib.decDigits e.lo++45::(Lib.decDigits e.hi++58::Lib.decDigits e.to)))
 | [],e=>by simp[zA4]
 | a::r,e=>by rw[List.cons_append,zA4,zA4,zEI r e];simp
def cutR:List (Nat×Nat)->List Nat
 | []=>[]
 | r::l=>r.1::(r.2+1)::cutR l
def cutF (sets:List (List (Nat×Nat))):List Nat->List Nat
 | []=>[]
 | p::l=>cutR ((sets[p]?).getD [])++cutF sets l
theorem zEy (r:Nat×Nat):∀l,cutR (l++[r])=cutR l++[r.1,r.2+1]
 | []=>rfl
 | a::l=>by rw[List.cons_append,cutR,zEy r l,cutR];rfl
theorem zEz (sets:List (List (Nat×Nat))) (p:Nat):∀l,cutF sets (l++[p])=cutF sets l++cutR ((sets[p]?).getD [])
 | []=>by simp[cutF]
 | a::l=>by rw[List.cons_append,cutF,zEz sets p l,cutF,List.append_assoc]
theorem zGa {r:Nat×Nat}:∀{l:List (Nat×Nat)},r∈l->r.1∈cutR l/\r.2+1∈cutR l
 | a::l,h=>by
  rw[cutR];rcases List.mem_cons.1 h with rfl | h
  .simp
  .have:=zGa h;exact ⟨by simp[this.1],by simp[this.2]⟩
theorem zGq {sets:List (List (Nat×Nat))} {p:Nat} {r:Nat×Nat}:∀{l:List Nat},p∈l->r∈(sets[p]?).getD []->r.1∈cutF sets l/\r.2+1∈cutF sets l
 | a::l,h,hr=>by
  rw[cutF];rcases List.mem_cons.1 h with rfl | h
  .have:=zGa hr;exact ⟨List.mem_append_left _ this.1,List.mem_append_left _ this.2⟩
  .have:=zGq h hr;exact ⟨List.mem_append_right _ this.1,List.mem_append_right _ this.2⟩
theorem zH8 {m:Nat}:∀{l:List (Nat×Nat)},(∀r∈l,r.1<m/\r.2<m)->∀v∈cutR l,v<=m
 | [],_,v,h=>by cases h
 | a::l,hb,v,h=>by
  rw[cutR]at h;have h1:=hb a (by simp)
  rcases List.mem_cons.1 h with rfl | h
  .omega
  .rcases List.mem_cons.1 h with rfl | h
   .omega
   .exact zH8 (λr hr=>hb r (by simp[hr])) v h
theorem zJH {sets:List (List (Nat×Nat))} {m:Nat} (hb:∀rs∈sets,∀r∈rs,r.1<m/\r.2<m):∀{l:List Nat},∀v∈cutF sets l,v<=m
 | [],v,h=>by cases h
 | a::l,v,h=>by
  rw[cutF]at h;rcases List.mem_append.1 h with h | h
  .refine zH8 (λr hr=>?_) v h
   cases hs:sets[a]? with
   | none=>rw[hs]at hr;cases hr
   | some rs=>rw[hs]at hr;exact hb rs (List.mem_of_getElem? hs) r hr
  .exact zJH hb v h
theorem zET:∀l,(cutR l).length=2*l.length
 | []=>rfl
 | a::l=>by rw[cutR,List.length_cons,List.length_cons,zET l,List.length_cons];omega
theorem zES {sets:List (List (Nat×Nat))} {m:Nat} (hb:∀rs∈sets,rs.length<=m):∀l:List Nat,(cutF sets l).length<=2*m*l.length
 | []=>Nat.zero_le _
 | a::l=>by
  rw[cutF,List.length_append,zET,List.length_cons,Nat.mul_succ];have h1:=zES hb l;have h2:((sets[a]?).getD []).length<=m:=by
   cases hs:sets[a]? with
   | none=>exact Nat.zero_le _
   | some rs=>exact hb rs (List.mem_of_getElem? hs)
  omega
theorem zGT:∀{rs:List (Nat×Nat)} {a:Nat},rngF rs=true->rs≠[]->(∀r∈rs,r.2<256)->(∀x,rs.head?=some x->a<=x.1)->rs.length+a<=257
 | [],a,_,h,_,_=>absurd rfl h
 | [x],a,h,_,hb,ha=>by
  have h1:=ha x rfl;have h2:=hb x (by simp)
  simp[rngF]at h;simp;omega
 | x::y::r,a,h,_,hb,ha=>by
  have h1:=ha x rfl;simp only[rngF,Bool.and_eq_true,decide_eq_true_eq]at h;have:=zGT (rs:=y::r) (a:=x.2+2) h.2.2 (by simp) (λz hz=>hb z (by simp[hz])) (λz hz=>by simp at hz;subst hz;exact h.2.1)
  simp at this|-;omega
theorem zLe {rs:List (Nat×Nat)} (h:rngF rs=true) (hb:∀r∈rs,r.2<256):rs.length<=257:=by
 by_cases h0:rs=[]
 .subst h0;simp
 .have:=zGT (a:=0) h h0 hb (λ_ _=>Nat.zero_le _);omega
def vAt (cuts:List Nat) (i:Nat):Nat:=(cuts[i]?).getD 256
def selG (b:Pb) (fo:List Nat) (c:Nat):List Nat:=fo.filter λp=>setP b p c
theorem zB4 {b:Pb} {fo:List Nat} {c p:Nat}:p∈selG b fo c↔p∈fo/\setP b p c=true:=by unfold selG;exact List.mem_filter
section
variable {b:Pb} {fo cuts:List Nat}
structure CutI (b:Pb) (fo cuts:List Nat):Prop where
 srt:cuts.Pairwise (·<·)
 mem:∀p∈fo,∀r∈(b.sets[p]?).getD [],r.1∈cuts/\r.2+1∈cuts
 le:∀v∈cuts,v<=256
theorem CutI.start (h:CutI b fo cuts) (gs:List (List Nat)):RowI b fo gs [] (vAt cuts 0):=by
 refine RowI.nil λc hc p hp=>?_;unfold setP;refine zKU (h.mem p hp) λv hv=>?_;unfold vAt at hc
 match cuts,hc,hv,h.srt with
 | a::l,hc,hv,hs=>
  simp at hc;rcases List.mem_cons.1 hv with rfl | hv
  .exact hc
  .have:=(List.pairwise_cons.1 hs).1 v hv;omega
theorem CutI.done (h:CutI b fo cuts) {gs:List (List Nat)} {row:List Ed} {i:Nat} (hi:cuts.length<=i+1) (hr:RowI b fo gs row (vAt cuts i)):RowI b fo gs row 256:=by
 by_cases hil:i<cuts.length
 .have hv:vAt cuts i=cuts[i]:=by unfold vAt;rw[List.getElem?_eq_getElem hil];rfl
  rw[hv]at hr;refine hr.skip (h.le _ (List.getElem_mem hil)) λc h1 _ p hp=>?_;unfold setP;refine zJQ (h.mem p hp) λv hv=>?_;obtain ⟨j,hj,rfl⟩:=List.getElem_of_mem hv;have hs:=h.srt;rw[List.pairwise_iff_getElem]at hs;by_cases hji:j=i
  .subst hji;exact h1
  .have:=hs j i hj hil (by omega);omega
 .have:vAt cuts i=256:=by unfold vAt;rw[List.getElem?_eq_none (by omega)];rfl
  rwa [this]at hr
theorem CutI.const (h:CutI b fo cuts) {i:Nat} (hi:i+1<cuts.length) {c:Nat} (h1:vAt cuts i<=c) (h2:c<vAt cuts (i+1)):∀p∈fo,setP b p c=setP b p (vAt cuts i):=by
 have e1:vAt cuts i=cuts[i]:=by unfold vAt;rw[List.getElem?_eq_getElem (by omega)];rfl
 have e2:vAt cuts (i+1)=cuts[i+1]:=by unfold vAt;rw[List.getElem?_eq_getElem hi];rfl
 intro p hp;rw[e1]at h1|-;rw[e2]at h2;exact zG4 h.srt hi (h.mem p hp) h1 h2
theorem CutI.lt (h:CutI b fo cuts) {i:Nat} (hi:i+1<cuts.length):vAt cuts i<vAt cuts (i+1)/\vAt cuts (i+1)<=256:=by
 have e1:vAt cuts i=cuts[i]:=by unfold vAt;rw[List.getElem?_eq_getElem (by omega)];rfl
 have e2:vAt cuts (i+1)=cuts[i+1]:=by unfold vAt;rw[List.getElem?_eq_getElem hi];rfl
 have hs:=h.srt;rw[List.pairwise_iff_getElem]at hs;rw[e1,e2];exact ⟨hs i (i+1) (by omega) hi (by omega),h.le _ (List.getElem_mem hi)⟩
theorem CutI.skip (h:CutI b fo cuts) {gs:List (List Nat)} {row:List Ed} {i:Nat} (hi:i+1<cuts.length) (hr:RowI b fo gs row (vAt cuts i)) (hn:selG b fo (vAt cuts i)=[]):RowI b fo gs row (vAt cuts (i+1)):=
 hr.skip (Nat.le_of_lt (h.lt hi).1) λc h1 h2 p hp=>by
  rw[h.const hi h1 h2 p hp]
  cases hs:setP b p (vAt cuts i) with
  | false=>rfl
  | true=>
   have:p∈selG b fo (vAt cuts i):=zB4.2 ⟨hp,hs⟩;rw[hn]at this
   cases this
theorem zKh (gs:List (List Nat)) (l:List Nat):gs.length<=(addG gs l).length/\(addG gs l).length<=gs.length+1:=by
 unfold addG
 split
 .omega
 .simp
theorem zKI (gs:List (List Nat)) (l:List Nat):l∈addG gs l:=by
 unfold addG
 split
 .assumption
 .simp
theorem zKF (gs:List (List Nat)) (l:List Nat):∃more,addG gs l=gs++more/\∀x∈more,x=l:=by
 unfold addG
 split
 .exact ⟨[],by simp,λx hx=>by cases hx⟩
 .exact ⟨[l],rfl,λx hx=>List.mem_singleton.1 hx⟩
theorem RowI.addG {gs:List (List Nat)} {row:List Ed} {v:Nat} (h:RowI b fo gs row v) (l:List Nat):RowI b fo (addG gs l) row v:=by
 unfold Go.Proofs.YtadjdkickjjieaaGreatDoor.addG
 split
 .exact h
 .exact h.grow l
theorem getElem?_idxOf {gs:List (List Nat)} {l:List Nat} (h:l∈gs):gs.idxOf l<gs.length/\gs[gs.idxOf l]?=some l:=by
 have h1:=List.idxOf_lt_length_of_mem h;refine ⟨h1,?_⟩;rw[List.getElem?_eq_getElem h1,List.getElem_idxOf]
theorem CutI.add (h:CutI b fo cuts) {gs:List (List Nat)} {row:List Ed} {i:Nat} (hi:i+1<cuts.length) (hr:RowI b fo gs row (vAt cuts i)) (h0:gs[0]?=some []) (hn:selG b fo (vAt cuts i)≠[]) :
  RowI b fo (Go.Proofs.YtadjdkickjjieaaGreatDoor.addG gs (selG b fo (vAt cuts i))) (row++[⟨vAt cuts i,vAt cuts (i+1) - 1,(Go.Proofs.YtadjdkickjjieaaGreatDoor.addG gs (selG b fo (vAt cuts i))).idxOf (selG b fo (vAt cuts i))⟩]) (vAt cuts (i+1)):=by
 obtain ⟨q1,q2⟩:=getElem?_idxOf (zKI gs (selG b fo (vAt cuts i)));refine (hr.addG _).add (h.lt hi).1 ?_ q1 λc h1 h2 p=>?_
 .refine Nat.pos_of_ne_zero λe=>?_;rw[e]at q2;obtain ⟨more,e2,-⟩:=zKF gs (selG b fo (vAt cuts i));have hl:0<gs.length:=(List.getElem?_eq_some_iff.1 h0).1;rw[e2,List.getElem?_append_left hl,h0]at q2;exact hn (Option.some.inj q2).symm
 .rw[q2,Option.getD_some,zB4];constructor
  .rintro ⟨g1,g2⟩;exact ⟨g1,by rw[h.const hi h1 h2 p g1];exact g2⟩
  .rintro ⟨g1,g2⟩;exact ⟨g1,by rw[<-h.const hi h1 h2 p g1];exact g2⟩
end
def GrowG (b:Pb) (fo:List Nat) (gs gs':List (List Nat)):Prop:=∃more,gs'=gs++more/\(gs.Nodup->gs'.Nodup)/\∀l∈more,l≠[]/\∃c,c<256/\l=selG b fo c
theorem GrowG.refl (b:Pb) (fo:List Nat) (gs:List (List Nat)):GrowG b fo gs gs:=⟨[],by simp,id,λl hl=>by cases hl⟩
theorem GrowG.add {b:Pb} {fo:List Nat} {gs gs':List (List Nat)} (h:GrowG b fo gs gs') {c:Nat} (hc:c<256) (hn:selG b fo c≠[]):GrowG b fo gs (addG gs' (selG b fo c)):=by
 obtain ⟨more,e,hd,hm⟩:=h;by_cases hin:selG b fo c∈gs'
 .rw[addG,if_pos hin];exact ⟨more,e,hd,hm⟩
 .rw[addG,if_neg hin];refine ⟨more++[selG b fo c],by rw[e,List.append_assoc],λhg=>?_,λl hl=>?_⟩
  .rw[List.nodup_append];exact ⟨hd hg,by simp,λx hx y hy=>by rw[List.mem_singleton]at hy;subst hy;rintro rfl;exact hin hx⟩
  .rcases List.mem_append.1 hl with hl | hl
   .exact hm l hl
   .rw[List.mem_singleton]at hl;subst hl;exact ⟨hn,c,hc,rfl⟩
theorem zFY:∀{r:List Ed} {b v:Nat},zAu b r->(∀e∈r,e.hi<v)->b<=v->r.length+b<=v
 | [],b,v,_,_,h=>by simpa using h
 | e::r,b,v,h,hv,_=>by
  have h1:=hv e (by simp)
  have:=zFY h.2.2 (λf hf=>hv f (by simp[hf])) (by omega:e.hi+1<=v)
  have:=h.1;have:=h.2.1;rw[List.length_cons];omega
theorem RowI.growG {b:Pb} {fo fo':List Nat} {gs gs':List (List Nat)} {row:List Ed} {v:Nat} (h:RowI b fo gs row v) (hg:GrowG b fo' gs gs'):RowI b fo gs' row v:=by
 obtain ⟨more,rfl,-,-⟩:=hg;refine ⟨h.srt,h.hi,λc hc=>?_⟩;have:=h.sp c hc
 cases ht:trn row c with
 | none=>rw[ht]at this;exact this
 | some t=>
  rw[ht]at this;obtain ⟨h0,h1,h2⟩:=this;refine ⟨h0,by rw[List.length_append];omega,λp=>?_⟩
  rw[List.getElem?_append_left h1];exact h2 p
theorem RowI.to {b:Pb} {fo:List Nat} {gs:List (List Nat)} {row:List Ed} (h:RowI b fo gs row 256):∀e∈row,e.to<gs.length/\e.lo<256/\e.hi<256:=λe he=>by
 have h1:=zB5 h.srt he;have h2:=h.hi e he;have h3:e.lo<=e.hi:=by
  have:∀{r:List Ed} {b:Nat},zAu b r->∀g∈r,g.lo<=g.hi:=by
   intro r
   induction r with
   | nil=>intro b _ g hg;cases hg
   | cons a r ih=>
    intro b h g hg;rcases List.mem_cons.1 hg with rfl | hg
    .exact h.2.1
    .exact ih h.2.2 g hg
  exact this h.srt e he
 have h4:=h.sp e.lo (by omega)
 rw[h1]at h4;exact ⟨h4.2.1,by omega,h2⟩
def hitP (b:Pb) (x:Prt):List Nat->Nat->Prop
 | []=>λ_=>False
 | [c]=>λp=>p∈x.first/\setP b p c=true
 | c::d::w=>λp=>(∃q,hitP b x (d::w) q/\p∈folP b q)/\setP b p c=true
structure CmI (b:Pb) (x:Prt) (gs:List (List Nat)) (rows:List (List Ed)) (acs:List Bool) (i:Nat):Prop where
 g0:gs[0]?=some []
 nd:gs.Nodup
 gl:∀g∈gs,∀p∈g,p<b.sets.length
 rl:rows.length=i
 al:acs.length=max i 1
 il:i<=gs.length
 acc:∀j,j<acs.length->((acs[j]?).getD false=true↔if j=0 then x.emp=true else ∃p∈(gs[j]?).getD [],p∈x.last)
 row:∀j,j<i->∃fo,(∀p,p∈fo↔grpF b x gs j p)/\RowI b fo gs ((rows[j]?).getD []) 256
 srt:∀g∈gs,g.Pairwise (·<·)
 rch:∀j,0<j->j<gs.length->(gs[j]?).getD []≠[]/\∃w,∀p,p∈(gs[j]?).getD []↔hitP b x w p
section
variable {b:Pb} {x:Prt} {gs gs':List (List Nat)} {rows:List (List Ed)} {acs:List Bool} {i:Nat}
theorem CmI.start (b:Pb) (x:Prt):CmI b x [[]] [] [x.emp] 0:=by
 refine ⟨rfl,by simp,λg hg p hp=>?_,rfl,rfl,Nat.zero_le _,λj hj=>?_,λj hj=>absurd hj (Nat.not_lt_zero _),λg hg=>by simp at hg;subst hg;exact List.Pairwise.nil,λj h0 hj=>by simp at hj;omega⟩
 .simp at hg;subst hg;cases hp
 .simp at hj;subst hj;simp
theorem zGG {b:Pb} {x:Prt} {gs:List (List Nat)} {more:List (List Nat)} {j:Nat} (hj:j<gs.length) (p:Nat):grpF b x (gs++more) j p↔grpF b x gs j p:=by
 unfold grpF;rw[List.getElem?_append_left hj]
theorem CmI.step (h:CmI b x gs rows acs i) (hi:i<gs.length) {fo:List Nat} (hfo:∀p,p∈fo↔grpF b x gs i p) (hfs:fo.Pairwise (·<·)) (hfl:∀p∈fo,p<b.sets.length) (hg:GrowG b fo gs gs') {row:List Ed} (hr:RowI b fo gs' row 256)
  {acs':List Bool} (ha:if i=0 then acs'=acs else ∃a,acs'=acs++[a]/\(a=true↔∃p∈(gs[i]?).getD [],p∈x.last)):CmI b x gs' (rows++[row]) acs' (i+1):=by
 have hg0:=hg;obtain ⟨more,rfl,hnd,hmore⟩:=hg;have h0:0<gs.length:=by omega
 have hal:=h.al;have hil:=h.il;refine ⟨by rw[List.getElem?_append_left h0];exact h.g0,hnd h.nd,?_,by rw[List.length_append,h.rl];rfl,?_,by rw[List.length_append];omega,?_,?_,?_,?_⟩
 .intro g hg p hp;rcases List.mem_append.1 hg with hg | hg
  .exact h.gl g hg p hp
  .obtain ⟨-,c,-,rfl⟩:=hmore g hg;exact hfl p (zB4.1 hp).1
 .by_cases hz:i=0
  .rw[if_pos hz]at ha;subst ha;rw[hal];omega
  .rw[if_neg hz]at ha;obtain ⟨a,rfl,-⟩:=ha;rw[List.length_append,hal];simp;omega
 .intro j hj;by_cases hz:i=0
  .rw[if_pos hz]at ha;subst ha;have:=h.acc j hj;rw[hal]at hj;have hj0:j=0:=by omega
   subst hj0;simpa using this
  .rw[if_neg hz]at ha;obtain ⟨a,rfl,ha2⟩:=ha;rw[List.length_append,hal]at hj;simp at hj;by_cases hji:j<acs.length
   .have:=h.acc j hji;rw[List.getElem?_append_left hji,this,List.getElem?_append_left (by omega)]
   .have hje:j=acs.length:=by omega
    have hji2:j=i:=by omega
    subst hji2;rw[List.getElem?_append_right (by omega),if_neg hz,List.getElem?_append_left hi,<-ha2]
    simp[hje]
 .intro j hj;by_cases hji:j<i
  .obtain ⟨fo',h1,h2⟩:=h.row j hji;refine ⟨fo',λp=>by rw[zGG (by omega)];exact h1 p,?_⟩
   rw[List.getElem?_append_left (by rw[h.rl];exact hji)]
   exact h2.growG hg0
  .have:j=i:=by omega
   subst this;refine ⟨fo,λp=>by rw[zGG hi];exact hfo p,?_⟩
   rw[List.getElem?_append_right (by rw[h.rl];exact Nat.le_refl _),h.rl]
   simpa using hr
 .intro g hg;rcases List.mem_append.1 hg with hg | hg
  .exact h.srt g hg
  .obtain ⟨-,c,-,rfl⟩:=hmore g hg;exact hfs.filter _
 .intro j hj0 hj;by_cases hjl:j<gs.length
  .rw[List.getElem?_append_left hjl];exact h.rch j hj0 hjl
  .have hjm:(gs++more)[j]?=some (gs++more)[j]:=List.getElem?_eq_getElem hj;have hmem:(gs++more)[j]∈more:=by
    rw[List.getElem_append_right (by omega)];exact List.getElem_mem _
   rw[hjm,Option.getD_some];obtain ⟨h1,c,-,h2⟩:=hmore _ hmem;refine ⟨h1,?_⟩;by_cases hz:i=0
   .refine ⟨[c],λp=>?_⟩;rw[h2,zB4,hfo p,hz];unfold grpF;rw[if_pos rfl]
    rfl
   .obtain ⟨h3,w,hw⟩:=h.rch i (by omega) hi
    cases w with
    | nil=>
     exfalso
     cases hq:(gs[i]?).getD [] with
     | nil=>exact h3 hq
     | cons a r=>
      have:=(hw a).1 (by rw[hq];simp)
      exact this
    | cons d w=>
     refine ⟨c::d::w,λp=>?_⟩;rw[h2,zB4,hfo p];unfold grpF;rw[if_neg hz];show _↔(∃q,hitP b x (d::w) q/\p∈folP b q)/\setP b p c=true;constructor
     .rintro ⟨⟨q,q1,q2⟩,q3⟩;exact ⟨⟨q,(hw q).1 q1,q2⟩,q3⟩
     .rintro ⟨⟨q,q1,q2⟩,q3⟩;exact ⟨⟨q,(hw q).2 q1,q2⟩,q3⟩
theorem zKc (hb:∀rs∈b.sets,∀r∈rs,r.2<256) {p c:Nat} (hc:256<=c):setP b p c=false:=by
 unfold setP inR;rw[List.any_eq_false];intro r hr
 cases hs:b.sets[p]? with
 | none=>rw[hs]at hr;cases hr
 | some rs=>
  rw[hs]at hr;have:=hb rs (List.mem_of_getElem? hs) r hr;simp;omega
def zF4:Nat->List (List Nat)
 | 0=>[[]]
 | n+1=>zF4 n++(zF4 n).map (·++[n])
theorem zFX:∀n,(zF4 n).length=2 ^ n
 | 0=>rfl
 | n+1=>by rw[zF4,List.length_append,List.length_map,zFX n,Nat.pow_succ];omega
theorem zDR:∀(n:Nat) (l:List Nat),l.Pairwise (·<·)->(∀p∈l,p<n)->l∈zF4 n
 | 0,l,_,h=>by
  cases l with
  | nil=>simp[zF4]
  | cons a r=>exact absurd (h a (by simp)) (Nat.not_lt_zero _)
 | n+1,l,hs,h=>by
  rw[zF4,List.mem_append,List.mem_map];by_cases hn:n∈l
  .right
   have hne:l≠[]:=by rintro rfl;cases hn
   have hl:l=l.dropLast++[l.getLast hne]:=(List.dropLast_concat_getLast hne).symm;have hlast:l.getLast hne=n:=by
    have h1:=h (l.getLast hne) (List.getLast_mem hne);rw[hl]at hn hs;rcases List.mem_append.1 hn with hn | hn
    .have:=(List.pairwise_append.1 hs).2.2 n hn _ (List.mem_singleton.2 rfl);omega
    .exact (List.mem_singleton.1 hn).symm
   refine ⟨l.dropLast,zDR n _ ?_ λp hp=>?_,by rw[<-hlast];exact hl.symm⟩
   .rw[hl]at hs;exact (List.pairwise_append.1 hs).1
   .rw[hl]at hs;have:=(List.pairwise_append.1 hs).2.2 p hp _ (List.mem_singleton.2 rfl);omega
  .left
   exact zDR n l hs λp hp=>by
    have:=h p hp;have:p≠n:=by rintro rfl;exact hn hp
    omega
theorem CmI.count (h:CmI b x gs rows acs i):gs.length<=2 ^ b.sets.length:=by
 rw[<-zFX];exact zBk h.nd λg hg=>zDR _ _ (h.srt g hg) (h.gl g hg)
theorem CmI.done (h:CmI b x gs rows acs gs.length) (hb:∀rs∈b.sets,∀r∈rs,r.2<256):Vld ⟨rows,acs⟩/\(∀r∈rows,r.length<=256/\∀e∈r,e.lo<256/\e.hi<256)/\∀w,acF ⟨rows,acs⟩ w 0=true↔LP b x w:=by
 have h0:0<gs.length:=(List.getElem?_eq_some_iff.1 h.g0).1;have hal:acs.length=gs.length:=by rw[h.al];omega
 have hrow:∀r∈rows,∃fo,RowI b fo gs r 256:=λr hr=>by
  obtain ⟨j,hj⟩:=List.mem_iff_getElem?.1 hr;have hjl:=(List.getElem?_eq_some_iff.1 hj).1;obtain ⟨fo,-,h2⟩:=h.row j (by rw[<-h.rl];exact hjl)
  rw[hj]at h2;exact ⟨fo,h2⟩
 have hG:GrpM b x gs ⟨rows,acs⟩:=by
  refine ⟨λj hj=>h.acc j (by omega),λj hj c=>?_⟩
  obtain ⟨fo,h1,h2⟩:=h.row j hj;show match trn ((rows[j]?).getD []) c with
   | none=>_
   | some t=>_
  by_cases hc:c<256
  .have h3:=h2.sp c hc
   cases ht:trn ((rows[j]?).getD []) c with
   | none=>rw[ht]at h3;exact λp hp=>h3 p ((h1 p).2 hp)
   | some t=>
    rw[ht]at h3;exact ⟨h3.1,h3.2.1,λp=>by rw[h3.2.2 p,h1 p]⟩
  .have ht:trn ((rows[j]?).getD []) c=none:=by
    cases ht:trn ((rows[j]?).getD []) c with
    | none=>rfl
    | some t=>
     obtain ⟨e,he,-,h4,-⟩:=zBt ht;have:=h2.hi e he;omega
   rw[ht];exact λp _=>zKc hb (by omega)
 refine ⟨⟨by rw[hal,h.rl],λr hr=>?_,λr hr e he=>?_⟩,λr hr=>?_,λw=>?_⟩
 .obtain ⟨fo,h2⟩:=hrow r hr;exact h2.srt
 .obtain ⟨fo,h2⟩:=hrow r hr;show e.to<rows.length;rw[h.rl];exact (h2.to e he).1
 .obtain ⟨fo,h2⟩:=hrow r hr;have:=zFY h2.srt h2.hi (Nat.zero_le _);exact ⟨by omega,λe he=>(h2.to e he).2⟩
 .rw[hG.lang w 0 h0];unfold grpL;rw[if_pos rfl]
end
def wkA (A:Au):List Nat->List Nat->Prop
 | [],π=>A.la π
 | c::w,π=>∃ρ,A.P ρ/\A.fo π ρ/\A.sr ρ c/\wkA A w ρ
def LPA (A:Au):List Nat->Prop
 | []=>A.em
 | c::w=>∃ρ,A.P ρ/\A.fi ρ/\A.sr ρ c/\wkA A w ρ
def hitA (A:Au):List Nat->List Nat->Prop
 | []=>λ_=>False
 | [c]=>λπ=>A.P π/\A.fi π/\A.sr π c
 | c::d::w=>λπ=>A.P π/\(∃ρ,hitA A (d::w) ρ/\A.fo ρ π)/\A.sr π c
section
variable {L:Nat->List Nat} {b:Pb} {s e:Nat} {x:Prt} {A:Au}
theorem zKr (g:GoodP b s e x):∀(w:List Nat) (p:Nat),hitP b x w p->s<=p/\p<e
 | [],_,h=>h.elim
 | [_],p,h=>g.fst p h.1
 | _::d::w,p,h=>by
  obtain ⟨⟨q,q1,q2⟩,-⟩:=h;obtain ⟨i1,i2⟩:=zKr g (d::w) q q1;exact g.cls q i1 i2 p q2
theorem MkL.hit (h:MkL L b s e x A) (g:GoodP b s e x):∀(w:List Nat) (p:Nat),s<=p->p<e->(hitP b x w p↔hitA A w (L p))
 | [],_,_,_=>Iff.rfl
 | [c],p,h1,h2=>by
  show (p∈x.first/\setP b p c=true)↔(A.P (L p)/\A.fi (L p)/\A.sr (L p) c);rw[h.fi p h1 h2,h.sr p c h1 h2];exact ⟨λk=>⟨h.pos p h1 h2,k⟩,λk=>k.2⟩
 | c::d::w,p,h1,h2=>by
  show ((∃q,hitP b x (d::w) q/\p∈folP b q)/\setP b p c=true)↔(A.P (L p)/\(∃ρ,hitA A (d::w) ρ/\A.fo ρ (L p))/\A.sr (L p) c);rw[h.sr p c h1 h2];constructor
  .rintro ⟨⟨q,q1,q2⟩,q3⟩;obtain ⟨i1,i2⟩:=zKr g _ q q1;exact ⟨h.pos p h1 h2,⟨L q,(MkL.hit h g (d::w) q i1 i2).1 q1,(h.fo q p i1 i2 h1 h2).1 q2⟩,q3⟩
  .rintro ⟨-,⟨ρ,r1,r2⟩,r3⟩;have hP:∀(w:List Nat) (ρ:List Nat),hitA A w ρ->A.P ρ:=λw ρ k=>by
    match w,k with
    | [_],k=>exact k.1
    | _::_::_,k=>exact k.1
   obtain ⟨q,i1,i2,rfl⟩:=h.onto ρ (hP _ _ r1);exact ⟨⟨q,(MkL.hit h g (d::w) q i1 i2).2 r1,(h.fo q p i1 i2 h1 h2).2 r2⟩,r3⟩
end
theorem zJN {A:Au} {w:List Nat} {ρ:List Nat} (k:hitA A w ρ):A.P ρ:=by
 match w,k with
 | [_],k=>exact k.1
 | _::_::_,k=>exact k.1
theorem zHm:∀{l1 l2:List Nat},l1.Pairwise (·<·)->l2.Pairwise (·<·)->(∀p,p∈l1↔p∈l2)->l1=l2
 | [],[],_,_,_=>rfl
 | [],a::_,_,_,h=>absurd ((h a).2 (by simp)) (by simp)
 | a::_,[],_,_,h=>absurd ((h a).1 (by simp)) (by simp)
 | a::l1,c::l2,h1,h2,h=>by
  have p1:=List.pairwise_cons.1 h1;have p2:=List.pairwise_cons.1 h2;have hac:a=c:=by
   have ha:=(h a).1 (by simp)
   have hc:=(h c).2 (by simp)
   rcases List.mem_cons.1 ha with e | ha
   .exact e
   .rcases List.mem_cons.1 hc with e | hc
    .exact e.symm
    .have:=p1.1 c hc;have:=p2.1 a ha;omega
  subst hac;rw[zHm p1.2 p2.2 λp=>?_];have:=h p;simp only[List.mem_cons]at this;constructor
  .intro hp;rcases this.1 (.inr hp) with rfl | k
   .have:=p1.1 _ hp;omega
   .exact k
  .intro hp;rcases this.2 (.inr hp) with rfl | k
   .have:=p2.1 _ hp;omega
   .exact k
structure TmA (A:Au) (m M:Nat) (T:List (List Nat×Nat×Nat)):Prop where
 ex:∀ρ,A.P ρ->∃a b,(ρ,a,b)∈T
 em:A.em->m=0
 fi:∀ρ a b,(ρ,a,b)∈T->A.fi ρ->a<=1/\1<=b
 la:∀ρ a b,(ρ,a,b)∈T->A.la ρ->m<=a
 hM:∀ρ a b,(ρ,a,b)∈T->b<=M
 fo:∀π a b ρ c d,(π,a,b)∈T->(ρ,c,d)∈T->A.fo π ρ->c<=a+1/\b+1<=d
theorem TmA.hit {A:Au} {m M:Nat} {T:List (List Nat×Nat×Nat)} (h:TmA A m M T):∀(w:List Nat) (ρ:List Nat) (a b:Nat),hitA A w ρ->(ρ,a,b)∈T->a<=w.length/\w.length<=b
 | [],_,_,_,k,_=>k.elim
 | [_],ρ,a,b,k,hm=>h.fi ρ a b hm k.2.1
 | _::d::w,ρ,a,b,k,hm=>by
  obtain ⟨-,⟨π,p1,p2⟩,-⟩:=k;obtain ⟨a',b',hm'⟩:=h.ex π (zJN p1);have h1:=h.hit (d::w) π a' b' p1 hm';have h2:=h.fo π a' b' ρ a b hm' hm p2;rw[List.length_cons]at h1|-;rw[List.length_cons];omega
theorem TmA.le {A B:Au} {m M:Nat} {T:List (List Nat×Nat×Nat)} (h:TmA B m M T) (hP:∀ρ,A.P ρ->B.P ρ) (hf:∀ρ,A.fi ρ->B.fi ρ) (ho:∀π ρ,A.fo π ρ->B.fo π ρ):TmA A 0 M T:=
 ⟨λρ k=>h.ex ρ (hP ρ k),λ_=>rfl,λρ a b hm k=>h.fi ρ a b hm (hf ρ k),λ_ _ _ _ _=>Nat.zero_le _,h.hM,λπ a b ρ c d h1 h2 k=>h.fo π a b ρ c d h1 h2 (ho π ρ k)⟩
def subl {α:Type}:List α->List (List α)
 | []=>[[]]
 | a::r=>subl r++(subl r).map (a::·)
theorem zGn {α:Type}:∀l:List α,(subl l).length=2 ^ l.length
 | []=>rfl
 | a::r=>by rw[subl,List.length_append,List.length_map,zGn r,List.length_cons,Nat.pow_succ];omega
theorem zEh {α:Type} (p:α->Bool):∀l:List α,l.filter p∈subl l
 | []=>by simp[subl]
 | a::r=>by
  rw[subl,List.filter_cons,List.mem_append]
  split
  .exact .inr (List.mem_map.2 ⟨_,zEh p r,rfl⟩)
  .exact .inl (zEh p r)
def atT (t:Nat) (q:Nat×Nat):Bool:=decide (q.1<=t) && decide (t<=q.2)
def totT (I:List (Nat×Nat)):Nat->Nat
 | 0=>0
 | M+1=>totT I M+2 ^ (I.filter (atT (M+1))).length
def covT (T:List (List Nat×Nat×Nat)):Nat->List (List Nat->Prop)
 | 0=>[]
 | M+1=>covT T M++(subl (T.filter λq=>atT (M+1) q.2)).map λs ρ=>∃q∈s,q.1=ρ
theorem zGs (T:List (List Nat×Nat×Nat)):∀M,(covT T M).length=totT (T.map Prod.snd) M
 | 0=>rfl
 | M+1=>by
  rw[covT,totT,List.length_append,List.length_map,zGs T M,zGn,List.filter_map,List.length_map]
  rfl
theorem TmA.cov {A:Au} {m M:Nat} {T:List (List Nat×Nat×Nat)} (h:TmA A m M T) (w:List Nat) (hw:∃ρ,hitA A w ρ):∀N,w.length<=N->∃P∈covT T N,∀ρ,hitA A w ρ↔P ρ
 | 0,hn=>by
  obtain ⟨ρ,k⟩:=hw
  match w,k,hn with
  | _::_,_,hn=>simp at hn
 | N+1,hn=>by
  by_cases e:w.length=N+1
  .refine ⟨_,List.mem_append_right _ (List.mem_map.2 ⟨_,zEh (λq=>@decide (hitA A w q.1) (Classical.propDecidable _)) _,rfl⟩),λρ=>?_⟩;constructor
   .intro k;obtain ⟨a,b,hm⟩:=h.ex ρ (zJN k);have ht:=h.hit w ρ a b k hm;refine ⟨(ρ,a,b),List.mem_filter.2 ⟨List.mem_filter.2 ⟨hm,?_⟩,@decide_eq_true _ (Classical.propDecidable _) k⟩,rfl⟩;unfold atT;rw[Bool.and_eq_true,decide_eq_true_eq,decide_eq_true_eq];show a<=N+1/\N+1<=b;omega
   .rintro ⟨q,hq,rfl⟩;exact @of_decide_eq_true _ (Classical.propDecidable _) (List.mem_filter.1 hq).2
  .obtain ⟨P,h1,h2⟩:=h.cov w hw N (by omega)
   exact ⟨P,List.mem_append_left _ h1,h2⟩
theorem TmA.len {A:Au} {m M:Nat} {T:List (List Nat×Nat×Nat)} (h:TmA A m M T) {w:List Nat} (hw:∃ρ,hitA A w ρ):w.length<=M:=by
 obtain ⟨ρ,k⟩:=hw;obtain ⟨a,b,hm⟩:=h.ex ρ (zJN k);exact Nat.le_trans (h.hit w ρ a b k hm).2 (h.hM ρ a b hm)
theorem CmI.cover {A:Au} {L:Nat->List Nat} {b:Pb} {x:Prt} {gs:List (List Nat)} {rows:List (List Ed)} {acs:List Bool} {i:Nat} (h:CmI b x gs rows acs i) (hk:MkL L b 0 b.fol.length x A) (g:GoodP b 0 b.fol.length x) (hl:b.sets.length=b.fol.length)
  (LL:List (List Nat->Prop)) (hc:∀w,(∃ρ,hitA A w ρ)->∃P∈LL,∀ρ,hitA A w ρ↔P ρ):gs.length<=LL.length+1:=by
 have key:gs.length<=([]::LL.map λP=>(List.range b.sets.length).filter λp=>@decide (P (L p)) (Classical.propDecidable _)).length:=by
  refine zBk h.nd λq hq=>?_;obtain ⟨j,hj⟩:=List.mem_iff_getElem?.1 hq;have hjl:=(List.getElem?_eq_some_iff.1 hj).1;by_cases hj0:j=0
  .subst hj0;rw[h.g0]at hj;injection hj with hj;rw[<-hj];exact List.mem_cons_self
  .obtain ⟨hne,w,hw⟩:=h.rch j (by omega) hjl
   rw[hj,Option.getD_some]at hne hw;obtain ⟨p,hp⟩:∃p,p∈q:=by
    cases q with
    | nil=>exact absurd rfl hne
    | cons a r=>exact ⟨a,by simp⟩
   have hin:∀p,p∈q->p<b.fol.length:=λp hp=>hl▸h.gl q hq p hp;obtain ⟨P,h1,h2⟩:=hc w ⟨L p,(hk.hit g w p (Nat.zero_le _) (hin p hp)).1 ((hw p).1 hp)⟩;refine List.mem_cons_of_mem _ (List.mem_map.2 ⟨P,h1,?_⟩);refine zHm (List.Pairwise.filter _ List.pairwise_lt_range) (h.srt q hq) λr=>?_;rw[List.mem_filter,List.mem_range];constructor
   .rintro ⟨h3,h4⟩;have h4:=@of_decide_eq_true _ (Classical.propDecidable _) h4;exact (hw r).2 ((hk.hit g w r (Nat.zero_le _) (hl▸h3)).2 ((h2 _).2 h4))
   .intro hr;exact ⟨h.gl q hq r hr,@decide_eq_true _ (Classical.propDecidable _) ((h2 _).1 ((hk.hit g w r (Nat.zero_le _) (hin r hr)).1 ((hw r).1 hr)))⟩
 rw[List.length_cons,List.length_map]at key;exact key
def hitU (A:Au):Nat->List Nat->Prop
 | 0=>λ_=>False
 | 1=>λπ=>A.P π/\A.fi π
 | n+2=>λπ=>A.P π/\∃ρ,hitU A (n+1) ρ/\A.fo ρ π
theorem zFi {A:Au} {cls:Nat->Bool} (hs:∀ρ c,A.sr ρ c->cls c=true):∀(w ρ:List Nat),hitA A w ρ->hitU A w.length ρ/\∀c∈w,cls c=true
 | [],_,k=>k.elim
 | [c],ρ,k=>⟨⟨k.1,k.2.1⟩,λd hd=>by rw[List.mem_singleton.1 hd];exact hs _ _ k.2.2⟩
 | c::d::w,ρ,k=>by
  obtain ⟨h1,⟨π,p1,p2⟩,h3⟩:=k;obtain ⟨q1,q2⟩:=zFi hs (d::w) π p1;refine ⟨⟨h1,π,q1,p2⟩,λe he=>?_⟩;rcases List.mem_cons.1 he with rfl | he
  .exact hs _ _ h3
  .exact q2 e he
theorem zJG {A:Au} {cls:Nat->Bool} (hs:∀ρ c,A.P ρ->cls c=true->A.sr ρ c):∀(w ρ:List Nat),hitU A w.length ρ->(∀c∈w,cls c=true)->hitA A w ρ
 | [],_,k,_=>k.elim
 | [c],ρ,k,h=>⟨k.1,k.2,hs _ _ k.1 (h c (by simp))⟩
 | c::d::w,ρ,k,h=>by
  obtain ⟨h1,π,p1,p2⟩:=k;exact ⟨h1,⟨π,zJG hs (d::w) π p1 λe he=>h e (by simp only[List.mem_cons]at he|-;exact .inr he),p2⟩,hs _ _ h1 (h c (by simp))⟩
theorem covU {A:Au} {m M:Nat} {T:List (List Nat×Nat×Nat)} {cls:Nat->Bool} (h:TmA A m M T) (h1:∀ρ c,A.sr ρ c->cls c=true) (h2:∀ρ c,A.P ρ->cls c=true->A.sr ρ c) (w:List Nat) (hw:∃ρ,hitA A w ρ):∃P∈(List.range (M+1)).map (hitU A),∀ρ,hitA A w ρ↔P ρ:=by
 have hl:=h.len hw;obtain ⟨ρ0,k0⟩:=hw;obtain ⟨-,hc⟩:=zFi h1 w ρ0 k0;exact ⟨_,List.mem_map.2 ⟨w.length,List.mem_range.2 (by omega),rfl⟩,λρ=>⟨λk=>(zFi h1 w ρ k).1,λk=>zJG h2 w ρ k hc⟩⟩
theorem TmA.set (rs:List (Nat×Nat)):TmA (setA rs) 1 1 [([],1,1)]:=by
 refine ⟨λρ k=>⟨1,1,?_⟩,λk=>k.elim,λρ a b hm _=>?_,λρ a b hm _=>?_,λρ a b hm=>?_,λπ a b ρ c d _ _ k=>k.elim⟩
 .rw[show ρ=[] from k];simp
 all_goals simp at hm;omega
def s1F:List (Nat×Nat×List (List Nat×Nat×Nat))->Nat->Nat
 | _,0=>0
 | [],_+1=>0
 | q::r,j+1=>q.1+s1F r j
def s2F:List (Nat×Nat×List (List Nat×Nat×Nat))->Nat->Nat
 | _,0=>0
 | [],_+1=>0
 | q::r,j+1=>q.2.1+s2F r j
def seqT:Nat->Nat->Nat->List (Nat×Nat×List (List Nat×Nat×Nat))->List (List Nat×Nat×Nat)
 | _,_,_,[]=>[]
 | k,x,y,q::r=>(q.2.2.map λe=>(k::e.1,x+e.2.1,y+e.2.2))++seqT (k+1) (x+q.1) (y+q.2.1) r
theorem zBd:∀(l:List (Nat×Nat×List (List Nat×Nat×Nat))) (k x y:Nat) (ρ:List Nat) (a b:Nat),(ρ,a,b)∈seqT k x y l↔∃j q π a' b',l[j]?=some q/\ρ=(k+j)::π/\(π,a',b')∈q.2.2/\a=x+s1F l j+a'/\b=y+s2F l j+b'
 | [],k,x,y,ρ,a,b=>by simp[seqT]
 | q::r,k,x,y,ρ,a,b=>by
  rw[seqT,List.mem_append,List.mem_map,zBd r];constructor
  .rintro (⟨⟨π,a',b'⟩,hm,e⟩ | ⟨j,q',π,a',b',h1,rfl,h2,rfl,rfl⟩)
   .injection e with e1 e;injection e with e2 e3;have e2:x+a'=a:=e2;have e3:y+b'=b:=e3;exact ⟨0,q,π,a',b',rfl,e1.symm,hm,by simp only[s1F];omega,by simp only[s2F];omega⟩
   .exact ⟨j+1,q',π,a',b',by rw[List.getElem?_cons_succ];exact h1,by congr 1;omega,h2,by simp only[s1F];omega,by simp only[s2F];omega⟩
  .rintro ⟨j,q',π,a',b',h1,rfl,h2,rfl,rfl⟩
   cases j with
   | zero=>
    rw[List.getElem?_cons_zero]at h1;injection h1 with h1;subst h1;exact .inl ⟨_,h2,rfl⟩
   | succ j=>
    rw[List.getElem?_cons_succ]at h1;exact .inr ⟨j,q',π,a',b',h1,by congr 1;omega,h2,by simp only[s1F];omega,by simp only[s2F];omega⟩
theorem s1_0:∀l,s1F l 0=0
 | []=>rfl
 | _::_=>rfl
theorem zCx:∀(l:List (Nat×Nat×List (List Nat×Nat×Nat))) (j:Nat) (q),l[j]?=some q->s1F l (j+1)=s1F l j+q.1/\s2F l (j+1)=s2F l j+q.2.1
 | [],_,_,h=>by simp at h
 | a::r,0,q,h=>by
  rw[List.getElem?_cons_zero]at h;injection h with h;subst h;simp[s1F,s2F]
 | a::r,j+1,q,h=>by
  rw[List.getElem?_cons_succ]at h;have:=zCx r j q h;simp only[s1F,s2F]at this|-;omega
theorem zKu (l:List (Nat×Nat×List (List Nat×Nat×Nat))) {j k:Nat} (h:j<=k) (hk:k<=l.length):s1F l j<=s1F l k/\s2F l j<=s2F l k:=by
 induction k with
 | zero=>
  obtain rfl:j=0:=by omega
  exact ⟨Nat.le_refl _,Nat.le_refl _⟩
 | succ k ih=>
  by_cases e:j=k+1
  .subst e;exact ⟨Nat.le_refl _,Nat.le_refl _⟩
  .have h1:=ih (by omega) (by omega)
   have h2:=zCx l k _ (List.getElem?_eq_getElem (by omega))
   omega
theorem zGd (l:List (Nat×Nat×List (List Nat×Nat×Nat))) {j k:Nat} (h:j<=k) (hk:k<=l.length) (hz:∀t q,j<=t->t<k->l[t]?=some q->q.1=0):s1F l k=s1F l j:=by
 induction k with
 | zero=>
  obtain rfl:j=0:=by omega
  rfl
 | succ k ih=>
  by_cases e:j=k+1
  .subst e;rfl
  .have h1:=ih (by omega) (by omega) λt q h1 h2=>hz t q h1 (by omega)
   have hq:=List.getElem?_eq_getElem (l:=l) (i:=k) (by omega)
   have h2:=zCx l k _ hq;have h3:=hz k _ (by omega) (by omega) hq
   omega
theorem TmA.seq {n:Nat} {F:Nat->Au} (l:List (Nat×Nat×List (List Nat×Nat×Nat))) (hn:l.length=n) (h:∀j q,l[j]?=some q->TmA (F j) q.1 q.2.1 q.2.2):TmA (seqA n F) (s1F l n) (s2F l n) (seqT 0 0 0 l):=by
 have hq:∀j,j<n->∃q,l[j]?=some q/\TmA (F j) q.1 q.2.1 q.2.2:=λj hj=>⟨_,List.getElem?_eq_getElem (by omega),h j _ (List.getElem?_eq_getElem (by omega))⟩
 have hlt:∀{j q},l[j]?=some q->j<l.length:=λhj=>(List.getElem?_eq_some_iff.1 hj).1;refine ⟨λρ k=>?_,λk=>?_,λρ a b hm k=>?_,λρ a b hm k=>?_,λρ a b hm=>?_,λπ a b ρ c d h1 h2 k=>?_⟩
 .match ρ,k with
  | j::π,k=>
   obtain ⟨q,q1,q2⟩:=hq j k.1;obtain ⟨a,b,hm⟩:=q2.ex π k.2;exact ⟨_,_,(zBd _ _ _ _ _ _ _).2 ⟨j,q,π,a,b,q1,by rw[Nat.zero_add],hm,rfl,rfl⟩⟩
 .have:=zGd l (j:=0) (k:=n) (Nat.zero_le _) (by omega) λt q _ ht hg=>(h t q hg).em (k t ht)
  rw[this,s1_0]
 .obtain ⟨j,q,π,a',b',q1,rfl,hm1,rfl,rfl⟩:=(zBd _ _ _ _ _ _ _).1 hm;rw[Nat.zero_add]at k;have hj:=hlt q1;have hz:=zGd l (j:=0) (k:=j) (Nat.zero_le _) (by omega) λt q _ ht hg=>(h t q hg).em (k.2.2 t ht)
  have h3:=(h j q q1).fi π a' b' hm1 k.2.1;have:=s1_0 l;omega
 .obtain ⟨j,q,π,a',b',q1,rfl,hm1,rfl,rfl⟩:=(zBd _ _ _ _ _ _ _).1 hm;rw[Nat.zero_add]at k;have hj:=hlt q1;have hz:=zGd l (j:=j+1) (k:=n) (by omega) (by omega) λt q ht1 ht hg=>(h t q hg).em (k.2.2 t ht1 ht)
  have h3:=(h j q q1).la π a' b' hm1 k.2.1;have h4:=zCx l j q q1;omega
 .obtain ⟨j,q,π,a',b',q1,rfl,hm1,rfl,rfl⟩:=(zBd _ _ _ _ _ _ _).1 hm;have hj:=hlt q1;have h3:=(h j q q1).hM π a' b' hm1;have h4:=zCx l j q q1;have h5:=zKu l (j:=j+1) (k:=n) (by omega) (by omega)
  omega
 .obtain ⟨j,q,π,a',b',q1,rfl,hm1,rfl,rfl⟩:=(zBd _ _ _ _ _ _ _).1 h1;obtain ⟨j2,q2,ρ,c',d',q3,rfl,hm2,rfl,rfl⟩:=(zBd _ _ _ _ _ _ _).1 h2;rw[Nat.zero_add,Nat.zero_add]at k;obtain ⟨-,-,⟨e,k⟩ | ⟨hlt2,k1,k2,k3⟩⟩:=k
  .subst e;rw[q1]at q3;injection q3 with q3;subst q3;have:=(h j q q1).fo π a' b' ρ c' d' hm1 hm2 k;omega
  .have hj2:=hlt q3;have hz:=zGd l (j:=j+1) (k:=j2) (by omega) (by omega) λt q ht1 ht hg=>(h t q hg).em (k3 t (by omega) ht)
   have h3:=(h j q q1).la π a' b' hm1 k1;have h4:=zCx l j q q1;have h5:=zKu l (j:=j+1) (k:=j2) (by omega) (by omega)
   have h6:=(h j2 q2 q3).fi ρ c' d' hm2 k2;have h7:=(h j q q1).hM π a' b' hm1;omega
theorem TmA.tl {A:Au} {m M:Nat} {T:List (List Nat×Nat×Nat)} (h:TmA A m M T) (mn n:Nat):TmA (tlA mn n 0 A) 0 (s2F (List.replicate n (m,M,T)) n) (seqT 0 0 0 (List.replicate n (m,M,T))):=by
 refine (TmA.seq (F:=λ_=>A) (List.replicate n (m,M,T)) (by simp) λj q hj=>?_).le (λρ k=>?_) (λρ k=>?_) λπ ρ k=>?_
 .have:=List.getElem?_eq_some_iff.1 hj;obtain ⟨_,rfl⟩:=this;rw[List.getElem_replicate];exact h
 .match ρ,k with
  | j::π,k=>exact ⟨k.2.1,k.2.2⟩
 .match ρ,k with
  | j::π,k=>exact ⟨k.2.1,k.2.2.1,λi hi=>k.2.2.2.resolve_left (by omega)⟩
 .match π,ρ,k with
  | i::π,j::ρ,k=>
   obtain ⟨-,k1,⟨e,k2⟩ | ⟨k2,k3,k4,k5⟩⟩:=k
   .exact ⟨by omega,k1, .inl ⟨e,k2⟩⟩
   .exact ⟨by omega,k1, .inr ⟨k2,k3,k4,λt h1 h2=>k5.resolve_left (by omega)⟩⟩
def choT:Nat->List (List (List Nat×Nat×Nat))->List (List Nat×Nat×Nat)
 | _,[]=>[]
 | k,T::r=>(T.map λe=>(k::e.1,e.2))++choT (k+1) r
theorem zCR:∀(l:List (List (List Nat×Nat×Nat))) (k:Nat) (ρ:List Nat) (a b:Nat),(ρ,a,b)∈choT k l↔∃j T π,l[j]?=some T/\ρ=(k+j)::π/\(π,a,b)∈T
 | [],k,ρ,a,b=>by simp[choT]
 | T::r,k,ρ,a,b=>by
  rw[choT,List.mem_append,List.mem_map,zCR r];constructor
  .rintro (⟨⟨π,a',b'⟩,hm,e⟩ | ⟨j,q',π,h1,rfl,h2⟩)
   .injection e with e1 e;injection e with e2 e3;subst e2 e3;exact ⟨0,T,π,rfl,e1.symm,hm⟩
   .exact ⟨j+1,q',π,by rw[List.getElem?_cons_succ];exact h1,by congr 1;omega,h2⟩
  .rintro ⟨j,q',π,h1,rfl,h2⟩
   cases j with
   | zero=>
    rw[List.getElem?_cons_zero]at h1;injection h1 with h1;subst h1;exact .inl ⟨_,h2,rfl⟩
   | succ j=>
    rw[List.getElem?_cons_succ]at h1;exact .inr ⟨j,q',π,h1,by congr 1;omega,h2⟩
theorem TmA.cho {n m M:Nat} {F:Nat->Au} (l:List (List (List Nat×Nat×Nat))) (hn:l.length=n) (h:∀j T,l[j]?=some T->∃m' M',TmA (F j) m' M' T/\m<=m'/\M'<=M):TmA (choA n F) m M (choT 0 l):=by
 have hq:∀j,j<n->∃T,l[j]?=some T/\∃m' M',TmA (F j) m' M' T/\m<=m'/\M'<=M:=λj hj=>⟨_,List.getElem?_eq_getElem (by omega),h j _ (List.getElem?_eq_getElem (by omega))⟩
 refine ⟨λρ k=>?_,λk=>?_,λρ a b hm k=>?_,λρ a b hm k=>?_,λρ a b hm=>?_,λπ a b ρ c d h1 h2 k=>?_⟩
 .match ρ,k with
  | j::π,k=>
   obtain ⟨T,q1,m',M',q2,-⟩:=hq j k.1;obtain ⟨a,b,hm⟩:=q2.ex π k.2;exact ⟨_,_,(zCR _ _ _ _ _).2 ⟨j,T,π,q1,by rw[Nat.zero_add],hm⟩⟩
 .obtain ⟨j,hj,k⟩:=k;obtain ⟨T,q1,m',M',q2,q3,-⟩:=hq j hj;have:=q2.em k;omega
 all_goals first | obtain ⟨j,T,π,q1,rfl,hm1⟩:=(zCR _ _ _ _ _).1 hm | skip
 .rw[Nat.zero_add]at k;obtain ⟨m',M',q2,q3,-⟩:=h j T q1;exact q2.fi π a b hm1 k.2
 .rw[Nat.zero_add]at k;obtain ⟨m',M',q2,q3,-⟩:=h j T q1;exact Nat.le_trans q3 (q2.la π a b hm1 k.2)
 .obtain ⟨m',M',q2,q3,q4⟩:=h j T q1;exact Nat.le_trans (q2.hM π a b hm1) q4
 .obtain ⟨j,T,π,q1,rfl,hm1⟩:=(zCR _ _ _ _ _).1 h1;obtain ⟨j2,T2,ρ,q3,rfl,hm2⟩:=(zCR _ _ _ _ _).1 h2;rw[Nat.zero_add,Nat.zero_add]at k;obtain ⟨-,e,k⟩:=k;subst e;rw[q1]at q3;injection q3 with q3;subst q3;obtain ⟨m',M',q2,-⟩:=h j T q1;exact q2.fo π a b ρ c d hm1 hm2 k
def PtS:Nat->Nd->Prop
 | 0,nd=>∃rs,nd = .mk 1 rs [] 0 0
 | d+1,nd=>(∃rs,nd = .mk 1 rs [] 0 0)\/
  (∃op kids,(op=2\/op=3)/\nd = .mk op [] kids 0 0/\2<=kids.length/\kids.length<=3/\∀k∈kids,PtS d k)\/
  (∃k mn mx,nd = .mk 4 [] [k] mn mx/\1<=mx/\mx<=4/\PtS d k)
def seqI:Nat->Nat->List (Nat×Nat×List (Nat×Nat))->List (Nat×Nat)
 | _,_,[]=>[]
 | x,y,q::r=>(q.2.2.map λe=>(x+e.1,y+e.2))++seqI (x+q.1) (y+q.2.1) r
def prI (q:Nat×Nat×List (List Nat×Nat×Nat)):Nat×Nat×List (Nat×Nat):=(q.1,q.2.1,q.2.2.map Prod.snd)
theorem zDA:∀(l:List (Nat×Nat×List (List Nat×Nat×Nat))) (k x y:Nat),(seqT k x y l).map Prod.snd=seqI x y (l.map prI)
 | [],_,_,_=>rfl
 | q::r,k,x,y=>by
  rw[seqT,List.map_append,zDA r,List.map_cons,seqI,List.map_map];show _=((q.2.2.map Prod.snd).map _)++_;rw[List.map_map]
  rfl
theorem zEa:∀(l:List (List (List Nat×Nat×Nat))) (k:Nat),(choT k l).map Prod.snd=(l.map (List.map Prod.snd)).flatten
 | [],_=>rfl
 | q::r,k=>by
  rw[choT,List.map_append,zEa r,List.map_map]
  rfl
def K5:List (Nat×Nat×List (Nat×Nat)):=[(1,1,[(1,1)]),(1,1,[(1,1),(1,1)]),(1,1,[(1,1),(1,1),(1,1)]),(2,2,[(1,1),(2,2)]),(3,3,[(1,1),(2,2),(3,3)])]
def K9:List (Nat×Nat×List (Nat×Nat)):=K5++[(0,1,[(1,1)]),(0,2,[(1,1),(2,2)]),(0,3,[(1,1),(2,2),(3,3)]),(0,4,[(1,1),(2,2),(3,3),(4,4)])]
def chkS:Bool:=K9.all λa=>K9.all λb=>decide (totT (seqI 0 0 [a,b]) (a.2.1+b.2.1)<=1999) && K9.all λc=>decide (totT (seqI 0 0 [a,b,c]) (a.2.1+(b.2.1+c.2.1))<=1999)
def chkC:Bool:=K9.all λa=>K9.all λb=>decide (totT ([a.2.2,b.2.2].flatten) 4<=1999) && K9.all λc=>decide (totT ([a.2.2,b.2.2,c.2.2].flatten) 4<=1999)
def chkR:Bool:=K5.all λa=>[1,2,3,4].all λn=>decide (totT (seqI 0 0 (List.replicate n a)) (n*a.2.1)<=1999)
theorem zK6:chkS=true:=by decide +kernel
theorem zLl:chkC=true:=by decide +kernel
theorem zLy:chkR=true:=by decide +kernel
theorem zJR:∀q∈K9,q.2.1<=4:=by decide
def FewA (A:Au) (n:Nat):Prop:=∃LL:List (List Nat->Prop),LL.length<=n/\∀w,(∃ρ,hitA A w ρ)->∃P∈LL,∀ρ,hitA A w ρ↔P ρ
theorem TmA.few {A:Au} {m M n N:Nat} {T:List (List Nat×Nat×Nat)} (h:TmA A m M T) (hN:M<=N) (hn:totT (T.map Prod.snd) N<=n):FewA A n:=
 ⟨covT T N,by rw[zGs];exact hn,λw hw=>h.cov w hw N (Nat.le_trans (h.len hw) hN)⟩
theorem zDj (rs:List (Nat×Nat)):auN (.mk 1 rs [] 0 0)=setA rs:=by rw[auN];rfl
theorem zFq (kids:List Nd):auN (.mk 2 [] kids 0 0)=seqA kids.length (famA (auL kids)):=by rw[auN];rfl
theorem zFm (kids:List Nd):auN (.mk 3 [] kids 0 0)=choA kids.length (famA (auL kids)):=by rw[auN];rfl
theorem zF1 (k:Nd) (mn mx:Int):auN (.mk 4 [] [k] mn mx)=tlA mn.toNat mx.toNat 0 (auN k):=by
 rw[auN,zCK (l:=[k]) (k:=0) (kd:=k) rfl];rfl
theorem zHp {kids:List Nd} (h2:2<=kids.length) (h3:kids.length<=3):(∃a b,kids=[a,b])\/∃a b c,kids=[a,b,c]:=by
 match kids,h2,h3 with
 | [a,b],_,_=>exact .inl ⟨a,b,rfl⟩
 | [a,b,c],_,_=>exact .inr ⟨a,b,c,rfl⟩
 | [],h2,_=>simp at h2
 | [_],h2,_=>simp at h2
 | _::_::_::_::_,_,h3=>simp at h3
theorem zFc {kids:List Nd} (h:∀k∈kids,PtS 0 k) {j:Nat} {q:Nat×Nat×List (List Nat×Nat×Nat)} (hq:(List.replicate kids.length (1,1,[(([]:List Nat),1,1)]))[j]?=some q):TmA (famA (auL kids) j) q.1 q.2.1 q.2.2:=by
 obtain ⟨h1,rfl⟩:=List.getElem?_eq_some_iff.1 hq;rw[List.getElem_replicate];have hj:j<kids.length:=by simpa using h1
 rw[zCK (List.getElem?_eq_getElem hj)];obtain ⟨rs,e⟩:=h _ (List.getElem_mem hj);rw[e,zDj];exact TmA.set rs
theorem zL8 {nd:Nd} (h:PtS 1 nd):(∃m M T,TmA (auN nd) m M T/\(m,M,T.map Prod.snd)∈K9)/\((∃m M T,TmA (auN nd) m M T/\(m,M,T.map Prod.snd)∈K5)\/∃rs mn mx,nd = .mk 4 [] [.mk 1 rs [] 0 0] mn mx/\1<=mx/\mx<=4):=by
 have in9:∀{m M:Nat} {T:List (List Nat×Nat×Nat)},TmA (auN nd) m M T->(m,M,T.map Prod.snd)∈K5->(∃m M T,TmA (auN nd) m M T/\(m,M,T.map Prod.snd)∈K9)/\((∃m M T,TmA (auN nd) m M T/\(m,M,T.map Prod.snd)∈K5)\/∃rs mn mx,nd = .mk 4 [] [.mk 1 rs [] 0 0] mn mx/\1<=mx/\mx<=4):=
  λh1 h2=>⟨⟨_,_,_,h1,List.mem_append_left _ h2⟩, .inl ⟨_,_,_,h1,h2⟩⟩
 rcases h with ⟨rs,rfl⟩ | ⟨op,kids,hop,rfl,h2,h3,hk⟩ | ⟨k,mn,mx,rfl,h1,h4,rs,rfl⟩
 .exact in9 (by rw[zDj];exact TmA.set rs) (by decide)
 .rcases hop with rfl | rfl
  .have ht:=TmA.seq (n:=kids.length) (F:=famA (auL kids)) (List.replicate kids.length (1,1,[(([]:List Nat),1,1)])) (by simp) λj q hq=>zFc hk hq
   rw[<-zFq]at ht;rcases zHp h2 h3 with ⟨a,b,rfl⟩ | ⟨a,b,c,rfl⟩
   .exact in9 ht (show (2,2,[(1,1),(2,2)])∈K5 by decide)
   .exact in9 ht (show (3,3,[(1,1),(2,2),(3,3)])∈K5 by decide)
  .have ht:TmA (auN (.mk 3 [] kids 0 0)) 1 1 (choT 0 (List.replicate kids.length [(([]:List Nat),1,1)])):=by
    rw[zFm];refine TmA.cho _ (by simp) λj T hT=>?_
    obtain ⟨h1,rfl⟩:=List.getElem?_eq_some_iff.1 hT;have hj:j<kids.length:=by simpa using h1
    rw[List.getElem_replicate];exact ⟨1,1,zFc hk (j:=j) (q:=(1,1,[([],1,1)])) (by rw[List.getElem?_eq_getElem (by simpa using hj),List.getElem_replicate]),Nat.le_refl _,Nat.le_refl _⟩
   rcases zHp h2 h3 with ⟨a,b,rfl⟩ | ⟨a,b,c,rfl⟩
   .exact in9 ht (show (1,1,[(1,1),(1,1)])∈K5 by decide)
   .exact in9 ht (show (1,1,[(1,1),(1,1),(1,1)])∈K5 by decide)
 .have ht:=(TmA.set rs).tl mn.toNat mx.toNat;rw[<-zDj,<-zF1]at ht;refine ⟨⟨_,_,_,ht,?_⟩, .inr ⟨rs,mn,mx,rfl,h1,h4⟩⟩;have:mx.toNat=1\/mx.toNat=2\/mx.toNat=3\/mx.toNat=4:=by omega
  rcases this with e | e | e | e <;> rw[e] <;> decide
theorem zBq {α:Type} {p:α->Bool} {l:List α} (h:l.all p=true) {a:α} (ha:a∈l):p a=true:=List.all_eq_true.1 h a ha
theorem few2 {nd:Nd} (h:PtS 2 nd):FewA (auN nd) 1999:=by
 rcases h with ⟨rs,rfl⟩ | ⟨op,kids,hop,rfl,h2,h3,hk⟩ | ⟨k,mn,mx,rfl,h1,h4,hk⟩
 .rw[zDj];exact (TmA.set rs).few (Nat.le_refl _) (by decide)
 .have hkd:∀k∈kids,∃q:Nat×Nat×List (List Nat×Nat×Nat),TmA (auN k) q.1 q.2.1 q.2.2/\prI q∈K9:=λk hm=>by
   obtain ⟨⟨m,M,T,q1,q2⟩,-⟩:=zL8 (hk k hm);exact ⟨(m,M,T),q1,q2⟩
  have hS:=zK6;have hC:=zLl;rcases zHp h2 h3 with ⟨a,b,rfl⟩ | ⟨a,b,c,rfl⟩
  .obtain ⟨qa,a1,a2⟩:=hkd a (by simp)
   obtain ⟨qb,b1,b2⟩:=hkd b (by simp)
   rcases hop with rfl | rfl
   .rw[zFq];refine (TmA.seq [qa,qb] rfl λj q hq=>?_).few (Nat.le_refl _) ?_
    .match j,hq with
     | 0,hq=>injection hq with hq;subst hq;exact a1
     | 1,hq=>injection hq with hq;subst hq;exact b1
     | j+2,hq=>simp at hq
    .rw[zDA,show s2F [qa,qb] [qa,qb].length=(prI qa).2.1+(prI qb).2.1 from rfl,show [qa,qb].map prI=[prI qa,prI qb] from rfl];have:=zBq (zBq hS a2) b2;rw[Bool.and_eq_true,decide_eq_true_eq]at this;exact this.1
   .rw[zFm];refine (TmA.cho (m:=0) (M:=4) [qa.2.2,qb.2.2] rfl λj q hq=>?_).few (Nat.le_refl _) ?_
    .match j,hq with
     | 0,hq=>injection hq with hq;subst hq;exact ⟨_,_,a1,Nat.zero_le _,zJR _ a2⟩
     | 1,hq=>injection hq with hq;subst hq;exact ⟨_,_,b1,Nat.zero_le _,zJR _ b2⟩
     | j+2,hq=>simp at hq
    .rw[zEa,show ([qa.2.2,qb.2.2].map (List.map Prod.snd)).flatten=[(prI qa).2.2,(prI qb).2.2].flatten from rfl];have:=zBq (zBq hC a2) b2;rw[Bool.and_eq_true,decide_eq_true_eq]at this;exact this.1
  .obtain ⟨qa,a1,a2⟩:=hkd a (by simp)
   obtain ⟨qb,b1,b2⟩:=hkd b (by simp)
   obtain ⟨qc,c1,c2⟩:=hkd c (by simp)
   rcases hop with rfl | rfl
   .rw[zFq];refine (TmA.seq [qa,qb,qc] rfl λj q hq=>?_).few (Nat.le_refl _) ?_
    .match j,hq with
     | 0,hq=>injection hq with hq;subst hq;exact a1
     | 1,hq=>injection hq with hq;subst hq;exact b1
     | 2,hq=>injection hq with hq;subst hq;exact c1
     | j+3,hq=>simp at hq
    .rw[zDA,show s2F [qa,qb,qc] [qa,qb,qc].length=(prI qa).2.1+((prI qb).2.1+(prI qc).2.1) from rfl,show [qa,qb,qc].map prI=[prI qa,prI qb,prI qc] from rfl];have:=zBq (zBq hS a2) b2;rw[Bool.and_eq_true]at this;exact of_decide_eq_true (zBq this.2 c2)
   .rw[zFm];refine (TmA.cho (m:=0) (M:=4) [qa.2.2,qb.2.2,qc.2.2] rfl λj q hq=>?_).few (Nat.le_refl _) ?_
    .match j,hq with
     | 0,hq=>injection hq with hq;subst hq;exact ⟨_,_,a1,Nat.zero_le _,zJR _ a2⟩
     | 1,hq=>injection hq with hq;subst hq;exact ⟨_,_,b1,Nat.zero_le _,zJR _ b2⟩
     | 2,hq=>injection hq with hq;subst hq;exact ⟨_,_,c1,Nat.zero_le _,zJR _ c2⟩
     | j+3,hq=>simp at hq
    .rw[zEa,show ([qa.2.2,qb.2.2,qc.2.2].map (List.map Prod.snd)).flatten=[(prI qa).2.2,(prI qb).2.2,(prI qc).2.2].flatten from rfl];have:=zBq (zBq hC a2) b2;rw[Bool.and_eq_true]at this;exact of_decide_eq_true (zBq this.2 c2)
 .have hmx:mx.toNat=1\/mx.toNat=2\/mx.toNat=3\/mx.toNat=4:=by omega
  rw[zF1];rcases (zL8 hk).2 with ⟨m,M,T,q1,q2⟩ | ⟨rs,mn2,mx2,rfl,g1,g2⟩
  .have hR:=zBq zLy q2;have hs:∀n,s2F (List.replicate n (m,M,T)) n=n*M:=by
    intro n
    induction n with
    | zero=>simp[s2F]
    | succ n ih=>rw[List.replicate_succ,s2F,ih,Nat.succ_mul];show M+n*M=_;omega
   refine (q1.tl mn.toNat mx.toNat).few (Nat.le_of_eq (hs _)) ?_;rw[zDA,List.map_replicate];exact of_decide_eq_true (zBq hR (a:=mx.toNat) (by rcases hmx with e | e | e | e <;> rw[e] <;> decide))
  .rw[zF1,zDj];have hmx2:mx2.toNat=1\/mx2.toNat=2\/mx2.toNat=3\/mx2.toNat=4:=by omega
   have ht:=(((TmA.set rs).tl mn2.toNat mx2.toNat).tl mn.toNat mx.toNat);refine ⟨_,?_,λw hw=>covU (cls:=inR rs) ht (λρ c k=>?_) (λρ c k hc=>?_) w hw⟩
   .rw[List.length_map,List.length_range];rcases hmx with e | e | e | e <;> rcases hmx2 with e2 | e2 | e2 | e2 <;> rw[e,e2] <;> decide
   .match ρ,k with
    | i::j::π,k=>exact k.2.2.2.2.2
   .match ρ,k with
    | i::j::π,k=>exact ⟨k.1,k.2.1,k.2.2.1,k.2.2.2.1,k.2.2.2.2,hc⟩
theorem zME {nd:Nd} (h:PtS 2 nd) {b:Pb} {x:Prt} {gs:List (List Nat)} {rows:List (List Ed)} {acs:List Bool} {i:Nat} (hc:CmI b x gs rows acs i) (hm:Mk ⟨[],[]⟩ b x (auN nd)):gs.length<=2000:=by
 obtain ⟨LL,h1,h2⟩:=few2 h;obtain ⟨L,hL⟩:=hm.lab;have:=hc.cover hL hm.good hm.len LL h2;omega
end Go.Proofs.YtadjdkickjjieaaGreatDoor
