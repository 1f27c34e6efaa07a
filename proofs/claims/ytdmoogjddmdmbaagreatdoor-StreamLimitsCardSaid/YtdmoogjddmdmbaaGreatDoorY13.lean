/- Decimal digits: what they spell, how many there are. No program in sight. · Names of groups of positions and of what states do: told apart. No program in sight. · Edges of a group between cuts. No program in sight. · Compile: what the groups are on the way, and the machine of all of them. No program in sight. · The measure of how irregular bytes are, as a plain function: it is never below 0. No program in sight. -/
import Derived.Lib.ItoaNum
import Derived.Lib.Itoa
import Derived.Test.YtdmoogjddmdmbaaGreatDoorY05
namespace Go.Proofs.YtdmoogjddmdmbaaGreatDoor
set_option linter.unusedVariables false
set_option linter.unusedSimpArgs false
set_option maxRecDepth 100000
open Go
theorem dig_digit (n:Nat):∀c∈Lib.decDigits n,48<=c.toNat/\c.toNat<=57:=by
 induction n using Nat.strongRecOn with
 | _ n ih=>
  rw[Lib.decDigits]
  split
  .intro c hc;simp only[List.mem_singleton]at hc;subst hc;rw[UInt8.toNat_ofNat'];omega
  .intro c hc;rcases List.mem_append.1 hc with hc | hc
   .exact ih (n / 10) (by omega) c hc
   .simp only[List.mem_singleton]at hc;subst hc;rw[UInt8.toNat_ofNat'];omega
def valF:List UInt8->Nat->Nat
 | [],a=>a
 | c::r,a=>valF r (a*10+(c.toNat - 48))
theorem valF_app:∀(a b:List UInt8) (n:Nat),valF (a++b) n=valF b (valF a n)
 | [],b,n=>rfl
 | c::r,b,n=>by rw[List.cons_append,valF,valF,valF_app r b]
theorem valF_dec (n:Nat):valF (Lib.decDigits n) 0=n:=by
 induction n using Nat.strongRecOn with
 | _ n ih=>
  rw[Lib.decDigits]
  split
  .show 0*10+_=n;rw[UInt8.toNat_ofNat'];omega
  .rw[valF_app,ih (n / 10) (by omega)]
   show n / 10*10+_=n;rw[UInt8.toNat_ofNat'];omega
theorem dec_len (n k:Nat) (h:n<10 ^ (k+1)):(Lib.decDigits n).length<=k+1:=by
 induction k generalizing n with
 | zero=>rw[Lib.decDigits,dif_pos (by simpa using h)];simp
 | succ k ih=>
  rw[Lib.decDigits]
  split
  .simp
  .rw[List.length_append];have:=ih (n / 10) (by rw[Nat.pow_succ]at h;omega)
   simp;omega
end Go.Proofs.YtdmoogjddmdmbaaGreatDoor
namespace Go.Proofs.YtdmoogjddmdmbaaGreatDoor
set_option linter.unusedVariables false
set_option linter.unusedSimpArgs false
set_option maxRecDepth 100000
def isDig (c:UInt8):Prop:=48<=c.toNat/\c.toNat<=57
theorem dig_split:∀{u v:List UInt8} {x y:UInt8} {r s:List UInt8},(∀c∈u,isDig c)->(∀c∈v,isDig c)->¬isDig x->¬isDig y->u++x::r=v++y::s->u=v/\x=y/\r=s
 | [],[],x,y,r,s,_,_,_,_,h=>by
  injection h with h1 h2;exact ⟨rfl,h1,h2⟩
 | [],b::v,x,y,r,s,_,hv,hx,_,h=>by
  injection h with h1 h2;subst h1;exact absurd (hv x (by simp)) hx
 | a::u,[],x,y,r,s,hu,_,_,hy,h=>by
  injection h with h1 h2;subst h1;exact absurd (hu a (by simp)) hy
 | a::u,b::v,x,y,r,s,hu,hv,hx,hy,h=>by
  injection h with h1 h2;obtain ⟨h3,h4,h5⟩:=dig_split (λc hc=>hu c (by simp[hc])) (λc hc=>hv c (by simp[hc])) hx hy h2
  exact ⟨by rw[h1,h3],h4,h5⟩
theorem dec_split {a b:Nat} {x y:UInt8} {r s:List UInt8} (hx:¬isDig x) (hy:¬isDig y) (h:Lib.decDigits a++x::r=Lib.decDigits b++y::s):a=b/\x=y/\r=s:=by
 obtain ⟨h1,h2,h3⟩:=dig_split (dig_digit a) (dig_digit b) hx hy h;refine ⟨?_,h2,h3⟩;have:=valF_dec a;rw[h1,valF_dec]at this;exact this.symm
def nameG:List Nat->List UInt8
 | []=>[]
 | p::r=>Lib.decDigits p++32::nameG r
theorem nameG_inj:∀{a b:List Nat},nameG a=nameG b->a=b
 | [],[],_=>rfl
 | [],q::s,h=>by
  have:=congrArg List.length h;simp[nameG]at this
 | p::r,[],h=>by
  have:=congrArg List.length h;simp[nameG]at this
 | p::r,q::s,h=>by
  obtain ⟨h1,-,h3⟩:=dec_split (by unfold isDig;decide) (by unfold isDig;decide) h
  rw[h1,nameG_inj h3]
theorem nameG_app:∀(a b:List Nat),nameG (a++b)=nameG a++nameG b
 | [],_=>rfl
 | p::r,b=>by rw[List.cons_append,nameG,nameG,nameG_app r b,List.append_assoc,List.cons_append]
theorem nameG_snoc (a:List Nat) (p:Nat):nameG (a++[p])=nameG a++(Lib.decDigits p++[32]):=by
 rw[nameG_app];rfl
theorem nameG_len:∀(a:List Nat),(∀p∈a,p<1000000000)->(nameG a).length<=10*a.length
 | [],_=>Nat.le_refl _
 | p::r,h=>by
  have h1:=nameG_len r (λq hq=>h q (by simp[hq]))
  have h2:=dec_len p 8 (by have:=h p (by simp);omega)
  rw[nameG,List.length_append,List.length_cons,List.length_cons];omega
def addG (gs:List (List Nat)) (l:List Nat):List (List Nat):=if l∈gs then gs else gs++[l]
def descE:List Ed->List UInt8
 | []=>[]
 | e::r=>32::(Lib.decDigits e.lo++45::(Lib.decDigits e.hi++58::(Lib.decDigits e.to++descE r)))
def boolT:Bool->List UInt8
 | true=>[116,114,117,101]
 | false=>[102,97,108,115,101]
def descT (b:Bool) (l:List Ed):List UInt8:=boolT b++descE l
theorem descE_inj:∀{a b:List Ed},descE a=descE b->a=b
 | [],[],_=>rfl
 | [],q::s,h=>by cases h
 | p::r,[],h=>by cases h
 | p::r,q::s,h=>by
  unfold descE at h;injection h with _ h;obtain ⟨h1,-,h⟩:=dec_split (by unfold isDig;decide) (by unfold isDig;decide) h
  obtain ⟨h2,-,h⟩:=dec_split (by unfold isDig;decide) (by unfold isDig;decide) h
  have hto:p.to=q.to/\descE r=descE s:=by
   have hform:∀l:List Ed,descE l=[]\/∃t,descE l=32::t:=λl=>by
    cases l with
    | nil=>exact .inl rfl
    | cons e l=>exact .inr ⟨_,rfl⟩
   -- a byte that is no digit behind both
   have h':Lib.decDigits p.to++(descE r++[32])=Lib.decDigits q.to++(descE s++[32]):=by rw[<-List.append_assoc,h,List.append_assoc]
   obtain ⟨x,t,e1,hx⟩:∃x t,descE r++[32]=x::t/\¬isDig x:=by
    rcases hform r with e | ⟨t,e⟩
    .exact ⟨32,[],by rw[e];rfl,by unfold isDig;decide⟩
    .exact ⟨32,t++[32],by rw[e];rfl,by unfold isDig;decide⟩
   obtain ⟨y,t2,e2,hy⟩:∃x t,descE s++[32]=x::t/\¬isDig x:=by
    rcases hform s with e | ⟨t,e⟩
    .exact ⟨32,[],by rw[e];rfl,by unfold isDig;decide⟩
    .exact ⟨32,t++[32],by rw[e];rfl,by unfold isDig;decide⟩
   rw[e1,e2]at h';obtain ⟨g1,g2,g3⟩:=dec_split hx hy h';refine ⟨g1,?_⟩;have:descE r++[32]=descE s++[32]:=by rw[e1,e2,g2,g3]
   exact List.append_cancel_right this
  obtain ⟨a1,a2,a3⟩:=p;obtain ⟨b1,b2,b3⟩:=q;simp only at h1 h2 hto;rw[h1,h2,hto.1,descE_inj hto.2]
theorem descT_inj {a b:Bool} {l m:List Ed} (h:descT a l=descT b m):a=b/\l=m:=by
 unfold descT at h
 cases a <;> cases b
 .exact ⟨rfl,descE_inj (List.append_cancel_left h)⟩
 .injection h with h;cases h
 .injection h with h;cases h
 .exact ⟨rfl,descE_inj (List.append_cancel_left h)⟩
theorem descE_snoc:∀(l:List Ed) (e:Ed),descE (l++[e])=descE l++(32::(Lib.decDigits e.lo++45::(Lib.decDigits e.hi++58::Lib.decDigits e.to)))
 | [],e=>by simp[descE]
 | a::r,e=>by rw[List.cons_append,descE,descE,descE_snoc r e];simp
def cutR:List (Nat×Nat)->List Nat
 | []=>[]
 | r::l=>r.1::(r.2+1)::cutR l
def cutF (sets:List (List (Nat×Nat))):List Nat->List Nat
 | []=>[]
 | p::l=>cutR ((sets[p]?).getD [])++cutF sets l
theorem cutR_snoc (r:Nat×Nat):∀l,cutR (l++[r])=cutR l++[r.1,r.2+1]
 | []=>rfl
 | a::l=>by rw[List.cons_append,cutR,cutR_snoc r l,cutR];rfl
theorem cutF_snoc (sets:List (List (Nat×Nat))) (p:Nat):∀l,cutF sets (l++[p])=cutF sets l++cutR ((sets[p]?).getD [])
 | []=>by simp[cutF]
 | a::l=>by rw[List.cons_append,cutF,cutF_snoc sets p l,cutF,List.append_assoc]
theorem cutR_mem {r:Nat×Nat}:∀{l:List (Nat×Nat)},r∈l->r.1∈cutR l/\r.2+1∈cutR l
 | a::l,h=>by
  rw[cutR];rcases List.mem_cons.1 h with rfl | h
  .simp
  .have:=cutR_mem h;exact ⟨by simp[this.1],by simp[this.2]⟩
theorem cutF_mem {sets:List (List (Nat×Nat))} {p:Nat} {r:Nat×Nat}:∀{l:List Nat},p∈l->r∈(sets[p]?).getD []->r.1∈cutF sets l/\r.2+1∈cutF sets l
 | a::l,h,hr=>by
  rw[cutF];rcases List.mem_cons.1 h with rfl | h
  .have:=cutR_mem hr;exact ⟨List.mem_append_left _ this.1,List.mem_append_left _ this.2⟩
  .have:=cutF_mem h hr;exact ⟨List.mem_append_right _ this.1,List.mem_append_right _ this.2⟩
theorem cutR_le {m:Nat}:∀{l:List (Nat×Nat)},(∀r∈l,r.1<m/\r.2<m)->∀v∈cutR l,v<=m
 | [],_,v,h=>by cases h
 | a::l,hb,v,h=>by
  rw[cutR]at h;have h1:=hb a (by simp)
  rcases List.mem_cons.1 h with rfl | h
  .omega
  .rcases List.mem_cons.1 h with rfl | h
   .omega
   .exact cutR_le (λr hr=>hb r (by simp[hr])) v h
theorem cutF_le {sets:List (List (Nat×Nat))} {m:Nat} (hb:∀rs∈sets,∀r∈rs,r.1<m/\r.2<m):∀{l:List Nat},∀v∈cutF sets l,v<=m
 | [],v,h=>by cases h
 | a::l,v,h=>by
  rw[cutF]at h;rcases List.mem_append.1 h with h | h
  .refine cutR_le (λr hr=>?_) v h
   cases hs:sets[a]? with
   | none=>rw[hs]at hr;cases hr
   | some rs=>rw[hs]at hr;exact hb rs (List.mem_of_getElem? hs) r hr
  .exact cutF_le hb v h
theorem cutR_len:∀l,(cutR l).length=2*l.length
 | []=>rfl
 | a::l=>by rw[cutR,List.length_cons,List.length_cons,cutR_len l,List.length_cons];omega
theorem cutF_len {sets:List (List (Nat×Nat))} {m:Nat} (hb:∀rs∈sets,rs.length<=m):∀l:List Nat,(cutF sets l).length<=2*m*l.length
 | []=>Nat.zero_le _
 | a::l=>by
  rw[cutF,List.length_append,cutR_len,List.length_cons,Nat.mul_succ];have h1:=cutF_len hb l;have h2:((sets[a]?).getD []).length<=m:=by
   cases hs:sets[a]? with
   | none=>exact Nat.zero_le _
   | some rs=>exact hb rs (List.mem_of_getElem? hs)
  omega
theorem rngF_len:∀{rs:List (Nat×Nat)} {a:Nat},rngF rs=true->rs≠[]->(∀r∈rs,r.2<256)->(∀x,rs.head?=some x->a<=x.1)->rs.length+a<=257
 | [],a,_,h,_,_=>absurd rfl h
 | [x],a,h,_,hb,ha=>by
  have h1:=ha x rfl;have h2:=hb x (by simp)
  simp[rngF]at h;simp;omega
 | x::y::r,a,h,_,hb,ha=>by
  have h1:=ha x rfl;simp only[rngF,Bool.and_eq_true,decide_eq_true_eq]at h;have:=rngF_len (rs:=y::r) (a:=x.2+2) h.2.2 (by simp) (λz hz=>hb z (by simp[hz])) (λz hz=>by simp at hz;subst hz;exact h.2.1)
  simp at this|-;omega
theorem rngF_le {rs:List (Nat×Nat)} (h:rngF rs=true) (hb:∀r∈rs,r.2<256):rs.length<=257:=by
 by_cases h0:rs=[]
 .subst h0;simp
 .have:=rngF_len (a:=0) h h0 hb (λ_ _=>Nat.zero_le _);omega
def vAt (cuts:List Nat) (i:Nat):Nat:=(cuts[i]?).getD 256
def selG (b:Pb) (fo:List Nat) (c:Nat):List Nat:=fo.filter λp=>setP b p c
theorem selG_mem {b:Pb} {fo:List Nat} {c p:Nat}:p∈selG b fo c↔p∈fo/\setP b p c=true:=by unfold selG;exact List.mem_filter
section
variable {b:Pb} {fo cuts:List Nat}
structure CutI (b:Pb) (fo cuts:List Nat):Prop where
 srt:cuts.Pairwise (·<·)
 mem:∀p∈fo,∀r∈(b.sets[p]?).getD [],r.1∈cuts/\r.2+1∈cuts
 le:∀v∈cuts,v<=256
theorem CutI.start (h:CutI b fo cuts) (gs:List (List Nat)):RowI b fo gs [] (vAt cuts 0):=by
 refine RowI.nil λc hc p hp=>?_;unfold setP;refine hold_low (h.mem p hp) λv hv=>?_;unfold vAt at hc
 match cuts,hc,hv,h.srt with
 | a::l,hc,hv,hs=>
  simp at hc;rcases List.mem_cons.1 hv with rfl | hv
  .exact hc
  .have:=(List.pairwise_cons.1 hs).1 v hv;omega
theorem CutI.done (h:CutI b fo cuts) {gs:List (List Nat)} {row:List Ed} {i:Nat} (hi:cuts.length<=i+1) (hr:RowI b fo gs row (vAt cuts i)):RowI b fo gs row 256:=by
 by_cases hil:i<cuts.length
 .have hv:vAt cuts i=cuts[i]:=by unfold vAt;rw[List.getElem?_eq_getElem hil];rfl
  rw[hv]at hr;refine hr.skip (h.le _ (List.getElem_mem hil)) λc h1 _ p hp=>?_;unfold setP;refine hold_high (h.mem p hp) λv hv=>?_;obtain ⟨j,hj,rfl⟩:=List.getElem_of_mem hv;have hs:=h.srt;rw[List.pairwise_iff_getElem]at hs;by_cases hji:j=i
  .subst hji;exact h1
  .have:=hs j i hj hil (by omega);omega
 .have:vAt cuts i=256:=by unfold vAt;rw[List.getElem?_eq_none (by omega)];rfl
  rwa [this]at hr
theorem CutI.const (h:CutI b fo cuts) {i:Nat} (hi:i+1<cuts.length) {c:Nat} (h1:vAt cuts i<=c) (h2:c<vAt cuts (i+1)):∀p∈fo,setP b p c=setP b p (vAt cuts i):=by
 have e1:vAt cuts i=cuts[i]:=by unfold vAt;rw[List.getElem?_eq_getElem (by omega)];rfl
 have e2:vAt cuts (i+1)=cuts[i+1]:=by unfold vAt;rw[List.getElem?_eq_getElem hi];rfl
 intro p hp;rw[e1]at h1|-;rw[e2]at h2;exact hold_const h.srt hi (h.mem p hp) h1 h2
theorem CutI.lt (h:CutI b fo cuts) {i:Nat} (hi:i+1<cuts.length):vAt cuts i<vAt cuts (i+1)/\vAt cuts (i+1)<=256:=by
 have e1:vAt cuts i=cuts[i]:=by unfold vAt;rw[List.getElem?_eq_getElem (by omega)];rfl
 have e2:vAt cuts (i+1)=cuts[i+1]:=by unfold vAt;rw[List.getElem?_eq_getElem hi];rfl
 have hs:=h.srt;rw[List.pairwise_iff_getElem]at hs;rw[e1,e2];exact ⟨hs i (i+1) (by omega) hi (by omega),h.le _ (List.getElem_mem hi)⟩
theorem CutI.skip (h:CutI b fo cuts) {gs:List (List Nat)} {row:List Ed} {i:Nat} (hi:i+1<cuts.length) (hr:RowI b fo gs row (vAt cuts i)) (hn:selG b fo (vAt cuts i)=[]):RowI b fo gs row (vAt cuts (i+1)):=
 hr.skip (Nat.le_of_lt (h.lt hi).1) λc h1 h2 p hp=>by
  rw[h.const hi h1 h2 p hp]
  cases hs:setP b p (vAt cuts i) with
  | false=>rfl
  | true=>
   have:p∈selG b fo (vAt cuts i):=selG_mem.2 ⟨hp,hs⟩;rw[hn]at this
   cases this
theorem addG_len (gs:List (List Nat)) (l:List Nat):gs.length<=(addG gs l).length/\(addG gs l).length<=gs.length+1:=by
 unfold addG
 split
 .omega
 .simp
theorem addG_mem (gs:List (List Nat)) (l:List Nat):l∈addG gs l:=by
 unfold addG
 split
 .assumption
 .simp
theorem addG_pre (gs:List (List Nat)) (l:List Nat):∃more,addG gs l=gs++more/\∀x∈more,x=l:=by
 unfold addG
 split
 .exact ⟨[],by simp,λx hx=>by cases hx⟩
 .exact ⟨[l],rfl,λx hx=>List.mem_singleton.1 hx⟩
theorem RowI.addG {gs:List (List Nat)} {row:List Ed} {v:Nat} (h:RowI b fo gs row v) (l:List Nat):RowI b fo (addG gs l) row v:=by
 unfold Go.Proofs.YtdmoogjddmdmbaaGreatDoor.addG
 split
 .exact h
 .exact h.grow l
theorem getElem?_idxOf {gs:List (List Nat)} {l:List Nat} (h:l∈gs):gs.idxOf l<gs.length/\gs[gs.idxOf l]?=some l:=by
 have h1:=List.idxOf_lt_length_of_mem h;refine ⟨h1,?_⟩;rw[List.getElem?_eq_getElem h1,List.getElem_idxOf]
theorem CutI.add (h:CutI b fo cuts) {gs:List (List Nat)} {row:List Ed} {i:Nat} (hi:i+1<cuts.length) (hr:RowI b fo gs row (vAt cuts i)) (h0:gs[0]?=some []) (hn:selG b fo (vAt cuts i)≠[]) :
  RowI b fo (Go.Proofs.YtdmoogjddmdmbaaGreatDoor.addG gs (selG b fo (vAt cuts i))) (row++[⟨vAt cuts i,vAt cuts (i+1) - 1,(Go.Proofs.YtdmoogjddmdmbaaGreatDoor.addG gs (selG b fo (vAt cuts i))).idxOf (selG b fo (vAt cuts i))⟩]) (vAt cuts (i+1)):=by
 obtain ⟨q1,q2⟩:=getElem?_idxOf (addG_mem gs (selG b fo (vAt cuts i)));refine (hr.addG _).add (h.lt hi).1 ?_ q1 λc h1 h2 p=>?_
 .refine Nat.pos_of_ne_zero λe=>?_;rw[e]at q2;obtain ⟨more,e2,-⟩:=addG_pre gs (selG b fo (vAt cuts i));have hl:0<gs.length:=(List.getElem?_eq_some_iff.1 h0).1;rw[e2,List.getElem?_append_left hl,h0]at q2;exact hn (Option.some.inj q2).symm
 .rw[q2,Option.getD_some,selG_mem];constructor
  .rintro ⟨g1,g2⟩;exact ⟨g1,by rw[h.const hi h1 h2 p g1];exact g2⟩
  .rintro ⟨g1,g2⟩;exact ⟨g1,by rw[<-h.const hi h1 h2 p g1];exact g2⟩
end
def GrowG (b:Pb) (fo:List Nat) (gs gs':List (List Nat)):Prop:=∃more,gs'=gs++more/\(gs.Nodup->gs'.Nodup)/\∀l∈more,l≠[]/\∃c,c<256/\l=selG b fo c
theorem GrowG.refl (b:Pb) (fo:List Nat) (gs:List (List Nat)):GrowG b fo gs gs:=⟨[],by simp,id,λl hl=>by cases hl⟩
theorem GrowG.add {b:Pb} {fo:List Nat} {gs gs':List (List Nat)} (h:GrowG b fo gs gs') {c:Nat} (hc:c<256) (hn:selG b fo c≠[]):GrowG b fo gs (addG gs' (selG b fo c)):=by
 obtain ⟨more,e,hd,hm⟩:=h;by_cases hin:selG b fo c∈gs'
 .rw[addG,if_pos hin];exact ⟨more,e,hd,hm⟩
 .rw[addG,if_neg hin];refine ⟨more++[selG b fo c],by rw[e,List.append_assoc],λhg=>?_,λl hl=>?_⟩
  .rw[List.nodup_append];exact ⟨hd hg,by simp,λx hx y hy=>by rw[List.mem_singleton]at hy;subst hy;rintro rfl;exact hin hx⟩
  .rcases List.mem_append.1 hl with hl | hl
   .exact hm l hl
   .rw[List.mem_singleton]at hl;subst hl;exact ⟨hn,c,hc,rfl⟩
theorem sortE_len:∀{r:List Ed} {b v:Nat},SortE b r->(∀e∈r,e.hi<v)->b<=v->r.length+b<=v
 | [],b,v,_,_,h=>by simpa using h
 | e::r,b,v,h,hv,_=>by
  have h1:=hv e (by simp)
  have:=sortE_len h.2.2 (λf hf=>hv f (by simp[hf])) (by omega:e.hi+1<=v)
  have:=h.1;have:=h.2.1;rw[List.length_cons];omega
theorem RowI.growG {b:Pb} {fo fo':List Nat} {gs gs':List (List Nat)} {row:List Ed} {v:Nat} (h:RowI b fo gs row v) (hg:GrowG b fo' gs gs'):RowI b fo gs' row v:=by
 obtain ⟨more,rfl,-,-⟩:=hg;refine ⟨h.srt,h.hi,λc hc=>?_⟩;have:=h.sp c hc
 cases ht:trn row c with
 | none=>rw[ht]at this;exact this
 | some t=>
  rw[ht]at this;obtain ⟨h0,h1,h2⟩:=this;refine ⟨h0,by rw[List.length_append];omega,λp=>?_⟩
  rw[List.getElem?_append_left h1];exact h2 p
theorem RowI.to {b:Pb} {fo:List Nat} {gs:List (List Nat)} {row:List Ed} (h:RowI b fo gs row 256):∀e∈row,e.to<gs.length/\e.lo<256/\e.hi<256:=λe he=>by
 have h1:=trn_of_mem h.srt he;have h2:=h.hi e he;have h3:e.lo<=e.hi:=by
  have:∀{r:List Ed} {b:Nat},SortE b r->∀g∈r,g.lo<=g.hi:=by
   intro r
   induction r with
   | nil=>intro b _ g hg;cases hg
   | cons a r ih=>
    intro b h g hg;rcases List.mem_cons.1 hg with rfl | hg
    .exact h.2.1
    .exact ih h.2.2 g hg
  exact this h.srt e he
 have h4:=h.sp e.lo (by omega)
 rw[h1]at h4;exact ⟨h4.2.1,by omega,h2⟩
def hitP (b:Pb) (x:Prt):List Nat->Nat->Prop
 | []=>λ_=>False
 | [c]=>λp=>p∈x.first/\setP b p c=true
 | c::d::w=>λp=>(∃q,hitP b x (d::w) q/\p∈folP b q)/\setP b p c=true
structure CmI (b:Pb) (x:Prt) (gs:List (List Nat)) (rows:List (List Ed)) (acs:List Bool) (i:Nat):Prop where
 g0:gs[0]?=some []
 nd:gs.Nodup
 gl:∀g∈gs,∀p∈g,p<b.sets.length
 rl:rows.length=i
 al:acs.length=max i 1
 il:i<=gs.length
 acc:∀j,j<acs.length->((acs[j]?).getD false=true↔if j=0 then x.emp=true else ∃p∈(gs[j]?).getD [],p∈x.last)
 row:∀j,j<i->∃fo,(∀p,p∈fo↔grpF b x gs j p)/\RowI b fo gs ((rows[j]?).getD []) 256
 srt:∀g∈gs,g.Pairwise (·<·)
 rch:∀j,0<j->j<gs.length->(gs[j]?).getD []≠[]/\∃w,∀p,p∈(gs[j]?).getD []↔hitP b x w p
section
variable {b:Pb} {x:Prt} {gs gs':List (List Nat)} {rows:List (List Ed)} {acs:List Bool} {i:Nat}
theorem CmI.start (b:Pb) (x:Prt):CmI b x [[]] [] [x.emp] 0:=by
 refine ⟨rfl,by simp,λg hg p hp=>?_,rfl,rfl,Nat.zero_le _,λj hj=>?_,λj hj=>absurd hj (Nat.not_lt_zero _),λg hg=>by simp at hg;subst hg;exact List.Pairwise.nil,λj h0 hj=>by simp at hj;omega⟩
 .simp at hg;subst hg;cases hp
 .simp at hj;subst hj;simp
theorem grpF_old {b:Pb} {x:Prt} {gs:List (List Nat)} {more:List (List Nat)} {j:Nat} (hj:j<gs.length) (p:Nat):grpF b x (gs++more) j p↔grpF b x gs j p:=by
 unfold grpF;rw[List.getElem?_append_left hj]
theorem CmI.step (h:CmI b x gs rows acs i) (hi:i<gs.length) {fo:List Nat} (hfo:∀p,p∈fo↔grpF b x gs i p) (hfs:fo.Pairwise (·<·)) (hfl:∀p∈fo,p<b.sets.length) (hg:GrowG b fo gs gs') {row:List Ed} (hr:RowI b fo gs' row 256)
  {acs':List Bool} (ha:if i=0 then acs'=acs else ∃a,acs'=acs++[a]/\(a=true↔∃p∈(gs[i]?).getD [],p∈x.last)):CmI b x gs' (rows++[row]) acs' (i+1):=by
 have hg0:=hg;obtain ⟨more,rfl,hnd,hmore⟩:=hg;have h0:0<gs.length:=by omega
 have hal:=h.al;have hil:=h.il;refine ⟨by rw[List.getElem?_append_left h0];exact h.g0,hnd h.nd,?_,by rw[List.length_append,h.rl];rfl,?_,by rw[List.length_append];omega,?_,?_,?_,?_⟩
 .intro g hg p hp;rcases List.mem_append.1 hg with hg | hg
  .exact h.gl g hg p hp
  .obtain ⟨-,c,-,rfl⟩:=hmore g hg;exact hfl p (selG_mem.1 hp).1
 .by_cases hz:i=0
  .rw[if_pos hz]at ha;subst ha;rw[hal];omega
  .rw[if_neg hz]at ha;obtain ⟨a,rfl,-⟩:=ha;rw[List.length_append,hal];simp;omega
 .intro j hj;by_cases hz:i=0
  .rw[if_pos hz]at ha;subst ha;have:=h.acc j hj;rw[hal]at hj;have hj0:j=0:=by omega
   subst hj0;simpa using this
  .rw[if_neg hz]at ha;obtain ⟨a,rfl,ha2⟩:=ha;rw[List.length_append,hal]at hj;simp at hj;by_cases hji:j<acs.length
   .have:=h.acc j hji;rw[List.getElem?_append_left hji,this,List.getElem?_append_left (by omega)]
   .have hje:j=acs.length:=by omega
    have hji2:j=i:=by omega
    subst hji2;rw[List.getElem?_append_right (by omega),if_neg hz,List.getElem?_append_left hi,<-ha2]
    simp[hje]
 .intro j hj;by_cases hji:j<i
  .obtain ⟨fo',h1,h2⟩:=h.row j hji;refine ⟨fo',λp=>by rw[grpF_old (by omega)];exact h1 p,?_⟩
   rw[List.getElem?_append_left (by rw[h.rl];exact hji)]
   exact h2.growG hg0
  .have:j=i:=by omega
   subst this;refine ⟨fo,λp=>by rw[grpF_old hi];exact hfo p,?_⟩
   rw[List.getElem?_append_right (by rw[h.rl];exact Nat.le_refl _),h.rl]
   simpa using hr
 .intro g hg;rcases List.mem_append.1 hg with hg | hg
  .exact h.srt g hg
  .obtain ⟨-,c,-,rfl⟩:=hmore g hg;exact hfs.filter _
 .intro j hj0 hj;by_cases hjl:j<gs.length
  .rw[List.getElem?_append_left hjl];exact h.rch j hj0 hjl
  .have hjm:(gs++more)[j]?=some (gs++more)[j]:=List.getElem?_eq_getElem hj;have hmem:(gs++more)[j]∈more:=by
    rw[List.getElem_append_right (by omega)];exact List.getElem_mem _
   rw[hjm,Option.getD_some];obtain ⟨h1,c,-,h2⟩:=hmore _ hmem;refine ⟨h1,?_⟩;by_cases hz:i=0
   .refine ⟨[c],λp=>?_⟩;rw[h2,selG_mem,hfo p,hz];unfold grpF;rw[if_pos rfl]
    rfl
   .obtain ⟨h3,w,hw⟩:=h.rch i (by omega) hi
    cases w with
    | nil=>
     exfalso
     cases hq:(gs[i]?).getD [] with
     | nil=>exact h3 hq
     | cons a r=>
      have:=(hw a).1 (by rw[hq];simp)
      exact this
    | cons d w=>
     refine ⟨c::d::w,λp=>?_⟩;rw[h2,selG_mem,hfo p];unfold grpF;rw[if_neg hz];show _↔(∃q,hitP b x (d::w) q/\p∈folP b q)/\setP b p c=true;constructor
     .rintro ⟨⟨q,q1,q2⟩,q3⟩;exact ⟨⟨q,(hw q).1 q1,q2⟩,q3⟩
     .rintro ⟨⟨q,q1,q2⟩,q3⟩;exact ⟨⟨q,(hw q).2 q1,q2⟩,q3⟩
theorem setP_big (hb:∀rs∈b.sets,∀r∈rs,r.2<256) {p c:Nat} (hc:256<=c):setP b p c=false:=by
 unfold setP inR;rw[List.any_eq_false];intro r hr
 cases hs:b.sets[p]? with
 | none=>rw[hs]at hr;cases hr
 | some rs=>
  rw[hs]at hr;have:=hb rs (List.mem_of_getElem? hs) r hr;simp;omega
def subsF:Nat->List (List Nat)
 | 0=>[[]]
 | n+1=>subsF n++(subsF n).map (·++[n])
theorem subsF_len:∀n,(subsF n).length=2 ^ n
 | 0=>rfl
 | n+1=>by rw[subsF,List.length_append,List.length_map,subsF_len n,Nat.pow_succ];omega
theorem subsF_mem:∀(n:Nat) (l:List Nat),l.Pairwise (·<·)->(∀p∈l,p<n)->l∈subsF n
 | 0,l,_,h=>by
  cases l with
  | nil=>simp[subsF]
  | cons a r=>exact absurd (h a (by simp)) (Nat.not_lt_zero _)
 | n+1,l,hs,h=>by
  rw[subsF,List.mem_append,List.mem_map];by_cases hn:n∈l
  .right
   have hne:l≠[]:=by rintro rfl;cases hn
   have hl:l=l.dropLast++[l.getLast hne]:=(List.dropLast_concat_getLast hne).symm;have hlast:l.getLast hne=n:=by
    have h1:=h (l.getLast hne) (List.getLast_mem hne);rw[hl]at hn hs;rcases List.mem_append.1 hn with hn | hn
    .have:=(List.pairwise_append.1 hs).2.2 n hn _ (List.mem_singleton.2 rfl);omega
    .exact (List.mem_singleton.1 hn).symm
   refine ⟨l.dropLast,subsF_mem n _ ?_ λp hp=>?_,by rw[<-hlast];exact hl.symm⟩
   .rw[hl]at hs;exact (List.pairwise_append.1 hs).1
   .rw[hl]at hs;have:=(List.pairwise_append.1 hs).2.2 p hp _ (List.mem_singleton.2 rfl);omega
  .left
   exact subsF_mem n l hs λp hp=>by
    have:=h p hp;have:p≠n:=by rintro rfl;exact hn hp
    omega
theorem CmI.count (h:CmI b x gs rows acs i):gs.length<=2 ^ b.sets.length:=by
 rw[<-subsF_len];exact nodup_le h.nd λg hg=>subsF_mem _ _ (h.srt g hg) (h.gl g hg)
theorem CmI.done (h:CmI b x gs rows acs gs.length) (hb:∀rs∈b.sets,∀r∈rs,r.2<256):Vld ⟨rows,acs⟩/\(∀r∈rows,r.length<=256/\∀e∈r,e.lo<256/\e.hi<256)/\∀w,acF ⟨rows,acs⟩ w 0=true↔LP b x w:=by
 have h0:0<gs.length:=(List.getElem?_eq_some_iff.1 h.g0).1;have hal:acs.length=gs.length:=by rw[h.al];omega
 have hrow:∀r∈rows,∃fo,RowI b fo gs r 256:=λr hr=>by
  obtain ⟨j,hj⟩:=List.mem_iff_getElem?.1 hr;have hjl:=(List.getElem?_eq_some_iff.1 hj).1;obtain ⟨fo,-,h2⟩:=h.row j (by rw[<-h.rl];exact hjl)
  rw[hj]at h2;exact ⟨fo,h2⟩
 have hG:GrpM b x gs ⟨rows,acs⟩:=by
  refine ⟨λj hj=>h.acc j (by omega),λj hj c=>?_⟩
  obtain ⟨fo,h1,h2⟩:=h.row j hj;show match trn ((rows[j]?).getD []) c with
   | none=>_
   | some t=>_
  by_cases hc:c<256
  .have h3:=h2.sp c hc
   cases ht:trn ((rows[j]?).getD []) c with
   | none=>rw[ht]at h3;exact λp hp=>h3 p ((h1 p).2 hp)
   | some t=>
    rw[ht]at h3;exact ⟨h3.1,h3.2.1,λp=>by rw[h3.2.2 p,h1 p]⟩
  .have ht:trn ((rows[j]?).getD []) c=none:=by
    cases ht:trn ((rows[j]?).getD []) c with
    | none=>rfl
    | some t=>
     obtain ⟨e,he,-,h4,-⟩:=trn_mem ht;have:=h2.hi e he;omega
   rw[ht];exact λp _=>setP_big hb (by omega)
 refine ⟨⟨by rw[hal,h.rl],λr hr=>?_,λr hr e he=>?_⟩,λr hr=>?_,λw=>?_⟩
 .obtain ⟨fo,h2⟩:=hrow r hr;exact h2.srt
 .obtain ⟨fo,h2⟩:=hrow r hr;show e.to<rows.length;rw[h.rl];exact (h2.to e he).1
 .obtain ⟨fo,h2⟩:=hrow r hr;have:=sortE_len h2.srt h2.hi (Nat.zero_le _);exact ⟨by omega,λe he=>(h2.to e he).2⟩
 .rw[hG.lang w 0 h0];unfold grpL;rw[if_pos rfl]
end
def stL (p:Nat×Nat):Nat×Nat:=if 2147483648<=p.2*p.2 / 1073741824 then (2*p.1+1,p.2*p.2 / 1073741824 / 2) else (2*p.1,p.2*p.2 / 1073741824)
def itL:Nat->Nat×Nat->Nat×Nat
 | 0,p=>p
 | k+1,p=>itL k (stL p)
def lgY (n:Nat):Nat:=Lib.bitLen n - 1
def logF (n:Nat):Nat:=if n<1\/1073741824<n then 0 else (itL 16 (lgY n,n*2 ^ (30-lgY n))).1
theorem lgY_is {n:Nat} (h1:1<=n) (h2:n<=1073741824):2 ^ lgY n<=n/\n<2 ^ (lgY n+1)/\lgY n<=30/\Lib.bitLen n=lgY n+1:=by
 obtain ⟨q1,q2,q3⟩:=Lib.bitLenAux_bounds 64 n (by omega) (by omega)
 have hb:Lib.bitLen n=Lib.bitLenAux 64 n:=rfl;unfold lgY;rw[hb];refine ⟨q2,by rw[show Lib.bitLenAux 64 n - 1+1=Lib.bitLenAux 64 n by omega];exact q3,?_,by omega⟩
 by_cases h:Lib.bitLenAux 64 n - 1<=30
 .exact h
 .have:2 ^ 31<=2 ^ (Lib.bitLenAux 64 n - 1):=Nat.pow_le_pow_right (by decide) (by omega)
  omega
def InL (x:Nat):Prop:=1073741824<=x/\x<2147483648
theorem inL_start {n:Nat} (h1:1<=n) (h2:n<=1073741824):InL (n*2 ^ (30-lgY n)):=by
 obtain ⟨q1,q2,q3,-⟩:=lgY_is h1 h2;have e:2 ^ lgY n*2 ^ (30-lgY n)=1073741824:=by rw[<-Nat.pow_add,show lgY n+(30-lgY n)=30 by omega]
 have e2:2 ^ (lgY n+1)*2 ^ (30-lgY n)=2147483648:=by rw[<-Nat.pow_add,show lgY n+1+(30-lgY n)=31 by omega]
 have hp:0<2 ^ (30-lgY n):=Nat.two_pow_pos _;have g1:=Nat.mul_le_mul_right (2 ^ (30-lgY n)) q1;have g2:=Nat.mul_lt_mul_of_pos_right q2 hp;exact ⟨by omega,by omega⟩
theorem inL_sq {x:Nat} (h:InL x):1073741824<=x*x / 1073741824/\x*x / 1073741824<4294967296/\x*x<4611686018427387904:=by
 have g1:1073741824*1073741824<=x*x:=Nat.mul_le_mul h.1 h.1;have g2:x*x<=2147483647*2147483647:=Nat.mul_le_mul (by have:=h.2;omega) (by have:=h.2;omega)
 refine ⟨?_,?_,by omega⟩
 .rw[Nat.le_div_iff_mul_le (by decide)];exact g1
 .rw[Nat.div_lt_iff_lt_mul (by decide)];omega
theorem inL_step {p:Nat×Nat} (h:InL p.2):InL (stL p).2:=by
 obtain ⟨h1,h2,-⟩:=inL_sq h;unfold stL
 split
 .exact ⟨by show 1073741824<=_ / 2;omega,by show _ / 2<2147483648;omega⟩
 .exact ⟨h1,by show _<2147483648;omega⟩
def LexL (p q:Nat×Nat):Prop:=p.1<q.1\/(p.1=q.1/\p.2<=q.2)
theorem lexL_step {p q:Nat×Nat} (h:LexL p q):LexL (stL p) (stL q):=by
 rcases h with h | ⟨h1,h2⟩
 .left
  have g1:(stL p).1<=2*p.1+1:=by unfold stL; split <;> simp
  have g2:2*q.1<=(stL q).1:=by unfold stL; split <;> simp
  omega
 .have hs:p.2*p.2 / 1073741824<=q.2*q.2 / 1073741824:=Nat.div_le_div_right (Nat.mul_le_mul h2 h2);unfold stL;generalize p.2*p.2 / 1073741824=a at *;generalize q.2*q.2 / 1073741824=b at *;by_cases h3:2147483648<=a
  .have h4:2147483648<=b:=Nat.le_trans h3 hs;rw[if_pos h3,if_pos h4];exact .inr ⟨by show 2*p.1+1=2*q.1+1;omega,Nat.div_le_div_right hs⟩
  .rw[if_neg h3];by_cases h4:2147483648<=b
   .rw[if_pos h4];exact .inl (by show 2*p.1<2*q.1+1;omega)
   .rw[if_neg h4];exact .inr ⟨by show 2*p.1=2*q.1;omega,hs⟩
theorem lexL_it:∀(k:Nat) {p q:Nat×Nat},LexL p q->LexL (itL k p) (itL k q)
 | 0,_,_,h=>h
 | k+1,_,_,h=>lexL_it k (lexL_step h)
theorem logF_mono {a b:Nat} (h1:1<=a) (h2:a<=b) (h3:b<=1073741824):logF a<=logF b:=by
 unfold logF;rw[if_neg (by omega),if_neg (by omega)]
 have hl:LexL (lgY a,a*2 ^ (30-lgY a)) (lgY b,b*2 ^ (30-lgY b)):=by
  obtain ⟨q1,-,-,-⟩:=lgY_is h1 (by omega)
  obtain ⟨-,q2,-,-⟩:=lgY_is (n:=b) (by omega) h3
  have hy:lgY a<=lgY b:=by
   by_cases h:lgY a<=lgY b
   .exact h
   .have:2 ^ (lgY b+1)<=2 ^ lgY a:=Nat.pow_le_pow_right (by decide) (by omega)
    omega
  by_cases he:lgY a=lgY b
  .right
   refine ⟨he,?_⟩;show a*2 ^ (30-lgY a)<=b*2 ^ (30-lgY b);rw[he];exact Nat.mul_le_mul_right _ h2
  .exact .inl (by show lgY a<lgY b;omega)
 rcases lexL_it 16 hl with h | ⟨h,-⟩ <;> omega
theorem itL_le:∀(k:Nat) (p:Nat×Nat),(itL k p).1<=2 ^ k*p.1+(2 ^ k - 1)
 | 0,p=>by show p.1<=1*p.1+0;omega
 | k+1,p=>by
  have h:=itL_le k (stL p);have g1:(stL p).1<=2*p.1+1:=by unfold stL; split <;> simp
  have h2:2 ^ k*(stL p).1<=2 ^ k*(2*p.1+1):=Nat.mul_le_mul_left _ g1;have h3:2 ^ k*(2*p.1+1)=2 ^ (k+1)*p.1+2 ^ k:=by rw[Nat.mul_add,Nat.pow_succ,Nat.mul_assoc];omega
  have h4:2 ^ (k+1)=2 ^ k+2 ^ k:=by rw[Nat.pow_succ];omega
  have h5:0<2 ^ k:=Nat.two_pow_pos _;show (itL k (stL p)).1<=_;omega
theorem logF_le (n:Nat):logF n<=2031615:=by
 unfold logF;by_cases h:n<1\/1073741824<n
 .rw[if_pos h];omega
 .rw[if_neg h];have:=itL_le 16 (lgY n,n*2 ^ (30-lgY n));have h3:=(lgY_is (n:=n) (by omega) (by omega)).2.2.1
  simp only at this;omega
def addE (len n:Nat):Nat:=if 0<n then n*(logF len-logF n) else 0
def cntF (bs:List Nat) (c:Nat):Nat:=if 65536<bs.length then 0 else bs.count c
def sumE (f:Nat->Nat) (len:Nat):Nat->Nat->Nat
 | 0,_=>0
 | k+1,c=>addE len (f c)+sumE f len k (c+1)
def meaF (bs:List Nat):Nat:=sumE (cntF bs) bs.length 256 0
theorem addE_le {len n:Nat} (h:n<=65536):addE len n<=133143920640:=by
 unfold addE
 split
 .have h1:logF len-logF n<=2031615:=by have:=logF_le len;omega
  have:=Nat.mul_le_mul h h1;omega
 .omega
theorem cntF_le (bs:List Nat) (c:Nat):cntF bs c<=65536/\(bs.length<=65536->cntF bs c<=bs.length):=by
 unfold cntF
 split
 .exact ⟨by omega,by omega⟩
 .have:=List.count_le_length (a:=c) (l:=bs);exact ⟨by omega,λ_=>this⟩
end Go.Proofs.YtdmoogjddmdmbaaGreatDoor
