/- Walks. -/
import Derived.Test.YtdmoogjddmdmbaaGreatDoorX01
import Derived.Deep.RegionHeld3
set_option maxRecDepth 100000
set_option maxHeartbeats 16000000
set_option linter.unusedVariables false
set_option linter.unusedSimpArgs false
namespace Go.Proofs.YtdmoogjddmdmbaaGreatDoor
open Go.RowKit
section
open Go
def nX(f:Nat->Bool)(i:Nat):Nat->Bool:=λj=>if j=i then true else f j
theorem jB(f:Nat->Bool)(i j:Nat):(nX f i j=true)=(j=i\/f j=true):=by
 unfold nX;by_cases h:j=i
 .simp[h]
 .simp[h]
def EK(md:Region.Mode)(l:List Oper):Bool:=(List.range l.length).all λi=>match l[i]? with | some o=>o.after.all λe=>!Region.binds md e || decide (e.on<i) | none=>true
def Cc(listed:Array Bool):Nat->Bool:=λi=>listed.getD i false
def fw(md:Region.Mode)(l:List Oper)(f:Nat->Bool):Prop:=∀(j:Nat) (o:Oper),l[j]?=some o->f j=true->∀e∈o.after,Region.binds md e=true->f e.on=true
theorem GB{listed:Array Bool}{i:Nat}(hi:i<listed.size):Cc (listed.setIfInBounds i true)=nX (Cc listed) i:=by
 funext j
 unfold Cc nX;by_cases h:j=i
 .subst h;simp[hi]
 .rw[if_neg h];exact getD_set_ne false (Ne.symm h)
theorem zj{md:Region.Mode}{l:List Oper}{listed:Array Bool}(fS:EK md l=true)(hs:listed.size=l.length)(hr:Region.ready md l.toArray listed=[]):∀n,n<=l.length->∀i,i<n->Cc listed i=true:=by
 intro n
 induction n with
 |zero=>intro _ i hi;exact absurd hi (Nat.not_lt_zero _)
 |succ n ih=>
  intro hn i hi;by_cases cY:i<n
  .exact ih Y i cY
  .obtain rfl:i=n:=Y
   cases hf:Cc listed i with
   |true=>rfl
   |false=>
    exfalso;have hlt:i<l.length:=Y;have hm:i∈Region.ready md l.toArray listed:=by
     rw[mem_ready];refine ⟨?_,l[i],by simp[hlt],λe he hb=>?_⟩
     .have:i<listed.size:=Y;unfold Cc at hf;simpa [this] using hf
     .have h1:=List.all_eq_true.1 fS i (by simpa using hlt)
      simp only[List.getElem?_eq_getElem hlt]at h1;have h2:=Array.all_eq_true_iff_forall_mem.1 h1 e he;simp only[hb,Bool.not_true,Bool.false_or,decide_eq_true_eq]at h2;exact ih Y e.on h2
    rw[hr]at hm
    cases hm
theorem Jg{P:Program}{md:Region.Mode}{l:List Oper}{Q:Exit->Act->World->Prop}(Inv:(Nat->Bool)->Act->World->Prop)(fS:EK md l=true)
  (wO:∀f a w,(∀i,i<l.length->f i=true)->Inv f a w->Q .normal a w)
  (gT:∀(i:Nat) (o:Oper),l[i]?=some o->∀f a w,f i=false->(∀e∈o.after,Region.binds md e=true->f e.on=true)->fw md l f->Inv f a w->wpOp P l.toArray Q i (Inv (nX f i)) a w) :
  ∀(fuel:Nat) (listed:Array Bool) (a:Act) (w:World),listed.size=l.length->l.length<=fuel+(listed.toList.filter id).length->fw md l (Cc listed)->Inv (Cc listed) a w->wpAny P md l.toArray Q fuel listed a w:=by
 intro fuel
 induction fuel with
 |zero=>
  intro listed a w hs hc bB hI;have jb:∀i,i<l.length->Cc listed i=true:=by
   intro i hi;have h1:(listed.toList.filter id).length=listed.toList.length:=by
    have:=List.length_filter_le id listed.toList;simp only[Array.length_toList]at *;omega
   have h2:=List.length_filter_eq_length_iff.1 h1;have h3:=h2 (listed[i]'Y) ξ;unfold Cc;simpa [show i<listed.size by omega] using h3
  refine ⟨?_,wO _ a w jb hI⟩;refine List.eq_nil_iff_forall_not_mem.2 λj hj=>?_;obtain ⟨h0,o,ho,-⟩:=mem_ready.1 hj;have hlt:j<l.length:=by
   have:=(γ ho).1;simpa using this
  have:=jb j hlt;unfold Cc at this;simp only[Array.getD_eq_getD_getElem?]at this h0;rw[Array.getElem?_eq_getElem Y]at this h0;simp at this h0;rw[this]at h0
  cases h0
 |succ fuel ih=>
  intro listed a w hs hc bB hI;refine ⟨λhr=>wO _ a w (zj fS hs hr l.length I) hI,λi hi=>?_⟩;obtain ⟨h0,o,ho,jb⟩:=mem_ready.1 hi;have hlt:i<l.length:=by
   have:=(γ ho).1;simpa using this
  have eW:i<listed.size:=Y;have pj:l[i]?=some o:=by simpa using ho
  have v8:Cc listed i=false:=by unfold Cc;simpa [eW] using h0
  refine wpOp_mono (λa' w' h=>?_) (gT i o pj (Cc listed) a w v8 jb bB hI);rw[<-GB eW]at h;refine ih _ a' w' (by simp[hs]) ?_ ?_ h
  .have Ev:(listed.toList.filter id).length+1=((listed.setIfInBounds i true).toList.filter id).length:=by
    have hb:listed.toList[i]'(by simpa using eW)=false:=by simpa [eW] using h0
    rw[Array.toList_setIfInBounds];have hg:∀(L:List Bool) (i:Nat) (h:i<L.length),L[i]=false->(L.filter id).length+1=((L.set i true).filter id).length:=by
     intro L
     induction L with
     |nil=>intro i h;exact absurd h (Nat.not_lt_zero _)
     |cons x r ihr=>
      intro i h hx
      cases i with
      |zero=>simp only[List.getElem_cons_zero]at hx;subst hx;simp
      |succ i=>
       simp only[List.getElem_cons_succ]at hx;have:=ihr i (by simpa using h) hx
       simp only[List.set_cons_succ,List.filter_cons]
       cases x <;> simp <;> omega
    exact hg _ i _ hb
   omega
  .rw[GB eW];intro j oj ZF hfj e he hb;rw[jB]at hfj|-;rcases hfj with rfl|hfj
   .obtain rfl:oj=o:=Option.some.inj (ZF.symm.trans pj);exact Or.inr (jb e he hb)
   .exact Or.inr (bB j oj ZF hfj e he hb)
theorem jC{P:Program}{id:Nat}{l:List Oper}{Q:Exit->Act->World->Prop}{a:Act}{w:World}(hm:P.follows .mixedOrders=true)(Inv:(Nat->Bool)->Act->World->Prop)(fS:EK .any l=true)
  (h0:Inv (λ_=>false) a w.drew)
  (wO:∀f a w,(∀i,i<l.length->f i=true)->Inv f a w->Q .normal a w)
  (gT:∀(i:Nat) (o:Oper),l[i]?=some o->∀f a w,f i=false->(∀e∈o.after,Region.binds .any e=true->f e.on=true)->fw .any l f->Inv f a w->wpOp P l.toArray Q i (Inv (nX f i)) a w):(Code.region id l.toArray true).wp P Q a w:=by
 refine wp_region_any hm (Jg Inv fS wO gT _ _ _ _ ξ ξ ?_ ?_)
 .intro j o _ hf;unfold Cc at hf;simp only[Array.getD_eq_getD_getElem?,Array.getElem?_replicate]at hf;split at hf <;> simp at hf
 .have:Cc (Array.replicate l.toArray.size false)=λ_=>false:=by
   funext j
   unfold Cc;simp only[Array.getD_eq_getD_getElem?,Array.getElem?_replicate];split <;> simp
  rw[this];exact h0
def EL(P:Program)(ops:Array Oper)(Q:Exit->Act->World->Prop)(Inv:(Nat->Bool)->Act->World->Prop)(i:Nat)(r:List Oper):Prop:=
 ∀(k:Nat) (o:Oper),r[k]?=some o->∀f a w,f (i+k)=false->(∀e∈o.after,Region.binds .any e=true->f e.on=true)->fw .any ops.toList f->Inv f a w->wpOp P ops Q (i+k) (Inv (nX f (i+k))) a w
def Cd(f:Nat->Bool):List Edge->Prop
 | []=>True
 |e::r=>(Region.binds .any e=true->f e.on=true)/\Cd f r
theorem uQ{f:Nat->Bool}:∀{l:List Edge},(∀e∈l,Region.binds .any e=true->f e.on=true)->Cd f l
 | [],_=>trivial
 |e::r,h=>⟨h e ξ,uQ λx hx=>h x (by simp[hx])⟩
theorem EL.cons{P:Program}{ops:Array Oper}{Q:Exit->Act->World->Prop}{Inv:(Nat->Bool)->Act->World->Prop}{i:Nat}{o:Oper}{r:List Oper}(ho:ops[i]?=some o)
  (h:∀f a w,f i=false->Cd f o.after.toList->fw .any ops.toList f->Inv f a w->∀K:Act->World->Prop,Shut (∀a' w',Inv (nX f i) a' w'->K a' w')->if Region.wanted o (yielded ops a.tmps)=true then Oper.wp P o a w K Q else K (a.put o.dst undef) w)
  (hr:EL P ops Q Inv (i+1) r):EL P ops Q Inv i (o::r):=by
 intro k o' hk f a w h0 eg bB hI
 cases k with
 |zero=>
  simp only[List.getElem?_cons_zero,Option.some.injEq]at hk;subst hk;exact wpOp_step ho λK' hK=>h f a w h0 (uQ λe he=>eg e (Array.mem_toList_iff.1 he)) bB hI K' hK
 |succ k=>
  have e:i+(k+1)=i+1+k:=Y;rw[e]at h0|-;exact hr k o' (by simpa using hk) f a w h0 eg bB hI
def ay(a:Act):List Oper->Nat->(Nat->Value)->Act
 | [],_,_=>a
 |o::r,i,v=>ay (a.put o.dst (v i)) r (i+1) v
def rr(v:Nat->Value)(i:Nat)(x:Value):Nat->Value:=λj=>if j=i then x else v j
theorem nu(v:Nat->Value)(i:Nat)(x:Value):rr v i x i=x:=by unfold rr;rw[if_pos rfl]
theorem nw(v:Nat->Value){i j:Nat}(x:Value)(h:j≠i):rr v i x j=v j:=by unfold rr;rw[if_neg h]
theorem MX(a:Act)(d:Option Tmp)(x y:Value):(a.put d x).put d y=a.put d y:=by
 cases d with
 |none=>rfl
 |some d=>simp[Act.put]
theorem Rc(a:Act)(d:Tmp):a.put (some d) (a.tmps.getD d undef)=a:=by
 obtain ⟨t,ds⟩:=a;simp only[Act.put]
 congr 1
 apply Array.ext ξ;intro i h1 h2;by_cases h:d=i
 .subst h;simp[h2]
 .rw[Array.getElem_setIfInBounds (by exact h2)];simp[h]
theorem oz(x:Value):∀(l:List Oper) (a:Act) (i k:Nat) (v:Nat->Value),k<i->ay a l i (rr v k x)=ay a l i v
 | [],_,_,_,_,_=>rfl
 |o::r,a,i,k,v,h=>by
  show ay (a.put o.dst (rr v k x i)) r (i+1) _=ay (a.put o.dst (v i)) r (i+1) v;rw[nw v x Y,oz x r _ (i+1) k v Y]
def ru:List Oper->Bool
 | []=>true
 |o::r=>(match o.dst with|none=>true|some d=>r.all λu=>decide (u.dst≠some d)) && ru r
theorem uR(d:Option Tmp)(x:Value):∀(l:List Oper) (a:Act) (i:Nat) (v:Nat->Value),(∀u∈l,∀e,d=some e->u.dst≠some e)->(ay a l i v).put d x=ay (a.put d x) l i v
 | [],_,_,_,_=>rfl
 |o::r,a,i,v,h=>by
  show (ay (a.put o.dst (v i)) r (i+1) v).put d x=ay ((a.put d x).put o.dst (v i)) r (i+1) v;rw[uR d x r _ (i+1) v (λu hu=>h u (by simp[hu])),Act.put_comm]
  intro e he hx;exact h o ξ e hx he
theorem kM(x:Value):∀(l:List Oper) (a:Act) (i k:Nat) (o:Oper) (v:Nat->Value),ru l=true->l[k]?=some o->(ay a l i v).put o.dst x=ay a l i (rr v (i+k) x)
 | [],_,_,_,_,_,_,h=>by simp at h
 |u::r,a,i,k,o,v,xz,h=>by
  rw[ru,Bool.and_eq_true]at xz
  cases k with
  |zero=>
   simp only[List.getElem?_cons_zero,Option.some.injEq]at h;subst h;show (ay (a.put u.dst (v i)) r (i+1) v).put u.dst x=ay (a.put u.dst (rr v i x i)) r (i+1) (rr v i x);rw[nu,oz x r _ _ _ v Y,uR,MX];intro w hw e he;have:=xz.1;rw[he]at this;simpa using List.all_eq_true.1 this w hw
  |succ k=>
   show (ay (a.put u.dst (v i)) r (i+1) v).put o.dst x=ay (a.put u.dst (rr v (i+(k+1)) x i)) r (i+1) _;rw[nw v x Y,kM x r _ (i+1) k o v xz.2 (by simpa using h)]
   congr 2
   omega
theorem xJ{a:Act}:∀(r:List Oper) (k:Nat) (v:Nat->Value),(∀j o d,r[j]?=some o->o.dst=some d->v (k+j)=a.tmps.getD d undef)->ay a r k v=a
 | [],_,_,_=>rfl
 |o::r,k,v,h=>by
  show ay (a.put o.dst (v k)) r (k+1) v=a;have he:a.put o.dst (v k)=a:=by
   cases hd:o.dst with
   |none=>rfl
   |some d=>
    have:=h 0 o d ξ hd;rw[Nat.add_zero]at this;rw[this,Rc]
  rw[he];refine xJ r (k+1) v λj u d hu hd=>?_;have:=h (j+1) u d (by simpa using hu) hd
  rwa [show k+(j+1)=k+1+j by omega]at this
theorem oU(l:List Oper)(a:Act)(i:Nat):∃v:Nat->Value,ay a l i v=a/\∀j d,(l[j]?).bind (·.dst)=some d->v (i+j)=a.tmps.getD d undef:=by
 refine ⟨λj=>match l[j-i]? with|some o=>(match o.dst with|some d=>a.tmps.getD d undef|none=>undef)|none=>undef,?_,λj d hd=>?_⟩
 .refine xJ l i _ λj o d ho hd=>?_;have e:i+j-i=j:=Y;simp only[e,ho,hd]
 .have e:i+j-i=j:=Y
  cases ho:l[j]? with
  |none=>rw[ho]at hd;cases hd
  |some o=>rw[ho]at hd;simp only[Option.bind_some]at hd;simp only[e,ho,hd]
def oA(Fact:Nat->Value->World->Prop)(v:Nat->Value)(w:World):List Edge->Prop
 | []=>True
 |e::r=>(Region.binds .any e=true->Fact e.on (v e.on) w)/\oA Fact v w r
theorem qe{Fact:Nat->Value->World->Prop}{v:Nat->Value}{w:World}:∀{l:List Edge},(∀e∈l,Region.binds .any e=true->Fact e.on (v e.on) w)->oA Fact v w l
 | [],_=>trivial
 |e::r,h=>⟨h e ξ,qe λx hx=>h x (by simp[hx])⟩
def fB(l:List Oper):Nat->Nat->Nat->Bool
 |0,i,j=>decide (i=j)
 | n+1,i,j=>decide (i=j) || match l[i]? with | some o=>o.after.toList.any λe=>Region.binds .any e && fB l n e.on j | none=>false
theorem fC{l:List Oper}{f:Nat->Bool}(bB:fw .any l f):∀(n i j:Nat),fB l n i j=true->f i=true->f j=true
 |0,i,j,h,hf=>by simp only[fB,decide_eq_true_eq]at h;subst h;exact hf
 |n+1,i,j,h,hf=>by
  rw[fB,Bool.or_eq_true,decide_eq_true_eq]at h;rcases h with rfl|h
  .exact hf
  .cases ho:l[i]? with
   |none=>rw[ho]at h;cases h
   |some o=>
    rw[ho]at h;obtain ⟨e,he,hr⟩:=List.any_eq_true.1 h;rw[Bool.and_eq_true]at hr;exact fC bB n e.on j hr.2 (bB i o ho hf e (Array.mem_toList_iff.1 he) hr.1)
theorem uS{l:List Oper}{f:Nat->Bool}(bB:fw .any l f)(n i j:Nat)(hr:fB l n i j=true)(h0:f j=false):f i=false:=by
 cases h:f i with
 |false=>rfl
 |true=>rw[fC bB n i j hr h]at h0;cases h0
def QK(Q:Exit->Act->World->Prop)(K:Act->World->Prop):Exit->Act->World->Prop
 | .normal=>K
 |e=>Q e
theorem acP{P:Program}{o:Oper}{a:Act}{w:World}{K:Act->World->Prop}{Q:Exit->Act->World->Prop}(h:o.wp P a w K (QK Q K)):o.wp P a w K Q:=by
 unfold Oper.wp at *;generalize (execOp a.eval o).run P w=r at *
 cases r with
 |ok n w'=>
  cases n <;> simp only[Oper.upon]at h|- <;>
   first
    |exact h
    |exact Calls.mono h (λe w'' he=>by cases e <;> exact he)
 |halt x w'=>cases x <;> simp only[Oper.upon]at h|- <;> exact h
theorem kN{P:Program}{ops:Array Oper}{Q:Exit->Act->World->Prop}{i:Nat}{o:Oper}{K:Act->World->Prop}{a:Act}{w:World}(ho:ops[i]?=some o)(h:wpList P ops (QK Q K) [o] a w):wpOp P ops Q i K a w:=by
 unfold wpOp;rw[ho];show if Region.wanted o (yielded ops a.tmps)=true then _ else _;unfold wpList at h;split
 .rename_i hw
  rw[if_pos hw]at h;exact h.imp (λh=>acP h) id
 .rename_i hw
  rw[if_neg hw]at h;exact h
def dJ(P:Program)(l:List Oper)(Q:Exit->Act->World->Prop)(a:Act)(Fact:(Nat->Bool)->Nat->Value->World->Prop)(S:(Nat->Bool)->World->Prop)(i:Nat)(r:List Oper):Prop:=
 ∀(k:Nat) (o:Oper),r[k]?=some o->∀f v w,f (i+k)=false->Cd f o.after.toList->oA (Fact f) v w o.after.toList->(∀j,f j=true->Fact f j (v j) w)->fw .any l f->(∀j d,(l[j]?).bind (·.dst)=some d->f j=false->v j=a.tmps.getD d undef)->S f w->∀K:Act->World->Prop,
  Shut (∀x w',S (nX f (i+k)) w'->(∀j,j≠i+k->f j=true->Fact f j (v j) w->Fact (nX f (i+k)) j (v j) w')->Fact (nX f (i+k)) (i+k) x w'->K ((ay a l 0 v).put o.dst x) w')->
  wpList P l.toArray (QK Q K) [o] (ay a l 0 v) w
theorem dJ.nil{P:Program}{l:List Oper}{Q:Exit->Act->World->Prop}{a:Act}{Fact:(Nat->Bool)->Nat->Value->World->Prop}{S:(Nat->Bool)->World->Prop}{i:Nat}:dJ P l Q a Fact S i []:=λk o h=>by simp at h
theorem dJ.cons{P:Program}{l:List Oper}{Q:Exit->Act->World->Prop}{a:Act}{Fact:(Nat->Bool)->Nat->Value->World->Prop}{S:(Nat->Bool)->World->Prop}{i:Nat}{o:Oper}{r:List Oper}
  (h:∀f v w,f i=false->Cd f o.after.toList->oA (Fact f) v w o.after.toList->(∀j,f j=true->Fact f j (v j) w)->fw .any l f->(∀j d,(l[j]?).bind (·.dst)=some d->f j=false->v j=a.tmps.getD d undef)->S f w->∀K:Act->World->Prop,
   Shut (∀x w',S (nX f i) w'->(∀j,j≠i->f j=true->Fact f j (v j) w->Fact (nX f i) j (v j) w')->Fact (nX f i) i x w'->K ((ay a l 0 v).put o.dst x) w')->
   wpList P l.toArray (QK Q K) [o] (ay a l 0 v) w)
  (hr:dJ P l Q a Fact S (i+1) r):dJ P l Q a Fact S i (o::r):=by
 intro k o' hk
 cases k with
 |zero=>
  simp only[List.getElem?_cons_zero,Option.some.injEq]at hk;subst hk;exact h
 |succ k=>
  have e:i+(k+1)=i+1+k:=Y;rw[e];exact hr k o' (by simpa using hk)
theorem sS{P:Program}{id:Nat}{l:List Oper}{Q:Exit->Act->World->Prop}{a:Act}{w:World}(Fact:(Nat->Bool)->Nat->Value->World->Prop)(S:(Nat->Bool)->World->Prop)
  (hm:P.follows .mixedOrders=true) (fS:EK .any l=true) (xz:ru l=true) (h0:S (λ_=>false) w.drew)
  (uT:dJ P l Q a Fact S 0 l)
  (wO:∀f v w',(∀i,i<l.length->f i=true)->(∀i,i<l.length->Fact f i (v i) w')->S f w'->Q .normal (ay a l 0 v) w'):(Code.region id l.toArray true).wp P Q a w:=by
 refine jC hm (λf a' w'=>∃v,a'=ay a l 0 v/\S f w'/\(∀j,f j=true->Fact f j (v j) w')/\∀j d,(l[j]?).bind (·.dst)=some d->f j=false->v j=a.tmps.getD d undef) fS ?_ ?_ ?_
 .obtain ⟨v,hv,ho⟩:=oU l a 0;exact ⟨v,hv.symm,h0,λj hj=>(by cases hj),λj d hd _=>by have:=ho j d hd;rwa [Nat.zero_add]at this⟩
 .rintro f _ w' jb ⟨v,rfl,hS,hF,-⟩;exact wO f v w' jb (λi hi=>hF i (jb i hi)) hS
 .rintro i o ho f _ w' hf eg bB ⟨v,rfl,hS,hF,hU⟩;refine wpOp_mono (λ_ _ h=>h) (kN (by simpa using ho) ?_)
  have h1:=uT i o ho f v w' (by rwa [Nat.zero_add]) (uQ λe he=>eg e (Array.mem_toList_iff.1 he)) (qe λe he hb=>hF _ (eg e (Array.mem_toList_iff.1 he) hb)) hF bB hU hS (λa' w''=>∃v,a'=ay a l 0 v/\S (nX f i) w''/\(∀j,nX f i j=true->Fact (nX f i) j (v j) w'')/\∀j d,(l[j]?).bind (·.dst)=some d->nX f i j=false->v j=a.tmps.getD d undef)
  rw[Nat.zero_add]at h1;refine h1 (λx w'' Px ajI lO=>⟨rr v i x,?_,Px,λj hj=>?_,λj d hd hj=>?_⟩)
  .rw[kM x l a 0 i o v xz ho,Nat.zero_add]
  .by_cases h:j=i
   .subst h;rw[nu];exact lO
   .rw[nw v x h];rw[jB]at hj;have hj':=hj.resolve_left h;exact ajI j h hj' (hF j hj')
  .have AU:j≠i:=by
    rintro rfl;unfold nX at hj;rw[if_pos rfl]at hj
    cases hj
   rw[nw v x AU];unfold nX at hj;rw[if_neg AU]at hj;exact hU j d hd hj
end
def MY(l:List Oper)(n:Nat):Bool:=(List.range l.length).all λi=>decide (i<n) || (List.range i).all λj=>fB l 60 i j
def cM(P:Program)(ops:Array Oper)(Q:Exit->Act->World->Prop)(a:Act)(l:List Oper)(Fact:Nat->Value->World->Prop)(R:Nat->World->World->Prop)(z:Nat)(S:Bool->World->Prop)(i:Nat)(r:List Oper):Prop:=
 ∀(k:Nat) (o:Oper),r[k]?=some o->∀v w' c,(i+k=z->c=false)->S c w'->oA Fact v w' o.after.toList->∀K:Act->World->Prop,
  Shut (∀x w'',S (decide (i+k=z) || c) w''->R (i+k) w' w''->Fact (i+k) x w''->K ((ay a l 0 v).put o.dst x) w'')->wpList P ops (QK Q K) [o] (ay a l 0 v) w'
theorem cM.nil{P:Program}{ops:Array Oper}{Q:Exit->Act->World->Prop}{a:Act}{l:List Oper}{Fact:Nat->Value->World->Prop}{R:Nat->World->World->Prop}{z:Nat}{S:Bool->World->Prop}{i:Nat}:cM P ops Q a l Fact R z S i []:=λk o h=>by simp at h
theorem cM.cons{P:Program}{ops:Array Oper}{Q:Exit->Act->World->Prop}{a:Act}{l:List Oper}{Fact:Nat->Value->World->Prop}{R:Nat->World->World->Prop}{z:Nat}{S:Bool->World->Prop}{i:Nat}{o:Oper}{r:List Oper}
  (h:∀v w' c,(i=z->c=false)->S c w'->oA Fact v w' o.after.toList->∀K:Act->World->Prop,Shut (∀x w'',S (decide (i=z) || c) w''->R i w' w''->Fact i x w''->K ((ay a l 0 v).put o.dst x) w'')->wpList P ops (QK Q K) [o] (ay a l 0 v) w')
  (hr:cM P ops Q a l Fact R z S (i+1) r):cM P ops Q a l Fact R z S i (o::r):=by
 intro k o' hk
 cases k with
 |zero=>
  simp only[List.getElem?_cons_zero,Option.some.injEq]at hk;subst hk;exact h
 |succ k=>
  have e:i+(k+1)=i+1+k:=Y;rw[e];exact hr k o' (by simpa using hk)
theorem iz{l:List Oper}{f:Nat->Bool}(bB:fw .any l f){n i j:Nat}{o:Oper}(ho:l[i]?=some o)(eg:∀e∈o.after,Region.binds .any e=true->f e.on=true)(hr:fB l n i j=true)(DN:i≠j):f j=true:=by
 cases n with
 |zero=>simp only[fB,decide_eq_true_eq]at hr;exact absurd hr DN
 |succ n=>
  rw[fB,Bool.or_eq_true,decide_eq_true_eq,ho]at hr;obtain ⟨e,he,hr⟩:=List.any_eq_true.1 (hr.resolve_left DN);rw[Bool.and_eq_true]at hr;exact fC bB n e.on j hr.2 (eg e (Array.mem_toList_iff.1 he) hr.1)
theorem dX{l:List Oper}{n:Nat}(h:MY l n=true){i j:Nat}(hi:i<l.length)(hn:n<=i)(hj:j<i):fB l 60 i j=true:=by
 have h1:=List.all_eq_true.1 h i (List.mem_range.2 hi);rw[Bool.or_eq_true,decide_eq_true_eq]at h1;exact List.all_eq_true.1 (h1.resolve_left Y) j (List.mem_range.2 hj)
theorem Re(f:Nat->Bool)(i z:Nat){S:Bool->World->Prop}{w:World}(h:S (decide (i=z) || f z) w):S (nX f i z) w:=by
 unfold nX;by_cases hi:z=i
 .subst hi;rw[if_pos rfl];simpa using h
 .rw[if_neg hi];rw[decide_eq_false (Ne.symm hi)]at h;simpa using h
theorem GC{l:List Oper}(h:EK .any l=true){i:Nat}{o:Oper}(ho:l[i]?=some o){e:Edge}(he:e∈o.after)(hb:Region.binds .any e=true):e.on<i:=by
 have h1:=List.all_eq_true.1 h i (List.mem_range.2 (List.getElem?_eq_some_iff.1 ho).1);rw[ho]at h1;have h2:=Array.all_eq_true_iff_forall_mem.1 h1 e he;rw[hb]at h2;simpa using h2
theorem tS{P:Program}{id:Nat}{L:List Oper}{Q:Exit->Act->World->Prop}{a:Act}{w:World}(n z:Nat)(T3:z<n)(R:Nat->World->World->Prop)(S:Bool->World->Prop)(Fact:Nat->Value->World->Prop)
  (hm:P.follows .mixedOrders=true) (fS:EK .any L=true) (xz:ru (L.take n)=true) (hB:MY L n=true) (hn:n<L.length)
  (h0:S false w.drew) (cB:∀i j x u u',j≠i->R i u u'->Fact j x u->Fact j x u')
  (uT:cM P L.toArray Q a (L.take n) Fact R z S 0 (L.take n))
  (wO:∀v w',S true w'->(∀i,i<n->Fact i (v i) w')->wpList P L.toArray Q (L.drop n) (ay a (L.take n) 0 v) w'):(Code.region id L.toArray true).wp P Q a w:=by
 have htl:(L.take n).length=n:=by rw[List.length_take];omega
 refine jC hm (λf a' w'=>∃k,k<=L.length-n/\(∀j,j<k->f (n+j)=true)/\(∀j,k<=j->n+j<L.length->f (n+j)=false)/\
  (if k=0 then ∃v,a'=ay a (L.take n) 0 v/\S (f z) w'/\(∀j,j<n->f j=true->Fact j (v j) w') else wpList P L.toArray Q (L.drop (n+k)) a' w')) fS ?_ ?_ ?_
 .obtain ⟨v,hv,ho⟩:=oU (L.take n) a 0;refine ⟨0,Nat.zero_le _,λj hj=>Y,λj _ _=>rfl,?_⟩;rw[if_pos rfl];exact ⟨v,hv.symm,h0,λj _ hj=>by cases hj⟩
 .rintro f a' w' jb ⟨k,hk,h1,h2,h3⟩;have hkn:k=L.length-n:=by
   by_cases h:k=L.length-n
   .exact h
   .have:=h2 k I Y;rw[jb _ Y]at this
    cases this
  rw[if_neg Y,List.drop_of_length_le Y]at h3;exact h3
 .rintro i o ho f a' w' hf eg bB ⟨k,hk,h1,h2,h3⟩;have eW:i<L.length:=(List.getElem?_eq_some_iff.1 ho).1;by_cases cY:i<n
  ·-- one of the first
   have hZ:k=0:=by
    by_cases h:k=0
    .exact h
    .have O9:=h1 0 Y;rw[fC bB 60 (n+0) i (dX hB Y Y Y) O9]at hf
     cases hf
   subst hZ;rw[if_pos rfl]at h3;obtain ⟨v,rfl,hR,hF⟩:=h3;have hot:(L.take n)[i]?=some o:=by rw[List.getElem?_take,if_pos cY];exact ho
   refine wpOp_mono (λ_ _ h=>h) (kN (by simpa using ho) ?_)
   have xr:∀e∈o.after,Region.binds .any e=true->f e.on=true->e.on<n:=λe he hb _=>by
    have:=GC fS ho he hb;omega
   refine uT i o hot v w' (f z) (λh=>by rw[Nat.zero_add]at h;rw[<-h];exact hf) hR (qe λe he hb=>hF _ (xr e (Array.mem_toList_iff.1 he) hb (eg e (Array.mem_toList_iff.1 he) hb)) (eg e (Array.mem_toList_iff.1 he) hb)) _ (λx w'' Px hR' hx=>⟨0,Nat.zero_le _,λj hj=>Y,λj hj oh=>?_,?_⟩)
   .rw[Bool.eq_false_iff];intro hc;rw[jB]at hc;rcases hc with hc|hc
    .omega
    .rw[h2 j hj oh]at hc;cases hc
   .rw[if_pos rfl];refine ⟨rr v i x,?_,Re f i z (by rw[Nat.zero_add]at Px;exact Px),λj LS hj=>?_⟩
    .rw[kM x (L.take n) a 0 i o v xz hot,Nat.zero_add]
    .by_cases h:j=i
     .subst h;rw[nu];rw[Nat.zero_add]at hx;exact hx
     .rw[nw v x h];rw[jB]at hj;exact cB i j _ _ _ h (by rw[Nat.zero_add]at hR';exact hR') (hF j LS (hj.resolve_left h))
  ·-- one of the last
   obtain ⟨t,rfl⟩:∃t,i=n+t:=⟨i-n,Y⟩;have tV:t=k:=by
    rcases Nat.lt_trichotomy t k with h|h|h
    .rw[h1 t h]at hf;cases hf
    .exact h
    .have:=iz bB ho eg (dX hB eW Y (show n+k<n+t by omega)) Y
     rw[h2 k I Y]at this
     cases this
   subst tV;have hdrop:L.drop (n+t)=o::L.drop (n+t+1):=by
    rw[List.drop_eq_getElem_cons eW]
    congr 1
    exact (List.getElem?_eq_some_iff.1 ho).2
   have xK:wpList P L.toArray Q (o::L.drop (n+t+1)) a' w':=by
    rw[<-hdrop];by_cases Cb:t=0
    .subst Cb;rw[if_pos rfl]at h3;obtain ⟨v,rfl,hR,hF⟩:=h3;rw[Nat.add_zero]at *;exact wO v w' (by have:=iz bB ho eg (dX hB eW I T3) Y;rw[this]at hR;exact hR) λi hi=>hF i hi (iz bB ho eg (dX hB eW I hi) Y)
    .rw[if_neg Cb]at h3;exact h3
   have ke:wpOp P L.toArray Q (n+t) (wpList P L.toArray Q (L.drop (n+t+1))) a' w':=by
    unfold wpOp;rw[show L.toArray[n+t]?=some o by simpa using ho]
    exact xK
   refine wpOp_mono (λa'' w'' h=>⟨t+1,Y,λj hj=>?_,λj hj oh=>?_,?_⟩) ke
   .rw[jB];by_cases h5:j=t
    .left;omega
    .right;exact h1 j Y
   .rw[Bool.eq_false_iff];intro hc;rw[jB]at hc;rcases hc with hc|hc
    .omega
    .rw[h2 j Y oh]at hc;cases hc
   .rw[if_neg Y];exact h
def Ce(l:List Oper):List Nat->Bool
 | []=>true
 |a::r=>(r.all λb=>fB l 60 b a && decide (a<b)) && Ce l r
def kO(E:List Nat)(f:Nat->Bool):Nat:=(E.takeWhile f).length
theorem MZ{E:List Nat}{f:Nat->Bool}{i:Nat}(h:i∉E):kO E (nX f i)=kO E f:=by
 unfold kO
 induction E with
 |nil=>rfl
 |cons a r ih=>
  have ha:nX f i a=f a:=by
   unfold nX;rw[if_neg (λe=>h (by rw[e];exact List.mem_cons_self))]
  rw[List.takeWhile_cons,List.takeWhile_cons,ha]
  cases f a with
  |false=>rfl
  |true=>simp only[if_true,List.length_cons];rw[ih (λhm=>h (List.mem_cons_of_mem _ hm))]
theorem uU{l:List Oper}{f:Nat->Bool}(bB:fw .any l f):∀{E:List Nat} {k i:Nat},Ce l E=true->E[k]?=some i->f i=false->(∀j,fB l 60 i j=true->i≠j->f j=true)->kO E f=k/\kO E (nX f i)=k+1
 | [],k,i,_,h,_,_=>by simp at h
 |a::r,0,i,hp,h,hf,eg=>by
  simp only[List.getElem?_cons_zero,Option.some.injEq]at h;subst h;rw[Ce,Bool.and_eq_true]at hp;unfold kO;have hu:nX f a a=true:=by unfold nX;rw[if_pos rfl]
  rw[List.takeWhile_cons,hf,List.takeWhile_cons,hu];refine ⟨rfl,?_⟩;simp only[if_true,List.length_cons]
  cases r with
  |nil=>rfl
  |cons b r=>
   have h1:=List.all_eq_true.1 hp.1 b ξ;rw[Bool.and_eq_true,decide_eq_true_eq]at h1;have hb:f b=false:=uS bB 60 b a h1.1 hf;have hub:nX f a b=false:=by unfold nX;rw[if_neg Y];exact hb
   rw[List.takeWhile_cons,hub];rfl
 |a::r,k+1,i,hp,h,hf,eg=>by
  rw[List.getElem?_cons_succ]at h;rw[Ce,Bool.and_eq_true]at hp;have h1:=List.all_eq_true.1 hp.1 i (List.mem_of_getElem? h);rw[Bool.and_eq_true,decide_eq_true_eq]at h1;have ha:=eg a h1.1 Y;obtain ⟨g1,g2⟩:=uU bB hp.2 h hf eg;have hua:nX f i a=true:=by unfold nX;rw[if_neg Y];exact ha
  unfold kO at *;rw[List.takeWhile_cons,ha,List.takeWhile_cons,hua];simp only[if_true,List.length_cons];exact ⟨by rw[g1],by rw[g2]⟩
theorem M0{E:List Nat}{f:Nat->Bool}(h:∀i∈E,f i=true):kO E f=E.length:=by
 unfold kO
 induction E with
 |nil=>rfl
 |cons a r ih=>rw[List.takeWhile_cons,h a ξ];simp only[if_true,List.length_cons];rw[ih λi hi=>h i (by simp[hi])]
def Rf(L:List Oper)(E:List Nat)(i q:Nat):Bool:=match E[q]? with|some e=>fB L 60 e i|none=>false
theorem GD{f:Nat->Bool}:∀{E:List Nat} {q e:Nat},E[q]?=some e->f e=false->kO E f<=q
 | [],q,e,h,_=>by simp at h
 |a::r,0,e,h,hf=>by
  simp only[List.getElem?_cons_zero,Option.some.injEq]at h;subst h;unfold kO;rw[List.takeWhile_cons,hf];simp
 |a::r,q+1,e,h,hf=>by
  rw[List.getElem?_cons_succ]at h;have:=GD h hf;unfold kO at *;rw[List.takeWhile_cons]
  cases f a
  .simp
  .simp;omega
def ag(P:Program)(ops:Array Oper)(Q:Exit->Act->World->Prop)(a:Act)(l:List Oper)(E:List Nat)(Fact:Nat->Nat->Value->World->Prop)(S:Nat->World->Prop)(i:Nat)(r:List Oper):Prop:=
 ∀(k:Nat) (o:Oper),r[k]?=some o->∀v w' c,(∀q,E[q]?=some (i+k)->c=q)->(∀q,Rf ops.toList E (i+k) q=true->c<=q)->S c w'->oA (Fact c) v w' o.after.toList->∀K:Act->World->Prop,
  Shut (∀x w'' c',((c'=c/\(∀j y,j≠i+k->Fact c j y w'->Fact c j y w'')/\i+k∉E)\/(c'=c+1/\i+k∈E/\∀j y,j≠i+k->Fact c j y w'->Fact c' j y w''))->S c' w''->Fact c' (i+k) x w''->K ((ay a l 0 v).put o.dst x) w'')->wpList P ops (QK Q K) [o] (ay a l 0 v) w'
theorem ag.nil{P:Program}{ops:Array Oper}{Q:Exit->Act->World->Prop}{a:Act}{l:List Oper}{E:List Nat}{Fact:Nat->Nat->Value->World->Prop}{S:Nat->World->Prop}{i:Nat}:ag P ops Q a l E Fact S i []:=λk o h=>by simp at h
theorem ag.pure{P:Program}{ops:Array Oper}{Q:Exit->Act->World->Prop}{a:Act}{l:List Oper}{E:List Nat}{Fact:Nat->Nat->Value->World->Prop}{S:Nat->World->Prop}{i:Nat}{o:Oper}{r:List Oper}(hE:i∉E)
  (h:∀v w' c,(∀q,Rf ops.toList E i q=true->c<=q)->S c w'->oA (Fact c) v w' o.after.toList->∀K:Act->World->Prop,Shut (∀x,Fact c i x w'->K ((ay a l 0 v).put o.dst x) w')->wpList P ops (QK Q K) [o] (ay a l 0 v) w')
  (hr:ag P ops Q a l E Fact S (i+1) r):ag P ops Q a l E Fact S i (o::r):=by
 intro k o' hk
 cases k with
 |zero=>
  simp only[List.getElem?_cons_zero,Option.some.injEq]at hk;subst hk;intro v w' c _ dy hS he K hK;exact h v w' c dy hS he K λx hx=>hK x w' c (.inl ⟨rfl,λ_ _ _ h=>h,hE⟩) hS hx
 |succ k=>
  have e:i+(k+1)=i+1+k:=Y;rw[e];exact hr k o' (by simpa using hk)
theorem ag.free{P:Program}{ops:Array Oper}{Q:Exit->Act->World->Prop}{a:Act}{l:List Oper}{E:List Nat}{Fact:Nat->Nat->Value->World->Prop}{S:Nat->World->Prop}{i:Nat}{o:Oper}{r:List Oper}(hE:i∉E)
  (h:∀v w' c,(∀q,Rf ops.toList E i q=true->c<=q)->S c w'->oA (Fact c) v w' o.after.toList->∀K:Act->World->Prop,Shut (∀x w'',(∀j y,j≠i->Fact c j y w'->Fact c j y w'')->S c w''->Fact c i x w''->K ((ay a l 0 v).put o.dst x) w'')->wpList P ops (QK Q K) [o] (ay a l 0 v) w')
  (hr:ag P ops Q a l E Fact S (i+1) r):ag P ops Q a l E Fact S i (o::r):=by
 intro k o' hk
 cases k with
 |zero=>
  simp only[List.getElem?_cons_zero,Option.some.injEq]at hk;subst hk;intro v w' c _ dy hS he K hK;exact h v w' c dy hS he K λx w'' cB Px hx=>hK x w'' c (.inl ⟨rfl,cB,hE⟩) Px hx
 |succ k=>
  have e:i+(k+1)=i+1+k:=Y;rw[e];exact hr k o' (by simpa using hk)
theorem ag.ur{P:Program}{ops:Array Oper}{Q:Exit->Act->World->Prop}{a:Act}{l:List Oper}{E:List Nat}{Fact:Nat->Nat->Value->World->Prop}{S:Nat->World->Prop}{i:Nat}{o:Oper}{r:List Oper}(q:Nat)(hE:E[q]?=some i)
  (h:∀v w',S q w'->oA (Fact q) v w' o.after.toList->∀K:Act->World->Prop,Shut (∀x w'',(∀j y,j≠i->Fact q j y w'->Fact (q+1) j y w'')->S (q+1) w''->Fact (q+1) i x w''->K ((ay a l 0 v).put o.dst x) w'')->wpList P ops (QK Q K) [o] (ay a l 0 v) w')
  (hr:ag P ops Q a l E Fact S (i+1) r):ag P ops Q a l E Fact S i (o::r):=by
 intro k o' hk
 cases k with
 |zero=>
  simp only[List.getElem?_cons_zero,Option.some.injEq]at hk;subst hk;intro v w' c hc _ hS he K hK;have:=hc q hE;subst this;exact h v w' hS he K λx w'' cB Px hx=>hK x w'' _ (.inr ⟨rfl,List.mem_of_getElem? hE,cB⟩) Px hx
 |succ k=>
  have e:i+(k+1)=i+1+k:=Y;rw[e];exact hr k o' (by simpa using hk)
theorem aQ{P:Program}{id:Nat}{L:List Oper}{Q:Exit->Act->World->Prop}{a:Act}{w:World}(n:Nat)(E:List Nat)(Fact:Nat->Nat->Value->World->Prop)(S:Nat->World->Prop)
  (hm:P.follows .mixedOrders=true) (fS:EK .any L=true) (xz:ru (L.take n)=true) (hB:MY L n=true) (hP:Ce L E=true) (hEn:(E.all λi=>decide (i<n))=true) (hn:n<L.length)
  (h0:S 0 w.drew)
  (uT:ag P L.toArray Q a (L.take n) E Fact S 0 (L.take n))
  (wO:∀v w',S E.length w'->(∀i,i<n->Fact E.length i (v i) w')->wpList P L.toArray Q (L.drop n) (ay a (L.take n) 0 v) w'):(Code.region id L.toArray true).wp P Q a w:=by
 have htl:(L.take n).length=n:=by rw[List.length_take];omega
 have ajJ:∀i∈E,i<n:=λi hi=>by have:=List.all_eq_true.1 hEn i hi;simpa using this
 refine jC hm (λf a' w'=>∃k,k<=L.length-n/\(∀j,j<k->f (n+j)=true)/\(∀j,k<=j->n+j<L.length->f (n+j)=false)/\
  (if k=0 then ∃v,a'=ay a (L.take n) 0 v/\S (kO E f) w'/\(∀j,j<n->f j=true->Fact (kO E f) j (v j) w') else wpList P L.toArray Q (L.drop (n+k)) a' w')) fS ?_ ?_ ?_
 .obtain ⟨v,hv,ho⟩:=oU (L.take n) a 0;refine ⟨0,Nat.zero_le _,λj hj=>Y,λj _ _=>rfl,?_⟩;rw[if_pos rfl];have e:kO E (λ_=>false)=0:=by unfold kO; cases E <;> rfl
  rw[e];exact ⟨v,hv.symm,h0,λj _ hj=>by cases hj⟩
 .rintro f a' w' jb ⟨k,hk,h1,h2,h3⟩;have hkn:k=L.length-n:=by
   by_cases h:k=L.length-n
   .exact h
   .have:=h2 k I Y;rw[jb _ Y]at this
    cases this
  rw[if_neg Y,List.drop_of_length_le Y]at h3;exact h3
 .rintro i o ho f a' w' hf eg bB ⟨k,hk,h1,h2,h3⟩;have eW:i<L.length:=(List.getElem?_eq_some_iff.1 ho).1;have Ww:∀j,fB L 60 i j=true->i≠j->f j=true:=λj hr DN=>iz bB ho eg hr DN;by_cases cY:i<n
  .have hZ:k=0:=by
    by_cases h:k=0
    .exact h
    .have O9:=h1 0 Y;rw[fC bB 60 (n+0) i (dX hB Y Y Y) O9]at hf
     cases hf
   subst hZ;rw[if_pos rfl]at h3;obtain ⟨v,rfl,hR,hF⟩:=h3;have hot:(L.take n)[i]?=some o:=by rw[List.getElem?_take,if_pos cY];exact ho
   refine wpOp_mono (λ_ _ h=>h) (kN (by simpa using ho) ?_)
   have xr:∀e∈o.after,Region.binds .any e=true->f e.on=true->e.on<n:=λe he hb _=>by
    have:=GC fS ho he hb;omega
   refine uT i o hot v w' (kO E f) (λq hq=>?_) (λq hq=>?_) hR (qe λe he hb=>hF _ (xr e (Array.mem_toList_iff.1 he) hb (eg e (Array.mem_toList_iff.1 he) hb)) (eg e (Array.mem_toList_iff.1 he) hb)) _ (λx w'' c' eH Px hx=>⟨0,Nat.zero_le _,λj hj=>Y,λj hj oh=>?_,?_⟩)
   .rw[Nat.zero_add]at hq;exact (uU bB hP hq hf Ww).1
   .rw[Nat.zero_add]at hq;unfold Rf at hq
    cases he:E[q]? with
    |none=>rw[he]at hq;cases hq
    |some e=>rw[he]at hq;exact GD he (uS bB 60 e i (by simpa using hq) hf)
   .rw[Bool.eq_false_iff];intro hc;rw[jB]at hc;rcases hc with hc|hc
    .omega
    .rw[h2 j hj oh]at hc;cases hc
   .rw[if_pos rfl];rw[Nat.zero_add]at eH hx;have mI:kO E (nX f i)=c':=by
     rcases eH with ⟨e,-,hne⟩|⟨e,hme,-⟩
     .rw[MZ hne,e]
     .obtain ⟨q,hq,Ks⟩:=List.getElem_of_mem hme;have:=uU bB hP (show E[q]?=some i by rw[List.getElem?_eq_getElem hq,Ks]) hf Ww
      rw[this.2,e,this.1]
    rw[mI];refine ⟨rr v i x,?_,Px,λj LS hj=>?_⟩
    .rw[kM x (L.take n) a 0 i o v xz hot,Nat.zero_add]
    .by_cases h:j=i
     .subst h;rw[nu];exact hx
     .rw[nw v x h];rw[jB]at hj;have hj':=hF j LS (hj.resolve_left h);rcases eH with ⟨e,e2,-⟩|⟨-,-,cB⟩
      .rw[e];exact e2 j _ h hj'
      .exact cB j _ h hj'
  .obtain ⟨t,rfl⟩:∃t,i=n+t:=⟨i-n,Y⟩;have tV:t=k:=by
    rcases Nat.lt_trichotomy t k with h|h|h
    .rw[h1 t h]at hf;cases hf
    .exact h
    .have:=iz bB ho eg (dX hB eW Y (show n+k<n+t by omega)) Y
     rw[h2 k I Y]at this
     cases this
   subst tV;have hdrop:L.drop (n+t)=o::L.drop (n+t+1):=by
    rw[List.drop_eq_getElem_cons eW]
    congr 1
    exact (List.getElem?_eq_some_iff.1 ho).2
   have xK:wpList P L.toArray Q (o::L.drop (n+t+1)) a' w':=by
    rw[<-hdrop];by_cases Cb:t=0
    .subst Cb;rw[if_pos rfl]at h3;obtain ⟨v,rfl,hR,hF⟩:=h3;rw[Nat.add_zero]at *;have jb:∀j,j<n->f j=true:=λj hj=>iz bB ho eg (dX hB eW I hj) Y;have hce:kO E f=E.length:=M0 λj hj=>jb j (ajJ j hj);rw[hce]at hR hF;exact wO v w' hR λi hi=>hF i hi (jb i hi)
    .rw[if_neg Cb]at h3;exact h3
   have ke:wpOp P L.toArray Q (n+t) (wpList P L.toArray Q (L.drop (n+t+1))) a' w':=by
    unfold wpOp;rw[show L.toArray[n+t]?=some o by simpa using ho]
    exact xK
   refine wpOp_mono (λa'' w'' h=>⟨t+1,Y,λj hj=>?_,λj hj oh=>?_,?_⟩) ke
   .rw[jB];by_cases h5:j=t
    .left;omega
    .right;exact h1 j Y
   .rw[Bool.eq_false_iff];intro hc;rw[jB]at hc;rcases hc with hc|hc
    .omega
    .rw[h2 j Y oh]at hc;cases hc
   .rw[if_neg Y];exact h
end Go.Proofs.YtdmoogjddmdmbaaGreatDoor
