/- A region that draws its order, by one invariant: each operation is walked once, whatever came before it. · A region that draws its order, whose last operations come behind all others: the others by facts, the last ones in their order. No program in sight. · A region that draws its order, whose calls and writes come in a chain, and whose last operations come behind all others. No program in sight. -/
import Derived.Deep.RegionHeld3
namespace Go.Proofs.YtdmoogjddmdmbaaGreatDoor
set_option linter.unusedVariables false
set_option linter.unusedSimpArgs false
set_option maxRecDepth 100000
open Go
def upI (f:Nat->Bool) (i:Nat):Nat->Bool:=λj=>if j=i then true else f j
theorem upI_eq (f:Nat->Bool) (i j:Nat):(upI f i j=true)=(j=i\/f j=true):=by
 unfold upI;by_cases h:j=i
 .simp[h]
 .simp[h]
def lowB (md:Region.Mode) (l:List Oper):Bool:=(List.range l.length).all λi=>match l[i]? with | some o=>o.after.all λe=>!Region.binds md e || decide (e.on<i) | none=>true
def ofL (listed:Array Bool):Nat->Bool:=λi=>listed.getD i false
def ClosedI (md:Region.Mode) (l:List Oper) (f:Nat->Bool):Prop:=∀(j:Nat) (o:Oper),l[j]?=some o->f j=true->∀e∈o.after,Region.binds md e=true->f e.on=true
theorem ofL_set {listed:Array Bool} {i:Nat} (hi:i<listed.size):ofL (listed.setIfInBounds i true)=upI (ofL listed) i:=by
 funext j
 unfold ofL upI;by_cases h:j=i
 .subst h;simp[hi]
 .rw[if_neg h];exact getD_set_ne false (Ne.symm h)
theorem all_of_ready {md:Region.Mode} {l:List Oper} {listed:Array Bool} (hlow:lowB md l=true) (hs:listed.size=l.length) (hr:Region.ready md l.toArray listed=[]):∀n,n<=l.length->∀i,i<n->ofL listed i=true:=by
 intro n
 induction n with
 | zero=>intro _ i hi;exact absurd hi (Nat.not_lt_zero _)
 | succ n ih=>
  intro hn i hi;by_cases hin:i<n
  .exact ih (by omega) i hin
  .obtain rfl:i=n:=by omega
   cases hf:ofL listed i with
   | true=>rfl
   | false=>
    exfalso;have hlt:i<l.length:=by omega
    have hm:i∈Region.ready md l.toArray listed:=by
     rw[mem_ready];refine ⟨?_,l[i],by simp[hlt],λe he hb=>?_⟩
     .have:i<listed.size:=by omega
      unfold ofL at hf;simpa [this] using hf
     .have h1:=List.all_eq_true.1 hlow i (by simpa using hlt)
      simp only[List.getElem?_eq_getElem hlt]at h1;have h2:=Array.all_eq_true_iff_forall_mem.1 h1 e he;simp only[hb,Bool.not_true,Bool.false_or,decide_eq_true_eq]at h2;exact ih (by omega) e.on h2
    rw[hr]at hm
    cases hm
theorem wpAny_inv {P:Program} {md:Region.Mode} {l:List Oper} {Q:Exit->Act->World->Prop} (Inv:(Nat->Bool)->Act->World->Prop) (hlow:lowB md l=true)
  (hend:∀f a w,(∀i,i<l.length->f i=true)->Inv f a w->Q .normal a w)
  (hstep:∀(i:Nat) (o:Oper),l[i]?=some o->∀f a w,f i=false->(∀e∈o.after,Region.binds md e=true->f e.on=true)->ClosedI md l f->Inv f a w->wpOp P l.toArray Q i (Inv (upI f i)) a w) :
  ∀(fuel:Nat) (listed:Array Bool) (a:Act) (w:World),listed.size=l.length->l.length<=fuel+(listed.toList.filter id).length->ClosedI md l (ofL listed)->Inv (ofL listed) a w->wpAny P md l.toArray Q fuel listed a w:=by
 intro fuel
 induction fuel with
 | zero=>
  intro listed a w hs hc hcl hI;have hall:∀i,i<l.length->ofL listed i=true:=by
   intro i hi;have h1:(listed.toList.filter id).length=listed.toList.length:=by
    have:=List.length_filter_le id listed.toList;simp only[Array.length_toList]at *;omega
   have h2:=List.length_filter_eq_length_iff.1 h1;have h3:=h2 (listed[i]'(by omega)) (by simp)
   unfold ofL;simpa [show i<listed.size by omega] using h3
  refine ⟨?_,hend _ a w hall hI⟩;refine List.eq_nil_iff_forall_not_mem.2 λj hj=>?_;obtain ⟨h0,o,ho,-⟩:=mem_ready.1 hj;have hlt:j<l.length:=by
   have:=(Array.getElem?_eq_some_iff.1 ho).1;simpa using this
  have:=hall j hlt;unfold ofL at this;simp only[Array.getD_eq_getD_getElem?]at this h0;rw[Array.getElem?_eq_getElem (by omega)]at this h0
  simp at this h0;rw[this]at h0
  cases h0
 | succ fuel ih=>
  intro listed a w hs hc hcl hI;refine ⟨λhr=>hend _ a w (all_of_ready hlow hs hr l.length (Nat.le_refl _)) hI,λi hi=>?_⟩;obtain ⟨h0,o,ho,hall⟩:=mem_ready.1 hi;have hlt:i<l.length:=by
   have:=(Array.getElem?_eq_some_iff.1 ho).1;simpa using this
  have hil:i<listed.size:=by omega
  have hol:l[i]?=some o:=by simpa using ho
  have hfi:ofL listed i=false:=by unfold ofL;simpa [hil] using h0
  refine wpOp_mono (λa' w' h=>?_) (hstep i o hol (ofL listed) a w hfi hall hcl hI);rw[<-ofL_set hil]at h;refine ih _ a' w' (by simp[hs]) ?_ ?_ h
  .have hcnt:(listed.toList.filter id).length+1=((listed.setIfInBounds i true).toList.filter id).length:=by
    have hb:listed.toList[i]'(by simpa using hil)=false:=by simpa [hil] using h0
    rw[Array.toList_setIfInBounds];have hg:∀(L:List Bool) (i:Nat) (h:i<L.length),L[i]=false->(L.filter id).length+1=((L.set i true).filter id).length:=by
     intro L
     induction L with
     | nil=>intro i h;exact absurd h (Nat.not_lt_zero _)
     | cons x r ihr=>
      intro i h hx
      cases i with
      | zero=>simp only[List.getElem_cons_zero]at hx;subst hx;simp
      | succ i=>
       simp only[List.getElem_cons_succ]at hx;have:=ihr i (by simpa using h) hx
       simp only[List.set_cons_succ,List.filter_cons]
       cases x <;> simp <;> omega
    exact hg _ i _ hb
   omega
  .rw[ofL_set hil];intro j oj hoj hfj e he hb;rw[upI_eq]at hfj|-;rcases hfj with rfl | hfj
   .obtain rfl:oj=o:=Option.some.inj (hoj.symm.trans hol);exact Or.inr (hall e he hb)
   .exact Or.inr (hcl j oj hoj hfj e he hb)
theorem wp_region_inv {P:Program} {id:Nat} {l:List Oper} {Q:Exit->Act->World->Prop} {a:Act} {w:World} (hm:P.follows .mixedOrders=true) (Inv:(Nat->Bool)->Act->World->Prop) (hlow:lowB .any l=true)
  (h0:Inv (λ_=>false) a w.drew)
  (hend:∀f a w,(∀i,i<l.length->f i=true)->Inv f a w->Q .normal a w)
  (hstep:∀(i:Nat) (o:Oper),l[i]?=some o->∀f a w,f i=false->(∀e∈o.after,Region.binds .any e=true->f e.on=true)->ClosedI .any l f->Inv f a w->wpOp P l.toArray Q i (Inv (upI f i)) a w):(Code.region id l.toArray true).wp P Q a w:=by
 refine wp_region_any hm (wpAny_inv Inv hlow hend hstep _ _ _ _ (by simp) (by simp) ?_ ?_)
 .intro j o _ hf;unfold ofL at hf;simp only[Array.getD_eq_getD_getElem?,Array.getElem?_replicate]at hf
  split at hf <;> simp at hf
 .have:ofL (Array.replicate l.toArray.size false)=λ_=>false:=by
   funext j
   unfold ofL;simp only[Array.getD_eq_getD_getElem?,Array.getElem?_replicate]
   split <;> simp
  rw[this];exact h0
def StepsI (P:Program) (ops:Array Oper) (Q:Exit->Act->World->Prop) (Inv:(Nat->Bool)->Act->World->Prop) (i:Nat) (r:List Oper):Prop:=
 ∀(k:Nat) (o:Oper),r[k]?=some o->∀f a w,f (i+k)=false->(∀e∈o.after,Region.binds .any e=true->f e.on=true)->ClosedI .any ops.toList f->Inv f a w->wpOp P ops Q (i+k) (Inv (upI f (i+k))) a w
def edgeP (f:Nat->Bool):List Edge->Prop
 | []=>True
 | e::r=>(Region.binds .any e=true->f e.on=true)/\edgeP f r
theorem edgeP_of {f:Nat->Bool}:∀{l:List Edge},(∀e∈l,Region.binds .any e=true->f e.on=true)->edgeP f l
 | [],_=>trivial
 | e::r,h=>⟨h e (by simp),edgeP_of λx hx=>h x (by simp[hx])⟩
theorem StepsI.cons {P:Program} {ops:Array Oper} {Q:Exit->Act->World->Prop} {Inv:(Nat->Bool)->Act->World->Prop} {i:Nat} {o:Oper} {r:List Oper} (ho:ops[i]?=some o)
  (h:∀f a w,f i=false->edgeP f o.after.toList->ClosedI .any ops.toList f->Inv f a w->∀K:Act->World->Prop,Shut (∀a' w',Inv (upI f i) a' w'->K a' w')->if Region.wanted o (yielded ops a.tmps)=true then Oper.wp P o a w K Q else K (a.put o.dst undef) w)
  (hr:StepsI P ops Q Inv (i+1) r):StepsI P ops Q Inv i (o::r):=by
 intro k o' hk f a w h0 hpre hcl hI
 cases k with
 | zero=>
  simp only[List.getElem?_cons_zero,Option.some.injEq]at hk;subst hk;exact wpOp_step ho λK' hK=>h f a w h0 (edgeP_of λe he=>hpre e (Array.mem_toList_iff.1 he)) hcl hI K' hK
 | succ k=>
  have e:i+(k+1)=i+1+k:=by omega
  rw[e]at h0|-;exact hr k o' (by simpa using hk) f a w h0 hpre hcl hI
def putAll (a:Act):List Oper->Nat->(Nat->Value)->Act
 | [],_,_=>a
 | o::r,i,v=>putAll (a.put o.dst (v i)) r (i+1) v
def putV (v:Nat->Value) (i:Nat) (x:Value):Nat->Value:=λj=>if j=i then x else v j
theorem putV_same (v:Nat->Value) (i:Nat) (x:Value):putV v i x i=x:=by unfold putV;rw[if_pos rfl]
theorem putV_ne (v:Nat->Value) {i j:Nat} (x:Value) (h:j≠i):putV v i x j=v j:=by unfold putV;rw[if_neg h]
theorem put_same (a:Act) (d:Option Tmp) (x y:Value):(a.put d x).put d y=a.put d y:=by
 cases d with
 | none=>rfl
 | some d=>simp[Act.put]
theorem put_own (a:Act) (d:Tmp):a.put (some d) (a.tmps.getD d undef)=a:=by
 obtain ⟨t,ds⟩:=a;simp only[Act.put]
 congr 1
 apply Array.ext (by simp)
 intro i h1 h2;by_cases h:d=i
 .subst h;simp[h2]
 .rw[Array.getElem_setIfInBounds (by exact h2)];simp[h]
theorem putAll_upd_lt (x:Value):∀(l:List Oper) (a:Act) (i k:Nat) (v:Nat->Value),k<i->putAll a l i (putV v k x)=putAll a l i v
 | [],_,_,_,_,_=>rfl
 | o::r,a,i,k,v,h=>by
  show putAll (a.put o.dst (putV v k x i)) r (i+1) _=putAll (a.put o.dst (v i)) r (i+1) v;rw[putV_ne v x (by omega),putAll_upd_lt x r _ (i+1) k v (by omega)]
def apartB:List Oper->Bool
 | []=>true
 | o::r=>(match o.dst with | none=>true | some d=>r.all λu=>decide (u.dst≠some d)) && apartB r
theorem putAll_put (d:Option Tmp) (x:Value):∀(l:List Oper) (a:Act) (i:Nat) (v:Nat->Value),(∀u∈l,∀e,d=some e->u.dst≠some e)->(putAll a l i v).put d x=putAll (a.put d x) l i v
 | [],_,_,_,_=>rfl
 | o::r,a,i,v,h=>by
  show (putAll (a.put o.dst (v i)) r (i+1) v).put d x=putAll ((a.put d x).put o.dst (v i)) r (i+1) v;rw[putAll_put d x r _ (i+1) v (λu hu=>h u (by simp[hu])),Act.put_comm]
  intro e he hx;exact h o (by simp) e hx he
theorem putAll_upd (x:Value):∀(l:List Oper) (a:Act) (i k:Nat) (o:Oper) (v:Nat->Value),apartB l=true->l[k]?=some o->(putAll a l i v).put o.dst x=putAll a l i (putV v (i+k) x)
 | [],_,_,_,_,_,_,h=>by simp at h
 | u::r,a,i,k,o,v,hap,h=>by
  rw[apartB,Bool.and_eq_true]at hap
  cases k with
  | zero=>
   simp only[List.getElem?_cons_zero,Option.some.injEq]at h;subst h;show (putAll (a.put u.dst (v i)) r (i+1) v).put u.dst x=putAll (a.put u.dst (putV v i x i)) r (i+1) (putV v i x);rw[putV_same,putAll_upd_lt x r _ _ _ v (by omega),putAll_put,put_same]
   intro w hw e he;have:=hap.1;rw[he]at this;simpa using List.all_eq_true.1 this w hw
  | succ k=>
   show (putAll (a.put u.dst (v i)) r (i+1) v).put o.dst x=putAll (a.put u.dst (putV v (i+(k+1)) x i)) r (i+1) _;rw[putV_ne v x (by omega),putAll_upd x r _ (i+1) k o v hap.2 (by simpa using h)]
   congr 2
   omega
theorem putAll_id {a:Act}:∀(r:List Oper) (k:Nat) (v:Nat->Value),(∀j o d,r[j]?=some o->o.dst=some d->v (k+j)=a.tmps.getD d undef)->putAll a r k v=a
 | [],_,_,_=>rfl
 | o::r,k,v,h=>by
  show putAll (a.put o.dst (v k)) r (k+1) v=a;have he:a.put o.dst (v k)=a:=by
   cases hd:o.dst with
   | none=>rfl
   | some d=>
    have:=h 0 o d (by simp) hd
    rw[Nat.add_zero]at this;rw[this,put_own]
  rw[he];refine putAll_id r (k+1) v λj u d hu hd=>?_;have:=h (j+1) u d (by simpa using hu) hd
  rwa [show k+(j+1)=k+1+j by omega]at this
theorem putAll_own (l:List Oper) (a:Act) (i:Nat):∃v:Nat->Value,putAll a l i v=a/\∀j d,(l[j]?).bind (·.dst)=some d->v (i+j)=a.tmps.getD d undef:=by
 refine ⟨λj=>match l[j-i]? with | some o=>(match o.dst with | some d=>a.tmps.getD d undef | none=>undef) | none=>undef,?_,λj d hd=>?_⟩
 .refine putAll_id l i _ λj o d ho hd=>?_;have e:i+j-i=j:=by omega
  simp only[e,ho,hd]
 .have e:i+j-i=j:=by omega
  cases ho:l[j]? with
  | none=>rw[ho]at hd;cases hd
  | some o=>rw[ho]at hd;simp only[Option.bind_some]at hd;simp only[e,ho,hd]
def edgeF (Fact:Nat->Value->World->Prop) (v:Nat->Value) (w:World):List Edge->Prop
 | []=>True
 | e::r=>(Region.binds .any e=true->Fact e.on (v e.on) w)/\edgeF Fact v w r
theorem edgeF_of {Fact:Nat->Value->World->Prop} {v:Nat->Value} {w:World}:∀{l:List Edge},(∀e∈l,Region.binds .any e=true->Fact e.on (v e.on) w)->edgeF Fact v w l
 | [],_=>trivial
 | e::r,h=>⟨h e (by simp),edgeF_of λx hx=>h x (by simp[hx])⟩
def reachB (l:List Oper):Nat->Nat->Nat->Bool
 | 0,i,j=>decide (i=j)
 | n+1,i,j=>decide (i=j) || match l[i]? with | some o=>o.after.toList.any λe=>Region.binds .any e && reachB l n e.on j | none=>false
theorem closed_reach {l:List Oper} {f:Nat->Bool} (hcl:ClosedI .any l f):∀(n i j:Nat),reachB l n i j=true->f i=true->f j=true
 | 0,i,j,h,hf=>by simp only[reachB,decide_eq_true_eq]at h;subst h;exact hf
 | n+1,i,j,h,hf=>by
  rw[reachB,Bool.or_eq_true,decide_eq_true_eq]at h;rcases h with rfl | h
  .exact hf
  .cases ho:l[i]? with
   | none=>rw[ho]at h;cases h
   | some o=>
    rw[ho]at h;obtain ⟨e,he,hr⟩:=List.any_eq_true.1 h;rw[Bool.and_eq_true]at hr;exact closed_reach hcl n e.on j hr.2 (hcl i o ho hf e (Array.mem_toList_iff.1 he) hr.1)
theorem closed_not {l:List Oper} {f:Nat->Bool} (hcl:ClosedI .any l f) (n i j:Nat) (hr:reachB l n i j=true) (h0:f j=false):f i=false:=by
 cases h:f i with
 | false=>rfl
 | true=>rw[closed_reach hcl n i j hr h]at h0;cases h0
def QK (Q:Exit->Act->World->Prop) (K:Act->World->Prop):Exit->Act->World->Prop
 | .normal=>K
 | e=>Q e
theorem wp_QK {P:Program} {o:Oper} {a:Act} {w:World} {K:Act->World->Prop} {Q:Exit->Act->World->Prop} (h:o.wp P a w K (QK Q K)):o.wp P a w K Q:=by
 unfold Oper.wp at *;generalize (execOp a.eval o).run P w=r at *
 cases r with
 | ok n w'=>
  cases n <;> simp only[Oper.upon]at h|- <;>
   first
    | exact h
    | exact Calls.mono h (λe w'' he=>by cases e <;> exact he)
 | halt x w'=>cases x <;> simp only[Oper.upon]at h|- <;> exact h
theorem wpOp_of_list {P:Program} {ops:Array Oper} {Q:Exit->Act->World->Prop} {i:Nat} {o:Oper} {K:Act->World->Prop} {a:Act} {w:World} (ho:ops[i]?=some o) (h:wpList P ops (QK Q K) [o] a w):wpOp P ops Q i K a w:=by
 unfold wpOp;rw[ho];show if Region.wanted o (yielded ops a.tmps)=true then _ else _;unfold wpList at h
 split
 .rename_i hw
  rw[if_pos hw]at h;exact h.imp (λh=>wp_QK h) id
 .rename_i hw
  rw[if_neg hw]at h;exact h
def FSteps (P:Program) (l:List Oper) (Q:Exit->Act->World->Prop) (a:Act) (Fact:(Nat->Bool)->Nat->Value->World->Prop) (S:(Nat->Bool)->World->Prop) (i:Nat) (r:List Oper):Prop:=
 ∀(k:Nat) (o:Oper),r[k]?=some o->∀f v w,f (i+k)=false->edgeP f o.after.toList->edgeF (Fact f) v w o.after.toList->(∀j,f j=true->Fact f j (v j) w)->ClosedI .any l f->(∀j d,(l[j]?).bind (·.dst)=some d->f j=false->v j=a.tmps.getD d undef)->S f w->∀K:Act->World->Prop,
  Shut (∀x w',S (upI f (i+k)) w'->(∀j,j≠i+k->f j=true->Fact f j (v j) w->Fact (upI f (i+k)) j (v j) w')->Fact (upI f (i+k)) (i+k) x w'->K ((putAll a l 0 v).put o.dst x) w')->
  wpList P l.toArray (QK Q K) [o] (putAll a l 0 v) w
end Go.Proofs.YtdmoogjddmdmbaaGreatDoor
namespace Go.Proofs.YtdmoogjddmdmbaaGreatDoor
set_option linter.unusedVariables false
set_option linter.unusedSimpArgs false
set_option maxRecDepth 100000
def tailB (l:List Oper) (n:Nat):Bool:=(List.range l.length).all λi=>decide (i<n) || (List.range i).all λj=>reachB l 60 i j
def GSteps (P:Program) (ops:Array Oper) (Q:Exit->Act->World->Prop) (a:Act) (l:List Oper) (Fact:Nat->Value->World->Prop) (R:Nat->World->World->Prop) (z:Nat) (S:Bool->World->Prop) (i:Nat) (r:List Oper):Prop:=
 ∀(k:Nat) (o:Oper),r[k]?=some o->∀v w' c,(i+k=z->c=false)->S c w'->edgeF Fact v w' o.after.toList->∀K:Act->World->Prop,
  Shut (∀x w'',S (decide (i+k=z) || c) w''->R (i+k) w' w''->Fact (i+k) x w''->K ((putAll a l 0 v).put o.dst x) w'')->wpList P ops (QK Q K) [o] (putAll a l 0 v) w'
theorem GSteps.nil {P:Program} {ops:Array Oper} {Q:Exit->Act->World->Prop} {a:Act} {l:List Oper} {Fact:Nat->Value->World->Prop} {R:Nat->World->World->Prop} {z:Nat} {S:Bool->World->Prop} {i:Nat}:GSteps P ops Q a l Fact R z S i []:=λk o h=>by simp at h
theorem GSteps.cons {P:Program} {ops:Array Oper} {Q:Exit->Act->World->Prop} {a:Act} {l:List Oper} {Fact:Nat->Value->World->Prop} {R:Nat->World->World->Prop} {z:Nat} {S:Bool->World->Prop} {i:Nat} {o:Oper} {r:List Oper}
  (h:∀v w' c,(i=z->c=false)->S c w'->edgeF Fact v w' o.after.toList->∀K:Act->World->Prop,Shut (∀x w'',S (decide (i=z) || c) w''->R i w' w''->Fact i x w''->K ((putAll a l 0 v).put o.dst x) w'')->wpList P ops (QK Q K) [o] (putAll a l 0 v) w')
  (hr:GSteps P ops Q a l Fact R z S (i+1) r):GSteps P ops Q a l Fact R z S i (o::r):=by
 intro k o' hk
 cases k with
 | zero=>
  simp only[List.getElem?_cons_zero,Option.some.injEq]at hk;subst hk;exact h
 | succ k=>
  have e:i+(k+1)=i+1+k:=by omega
  rw[e];exact hr k o' (by simpa using hk)
theorem reach_pre {l:List Oper} {f:Nat->Bool} (hcl:ClosedI .any l f) {n i j:Nat} {o:Oper} (ho:l[i]?=some o) (hpre:∀e∈o.after,Region.binds .any e=true->f e.on=true) (hr:reachB l n i j=true) (hij:i≠j):f j=true:=by
 cases n with
 | zero=>simp only[reachB,decide_eq_true_eq]at hr;exact absurd hr hij
 | succ n=>
  rw[reachB,Bool.or_eq_true,decide_eq_true_eq,ho]at hr;obtain ⟨e,he,hr⟩:=List.any_eq_true.1 (hr.resolve_left hij);rw[Bool.and_eq_true]at hr;exact closed_reach hcl n e.on j hr.2 (hpre e (Array.mem_toList_iff.1 he) hr.1)
theorem tailB_reach {l:List Oper} {n:Nat} (h:tailB l n=true) {i j:Nat} (hi:i<l.length) (hn:n<=i) (hj:j<i):reachB l 60 i j=true:=by
 have h1:=List.all_eq_true.1 h i (List.mem_range.2 hi);rw[Bool.or_eq_true,decide_eq_true_eq]at h1;exact List.all_eq_true.1 (h1.resolve_left (by omega)) j (List.mem_range.2 hj)
theorem upI_dec (f:Nat->Bool) (i z:Nat) {S:Bool->World->Prop} {w:World} (h:S (decide (i=z) || f z) w):S (upI f i z) w:=by
 unfold upI;by_cases hi:z=i
 .subst hi;rw[if_pos rfl];simpa using h
 .rw[if_neg hi];rw[decide_eq_false (Ne.symm hi)]at h;simpa using h
theorem lowB_lt {l:List Oper} (h:lowB .any l=true) {i:Nat} {o:Oper} (ho:l[i]?=some o) {e:Edge} (he:e∈o.after) (hb:Region.binds .any e=true):e.on<i:=by
 have h1:=List.all_eq_true.1 h i (List.mem_range.2 (List.getElem?_eq_some_iff.1 ho).1);rw[ho]at h1;have h2:=Array.all_eq_true_iff_forall_mem.1 h1 e he;rw[hb]at h2;simpa using h2
theorem wp_region_tail {P:Program} {id:Nat} {L:List Oper} {Q:Exit->Act->World->Prop} {a:Act} {w:World} (n z:Nat) (hzn:z<n) (R:Nat->World->World->Prop) (S:Bool->World->Prop) (Fact:Nat->Value->World->Prop)
  (hm:P.follows .mixedOrders=true) (hlow:lowB .any L=true) (hap:apartB (L.take n)=true) (hB:tailB L n=true) (hn:n<L.length)
  (h0:S false w.drew) (hst:∀i j x u u',j≠i->R i u u'->Fact j x u->Fact j x u')
  (hsteps:GSteps P L.toArray Q a (L.take n) Fact R z S 0 (L.take n))
  (hend:∀v w',S true w'->(∀i,i<n->Fact i (v i) w')->wpList P L.toArray Q (L.drop n) (putAll a (L.take n) 0 v) w'):(Code.region id L.toArray true).wp P Q a w:=by
 have htl:(L.take n).length=n:=by rw[List.length_take];omega
 refine wp_region_inv hm (λf a' w'=>∃k,k<=L.length-n/\(∀j,j<k->f (n+j)=true)/\(∀j,k<=j->n+j<L.length->f (n+j)=false)/\
  (if k=0 then ∃v,a'=putAll a (L.take n) 0 v/\S (f z) w'/\(∀j,j<n->f j=true->Fact j (v j) w') else wpList P L.toArray Q (L.drop (n+k)) a' w')) hlow ?_ ?_ ?_
 .obtain ⟨v,hv,ho⟩:=putAll_own (L.take n) a 0;refine ⟨0,Nat.zero_le _,λj hj=>by omega,λj _ _=>rfl,?_⟩
  rw[if_pos rfl];exact ⟨v,hv.symm,h0,λj _ hj=>by cases hj⟩
 .rintro f a' w' hall ⟨k,hk,h1,h2,h3⟩;have hkn:k=L.length-n:=by
   by_cases h:k=L.length-n
   .exact h
   .have:=h2 k (Nat.le_refl _) (by omega)
    rw[hall _ (by omega)]at this
    cases this
  rw[if_neg (by omega),List.drop_of_length_le (by omega)]at h3
  exact h3
 .rintro i o ho f a' w' hf hpre hcl ⟨k,hk,h1,h2,h3⟩;have hil:i<L.length:=(List.getElem?_eq_some_iff.1 ho).1;by_cases hin:i<n
  ·-- one of the first
   have hk0:k=0:=by
    by_cases h:k=0
    .exact h
    .have hfn:=h1 0 (by omega)
     rw[closed_reach hcl 60 (n+0) i (tailB_reach hB (by omega) (by omega) (by omega)) hfn]at hf
     cases hf
   subst hk0;rw[if_pos rfl]at h3;obtain ⟨v,rfl,hR,hF⟩:=h3;have hot:(L.take n)[i]?=some o:=by rw[List.getElem?_take,if_pos hin];exact ho
   refine wpOp_mono (λ_ _ h=>h) (wpOp_of_list (by simpa using ho) ?_)
   have hpn:∀e∈o.after,Region.binds .any e=true->f e.on=true->e.on<n:=λe he hb _=>by
    have:=lowB_lt hlow ho he hb;omega
   refine hsteps i o hot v w' (f z) (λh=>by rw[Nat.zero_add]at h;rw[<-h];exact hf) hR (edgeF_of λe he hb=>hF _ (hpn e (Array.mem_toList_iff.1 he) hb (hpre e (Array.mem_toList_iff.1 he) hb)) (hpre e (Array.mem_toList_iff.1 he) hb)) _ (λx w'' hS' hR' hx=>⟨0,Nat.zero_le _,λj hj=>by omega,λj hj hjl=>?_,?_⟩)
   .rw[Bool.eq_false_iff];intro hc;rw[upI_eq]at hc;rcases hc with hc | hc
    .omega
    .rw[h2 j hj hjl]at hc;cases hc
   .rw[if_pos rfl];refine ⟨putV v i x,?_,upI_dec f i z (by rw[Nat.zero_add]at hS';exact hS'),λj hjn hj=>?_⟩
    .rw[putAll_upd x (L.take n) a 0 i o v hap hot,Nat.zero_add]
    .by_cases h:j=i
     .subst h;rw[putV_same];rw[Nat.zero_add]at hx;exact hx
     .rw[putV_ne v x h];rw[upI_eq]at hj;exact hst i j _ _ _ h (by rw[Nat.zero_add]at hR';exact hR') (hF j hjn (hj.resolve_left h))
  ·-- one of the last
   obtain ⟨t,rfl⟩:∃t,i=n+t:=⟨i-n,by omega⟩
   have htk:t=k:=by
    rcases Nat.lt_trichotomy t k with h | h | h
    .rw[h1 t h]at hf;cases hf
    .exact h
    .have:=reach_pre hcl ho hpre (tailB_reach hB hil (by omega) (show n+k<n+t by omega)) (by omega)
     rw[h2 k (Nat.le_refl _) (by omega)]at this
     cases this
   subst htk;have hdrop:L.drop (n+t)=o::L.drop (n+t+1):=by
    rw[List.drop_eq_getElem_cons hil]
    congr 1
    exact (List.getElem?_eq_some_iff.1 ho).2
   have hlist:wpList P L.toArray Q (o::L.drop (n+t+1)) a' w':=by
    rw[<-hdrop];by_cases ht0:t=0
    .subst ht0;rw[if_pos rfl]at h3;obtain ⟨v,rfl,hR,hF⟩:=h3;rw[Nat.add_zero]at *;exact hend v w' (by have:=reach_pre hcl ho hpre (tailB_reach hB hil (Nat.le_refl _) hzn) (by omega);rw[this]at hR;exact hR) λi hi=>hF i hi (reach_pre hcl ho hpre (tailB_reach hB hil (Nat.le_refl _) hi) (by omega))
    .rw[if_neg ht0]at h3;exact h3
   have hop:wpOp P L.toArray Q (n+t) (wpList P L.toArray Q (L.drop (n+t+1))) a' w':=by
    unfold wpOp;rw[show L.toArray[n+t]?=some o by simpa using ho]
    exact hlist
   refine wpOp_mono (λa'' w'' h=>⟨t+1,by omega,λj hj=>?_,λj hj hjl=>?_,?_⟩) hop
   .rw[upI_eq];by_cases h5:j=t
    .left;omega
    .right;exact h1 j (by omega)
   .rw[Bool.eq_false_iff];intro hc;rw[upI_eq]at hc;rcases hc with hc | hc
    .omega
    .rw[h2 j (by omega) hjl]at hc;cases hc
   .rw[if_neg (by omega)]
    exact h
def pairB (l:List Oper):List Nat->Bool
 | []=>true
 | a::r=>(r.all λb=>reachB l 60 b a && decide (a<b)) && pairB l r
def cntE (E:List Nat) (f:Nat->Bool):Nat:=(E.takeWhile f).length
theorem cntE_not {E:List Nat} {f:Nat->Bool} {i:Nat} (h:i∉E):cntE E (upI f i)=cntE E f:=by
 unfold cntE
 induction E with
 | nil=>rfl
 | cons a r ih=>
  have ha:upI f i a=f a:=by
   unfold upI;rw[if_neg (λe=>h (by rw[e];exact List.mem_cons_self))]
  rw[List.takeWhile_cons,List.takeWhile_cons,ha]
  cases f a with
  | false=>rfl
  | true=>simp only[if_true,List.length_cons];rw[ih (λhm=>h (List.mem_cons_of_mem _ hm))]
theorem cntE_mem {l:List Oper} {f:Nat->Bool} (hcl:ClosedI .any l f):∀{E:List Nat} {k i:Nat},pairB l E=true->E[k]?=some i->f i=false->(∀j,reachB l 60 i j=true->i≠j->f j=true)->cntE E f=k/\cntE E (upI f i)=k+1
 | [],k,i,_,h,_,_=>by simp at h
 | a::r,0,i,hp,h,hf,hpre=>by
  simp only[List.getElem?_cons_zero,Option.some.injEq]at h;subst h;rw[pairB,Bool.and_eq_true]at hp;unfold cntE;have hu:upI f a a=true:=by unfold upI;rw[if_pos rfl]
  rw[List.takeWhile_cons,hf,List.takeWhile_cons,hu];refine ⟨rfl,?_⟩;simp only[if_true,List.length_cons]
  cases r with
  | nil=>rfl
  | cons b r=>
   have h1:=List.all_eq_true.1 hp.1 b (by simp)
   rw[Bool.and_eq_true,decide_eq_true_eq]at h1;have hb:f b=false:=closed_not hcl 60 b a h1.1 hf;have hub:upI f a b=false:=by unfold upI;rw[if_neg (by omega)];exact hb
   rw[List.takeWhile_cons,hub];rfl
 | a::r,k+1,i,hp,h,hf,hpre=>by
  rw[List.getElem?_cons_succ]at h;rw[pairB,Bool.and_eq_true]at hp;have h1:=List.all_eq_true.1 hp.1 i (List.mem_of_getElem? h);rw[Bool.and_eq_true,decide_eq_true_eq]at h1;have ha:=hpre a h1.1 (by omega)
  obtain ⟨g1,g2⟩:=cntE_mem hcl hp.2 h hf hpre;have hua:upI f i a=true:=by unfold upI;rw[if_neg (by omega)];exact ha
  unfold cntE at *;rw[List.takeWhile_cons,ha,List.takeWhile_cons,hua];simp only[if_true,List.length_cons];exact ⟨by rw[g1],by rw[g2]⟩
theorem cntE_all {E:List Nat} {f:Nat->Bool} (h:∀i∈E,f i=true):cntE E f=E.length:=by
 unfold cntE
 induction E with
 | nil=>rfl
 | cons a r ih=>rw[List.takeWhile_cons,h a (by simp)];simp only[if_true,List.length_cons];rw[ih λi hi=>h i (by simp[hi])]
def lowC (L:List Oper) (E:List Nat) (i q:Nat):Bool:=match E[q]? with | some e=>reachB L 60 e i | none=>false
theorem cntE_le {f:Nat->Bool}:∀{E:List Nat} {q e:Nat},E[q]?=some e->f e=false->cntE E f<=q
 | [],q,e,h,_=>by simp at h
 | a::r,0,e,h,hf=>by
  simp only[List.getElem?_cons_zero,Option.some.injEq]at h;subst h;unfold cntE;rw[List.takeWhile_cons,hf];simp
 | a::r,q+1,e,h,hf=>by
  rw[List.getElem?_cons_succ]at h;have:=cntE_le h hf;unfold cntE at *;rw[List.takeWhile_cons]
  cases f a
  .simp
  .simp;omega
def HSteps (P:Program) (ops:Array Oper) (Q:Exit->Act->World->Prop) (a:Act) (l:List Oper) (E:List Nat) (Fact:Nat->Nat->Value->World->Prop) (S:Nat->World->Prop) (i:Nat) (r:List Oper):Prop:=
 ∀(k:Nat) (o:Oper),r[k]?=some o->∀v w' c,(∀q,E[q]?=some (i+k)->c=q)->(∀q,lowC ops.toList E (i+k) q=true->c<=q)->S c w'->edgeF (Fact c) v w' o.after.toList->∀K:Act->World->Prop,
  Shut (∀x w'' c',((c'=c/\(∀j y,j≠i+k->Fact c j y w'->Fact c j y w'')/\i+k∉E)\/(c'=c+1/\i+k∈E/\∀j y,j≠i+k->Fact c j y w'->Fact c' j y w''))->S c' w''->Fact c' (i+k) x w''->K ((putAll a l 0 v).put o.dst x) w'')->wpList P ops (QK Q K) [o] (putAll a l 0 v) w'
theorem HSteps.nil {P:Program} {ops:Array Oper} {Q:Exit->Act->World->Prop} {a:Act} {l:List Oper} {E:List Nat} {Fact:Nat->Nat->Value->World->Prop} {S:Nat->World->Prop} {i:Nat}:HSteps P ops Q a l E Fact S i []:=λk o h=>by simp at h
theorem HSteps.pure {P:Program} {ops:Array Oper} {Q:Exit->Act->World->Prop} {a:Act} {l:List Oper} {E:List Nat} {Fact:Nat->Nat->Value->World->Prop} {S:Nat->World->Prop} {i:Nat} {o:Oper} {r:List Oper} (hE:i∉E)
  (h:∀v w' c,(∀q,lowC ops.toList E i q=true->c<=q)->S c w'->edgeF (Fact c) v w' o.after.toList->∀K:Act->World->Prop,Shut (∀x,Fact c i x w'->K ((putAll a l 0 v).put o.dst x) w')->wpList P ops (QK Q K) [o] (putAll a l 0 v) w')
  (hr:HSteps P ops Q a l E Fact S (i+1) r):HSteps P ops Q a l E Fact S i (o::r):=by
 intro k o' hk
 cases k with
 | zero=>
  simp only[List.getElem?_cons_zero,Option.some.injEq]at hk;subst hk;intro v w' c _ hlo hS he K hK;exact h v w' c hlo hS he K λx hx=>hK x w' c (.inl ⟨rfl,λ_ _ _ h=>h,hE⟩) hS hx
 | succ k=>
  have e:i+(k+1)=i+1+k:=by omega
  rw[e];exact hr k o' (by simpa using hk)
theorem HSteps.free {P:Program} {ops:Array Oper} {Q:Exit->Act->World->Prop} {a:Act} {l:List Oper} {E:List Nat} {Fact:Nat->Nat->Value->World->Prop} {S:Nat->World->Prop} {i:Nat} {o:Oper} {r:List Oper} (hE:i∉E)
  (h:∀v w' c,(∀q,lowC ops.toList E i q=true->c<=q)->S c w'->edgeF (Fact c) v w' o.after.toList->∀K:Act->World->Prop,Shut (∀x w'',(∀j y,j≠i->Fact c j y w'->Fact c j y w'')->S c w''->Fact c i x w''->K ((putAll a l 0 v).put o.dst x) w'')->wpList P ops (QK Q K) [o] (putAll a l 0 v) w')
  (hr:HSteps P ops Q a l E Fact S (i+1) r):HSteps P ops Q a l E Fact S i (o::r):=by
 intro k o' hk
 cases k with
 | zero=>
  simp only[List.getElem?_cons_zero,Option.some.injEq]at hk;subst hk;intro v w' c _ hlo hS he K hK;exact h v w' c hlo hS he K λx w'' hst hS' hx=>hK x w'' c (.inl ⟨rfl,hst,hE⟩) hS' hx
 | succ k=>
  have e:i+(k+1)=i+1+k:=by omega
  rw[e];exact hr k o' (by simpa using hk)
theorem HSteps.eff {P:Program} {ops:Array Oper} {Q:Exit->Act->World->Prop} {a:Act} {l:List Oper} {E:List Nat} {Fact:Nat->Nat->Value->World->Prop} {S:Nat->World->Prop} {i:Nat} {o:Oper} {r:List Oper} (q:Nat) (hE:E[q]?=some i)
  (h:∀v w',S q w'->edgeF (Fact q) v w' o.after.toList->∀K:Act->World->Prop,Shut (∀x w'',(∀j y,j≠i->Fact q j y w'->Fact (q+1) j y w'')->S (q+1) w''->Fact (q+1) i x w''->K ((putAll a l 0 v).put o.dst x) w'')->wpList P ops (QK Q K) [o] (putAll a l 0 v) w')
  (hr:HSteps P ops Q a l E Fact S (i+1) r):HSteps P ops Q a l E Fact S i (o::r):=by
 intro k o' hk
 cases k with
 | zero=>
  simp only[List.getElem?_cons_zero,Option.some.injEq]at hk;subst hk;intro v w' c hc _ hS he K hK;have:=hc q hE;subst this;exact h v w' hS he K λx w'' hst hS' hx=>hK x w'' _ (.inr ⟨rfl,List.mem_of_getElem? hE,hst⟩) hS' hx
 | succ k=>
  have e:i+(k+1)=i+1+k:=by omega
  rw[e];exact hr k o' (by simpa using hk)
theorem wp_region_chain {P:Program} {id:Nat} {L:List Oper} {Q:Exit->Act->World->Prop} {a:Act} {w:World} (n:Nat) (E:List Nat) (Fact:Nat->Nat->Value->World->Prop) (S:Nat->World->Prop)
  (hm:P.follows .mixedOrders=true) (hlow:lowB .any L=true) (hap:apartB (L.take n)=true) (hB:tailB L n=true) (hP:pairB L E=true) (hEn:(E.all λi=>decide (i<n))=true) (hn:n<L.length)
  (h0:S 0 w.drew)
  (hsteps:HSteps P L.toArray Q a (L.take n) E Fact S 0 (L.take n))
  (hend:∀v w',S E.length w'->(∀i,i<n->Fact E.length i (v i) w')->wpList P L.toArray Q (L.drop n) (putAll a (L.take n) 0 v) w'):(Code.region id L.toArray true).wp P Q a w:=by
 have htl:(L.take n).length=n:=by rw[List.length_take];omega
 have hEn':∀i∈E,i<n:=λi hi=>by have:=List.all_eq_true.1 hEn i hi;simpa using this
 refine wp_region_inv hm (λf a' w'=>∃k,k<=L.length-n/\(∀j,j<k->f (n+j)=true)/\(∀j,k<=j->n+j<L.length->f (n+j)=false)/\
  (if k=0 then ∃v,a'=putAll a (L.take n) 0 v/\S (cntE E f) w'/\(∀j,j<n->f j=true->Fact (cntE E f) j (v j) w') else wpList P L.toArray Q (L.drop (n+k)) a' w')) hlow ?_ ?_ ?_
 .obtain ⟨v,hv,ho⟩:=putAll_own (L.take n) a 0;refine ⟨0,Nat.zero_le _,λj hj=>by omega,λj _ _=>rfl,?_⟩
  rw[if_pos rfl];have e:cntE E (λ_=>false)=0:=by unfold cntE; cases E <;> rfl
  rw[e];exact ⟨v,hv.symm,h0,λj _ hj=>by cases hj⟩
 .rintro f a' w' hall ⟨k,hk,h1,h2,h3⟩;have hkn:k=L.length-n:=by
   by_cases h:k=L.length-n
   .exact h
   .have:=h2 k (Nat.le_refl _) (by omega)
    rw[hall _ (by omega)]at this
    cases this
  rw[if_neg (by omega),List.drop_of_length_le (by omega)]at h3
  exact h3
 .rintro i o ho f a' w' hf hpre hcl ⟨k,hk,h1,h2,h3⟩;have hil:i<L.length:=(List.getElem?_eq_some_iff.1 ho).1;have hpr:∀j,reachB L 60 i j=true->i≠j->f j=true:=λj hr hij=>reach_pre hcl ho hpre hr hij;by_cases hin:i<n
  .have hk0:k=0:=by
    by_cases h:k=0
    .exact h
    .have hfn:=h1 0 (by omega)
     rw[closed_reach hcl 60 (n+0) i (tailB_reach hB (by omega) (by omega) (by omega)) hfn]at hf
     cases hf
   subst hk0;rw[if_pos rfl]at h3;obtain ⟨v,rfl,hR,hF⟩:=h3;have hot:(L.take n)[i]?=some o:=by rw[List.getElem?_take,if_pos hin];exact ho
   refine wpOp_mono (λ_ _ h=>h) (wpOp_of_list (by simpa using ho) ?_)
   have hpn:∀e∈o.after,Region.binds .any e=true->f e.on=true->e.on<n:=λe he hb _=>by
    have:=lowB_lt hlow ho he hb;omega
   refine hsteps i o hot v w' (cntE E f) (λq hq=>?_) (λq hq=>?_) hR (edgeF_of λe he hb=>hF _ (hpn e (Array.mem_toList_iff.1 he) hb (hpre e (Array.mem_toList_iff.1 he) hb)) (hpre e (Array.mem_toList_iff.1 he) hb)) _ (λx w'' c' hor hS' hx=>⟨0,Nat.zero_le _,λj hj=>by omega,λj hj hjl=>?_,?_⟩)
   .rw[Nat.zero_add]at hq;exact (cntE_mem hcl hP hq hf hpr).1
   .rw[Nat.zero_add]at hq;unfold lowC at hq
    cases he:E[q]? with
    | none=>rw[he]at hq;cases hq
    | some e=>rw[he]at hq;exact cntE_le he (closed_not hcl 60 e i (by simpa using hq) hf)
   .rw[Bool.eq_false_iff];intro hc;rw[upI_eq]at hc;rcases hc with hc | hc
    .omega
    .rw[h2 j hj hjl]at hc;cases hc
   .rw[if_pos rfl];rw[Nat.zero_add]at hor hx;have hcc:cntE E (upI f i)=c':=by
     rcases hor with ⟨e,-,hne⟩ | ⟨e,hme,-⟩
     .rw[cntE_not hne,e]
     .obtain ⟨q,hq,hqe⟩:=List.getElem_of_mem hme;have:=cntE_mem hcl hP (show E[q]?=some i by rw[List.getElem?_eq_getElem hq,hqe]) hf hpr
      rw[this.2,e,this.1]
    rw[hcc];refine ⟨putV v i x,?_,hS',λj hjn hj=>?_⟩
    .rw[putAll_upd x (L.take n) a 0 i o v hap hot,Nat.zero_add]
    .by_cases h:j=i
     .subst h;rw[putV_same];exact hx
     .rw[putV_ne v x h];rw[upI_eq]at hj;have hj':=hF j hjn (hj.resolve_left h);rcases hor with ⟨e,e2,-⟩ | ⟨-,-,hst⟩
      .rw[e];exact e2 j _ h hj'
      .exact hst j _ h hj'
  .obtain ⟨t,rfl⟩:∃t,i=n+t:=⟨i-n,by omega⟩
   have htk:t=k:=by
    rcases Nat.lt_trichotomy t k with h | h | h
    .rw[h1 t h]at hf;cases hf
    .exact h
    .have:=reach_pre hcl ho hpre (tailB_reach hB hil (by omega) (show n+k<n+t by omega)) (by omega)
     rw[h2 k (Nat.le_refl _) (by omega)]at this
     cases this
   subst htk;have hdrop:L.drop (n+t)=o::L.drop (n+t+1):=by
    rw[List.drop_eq_getElem_cons hil]
    congr 1
    exact (List.getElem?_eq_some_iff.1 ho).2
   have hlist:wpList P L.toArray Q (o::L.drop (n+t+1)) a' w':=by
    rw[<-hdrop];by_cases ht0:t=0
    .subst ht0;rw[if_pos rfl]at h3;obtain ⟨v,rfl,hR,hF⟩:=h3;rw[Nat.add_zero]at *;have hall:∀j,j<n->f j=true:=λj hj=>reach_pre hcl ho hpre (tailB_reach hB hil (Nat.le_refl _) hj) (by omega)
     have hce:cntE E f=E.length:=cntE_all λj hj=>hall j (hEn' j hj);rw[hce]at hR hF;exact hend v w' hR λi hi=>hF i hi (hall i hi)
    .rw[if_neg ht0]at h3;exact h3
   have hop:wpOp P L.toArray Q (n+t) (wpList P L.toArray Q (L.drop (n+t+1))) a' w':=by
    unfold wpOp;rw[show L.toArray[n+t]?=some o by simpa using ho]
    exact hlist
   refine wpOp_mono (λa'' w'' h=>⟨t+1,by omega,λj hj=>?_,λj hj hjl=>?_,?_⟩) hop
   .rw[upI_eq];by_cases h5:j=t
    .left;omega
    .right;exact h1 j (by omega)
   .rw[Bool.eq_false_iff];intro hc;rw[upI_eq]at hc;rcases hc with hc | hc
    .omega
    .rw[h2 j (by omega) hjl]at hc;cases hc
   .rw[if_neg (by omega)]
    exact h
end Go.Proofs.YtdmoogjddmdmbaaGreatDoor
