/- Walks. -/
import Derived.Test.YthamegenljmgmaaGreatDoorY01
import Derived.Deep.RegionHeld3
set_option maxRecDepth 100000
set_option maxHeartbeats 16000000
set_option linter.unusedVariables false
set_option linter.unusedSimpArgs false
namespace Go.Proofs.YthamegenljmgmaaGreatDoor
open Go.RowKit
section
open Go
def ui(f:Nat->Bool)(i:Nat):Nat->Bool:=λj=>if j=i then true else f j
theorem mL(f:Nat->Bool)(i j:Nat):(ui f i j=true)=(j=i\/f j=true):=by
 unfold ui;by_cases h:j=i
 .simp[h]
 .simp[h]
def Iy(md:Region.Mode)(l:List Oper):Bool:=(List.range l.length).all λi=>match l[i]? with | some o=>o.after.all λe=>!Region.binds md e || decide (e.on<i) | none=>true
def Ca(listed:Array Bool):Nat->Bool:=λi=>listed.getD i false
def iA(md:Region.Mode)(l:List Oper)(f:Nat->Bool):Prop:=∀(j:Nat) (o:Oper),l[j]?=some o->f j=true->∀e∈o.after,Region.binds md e=true->f e.on=true
theorem Gs{listed:Array Bool}{i:Nat}(hi:i<listed.size):Ca (listed.setIfInBounds i true)=ui (Ca listed) i:=by
 funext j
 unfold Ca ui;by_cases h:j=i
 .subst h;simp[hi]
 .rw[if_neg h];exact getD_set_ne false (Ne.symm h)
theorem zC{md:Region.Mode}{l:List Oper}{listed:Array Bool}(kM:Iy md l=true)(hs:listed.size=l.length)(hr:Region.ready md l.toArray listed=[]):∀n,n<=l.length->∀i,i<n->Ca listed i=true:=by
 intro n
 induction n with
 |zero=>intro _ i hi;exact absurd hi (Nat.not_lt_zero _)
 |succ n ih=>
  intro hn i hi;by_cases bI:i<n
  .exact ih U i bI
  .obtain rfl:i=n:=U
   cases hf:Ca listed i with
   |true=>rfl
   |false=>
    exfalso;have aB:i<l.length:=U;have hm:i∈Region.ready md l.toArray listed:=by
     rw[mem_ready];refine ⟨?_,l[i],by simp[aB],λe he hb=>?_⟩
     .have:i<listed.size:=U;unfold Ca at hf;simpa [this] using hf
     .have h1:=List.all_eq_true.1 kM i (by simpa using aB)
      simp only[List.getElem?_eq_getElem aB]at h1;have h2:=Array.all_eq_true_iff_forall_mem.1 h1 e he;simp only[hb,Bool.not_true,Bool.false_or,decide_eq_true_eq]at h2;exact ih U e.on h2
    rw[hr]at hm
    cases hm
theorem Iz{P:Program}{md:Region.Mode}{l:List Oper}{Q:Exit->Act->World->Prop}(Inv:(Nat->Bool)->Act->World->Prop)(kM:Iy md l=true)
  (Cb:∀f a w,(∀i,i<l.length->f i=true)->Inv f a w->Q .normal a w)
  (iR:∀(i:Nat) (o:Oper),l[i]?=some o->∀f a w,f i=false->(∀e∈o.after,Region.binds md e=true->f e.on=true)->iA md l f->Inv f a w->wpOp P l.toArray Q i (Inv (ui f i)) a w) :
  ∀(fuel:Nat) (listed:Array Bool) (a:Act) (w:World),listed.size=l.length->l.length<=fuel+(listed.toList.filter id).length->iA md l (Ca listed)->Inv (Ca listed) a w->wpAny P md l.toArray Q fuel listed a w:=by
 intro fuel
 induction fuel with
 |zero=>
  intro listed a w hs hc dj hI;have jf:∀i,i<l.length->Ca listed i=true:=by
   intro i hi;have h1:(listed.toList.filter id).length=listed.toList.length:=by
    have:=List.length_filter_le id listed.toList;simp only[Array.length_toList]at *;omega
   have h2:=List.length_filter_eq_length_iff.1 h1;have h3:=h2 (listed[i]'U) H;unfold Ca;simpa [show i<listed.size by omega] using h3
  refine ⟨?_,Cb _ a w jf hI⟩;refine List.eq_nil_iff_forall_not_mem.2 λj hj=>?_;obtain ⟨h0,o,ho,-⟩:=mem_ready.1 hj;have aB:j<l.length:=by
   have:=(γ ho).1;simpa using this
  have:=jf j aB;unfold Ca at this;simp only[Array.getD_eq_getD_getElem?]at this h0;rw[Array.getElem?_eq_getElem U]at this h0;simp at this h0;rw[this]at h0
  cases h0
 |succ fuel ih=>
  intro listed a w hs hc dj hI;refine ⟨λhr=>Cb _ a w (zC kM hs hr l.length V) hI,λi hi=>?_⟩;obtain ⟨h0,o,ho,jf⟩:=mem_ready.1 hi;have aB:i<l.length:=by
   have:=(γ ho).1;simpa using this
  have dE:i<listed.size:=U;have tD:l[i]?=some o:=by simpa using ho
  have hfi:Ca listed i=false:=by unfold Ca;simpa [dE] using h0
  refine wpOp_mono (λa' w' h=>?_) (iR i o tD (Ca listed) a w hfi jf dj hI);rw[<-Gs dE]at h;refine ih _ a' w' (by simp[hs]) ?_ ?_ h
  .have aq6:(listed.toList.filter id).length+1=((listed.setIfInBounds i true).toList.filter id).length:=by
    have hb:listed.toList[i]'(by simpa using dE)=false:=by simpa [dE] using h0
    rw[Array.toList_setIfInBounds];have hg:∀(L:List Bool) (i:Nat) (h:i<L.length),L[i]=false->(L.filter id).length+1=((L.set i true).filter id).length:=by
     intro L
     induction L with
     |nil=>intro i h;exact absurd h (Nat.not_lt_zero _)
     |cons x r ihr=>
      intro i h hx
      cases i with
      |zero=>simp only[List.getElem_cons_zero]at hx;subst hx;simp
      |succ i=>
       simp only[List.getElem_cons_succ]at hx;have:=ihr i (by simpa using h) hx
       simp only[List.set_cons_succ,List.filter_cons]
       cases x <;> simp <;> omega
    exact hg _ i _ hb
   omega
  .rw[Gs dE];intro j oj YG hfj e he hb;rw[mL]at hfj|-;rcases hfj with rfl|hfj
   .obtain rfl:oj=o:=Option.some.inj (YG.symm.t tD);exact Or.inr (jf e he hb)
   .exact Or.inr (dj j oj YG hfj e he hb)
theorem pN{P:Program}{id:Nat}{l:List Oper}{Q:Exit->Act->World->Prop}{a:Act}{w:World}(hm:P.follows .mixedOrders=true)(Inv:(Nat->Bool)->Act->World->Prop)(kM:Iy .any l=true)
  (h0:Inv (λ_=>false) a w.drew)
  (Cb:∀f a w,(∀i,i<l.length->f i=true)->Inv f a w->Q .normal a w)
  (iR:∀(i:Nat) (o:Oper),l[i]?=some o->∀f a w,f i=false->(∀e∈o.after,Region.binds .any e=true->f e.on=true)->iA .any l f->Inv f a w->wpOp P l.toArray Q i (Inv (ui f i)) a w):(Code.region id l.toArray true).wp P Q a w:=by
 refine wp_region_any hm (Iz Inv kM Cb iR _ _ _ _ H H ?_ ?_)
 .intro j o _ hf;unfold Ca at hf;simp only[Array.getD_eq_getD_getElem?,Array.getElem?_replicate]at hf;split at hf <;> simp at hf
 .have:Ca (Array.replicate l.toArray.size false)=λ_=>false:=by
   funext j
   unfold Ca;simp only[Array.getD_eq_getD_getElem?,Array.getElem?_replicate];split <;> simp
  rw[this];exact h0
def Ei(P:Program)(ops:Array Oper)(Q:Exit->Act->World->Prop)(Inv:(Nat->Bool)->Act->World->Prop)(i:Nat)(r:List Oper):Prop:=
 ∀(k:Nat) (o:Oper),r[k]?=some o->∀f a w,f (i+k)=false->(∀e∈o.after,Region.binds .any e=true->f e.on=true)->iA .any ops.toList f->Inv f a w->wpOp P ops Q (i+k) (Inv (ui f (i+k))) a w
def Gt(f:Nat->Bool):List Edge->Prop
 | []=>True
 |e::r=>(Region.binds .any e=true->f e.on=true)/\Gt f r
theorem Cc{f:Nat->Bool}:∀{l:List Edge},(∀e∈l,Region.binds .any e=true->f e.on=true)->Gt f l
 | [],_=>trivial
 |e::r,h=>⟨h e H,Cc λx hx=>h x (by simp[hx])⟩
theorem Ei.cons{P:Program}{ops:Array Oper}{Q:Exit->Act->World->Prop}{Inv:(Nat->Bool)->Act->World->Prop}{i:Nat}{o:Oper}{r:List Oper}(ho:ops[i]?=some o)
  (h:∀f a w,f i=false->Gt f o.after.toList->iA .any ops.toList f->Inv f a w->∀K:Act->World->Prop,Shut (∀a' w',Inv (ui f i) a' w'->K a' w')->if Region.wanted o (yielded ops a.tmps)=true then Oper.wp P o a w K Q else K (a.put o.dst undef) w)
  (hr:Ei P ops Q Inv (i+1) r):Ei P ops Q Inv i (o::r):=by
 intro k o' hk f a w h0 jo dj hI
 cases k with
 |zero=>
  simp only[List.getElem?_cons_zero,Option.some.injEq]at hk;subst hk;exact wpOp_step ho λK' hK=>h f a w h0 (Cc λe he=>jo e (Array.mem_toList_iff.1 he)) dj hI K' hK
 |succ k=>
  have e:i+(k+1)=i+1+k:=U;rw[e]at h0|-;exact hr k o' (by simpa using hk) f a w h0 jo dj hI
def ah(a:Act):List Oper->Nat->(Nat->Value)->Act
 | [],_,_=>a
 |o::r,i,v=>ah (a.put o.dst (v i)) r (i+1) v
def tM(v:Nat->Value)(i:Nat)(x:Value):Nat->Value:=λj=>if j=i then x else v j
theorem ss(v:Nat->Value)(i:Nat)(x:Value):tM v i x i=x:=by unfold tM;rw[if_pos rfl]
theorem uj(v:Nat->Value){i j:Nat}(x:Value)(h:j≠i):tM v i x j=v j:=by unfold tM;rw[if_neg h]
theorem Mn(a:Act)(d:Option Tmp)(x y:Value):(a.put d x).put d y=a.put d y:=by
 cases d with
 |none=>rfl
 |some d=>simp[Act.put]
theorem QL(a:Act)(d:Tmp):a.put (some d) (a.tmps.getD d undef)=a:=by
 obtain ⟨t,ds⟩:=a;simp only[Act.put]
 congr 1
 apply Array.ext H;intro i h1 h2;by_cases h:d=i
 .subst h;simp[h2]
 .rw[Array.getElem_setIfInBounds (by exact h2)];simp[h]
theorem pO(x:Value):∀(l:List Oper) (a:Act) (i k:Nat) (v:Nat->Value),k<i->ah a l i (tM v k x)=ah a l i v
 | [],_,_,_,_,_=>rfl
 |o::r,a,i,k,v,h=>by
  show ah (a.put o.dst (tM v k x i)) r (i+1) _=ah (a.put o.dst (v i)) r (i+1) v;rw[uj v x U,pO x r _ (i+1) k v U]
def vw:List Oper->Bool
 | []=>true
 |o::r=>(match o.dst with|none=>true|some d=>r.all λu=>decide (u.dst≠some d)) && vw r
theorem vz(d:Option Tmp)(x:Value):∀(l:List Oper) (a:Act) (i:Nat) (v:Nat->Value),(∀u∈l,∀e,d=some e->u.dst≠some e)->(ah a l i v).put d x=ah (a.put d x) l i v
 | [],_,_,_,_=>rfl
 |o::r,a,i,v,h=>by
  show (ah (a.put o.dst (v i)) r (i+1) v).put d x=ah ((a.put d x).put o.dst (v i)) r (i+1) v;rw[vz d x r _ (i+1) v (λu hu=>h u (by simp[hu])),Act.put_comm]
  intro e he hx;exact h o H e hx he
theorem qg(x:Value):∀(l:List Oper) (a:Act) (i k:Nat) (o:Oper) (v:Nat->Value),vw l=true->l[k]?=some o->(ah a l i v).put o.dst x=ah a l i (tM v (i+k) x)
 | [],_,_,_,_,_,_,h=>by simp at h
 |u::r,a,i,k,o,v,Qk,h=>by
  rw[vw,Bool.and_eq_true]at Qk
  cases k with
  |zero=>
   simp only[List.getElem?_cons_zero,Option.some.injEq]at h;subst h;show (ah (a.put u.dst (v i)) r (i+1) v).put u.dst x=ah (a.put u.dst (tM v i x i)) r (i+1) (tM v i x);rw[ss,pO x r _ _ _ v U,vz,Mn];intro w hw e he;have:=Qk.1;rw[he]at this;simpa using List.all_eq_true.1 this w hw
  |succ k=>
   show (ah (a.put u.dst (v i)) r (i+1) v).put o.dst x=ah (a.put u.dst (tM v (i+(k+1)) x i)) r (i+1) _;rw[uj v x U,qg x r _ (i+1) k o v Qk.2 (by simpa using h)]
   congr 2
   omega
theorem yj{a:Act}:∀(r:List Oper) (k:Nat) (v:Nat->Value),(∀j o d,r[j]?=some o->o.dst=some d->v (k+j)=a.tmps.getD d undef)->ah a r k v=a
 | [],_,_,_=>rfl
 |o::r,k,v,h=>by
  show ah (a.put o.dst (v k)) r (k+1) v=a;have he:a.put o.dst (v k)=a:=by
   cases hd:o.dst with
   |none=>rfl
   |some d=>
    have:=h 0 o d H hd;rw[Nat.add_zero]at this;rw[this,QL]
  rw[he];refine yj r (k+1) v λj u d hu hd=>?_;have:=h (j+1) u d (by simpa using hu) hd
  rwa [show k+(j+1)=k+1+j by omega]at this
theorem vB(l:List Oper)(a:Act)(i:Nat):∃v:Nat->Value,ah a l i v=a/\∀j d,(l[j]?).bind (·.dst)=some d->v (i+j)=a.tmps.getD d undef:=by
 refine ⟨λj=>match l[j-i]? with|some o=>(match o.dst with|some d=>a.tmps.getD d undef|none=>undef)|none=>undef,?_,λj d hd=>?_⟩
 .refine yj l i _ λj o d ho hd=>?_;have e:i+j-i=j:=U;simp only[e,ho,hd]
 .have e:i+j-i=j:=U
  cases ho:l[j]? with
  |none=>rw[ho]at hd;cases hd
  |some o=>rw[ho]at hd;simp only[Option.bind_some]at hd;simp only[e,ho,hd]
def q6(Fact:Nat->Value->World->Prop)(v:Nat->Value)(w:World):List Edge->Prop
 | []=>True
 |e::r=>(Region.binds .any e=true->Fact e.on (v e.on) w)/\q6 Fact v w r
theorem vC{Fact:Nat->Value->World->Prop}{v:Nat->Value}{w:World}:∀{l:List Edge},(∀e∈l,Region.binds .any e=true->Fact e.on (v e.on) w)->q6 Fact v w l
 | [],_=>trivial
 |e::r,h=>⟨h e H,vC λx hx=>h x (by simp[hx])⟩
def gJ(l:List Oper):Nat->Nat->Nat->Bool
 |0,i,j=>decide (i=j)
 | n+1,i,j=>decide (i=j) || match l[i]? with | some o=>o.after.toList.any λe=>Region.binds .any e && gJ l n e.on j | none=>false
theorem gK{l:List Oper}{f:Nat->Bool}(dj:iA .any l f):∀(n i j:Nat),gJ l n i j=true->f i=true->f j=true
 |0,i,j,h,hf=>by simp only[gJ,decide_eq_true_eq]at h;subst h;exact hf
 |n+1,i,j,h,hf=>by
  rw[gJ,Bool.or_eq_true,decide_eq_true_eq]at h;rcases h with rfl|h
  .exact hf
  .cases ho:l[i]? with
   |none=>rw[ho]at h;cases h
   |some o=>
    rw[ho]at h;obtain ⟨e,he,hr⟩:=List.any_eq_true.1 h;rw[Bool.and_eq_true]at hr;exact gK dj n e.on j hr.2 (dj i o ho hf e (Array.mem_toList_iff.1 he) hr.1)
theorem vD{l:List Oper}{f:Nat->Bool}(dj:iA .any l f)(n i j:Nat)(hr:gJ l n i j=true)(h0:f j=false):f i=false:=by
 cases h:f i with
 |false=>rfl
 |true=>rw[gK dj n i j hr h]at h0;cases h0
def QK(Q:Exit->Act->World->Prop)(K:Act->World->Prop):Exit->Act->World->Prop
 | .normal=>K
 |e=>Q e
theorem abb{P:Program}{o:Oper}{a:Act}{w:World}{K:Act->World->Prop}{Q:Exit->Act->World->Prop}(h:o.wp P a w K (QK Q K)):o.wp P a w K Q:=by
 unfold Oper.wp at *;generalize (execOp a.eval o).run P w=r at *
 cases r with
 |ok n w'=>
  cases n <;> simp only[Oper.upon]at h|- <;>
   first
    |exact h
    |exact Calls.mono h (λe gX he=>by cases e <;> exact he)
 |halt x w'=>cases x <;> simp only[Oper.upon]at h|- <;> exact h
theorem q7{P:Program}{ops:Array Oper}{Q:Exit->Act->World->Prop}{i:Nat}{o:Oper}{K:Act->World->Prop}{a:Act}{w:World}(ho:ops[i]?=some o)(h:wpList P ops (QK Q K) [o] a w):wpOp P ops Q i K a w:=by
 unfold wpOp;rw[ho];show if Region.wanted o (yielded ops a.tmps)=true then _ else _;unfold wpList at h;split
 .rename_i hw
  rw[if_pos hw]at h;exact h.imp (λh=>abb h) id
 .rename_i hw
  rw[if_neg hw]at h;exact h
def aii(P:Program)(l:List Oper)(Q:Exit->Act->World->Prop)(a:Act)(Fact:(Nat->Bool)->Nat->Value->World->Prop)(S:(Nat->Bool)->World->Prop)(i:Nat)(r:List Oper):Prop:=
 ∀(k:Nat) (o:Oper),r[k]?=some o->∀f v w,f (i+k)=false->Gt f o.after.toList->q6 (Fact f) v w o.after.toList->(∀j,f j=true->Fact f j (v j) w)->iA .any l f->(∀j d,(l[j]?).bind (·.dst)=some d->f j=false->v j=a.tmps.getD d undef)->S f w->∀K:Act->World->Prop,
  Shut (∀x w',S (ui f (i+k)) w'->(∀j,j≠i+k->f j=true->Fact f j (v j) w->Fact (ui f (i+k)) j (v j) w')->Fact (ui f (i+k)) (i+k) x w'->K ((ah a l 0 v).put o.dst x) w')->
  wpList P l.toArray (QK Q K) [o] (ah a l 0 v) w
end
def Mo(l:List Oper)(n:Nat):Bool:=(List.range l.length).all λi=>decide (i<n) || (List.range i).all λj=>gJ l 60 i j
def ba(P:Program)(ops:Array Oper)(Q:Exit->Act->World->Prop)(a:Act)(l:List Oper)(Fact:Nat->Value->World->Prop)(awO:Nat->World->World->Prop)(z:Nat)(S:Bool->World->Prop)(i:Nat)(r:List Oper):Prop:=
 ∀(k:Nat) (o:Oper),r[k]?=some o->∀v w' c,(i+k=z->c=false)->S c w'->q6 Fact v w' o.after.toList->∀K:Act->World->Prop,
  Shut (∀x gX,S (decide (i+k=z) || c) gX->awO (i+k) w' gX->Fact (i+k) x gX->K ((ah a l 0 v).put o.dst x) gX)->wpList P ops (QK Q K) [o] (ah a l 0 v) w'
theorem ba.nil{P:Program}{ops:Array Oper}{Q:Exit->Act->World->Prop}{a:Act}{l:List Oper}{Fact:Nat->Value->World->Prop}{awO:Nat->World->World->Prop}{z:Nat}{S:Bool->World->Prop}{i:Nat}:ba P ops Q a l Fact awO z S i []:=λk o h=>by simp at h
theorem ba.cons{P:Program}{ops:Array Oper}{Q:Exit->Act->World->Prop}{a:Act}{l:List Oper}{Fact:Nat->Value->World->Prop}{awO:Nat->World->World->Prop}{z:Nat}{S:Bool->World->Prop}{i:Nat}{o:Oper}{r:List Oper}
  (h:∀v w' c,(i=z->c=false)->S c w'->q6 Fact v w' o.after.toList->∀K:Act->World->Prop,Shut (∀x gX,S (decide (i=z) || c) gX->awO i w' gX->Fact i x gX->K ((ah a l 0 v).put o.dst x) gX)->wpList P ops (QK Q K) [o] (ah a l 0 v) w')
  (hr:ba P ops Q a l Fact awO z S (i+1) r):ba P ops Q a l Fact awO z S i (o::r):=by
 intro k o' hk
 cases k with
 |zero=>
  simp only[List.getElem?_cons_zero,Option.some.injEq]at hk;subst hk;exact h
 |succ k=>
  have e:i+(k+1)=i+1+k:=U;rw[e];exact hr k o' (by simpa using hk)
theorem jH{l:List Oper}{f:Nat->Bool}(dj:iA .any l f){n i j:Nat}{o:Oper}(ho:l[i]?=some o)(jo:∀e∈o.after,Region.binds .any e=true->f e.on=true)(hr:gJ l n i j=true)(OJ:i≠j):f j=true:=by
 cases n with
 |zero=>simp only[gJ,decide_eq_true_eq]at hr;exact absurd hr OJ
 |succ n=>
  rw[gJ,Bool.or_eq_true,decide_eq_true_eq,ho]at hr;obtain ⟨e,he,hr⟩:=List.any_eq_true.1 (hr.resolve_left OJ);rw[Bool.and_eq_true]at hr;exact gK dj n e.on j hr.2 (jo e (Array.mem_toList_iff.1 he) hr.1)
theorem eY{l:List Oper}{n:Nat}(h:Mo l n=true){i j:Nat}(hi:i<l.length)(hn:n<=i)(hj:j<i):gJ l 60 i j=true:=by
 have h1:=List.all_eq_true.1 h i (List.mem_range.2 hi);rw[Bool.or_eq_true,decide_eq_true_eq]at h1;exact List.all_eq_true.1 (h1.resolve_left U) j (List.mem_range.2 hj)
theorem QM(f:Nat->Bool)(i z:Nat){S:Bool->World->Prop}{w:World}(h:S (decide (i=z) || f z) w):S (ui f i z) w:=by
 unfold ui;by_cases hi:z=i
 .subst hi;rw[if_pos rfl];simpa using h
 .rw[if_neg hi];rw[decide_eq_false (Ne.symm hi)]at h;simpa using h
theorem Gu{l:List Oper}(h:Iy .any l=true){i:Nat}{o:Oper}(ho:l[i]?=some o){e:Edge}(he:e∈o.after)(hb:Region.binds .any e=true):e.on<i:=by
 have h1:=List.all_eq_true.1 h i (List.mem_range.2 (List.getElem?_eq_some_iff.1 ho).1);rw[ho]at h1;have h2:=Array.all_eq_true_iff_forall_mem.1 h1 e he;rw[hb]at h2;simpa using h2
theorem om{P:Program}{id:Nat}{L:List Oper}{Q:Exit->Act->World->Prop}{a:Act}{w:World}(n z:Nat)(hzn:z<n)(awO:Nat->World->World->Prop)(S:Bool->World->Prop)(Fact:Nat->Value->World->Prop)
  (hm:P.follows .mixedOrders=true) (kM:Iy .any L=true) (Qk:vw (L.take n)=true) (hB:Mo L n=true) (hn:n<L.length)
  (h0:S false w.drew) (fw:∀i j x u u',j≠i->awO i u u'->Fact j x u->Fact j x u')
  (Ej:ba P L.toArray Q a (L.take n) Fact awO z S 0 (L.take n))
  (Cb:∀v w',S true w'->(∀i,i<n->Fact i (v i) w')->wpList P L.toArray Q (L.drop n) (ah a (L.take n) 0 v) w'):(Code.region id L.toArray true).wp P Q a w:=by
 have Dj:(L.take n).length=n:=by rw[List.length_take];omega
 refine pN hm (λf a' w'=>∃k,k<=L.length-n/\(∀j,j<k->f (n+j)=true)/\(∀j,k<=j->n+j<L.length->f (n+j)=false)/\
  (if k=0 then ∃v,a'=ah a (L.take n) 0 v/\S (f z) w'/\(∀j,j<n->f j=true->Fact j (v j) w') else wpList P L.toArray Q (L.drop (n+k)) a' w')) kM ?_ ?_ ?_
 .obtain ⟨v,hv,ho⟩:=vB (L.take n) a 0;refine ⟨0,Nat.zero_le _,λj hj=>U,λj _ _=>rfl,?_⟩;rw[if_pos rfl];exact ⟨v,hv.symm,h0,λj _ hj=>by cases hj⟩
 .rintro f a' w' jf ⟨k,hk,h1,h2,h3⟩;have jC:k=L.length-n:=by
   by_cases h:k=L.length-n
   .exact h
   .have:=h2 k V U;rw[jf _ U]at this
    cases this
  rw[if_neg U,List.drop_of_length_le U]at h3;exact h3
 .rintro i o ho f a' w' hf jo dj ⟨k,hk,h1,h2,h3⟩;have dE:i<L.length:=(List.getElem?_eq_some_iff.1 ho).1;by_cases bI:i<n
  ·-- one of the first
   have mJ:k=0:=by
    by_cases h:k=0
    .exact h
    .have Dc:=h1 0 U;rw[gK dj 60 (n+0) i (eY hB U U U) Dc]at hf
     cases hf
   subst mJ;rw[if_pos rfl]at h3;obtain ⟨v,rfl,hR,hF⟩:=h3;have zD:(L.take n)[i]?=some o:=by rw[List.getElem?_take,if_pos bI];exact ho
   refine wpOp_mono (λ_ _ h=>h) (q7 (by simpa using ho) ?_)
   have sL:∀e∈o.after,Region.binds .any e=true->f e.on=true->e.on<n:=λe he hb _=>by
    have:=Gu kM ho he hb;omega
   refine Ej i o zD v w' (f z) (λh=>by rw[Nat.zero_add]at h;rw[<-h];exact hf) hR (vC λe he hb=>hF _ (sL e (Array.mem_toList_iff.1 he) hb (jo e (Array.mem_toList_iff.1 he) hb)) (jo e (Array.mem_toList_iff.1 he) hb)) _ (λx gX Tw hR' hx=>⟨0,Nat.zero_le _,λj hj=>U,λj hj hU=>?_,?_⟩)
   .rw[Bool.eq_false_iff];intro hc;rw[mL]at hc;rcases hc with hc|hc
    .omega
    .rw[h2 j hj hU]at hc;cases hc
   .rw[if_pos rfl];refine ⟨tM v i x,?_,QM f i z (by rw[Nat.zero_add]at Tw;exact Tw),λj OM hj=>?_⟩
    .rw[qg x (L.take n) a 0 i o v Qk zD,Nat.zero_add]
    .by_cases h:j=i
     .subst h;rw[ss];rw[Nat.zero_add]at hx;exact hx
     .rw[uj v x h];rw[mL]at hj;exact fw i j _ _ _ h (by rw[Nat.zero_add]at hR';exact hR') (hF j OM (hj.resolve_left h))
  ·-- one of the last
   obtain ⟨t,rfl⟩:∃t,i=n+t:=⟨i-n,U⟩;have tG:t=k:=by
    rcases Nat.lt_trichotomy t k with h|h|h
    .rw[h1 t h]at hf;cases hf
    .exact h
    .have:=jH dj ho jo (eY hB dE U (show n+k<n+t by omega)) U
     rw[h2 k V U]at this
     cases this
   subst tG;have Mp:L.drop (n+t)=o::L.drop (n+t+1):=by
    rw[List.drop_eq_getElem_cons dE]
    congr 1
    exact (List.getElem?_eq_some_iff.1 ho).2
   have yk:wpList P L.toArray Q (o::L.drop (n+t+1)) a' w':=by
    rw[<-Mp];by_cases Ml:t=0
    .subst Ml;rw[if_pos rfl]at h3;obtain ⟨v,rfl,hR,hF⟩:=h3;rw[Nat.add_zero]at *;exact Cb v w' (by have:=jH dj ho jo (eY hB dE V hzn) U;rw[this]at hR;exact hR) λi hi=>hF i hi (jH dj ho jo (eY hB dE V hi) U)
    .rw[if_neg Ml]at h3;exact h3
   have jE:wpOp P L.toArray Q (n+t) (wpList P L.toArray Q (L.drop (n+t+1))) a' w':=by
    unfold wpOp;rw[show L.toArray[n+t]?=some o by simpa using ho]
    exact yk
   refine wpOp_mono (λa'' gX h=>⟨t+1,U,λj hj=>?_,λj hj hU=>?_,?_⟩) jE
   .rw[mL];by_cases h5:j=t
    .left;omega
    .right;exact h1 j U
   .rw[Bool.eq_false_iff];intro hc;rw[mL]at hc;rcases hc with hc|hc
    .omega
    .rw[h2 j U hU]at hc;cases hc
   .rw[if_neg U];exact h
def Cd(l:List Oper):List Nat->Bool
 | []=>true
 |a::r=>(r.all λb=>gJ l 60 b a && decide (a<b)) && Cd l r
def mM(E:List Nat)(f:Nat->Bool):Nat:=(E.takeWhile f).length
theorem Mq{E:List Nat}{f:Nat->Bool}{i:Nat}(h:i∉E):mM E (ui f i)=mM E f:=by
 unfold mM
 induction E with
 |nil=>rfl
 |cons a r ih=>
  have ha:ui f i a=f a:=by
   unfold ui;rw[if_neg (λe=>h (by rw[e];exact List.mem_cons_self))]
  rw[List.takeWhile_cons,List.takeWhile_cons,ha]
  cases f a with
  |false=>rfl
  |true=>simp only[if_true,List.length_cons];rw[ih (λhm=>h (List.mem_cons_of_mem _ hm))]
theorem vF{l:List Oper}{f:Nat->Bool}(dj:iA .any l f):∀{E:List Nat} {k i:Nat},Cd l E=true->E[k]?=some i->f i=false->(∀j,gJ l 60 i j=true->i≠j->f j=true)->mM E f=k/\mM E (ui f i)=k+1
 | [],k,i,_,h,_,_=>by simp at h
 |a::r,0,i,hp,h,hf,jo=>by
  simp only[List.getElem?_cons_zero,Option.some.injEq]at h;subst h;rw[Cd,Bool.and_eq_true]at hp;unfold mM;have hu:ui f a a=true:=by unfold ui;rw[if_pos rfl]
  rw[List.takeWhile_cons,hf,List.takeWhile_cons,hu];refine ⟨rfl,?_⟩;simp only[if_true,List.length_cons]
  cases r with
  |nil=>rfl
  |cons b r=>
   have h1:=List.all_eq_true.1 hp.1 b H;rw[Bool.and_eq_true,decide_eq_true_eq]at h1;have hb:f b=false:=vD dj 60 b a h1.1 hf;have hub:ui f a b=false:=by unfold ui;rw[if_neg U];exact hb
   rw[List.takeWhile_cons,hub];rfl
 |a::r,k+1,i,hp,h,hf,jo=>by
  rw[List.getElem?_cons_succ]at h;rw[Cd,Bool.and_eq_true]at hp;have h1:=List.all_eq_true.1 hp.1 i (List.mem_of_getElem? h);rw[Bool.and_eq_true,decide_eq_true_eq]at h1;have ha:=jo a h1.1 U;obtain ⟨g1,g2⟩:=vF dj hp.2 h hf jo;have hua:ui f i a=true:=by unfold ui;rw[if_neg U];exact ha
  unfold mM at *;rw[List.takeWhile_cons,ha,List.takeWhile_cons,hua];simp only[if_true,List.length_cons];exact ⟨by rw[g1],by rw[g2]⟩
theorem Mr{E:List Nat}{f:Nat->Bool}(h:∀i∈E,f i=true):mM E f=E.length:=by
 unfold mM
 induction E with
 |nil=>rfl
 |cons a r ih=>rw[List.takeWhile_cons,h a H];simp only[if_true,List.length_cons];rw[ih λi hi=>h i (by simp[hi])]
def QN(L:List Oper)(E:List Nat)(i q:Nat):Bool:=match E[q]? with|some e=>gJ L 60 e i|none=>false
theorem Gv{f:Nat->Bool}:∀{E:List Nat} {q e:Nat},E[q]?=some e->f e=false->mM E f<=q
 | [],q,e,h,_=>by simp at h
 |a::r,0,e,h,hf=>by
  simp only[List.getElem?_cons_zero,Option.some.injEq]at h;subst h;unfold mM;rw[List.takeWhile_cons,hf];simp
 |a::r,q+1,e,h,hf=>by
  rw[List.getElem?_cons_succ]at h;have:=Gv h hf;unfold mM at *;rw[List.takeWhile_cons]
  cases f a
  .simp
  .simp;omega
def aa(P:Program)(ops:Array Oper)(Q:Exit->Act->World->Prop)(a:Act)(l:List Oper)(E:List Nat)(Fact:Nat->Nat->Value->World->Prop)(S:Nat->World->Prop)(i:Nat)(r:List Oper):Prop:=
 ∀(k:Nat) (o:Oper),r[k]?=some o->∀v w' c,(∀q,E[q]?=some (i+k)->c=q)->(∀q,QN ops.toList E (i+k) q=true->c<=q)->S c w'->q6 (Fact c) v w' o.after.toList->∀K:Act->World->Prop,
  Shut (∀x gX c',((c'=c/\(∀j y,j≠i+k->Fact c j y w'->Fact c j y gX)/\i+k∉E)\/(c'=c+1/\i+k∈E/\∀j y,j≠i+k->Fact c j y w'->Fact c' j y gX))->S c' gX->Fact c' (i+k) x gX->K ((ah a l 0 v).put o.dst x) gX)->wpList P ops (QK Q K) [o] (ah a l 0 v) w'
theorem aa.nil{P:Program}{ops:Array Oper}{Q:Exit->Act->World->Prop}{a:Act}{l:List Oper}{E:List Nat}{Fact:Nat->Nat->Value->World->Prop}{S:Nat->World->Prop}{i:Nat}:aa P ops Q a l E Fact S i []:=λk o h=>by simp at h
theorem aa.pure{P:Program}{ops:Array Oper}{Q:Exit->Act->World->Prop}{a:Act}{l:List Oper}{E:List Nat}{Fact:Nat->Nat->Value->World->Prop}{S:Nat->World->Prop}{i:Nat}{o:Oper}{r:List Oper}(hE:i∉E)
  (h:∀v w' c,(∀q,QN ops.toList E i q=true->c<=q)->S c w'->q6 (Fact c) v w' o.after.toList->∀K:Act->World->Prop,Shut (∀x,Fact c i x w'->K ((ah a l 0 v).put o.dst x) w')->wpList P ops (QK Q K) [o] (ah a l 0 v) w')
  (hr:aa P ops Q a l E Fact S (i+1) r):aa P ops Q a l E Fact S i (o::r):=by
 intro k o' hk
 cases k with
 |zero=>
  simp only[List.getElem?_cons_zero,Option.some.injEq]at hk;subst hk;intro v w' c _ bX hS he K hK;exact h v w' c bX hS he K λx hx=>hK x w' c (.inl ⟨rfl,λ_ _ _ h=>h,hE⟩) hS hx
 |succ k=>
  have e:i+(k+1)=i+1+k:=U;rw[e];exact hr k o' (by simpa using hk)
theorem aa.gp{P:Program}{ops:Array Oper}{Q:Exit->Act->World->Prop}{a:Act}{l:List Oper}{E:List Nat}{Fact:Nat->Nat->Value->World->Prop}{S:Nat->World->Prop}{i:Nat}{o:Oper}{r:List Oper}(hE:i∉E)
  (h:∀v w' c,(∀q,QN ops.toList E i q=true->c<=q)->S c w'->q6 (Fact c) v w' o.after.toList->∀K:Act->World->Prop,Shut (∀x gX,(∀j y,j≠i->Fact c j y w'->Fact c j y gX)->S c gX->Fact c i x gX->K ((ah a l 0 v).put o.dst x) gX)->wpList P ops (QK Q K) [o] (ah a l 0 v) w')
  (hr:aa P ops Q a l E Fact S (i+1) r):aa P ops Q a l E Fact S i (o::r):=by
 intro k o' hk
 cases k with
 |zero=>
  simp only[List.getElem?_cons_zero,Option.some.injEq]at hk;subst hk;intro v w' c _ bX hS he K hK;exact h v w' c bX hS he K λx gX fw Tw hx=>hK x gX c (.inl ⟨rfl,fw,hE⟩) Tw hx
 |succ k=>
  have e:i+(k+1)=i+1+k:=U;rw[e];exact hr k o' (by simpa using hk)
theorem aa.jg{P:Program}{ops:Array Oper}{Q:Exit->Act->World->Prop}{a:Act}{l:List Oper}{E:List Nat}{Fact:Nat->Nat->Value->World->Prop}{S:Nat->World->Prop}{i:Nat}{o:Oper}{r:List Oper}(q:Nat)(hE:E[q]?=some i)
  (h:∀v w',S q w'->q6 (Fact q) v w' o.after.toList->∀K:Act->World->Prop,Shut (∀x gX,(∀j y,j≠i->Fact q j y w'->Fact (q+1) j y gX)->S (q+1) gX->Fact (q+1) i x gX->K ((ah a l 0 v).put o.dst x) gX)->wpList P ops (QK Q K) [o] (ah a l 0 v) w')
  (hr:aa P ops Q a l E Fact S (i+1) r):aa P ops Q a l E Fact S i (o::r):=by
 intro k o' hk
 cases k with
 |zero=>
  simp only[List.getElem?_cons_zero,Option.some.injEq]at hk;subst hk;intro v w' c hc _ hS he K hK;have:=hc q hE;subst this;exact h v w' hS he K λx gX fw Tw hx=>hK x gX _ (.inr ⟨rfl,List.mem_of_getElem? hE,fw⟩) Tw hx
 |succ k=>
  have e:i+(k+1)=i+1+k:=U;rw[e];exact hr k o' (by simpa using hk)
theorem ay{P:Program}{id:Nat}{L:List Oper}{Q:Exit->Act->World->Prop}{a:Act}{w:World}(n:Nat)(E:List Nat)(Fact:Nat->Nat->Value->World->Prop)(S:Nat->World->Prop)
  (hm:P.follows .mixedOrders=true) (kM:Iy .any L=true) (Qk:vw (L.take n)=true) (hB:Mo L n=true) (hP:Cd L E=true) (hEn:(E.all λi=>decide (i<n))=true) (hn:n<L.length)
  (h0:S 0 w.drew)
  (Ej:aa P L.toArray Q a (L.take n) E Fact S 0 (L.take n))
  (Cb:∀v w',S E.length w'->(∀i,i<n->Fact E.length i (v i) w')->wpList P L.toArray Q (L.drop n) (ah a (L.take n) 0 v) w'):(Code.region id L.toArray true).wp P Q a w:=by
 have Dj:(L.take n).length=n:=by rw[List.length_take];omega
 have aij:∀i∈E,i<n:=λi hi=>by have:=List.all_eq_true.1 hEn i hi;simpa using this
 refine pN hm (λf a' w'=>∃k,k<=L.length-n/\(∀j,j<k->f (n+j)=true)/\(∀j,k<=j->n+j<L.length->f (n+j)=false)/\
  (if k=0 then ∃v,a'=ah a (L.take n) 0 v/\S (mM E f) w'/\(∀j,j<n->f j=true->Fact (mM E f) j (v j) w') else wpList P L.toArray Q (L.drop (n+k)) a' w')) kM ?_ ?_ ?_
 .obtain ⟨v,hv,ho⟩:=vB (L.take n) a 0;refine ⟨0,Nat.zero_le _,λj hj=>U,λj _ _=>rfl,?_⟩;rw[if_pos rfl];have e:mM E (λ_=>false)=0:=by unfold mM; cases E <;> rfl
  rw[e];exact ⟨v,hv.symm,h0,λj _ hj=>by cases hj⟩
 .rintro f a' w' jf ⟨k,hk,h1,h2,h3⟩;have jC:k=L.length-n:=by
   by_cases h:k=L.length-n
   .exact h
   .have:=h2 k V U;rw[jf _ U]at this
    cases this
  rw[if_neg U,List.drop_of_length_le U]at h3;exact h3
 .rintro i o ho f a' w' hf jo dj ⟨k,hk,h1,h2,h3⟩;have dE:i<L.length:=(List.getElem?_eq_some_iff.1 ho).1;have VK:∀j,gJ L 60 i j=true->i≠j->f j=true:=λj hr OJ=>jH dj ho jo hr OJ;by_cases bI:i<n
  .have mJ:k=0:=by
    by_cases h:k=0
    .exact h
    .have Dc:=h1 0 U;rw[gK dj 60 (n+0) i (eY hB U U U) Dc]at hf
     cases hf
   subst mJ;rw[if_pos rfl]at h3;obtain ⟨v,rfl,hR,hF⟩:=h3;have zD:(L.take n)[i]?=some o:=by rw[List.getElem?_take,if_pos bI];exact ho
   refine wpOp_mono (λ_ _ h=>h) (q7 (by simpa using ho) ?_)
   have sL:∀e∈o.after,Region.binds .any e=true->f e.on=true->e.on<n:=λe he hb _=>by
    have:=Gu kM ho he hb;omega
   refine Ej i o zD v w' (mM E f) (λq hq=>?_) (λq hq=>?_) hR (vC λe he hb=>hF _ (sL e (Array.mem_toList_iff.1 he) hb (jo e (Array.mem_toList_iff.1 he) hb)) (jo e (Array.mem_toList_iff.1 he) hb)) _ (λx gX c' dt Tw hx=>⟨0,Nat.zero_le _,λj hj=>U,λj hj hU=>?_,?_⟩)
   .rw[Nat.zero_add]at hq;exact (vF dj hP hq hf VK).1
   .rw[Nat.zero_add]at hq;unfold QN at hq
    cases he:E[q]? with
    |none=>rw[he]at hq;cases hq
    |some e=>rw[he]at hq;exact Gv he (vD dj 60 e i (by simpa using hq) hf)
   .rw[Bool.eq_false_iff];intro hc;rw[mL]at hc;rcases hc with hc|hc
    .omega
    .rw[h2 j hj hU]at hc;cases hc
   .rw[if_pos rfl];rw[Nat.zero_add]at dt hx;have nZ:mM E (ui f i)=c':=by
     rcases dt with ⟨e,-,bf⟩|⟨e,Zu,-⟩
     .rw[Mq bf,e]
     .obtain ⟨q,hq,Kk⟩:=List.getElem_of_mem Zu;have:=vF dj hP (show E[q]?=some i by rw[List.getElem?_eq_getElem hq,Kk]) hf VK
      rw[this.2,e,this.1]
    rw[nZ];refine ⟨tM v i x,?_,Tw,λj OM hj=>?_⟩
    .rw[qg x (L.take n) a 0 i o v Qk zD,Nat.zero_add]
    .by_cases h:j=i
     .subst h;rw[ss];exact hx
     .rw[uj v x h];rw[mL]at hj;have hj':=hF j OM (hj.resolve_left h);rcases dt with ⟨e,e2,-⟩|⟨-,-,fw⟩
      .rw[e];exact e2 j _ h hj'
      .exact fw j _ h hj'
  .obtain ⟨t,rfl⟩:∃t,i=n+t:=⟨i-n,U⟩;have tG:t=k:=by
    rcases Nat.lt_trichotomy t k with h|h|h
    .rw[h1 t h]at hf;cases hf
    .exact h
    .have:=jH dj ho jo (eY hB dE U (show n+k<n+t by omega)) U
     rw[h2 k V U]at this
     cases this
   subst tG;have Mp:L.drop (n+t)=o::L.drop (n+t+1):=by
    rw[List.drop_eq_getElem_cons dE]
    congr 1
    exact (List.getElem?_eq_some_iff.1 ho).2
   have yk:wpList P L.toArray Q (o::L.drop (n+t+1)) a' w':=by
    rw[<-Mp];by_cases Ml:t=0
    .subst Ml;rw[if_pos rfl]at h3;obtain ⟨v,rfl,hR,hF⟩:=h3;rw[Nat.add_zero]at *;have jf:∀j,j<n->f j=true:=λj hj=>jH dj ho jo (eY hB dE V hj) U;have uJ:mM E f=E.length:=Mr λj hj=>jf j (aij j hj);rw[uJ]at hR hF;exact Cb v w' hR λi hi=>hF i hi (jf i hi)
    .rw[if_neg Ml]at h3;exact h3
   have jE:wpOp P L.toArray Q (n+t) (wpList P L.toArray Q (L.drop (n+t+1))) a' w':=by
    unfold wpOp;rw[show L.toArray[n+t]?=some o by simpa using ho]
    exact yk
   refine wpOp_mono (λa'' gX h=>⟨t+1,U,λj hj=>?_,λj hj hU=>?_,?_⟩) jE
   .rw[mL];by_cases h5:j=t
    .left;omega
    .right;exact h1 j U
   .rw[Bool.eq_false_iff];intro hc;rw[mL]at hc;rcases hc with hc|hc
    .omega
    .rw[h2 j U hU]at hc;cases hc
   .rw[if_neg U];exact h
end Go.Proofs.YthamegenljmgmaaGreatDoor
