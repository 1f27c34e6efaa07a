/- Scanning as plain functions: choices in a text; a byte that no token has parts the text. No program in sight. · Matches of several kinds, in order. No program in sight. -/
import Derived.Test.YtoaibhacognbjaaGreatDoorY05
namespace Go.Proofs.YtoaibhacognbjaaGreatDoor
set_option linter.unusedVariables false
set_option linter.unusedSimpArgs false
set_option maxRecDepth 100000
def rchF (m:Mc):List Nat→Nat→Nat→List Nat
 | [],s,k=>if (m.ac[s]?).getD false=true then [k] else []
 | c::w,s,k=>(if (m.ac[s]?).getD false=true then [k] else [])++match trn (rowM m s) c with | none=>[] | some t=>rchF m w t (k+1)
def choF (R:List Nat) (i:Nat) (clr:Nat→Bool):Option Nat:=R.reverse.find? fun t=>decide (i<t) && clr t
def sgN (c:Nat):Bool:=(decide (97≤c) && decide (c≤122)) || (decide (65≤c) && decide (c≤90)) || (decide (48≤c) && decide (c≤57))
def clrF (wh:Bool) (bs:List Nat) (i t:Nat):Bool:=
 (decide (i≤t) && decide (t≤bs.length)) && (!wh || ((decide (i=0) || !sgN ((bs[i - 1]?).getD 0)) && (decide (t=bs.length) || !sgN ((bs[t]?).getD 0))))
def chF (m:Mc) (wh:Bool) (bs:List Nat) (i:Nat):Option Nat:=choF (rchF m (bs.drop i) 0 i) i (clrF wh bs i)
def chsF (f:Nat→Option Nat) (n:Nat):Nat→Nat→List (Nat×Nat)
 | 0,_=>[]
 | k+1,i=>if i<n then match f i with | none=>chsF f n k (i+1) | some t=>(i,t)::chsF f n k t else []
def shiftL (d:Nat) (l:List (Nat×Nat)):List (Nat×Nat):=l.map fun p=>(p.1+d,p.2+d)
theorem rchF_mem (m:Mc):∀(bs:List Nat) (s k t:Nat),t∈rchF m bs s k↔∃j,t=k+j∧j≤bs.length∧acF m (bs.take j) s=true
 | [],s,k,t=>by
  rw[rchF];constructor
  ·intro h;by_cases hb:(m.ac[s]?).getD false=true
   ·rw[if_pos hb,List.mem_singleton]at h;exact ⟨0,by omega,Nat.le_refl _,hb⟩
   ·rw[if_neg hb]at h;cases h
  ·rintro ⟨j,rfl,hj,h⟩;have:j=0:=by simpa using hj
   subst this;have h:(m.ac[s]?).getD false=true:=h;rw[if_pos h];simp
 | c::w,s,k,t=>by
  rw[rchF,List.mem_append];constructor
  ·rintro (h | h)
   ·by_cases hb:(m.ac[s]?).getD false=true
    ·rw[if_pos hb,List.mem_singleton]at h;exact ⟨0,by omega,Nat.zero_le _,hb⟩
    ·rw[if_neg hb]at h;cases h
   ·cases ht:trn (rowM m s) c with
    | none=>rw[ht]at h;cases h
    | some q=>
     rw[ht]at h;obtain ⟨j,rfl,hj,h⟩:=(rchF_mem m w q (k+1) t).1 h;exact ⟨j+1,by omega,by simpa using hj,by rw[List.take_succ_cons,acF,ht];exact h⟩
  ·rintro ⟨j,rfl,hj,h⟩
   cases j with
   | zero=>exact .inl (by rw[if_pos (show (m.ac[s]?).getD false=true from h)];simp)
   | succ j=>
    right
    rw[List.take_succ_cons,acF]at h
    cases ht:trn (rowM m s) c with
    | none=>rw[ht]at h;cases h
    | some q=>
     rw[ht]at h;exact (rchF_mem m w q (k+1) _).2 ⟨j,by omega,by simpa using hj,h⟩
theorem rchF_asc (m:Mc):∀(bs:List Nat) (s k:Nat),(rchF m bs s k).Pairwise (·<·)
 | [],s,k=>by rw[rchF]; split <;> simp
 | c::w,s,k=>by
  rw[rchF,List.pairwise_append];refine ⟨by split <;> simp,?_,fun a ha b hb=>?_⟩
  ·cases trn (rowM m s) c with
   | none=>exact List.Pairwise.nil
   | some q=>exact rchF_asc m w q (k+1)
  ·have ha:a=k:=by
    split at ha
    ·simpa using ha
    ·cases ha
   subst ha
   cases ht:trn (rowM m s) c with
   | none=>rw[ht]at hb;cases hb
   | some q=>
    rw[ht]at hb;obtain ⟨j,rfl,-,-⟩:=(rchF_mem m w q (a+1) b).1 hb;omega
theorem find_max {p:Nat→Bool}:∀{D:List Nat},D.Pairwise (· > ·)→∀t,D.find? p=some t↔(t∈D∧p t=true)∧∀x∈D,p x=true→x≤t
 | [],_,t=>by simp
 | a::D,hD,t=>by
  have hD':=List.pairwise_cons.1 hD;rw[List.find?_cons]
  cases ha:p a with
  | true=>
   constructor
   ·intro e;injection e with e;subst e;refine ⟨⟨by simp,ha⟩,fun x hx _=>?_⟩
    rcases List.mem_cons.1 hx with rfl | hx
    ·exact Nat.le_refl _
    ·exact Nat.le_of_lt (hD'.1 x hx)
   ·rintro ⟨⟨h1,-⟩,h3⟩;have hle:=h3 a (by simp) ha
    rcases List.mem_cons.1 h1 with rfl | h1
    ·rfl
    ·have:=hD'.1 t h1;omega
  | false=>
   show D.find? p=some t↔_;rw[find_max hD'.2 t];constructor
   ·rintro ⟨⟨h1,h2⟩,h3⟩;refine ⟨⟨List.mem_cons_of_mem _ h1,h2⟩,fun x hx h=>?_⟩;rcases List.mem_cons.1 hx with rfl | hx
    ·rw[ha]at h;cases h
    ·exact h3 x hx h
   ·rintro ⟨⟨h1,h2⟩,h3⟩;rcases List.mem_cons.1 h1 with rfl | h1
    ·rw[ha]at h2;cases h2
    ·exact ⟨⟨h1,h2⟩,fun x hx=>h3 x (List.mem_cons_of_mem _ hx)⟩
def AccT (m:Mc) (wh:Bool) (bs:List Nat) (i t:Nat):Prop:=i<t∧t≤bs.length∧acF m ((bs.drop i).take (t-i)) 0=true∧clrF wh bs i t=true
theorem chF_is (m:Mc) (wh:Bool) (bs:List Nat) (i t:Nat) (hi:i≤bs.length):chF m wh bs i=some t↔AccT m wh bs i t∧∀x,AccT m wh bs i x→x≤t:=by
 have hmem:∀x,(x∈(rchF m (bs.drop i) 0 i).reverse∧(decide (i<x) && clrF wh bs i x)=true)↔AccT m wh bs i x:=fun x=>by
  rw[List.mem_reverse,rchF_mem,List.length_drop,Bool.and_eq_true,decide_eq_true_eq];unfold AccT;constructor
  ·rintro ⟨⟨j,rfl,h1,h2⟩,h3,h4⟩;exact ⟨h3,by omega,by rw[show i+j-i=j by omega];exact h2,h4⟩
  ·rintro ⟨h1,h2,h3,h4⟩;exact ⟨⟨x-i,by omega,by omega,h3⟩,h1,h4⟩
 unfold chF choF;rw[find_max (by rw[List.pairwise_reverse];exact rchF_asc m _ 0 i) t,hmem]
 constructor
 ·rintro ⟨h1,h2⟩;exact ⟨h1,fun x hx=>h2 x ((hmem x).2 hx).1 ((hmem x).2 hx).2⟩
 ·rintro ⟨h1,h2⟩;exact ⟨h1,fun x hx hp=>h2 x ((hmem x).1 ⟨hx,hp⟩)⟩
theorem chF_lt {m:Mc} {wh:Bool} {bs:List Nat} {i t:Nat} (hi:i≤bs.length) (h:chF m wh bs i=some t):i<t∧t≤bs.length:=by
 have:=((chF_is m wh bs i t hi).1 h).1;exact ⟨this.1,this.2.1⟩
theorem chF_congr {m:Mc} {wh:Bool} {b1 b2:List Nat} {i1 i2 d:Nat} (h1:i1≤b1.length) (h2:i2≤b2.length) (h:∀t,AccT m wh b2 i2 t↔∃t1,t=t1+d∧AccT m wh b1 i1 t1):chF m wh b2 i2=(chF m wh b1 i1).map (·+d):=by
 refine Option.ext fun t=>?_;rw[chF_is m wh b2 i2 t h2,Option.map_eq_some_iff];constructor
 ·rintro ⟨ha,hm⟩;obtain ⟨t1,rfl,h3⟩:=(h t).1 ha;exact ⟨t1,(chF_is m wh b1 i1 t1 h1).2 ⟨h3,fun x hx=>by have:=hm (x+d) ((h _).2 ⟨x,rfl,hx⟩);omega⟩,rfl⟩
 ·rintro ⟨t1,h3,rfl⟩;obtain ⟨h4,h5⟩:=(chF_is m wh b1 i1 t1 h1).1 h3;exact ⟨(h _).2 ⟨t1,rfl,h4⟩,fun x hx=>by obtain ⟨y,rfl,hy⟩:=(h x).1 hx;have:=h5 y hy;omega⟩
section
variable {m:Mc} {wh:Bool} {c:Nat} (hc:∀w,acF m w 0=true→c∉w) (hs:sgN c=false) (a b:List Nat)
theorem sep_get (i:Nat) (h:i<a.length):(a++c::b)[i]?=a[i]?:=List.getElem?_append_left h
theorem sep_at:(a++c::b)[a.length]?=some c:=by rw[List.getElem?_append_right (Nat.le_refl _),Nat.sub_self];rfl
theorem sep_get2 (j:Nat):(a++c::b)[a.length+1+j]?=b[j]?:=by
 rw[List.getElem?_append_right (by omega),show a.length+1+j-a.length=j+1 by omega];rfl
include hc hs
theorem acc_left (i t:Nat) (hi:i<a.length):AccT m wh (a++c::b) i t↔AccT m wh a i t:=by
 have hl:(a++c::b).length=a.length+1+b.length:=by simp;omega
 unfold AccT;by_cases ht:t≤a.length
 ·have e1:((a++c::b).drop i).take (t-i)=(a.drop i).take (t-i):=by
   rw[List.drop_append_of_le_length (by omega),List.take_append_of_le_length (by rw[List.length_drop];omega)]
  have e2:i<t→clrF wh (a++c::b) i t=clrF wh a i t:=fun hit=>by
   unfold clrF;rw[sep_get a b (i - 1) (by omega),hl]
   by_cases h2:t=a.length
   ·subst h2;rw[sep_at,Option.getD_some,hs];have d1:decide (a.length≤a.length+1+b.length)=true:=decide_eq_true (by omega)
    have d2:decide (a.length≤a.length)=true:=decide_eq_true (by omega)
    have d3:decide (a.length=a.length)=true:=decide_eq_true rfl;rw[d1,d2,d3];simp
   ·rw[sep_get a b t (by omega)]
    have d1:decide (t≤a.length+1+b.length)=true:=decide_eq_true (by omega)
    have d2:decide (t≤a.length)=true:=decide_eq_true (by omega)
    have d3:decide (t=a.length+1+b.length)=false:=decide_eq_false (by omega)
    have d4:decide (t=a.length)=false:=decide_eq_false h2;rw[d1,d2,d3,d4]
  rw[e1];constructor
  ·rintro ⟨h1,h2,h3,h4⟩;exact ⟨h1,ht,h3,by rw[←e2 h1];exact h4⟩
  ·rintro ⟨h1,h2,h3,h4⟩;exact ⟨h1,by omega,h3,by rw[e2 h1];exact h4⟩
 ·constructor
  ·rintro ⟨h1,h2,h3,h4⟩;refine absurd (List.mem_iff_getElem?.2 ⟨a.length-i,?_⟩) (hc _ h3);rw[List.getElem?_take,if_pos (by omega),List.getElem?_drop,show i+(a.length-i)=a.length by omega,sep_at]
  ·rintro ⟨h1,h2,-⟩;omega
omit hs in
theorem acc_mid (t:Nat):¬AccT m wh (a++c::b) a.length t:=by
 rintro ⟨h1,h2,h3,h4⟩;refine absurd (List.mem_iff_getElem?.2 ⟨0,?_⟩) (hc _ h3);rw[List.getElem?_take,if_pos (by omega),List.getElem?_drop,Nat.add_zero,sep_at]
omit hc in
theorem acc_right (j t:Nat) (hj:j≤b.length):AccT m wh (a++c::b) (a.length+1+j) t↔∃t1,t=t1+(a.length+1)∧AccT m wh b j t1:=by
 have hl:(a++c::b).length=a.length+1+b.length:=by simp;omega
 have e0:(a++c::b).drop (a.length+1+j)=b.drop j:=by
  refine List.ext_getElem? fun i=>?_;rw[List.getElem?_drop,List.getElem?_drop,show a.length+1+j+i=a.length+1+(j+i) by omega,sep_get2]
 have e2:∀t1,j<t1→clrF wh (a++c::b) (a.length+1+j) (t1+(a.length+1))=clrF wh b j t1:=fun t1 h1=>by
  unfold clrF;rw[hl,show t1+(a.length+1)=a.length+1+t1 by omega,sep_get2]
  have d0:decide (a.length+1+j=0)=false:=decide_eq_false (by omega)
  have d1:decide (a.length+1+j≤a.length+1+t1)=true:=decide_eq_true (by omega)
  have d2:decide (j≤t1)=true:=decide_eq_true (by omega)
  have d3:decide (a.length+1+t1≤a.length+1+b.length)=decide (t1≤b.length):=by congr 1;exact propext ⟨fun h=>by omega,fun h=>by omega⟩
  have d4:decide (a.length+1+t1=a.length+1+b.length)=decide (t1=b.length):=by congr 1;exact propext ⟨fun h=>by omega,fun h=>by omega⟩
  rw[d0,d1,d2,d3,d4];by_cases h:j=0
  ·subst h;rw[show a.length+1+0 - 1=a.length by omega,sep_at,Option.getD_some,hs]
   simp
  ·rw[show a.length+1+j - 1=a.length+1+(j - 1) by omega,sep_get2]
   have d5:decide (j=0)=false:=decide_eq_false h;rw[d5]
 unfold AccT;rw[e0];constructor
 ·rintro ⟨h1,h2,h3,h4⟩;refine ⟨t - (a.length+1),by omega,by omega,by omega,?_,?_⟩
  ·rw[show t - (a.length+1)-j=t - (a.length+1+j) by omega];exact h3
  ·rw[←e2 _ (by omega),show t - (a.length+1)+(a.length+1)=t by omega];exact h4
 ·rintro ⟨t1,rfl,h1,h2,h3,h4⟩;exact ⟨by omega,by omega,by rw[show t1+(a.length+1) - (a.length+1+j)=t1-j by omega];exact h3,by rw[e2 t1 h1];exact h4⟩
theorem chF_left (i:Nat) (hi:i<a.length):chF m wh (a++c::b) i=chF m wh a i:=by
 have h:=chF_congr (m:=m) (wh:=wh) (b1:=a) (b2:=a++c::b) (i1:=i) (i2:=i) (d:=0) (by omega) (by simp;omega) (fun t=>by
  rw[acc_left hc hs a b i t hi];exact ⟨fun h=>⟨t,rfl,h⟩,fun ⟨t1,e,h⟩=>by rw[e];exact h⟩)
 rw[h]
 cases chF m wh a i <;> rfl
omit hs in
theorem chF_mid:chF m wh (a++c::b) a.length=none:=by
 cases h:chF m wh (a++c::b) a.length with
 | none=>rfl
 | some t=>exact absurd ((chF_is m wh _ _ t (by simp)).1 h).1 (acc_mid hc a b t)
omit hc in
theorem chF_right (j:Nat) (hj:j≤b.length):chF m wh (a++c::b) (a.length+1+j)=(chF m wh b j).map (·+(a.length+1)):=
 chF_congr hj (by simp;omega) (fun t=>acc_right hs a b j t hj)
end
theorem chsF_more (f:Nat→Option Nat) (n:Nat) (hf:∀i t,i<n→f i=some t→i<t):∀(k k' i:Nat),n≤i+k→n≤i+k'→chsF f n k i=chsF f n k' i
 | 0,0,_,_,_=>rfl
 | 0,k'+1,i,h,_=>by rw[chsF,chsF,if_neg (by omega)]
 | k+1,0,i,_,h=>by rw[chsF,chsF,if_neg (by omega)]
 | k+1,k'+1,i,h,h'=>by
  rw[chsF,chsF];by_cases hi:i<n
  ·rw[if_pos hi,if_pos hi]
   cases hfi:f i with
   | none=>exact chsF_more f n hf k k' (i+1) (by omega) (by omega)
   | some t=>
    have:=hf i t hi hfi;show (i,t)::chsF f n k t=(i,t)::chsF f n k' t;rw[chsF_more f n hf k k' t (by omega) (by omega)]
  ·rw[if_neg hi,if_neg hi]
def chA (m:Mc) (wh:Bool) (bs:List Nat):List (Nat×Nat):=chsF (chF m wh bs) bs.length bs.length 0
theorem chF_step (m:Mc) (wh:Bool) (bs:List Nat):∀i t,i<bs.length→chF m wh bs i=some t→i<t:=fun _ _ hi h=>(chF_lt (Nat.le_of_lt hi) h).1
theorem chs_right {f g:Nat→Option Nat} {n d:Nat} (h:∀j,j≤n→g (d+j)=(f j).map (·+d)) (hf:∀i t,i<n→f i=some t→t≤n):∀(k j:Nat),j≤n→chsF g (d+n) k (d+j)=shiftL d (chsF f n k j)
 | 0,_,_=>rfl
 | k+1,j,hj=>by
  rw[chsF,chsF];by_cases hi:j<n
  ·rw[if_pos hi,if_pos (by omega),h j hj]
   cases hfi:f j with
   | none=>exact chs_right h hf k (j+1) (by omega)
   | some t=>
    have ht:=hf j t hi hfi;have:=chs_right h hf k t ht;rw[Nat.add_comm d t]at this;show (d+j,t+d)::chsF g (d+n) k (t+d)=(j+d,t+d)::shiftL d (chsF f n k t);rw[this,Nat.add_comm d j]
  ·rw[if_neg hi,if_neg (by omega)];rfl
theorem chs_left {f g:Nat→Option Nat} {n N:Nat} (hN:n≤N) (hg:∀i t,i<N→g i=some t→i<t) (h:∀i,i<n→g i=f i) (hf:∀i t,i<n→f i=some t→i<t∧t≤n):∀(k K i:Nat),i≤n→n≤i+k→N≤i+K→chsF g N K i=chsF f n k i++chsF g N (N-n) n
 | 0,K,i,hi,hk,hK=>by
  obtain rfl:i=n:=by omega
  exact chsF_more g N hg _ _ _ hK (by omega)
 | k+1,K,i,hi,hk,hK=>by
  by_cases hin:i<n
  ·obtain ⟨K,rfl⟩:∃K',K=K'+1:=⟨K - 1,by omega⟩
   rw[chsF,chsF,if_pos hin,if_pos (by omega),h i hin]
   cases hfi:f i with
   | none=>exact chs_left hN hg h hf k K (i+1) (by omega) (by omega) (by omega)
   | some t=>
    obtain ⟨h1,h2⟩:=hf i t hin hfi;show (i,t)::_=((i,t)::chsF f n k t)++_;rw[chs_left hN hg h hf k K t h2 (by omega) (by omega)];rfl
  ·obtain rfl:i=n:=by omega
   rw[show chsF f i (k+1) i=[] by rw[chsF,if_neg hin]]
   exact chsF_more g N hg _ _ _ hK (by omega)
theorem chA_sep {m:Mc} {wh:Bool} {c:Nat} (hc:∀w,acF m w 0=true→c∉w) (hs:sgN c=false) (a b:List Nat):chA m wh (a++c::b)=chA m wh a++shiftL (a.length+1) (chA m wh b):=by
 have hl:(a++c::b).length=a.length+1+b.length:=by simp;omega
 unfold chA;rw[chs_left (f:=chF m wh a) (n:=a.length) (by rw[hl];omega) (chF_step m wh _) (fun i hi=>chF_left hc hs a b i hi) (fun i t hi h=>chF_lt (Nat.le_of_lt hi) h) a.length (a++c::b).length 0 (Nat.zero_le _) (by omega) (by omega)]
 congr 1
 rw[hl,show a.length+1+b.length-a.length=b.length+1 by omega,chsF,if_pos (by omega),chF_mid hc a b]
 exact chs_right (n:=b.length) (d:=a.length+1) (fun j hj=>chF_right hs a b j hj) (fun i t hi h=>(chF_lt (Nat.le_of_lt hi) h).2) b.length 0 (Nat.zero_le _)
theorem chA_nil (m:Mc) (wh:Bool):chA m wh []=[]:=rfl
theorem shiftL_nil (d:Nat):shiftL d []=[]:=rfl
theorem shiftL_add (d e:Nat) (l:List (Nat×Nat)):shiftL d (shiftL e l)=shiftL (e+d) l:=by
 unfold shiftL;rw[List.map_map];refine List.map_congr_left fun p _=>?_;show (p.1+e+d,p.2+e+d)=(p.1+(e+d),p.2+(e+d));rw[Nat.add_assoc,Nat.add_assoc]
theorem shiftL_zero (l:List (Nat×Nat)):shiftL 0 l=l:=by unfold shiftL;simp
theorem chA_front {m:Mc} {wh:Bool} {c:Nat} (hc:∀w,acF m w 0=true→c∉w) (hs:sgN c=false) (b:List Nat):∀k,chA m wh (List.replicate k c++b)=shiftL k (chA m wh b)
 | 0=>(shiftL_zero _).symm
 | k+1=>by
  have h:=chA_sep (wh:=wh) hc hs [] (List.replicate k c++b);rw[List.nil_append,chA_nil,List.nil_append,chA_front hc hs b k,shiftL_add]at h;rw[List.replicate_succ,List.cons_append,h]
  rfl
theorem chA_back {m:Mc} {wh:Bool} {c:Nat} (hc:∀w,acF m w 0=true→c∉w) (hs:sgN c=false) (a:List Nat) (k:Nat):chA m wh (a++List.replicate k c)=chA m wh a:=by
 have h0:chA m wh (List.replicate k c)=[]:=by
  have:=chA_front (wh:=wh) hc hs [] k;rw[List.append_nil,chA_nil]at this;exact this
 cases k with
 | zero=>simp
 | succ k=>
  have h1:chA m wh (List.replicate k c)=[]:=by
   have:=chA_front (wh:=wh) hc hs [] k;rw[List.append_nil,chA_nil]at this;exact this
  rw[List.replicate_succ,chA_sep hc hs,h1,shiftL_nil,List.append_nil]
structure Mt where
 k:Nat
 f:Nat
 t:Nat
 deriving DecidableEq
instance mtInh:Inhabited Mt:=⟨⟨0,0,0⟩⟩
def ltMt (a b:Mt):Bool:=decide (a.f<b.f) || (decide (a.f=b.f) && (decide (a.t<b.t) || (decide (a.t=b.t) && decide (a.k<b.k))))
theorem ltMt_iff (a b:Mt):ltMt a b=true↔a.f<b.f∨(a.f=b.f∧(a.t<b.t∨(a.t=b.t∧a.k<b.k))):=by
 unfold ltMt;simp
def LeMt (a b:Mt):Prop:=ltMt b a=false
theorem LeMt.iff (a b:Mt):LeMt a b↔¬(b.f<a.f∨(b.f=a.f∧(b.t<a.t∨(b.t=a.t∧b.k<a.k)))):=by
 unfold LeMt;rw[←ltMt_iff,Bool.not_eq_true]
theorem LeMt.anti {a b:Mt} (h1:LeMt a b) (h2:LeMt b a):a=b:=by
 rw[LeMt.iff]at h1 h2;obtain ⟨k1,f1,t1⟩:=a;obtain ⟨k2,f2,t2⟩:=b;simp only at h1 h2;obtain rfl:f1=f2:=by omega
 obtain rfl:t1=t2:=by omega
 obtain rfl:k1=k2:=by omega
 rfl
theorem sorted_one:∀{l1 l2:List Mt},l1.Perm l2→l1.Pairwise LeMt→l2.Pairwise LeMt→l1=l2
 | [],l2,hp,_,_=>(List.nil_perm.1 hp).symm
 | a::l1,[],hp,_,_=>absurd hp.symm (by simp)
 | a::l1,b::l2,hp,h1,h2=>by
  have p1:=List.pairwise_cons.1 h1;have p2:=List.pairwise_cons.1 h2;have hab:a=b:=by
   have ha:a∈b::l2:=hp.subset (by simp)
   have hb:b∈a::l1:=hp.symm.subset (by simp)
   rcases List.mem_cons.1 ha with e | ha
   ·exact e
   ·rcases List.mem_cons.1 hb with e | hb
    ·exact e.symm
    ·exact LeMt.anti (p1.1 b hb) (p2.1 a ha)
  subst hab;rw[sorted_one (List.Perm.cons_inv hp) p1.2 p2.2]
def mtK (i:Nat) (l:List (Nat×Nat)):List Mt:=l.map fun p=>⟨i,p.1,p.2⟩
def allK (f:Nat→List (Nat×Nat)):Nat→Nat→List Mt
 | 0,_=>[]
 | n+1,i=>mtK i (f i)++allK f n (i+1)
def shM (d:Nat) (l:List Mt):List Mt:=l.map fun a=>⟨a.k,a.f+d,a.t+d⟩
theorem mtK_shift (i d:Nat) (l:List (Nat×Nat)):mtK i (shiftL d l)=shM d (mtK i l):=by unfold mtK shiftL shM;simp
theorem mtK_app (i:Nat) (l1 l2:List (Nat×Nat)):mtK i (l1++l2)=mtK i l1++mtK i l2:=by unfold mtK;simp
theorem shM_app (d:Nat) (l1 l2:List Mt):shM d (l1++l2)=shM d l1++shM d l2:=by unfold shM;simp
theorem allK_mem {f:Nat→List (Nat×Nat)}:∀{n i:Nat} {a:Mt},a∈allK f n i↔(i≤a.k∧a.k<i+n)∧(a.f,a.t)∈f a.k
 | 0,i,a=>by
  rw[allK];constructor
  ·intro h;cases h
  ·rintro ⟨h,-⟩;omega
 | n+1,i,a=>by
  rw[allK,List.mem_append,allK_mem];unfold mtK;rw[List.mem_map];constructor
  ·rintro (⟨p,hp,rfl⟩ | ⟨h1,h2⟩)
   ·exact ⟨⟨Nat.le_refl _,by show i<i+(n+1);omega⟩,hp⟩
   ·exact ⟨by omega,h2⟩
  ·rintro ⟨h1,h2⟩;by_cases h:a.k=i
   ·left
    rw[h]at h2;exact ⟨_,h2,by cases a;subst h;rfl⟩
   ·exact .inr ⟨by omega,h2⟩
theorem allK_perm {f g h:Nat→List (Nat×Nat)} {d:Nat}:∀{n i:Nat},(∀j,i≤j→j<i+n→h j=f j++shiftL d (g j))→(allK h n i).Perm (allK f n i++shM d (allK g n i))
 | 0,i,_=>List.Perm.refl _
 | n+1,i,hh=>by
  rw[allK,allK,allK,hh i (by omega) (by omega),mtK_app,mtK_shift,shM_app]
  have ih:=allK_perm (n:=n) (i:=i+1) (fun j h1 h2=>hh j (by omega) (by omega))
  refine (List.Perm.append_left _ ih).trans ?_;rw[List.append_assoc,List.append_assoc];refine List.Perm.append_left _ ?_;rw[←List.append_assoc,←List.append_assoc];exact List.Perm.append_right _ List.perm_append_comm
theorem allK_congr {f g:Nat→List (Nat×Nat)}:∀{n i:Nat},(∀j,i≤j→j<i+n→f j=g j)→allK f n i=allK g n i
 | 0,i,_=>rfl
 | n+1,i,hh=>by
  rw[allK,allK,hh i (by omega) (by omega),allK_congr (n:=n) (i:=i+1) (fun j h1 h2=>hh j (by omega) (by omega))]
theorem shM_sorted {d:Nat} {l:List Mt} (h:l.Pairwise LeMt):(shM d l).Pairwise LeMt:=by
 unfold shM;rw[List.pairwise_map];refine h.imp fun {a b} hab=>?_;rw[LeMt.iff]at hab⊢;simp only;omega
theorem chsF_in {f:Nat→Option Nat} {n:Nat} (hf:∀i t,i<n→f i=some t→i<t∧t≤n):∀(k i:Nat) (p:Nat×Nat),p∈chsF f n k i→(i≤p.1∧p.1<p.2∧p.2≤n)∧f p.1=some p.2
 | 0,i,p,h=>by cases h
 | k+1,i,p,h=>by
  rw[chsF]at h;by_cases hi:i<n
  ·rw[if_pos hi]at h
   cases hfi:f i with
   | none=>
    rw[hfi]at h;obtain ⟨h1,h2⟩:=chsF_in hf k (i+1) p h;exact ⟨by omega,h2⟩
   | some t=>
    rw[hfi]at h;obtain ⟨q1,q2⟩:=hf i t hi hfi;rcases List.mem_cons.1 h with rfl | h
    ·exact ⟨⟨Nat.le_refl _,q1,q2⟩,hfi⟩
    ·obtain ⟨h1,h2⟩:=chsF_in hf k t p h;exact ⟨by omega,h2⟩
  ·rw[if_neg hi]at h;cases h
theorem chA_in {m:Mc} {wh:Bool} {bs:List Nat} {p:Nat×Nat} (h:p∈chA m wh bs):(p.1<p.2∧p.2≤bs.length)∧chF m wh bs p.1=some p.2:=by
 obtain ⟨h1,h2⟩:=chsF_in (fun i t hi h=>chF_lt (Nat.le_of_lt hi) h) _ _ p h;exact ⟨h1.2,h2⟩
end Go.Proofs.YtoaibhacognbjaaGreatDoor
