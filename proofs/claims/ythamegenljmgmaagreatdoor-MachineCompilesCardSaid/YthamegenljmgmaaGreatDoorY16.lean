/- Walks. -/
import Derived.Test.YthamegenljmgmaaGreatDoorY01
set_option maxRecDepth 100000
set_option maxHeartbeats 16000000
set_option linter.unusedVariables false
set_option linter.unusedSimpArgs false
namespace Go.Proofs.YthamegenljmgmaaGreatDoor
open Go.RowKit
def kF(m:Mc):List Nat->Nat->Nat->List Nat
 | [],s,k=>if (m.ac[s]?).getD false=true then [k] else []
 |c::w,s,k=>(if (m.ac[s]?).getD false=true then [k] else [])++match bA (aU m s) c with|none=>[]|some t=>kF m w t (k+1)
def ak0(awO:List Nat)(i:Nat)(clr:Nat->Bool):Option Nat:=awO.reverse.find? λt=>decide (i<t) && clr t
def sgN(c:Nat):Bool:=(decide (97<=c) && decide (c<=122)) || (decide (65<=c) && decide (c<=90)) || (decide (48<=c) && decide (c<=57))
def aeb(wh:Bool)(bs:List Nat)(i t:Nat):Bool:=
 (decide (i<=t) && decide (t<=bs.length)) && (!wh || ((decide (i=0) || !sgN ((bs[i - 1]?).getD 0)) && (decide (t=bs.length) || !sgN ((bs[t]?).getD 0))))
def chF(m:Mc)(wh:Bool)(bs:List Nat)(i:Nat):Option Nat:=ak0 (kF m (bs.drop i) 0 i) i (aeb wh bs i)
def XW(f:Nat->Option Nat)(n:Nat):Nat->Nat->List (Nat×Nat)
 |0,_=>[]
 |k+1,i=>if i<n then match f i with|none=>XW f n k (i+1)|some t=>(i,t)::XW f n k t else []
def ak2(d:Nat)(l:List (Nat×Nat)):List (Nat×Nat):=l.map λp=>(p.1+d,p.2+d)
def at4(m:Mc)(wh:Bool)(bs:List Nat)(i t:Nat):Prop:=i<t/\t<=bs.length/\eM m ((bs.drop i).take (t-i)) 0=true/\aeb wh bs i t=true
section
variable {m:Mc} {wh:Bool} {c:Nat} (hc:∀w,eM m w 0=true->c∉w) (hs:sgN c=false) (a b:List Nat)
include hc hs
end
def chA(m:Mc)(wh:Bool)(bs:List Nat):List (Nat×Nat):=XW (chF m wh bs) bs.length bs.length 0
theorem gh(f:Nat->Nat)(l:List Ed)(e:Ed):bO f (l++[e])=bO f l++[⟨e.lo,e.hi,f e.to⟩]:=by unfold bO;rw[List.map_append];rfl
theorem ez(f:Nat->Nat)(l:List Ed):(bO f l).length=l.length:=by unfold bO;simp
structure su (m:Mc) (c:Nat->Option Nat) (st:List Nat) (i:Nat) (rs:List (List Ed)) (p:List Ed) (t:Nat):Prop where
 nd:(st.map c).Nodup
 lv:∀s∈st,s<m.ed.length/\c s≠none
 zero:st[0]?=some 0
 rows:rs=(st.take i).map λs=>bO (aZ c st) (cD c (aU m s))
 tg:∀s∈st.take i,∀e∈cD c (aU m s),some e.to∈st.map c
 ptg:∀e∈p,some e.to∈st.map c
 meet:mN 0 0 rs t
 pm:mZ t (bO (aZ c st) p)
 top:lp t (bO (aZ c st) p)+1=st.length
 il:i<=st.length
theorem mO{α β:Type}{f:α->β}:∀{l:List α},(l.map f).Nodup->l.Nodup
 | [],_=>List.nodup_nil
 |a::l,h=>by
  rw[List.map_cons,List.nodup_cons]at h;rw[List.nodup_cons];exact ⟨λha=>h.1 (List.mem_map.2 ⟨a,ha,rfl⟩),mO h.2⟩
section
variable {m:Mc} {c:Nat->Option Nat} {st:List Nat} {i t:Nat} {rs:List (List Ed)} {p:List Ed}
theorem su.start(h0:c 0≠none)(h1:0<m.ed.length):su m c [0] 0 [] [] 0:=
 ⟨H,λs hs=>by simp at hs;subst hs;exact ⟨h1,h0⟩,rfl,rfl,λs hs=>(by cases hs),λe he=>(by cases he),rfl,trivial,rfl,Nat.zero_le _⟩
theorem su.Li(h:su m c st i rs p t)(e:Ed)(he:some e.to∈st.map c):su m c st i rs (p++[e]) t:=by
 have aB:=GA he;have MC:=h.top;obtain ⟨h1,h2⟩:=qj (e:=⟨e.lo,e.hi,aZ c st e.to⟩) h.pm (by show aZ c st e.to<=_;omega)
 refine { h with ptg:=λf hf=>?_,pm:=by rw[gh];exact h1,top:=?_ }
 .rcases List.mem_append.1 hf with hf|hf
  .exact h.ptg f hf
  .rw[List.mem_singleton]at hf;rw[hf];exact he
 .rw[gh,h2];show max _ (aZ c st e.to)+1=_;omega
theorem su.new(h:su m c st i rs p t)(e:Ed)(s:Nat)(he:¬some e.to∈st.map c)(hs:s<m.ed.length)(hc:c s=some e.to):su m c (st++[s]) i rs (p++[e]) t/\aZ c (st++[s]) e.to=st.length:=by
 have kO:=vN he hc;have MC:=h.top;have bI:∀x,some x∈st.map c->some x∈(st++[s]).map c:=λx hx=>by rw[List.map_append];exact List.mem_append_left _ hx
 have tG:(st++[s]).take i=st.take i:=List.take_append_of_le_length h.il;have hp:bO (aZ c (st++[s])) p=bO (aZ c st) p:=ra s h.ptg;obtain ⟨h1,h2⟩:=qj (e:=⟨e.lo,e.hi,st.length⟩) h.pm (by show st.length<=_;omega)
 refine ⟨⟨?_,?_,?_,?_,?_,?_,h.meet,?_,?_,?_⟩,kO⟩
 .rw[List.map_append,List.nodup_append];refine ⟨h.nd,H,λa ha b hb=>?_⟩;simp only[List.map_cons,List.map_nil,List.mem_singleton]at hb;rintro rfl;rw[hb,hc]at ha;exact he ha
 .intro x hx;rcases List.mem_append.1 hx with hx|hx
  .exact h.lv x hx
  .rw[List.mem_singleton]at hx;subst hx;exact ⟨hs,by rw[hc];simp⟩
 .rw[List.getElem?_append_left (by have:=(List.getElem?_eq_some_iff.1 h.zero).1;exact this)];exact h.zero
 .rw[tG,h.rows];exact List.map_congr_left λx hx=>(ra s (h.tg x hx)).symm
 .rw[tG];exact λx hx f hf=>bI _ (h.tg x hx f hf)
 .intro f hf;rcases List.mem_append.1 hf with hf|hf
  .exact bI _ (h.ptg f hf)
  .rw[List.mem_singleton]at hf;subst hf;rw[List.map_append];exact List.mem_append_right _ (by simp[hc])
 .rw[gh,hp,kO];exact h1
 .rw[gh,hp,kO,h2,List.length_append];show max _ st.length+1=st.length+1;omega
 .rw[List.length_append];have:=h.il;omega
theorem su.row(h:su m c st i rs p t)(hit:i<=t){s:Nat}(hs:st[i]?=some s)(hp:p=cD c (aU m s)):su m c st (i+1) (rs++[bO (aZ c st) p]) [] (lp t (bO (aZ c st) p)):=by
 have aB:i<st.length:=(List.getElem?_eq_some_iff.1 hs).1;have tG:st.take (i+1)=st.take i++[s]:=by rw[List.take_add_one,hs];rfl
 have hl:rs.length=i:=by rw[h.rows,List.length_map,List.length_take];omega
 have MC:=h.top;refine ⟨h.nd,h.lv,h.zero,?_,?_,λe he=>(by cases he),?_,trivial,MC,aB⟩
 .rw[tG,List.map_append,<-h.rows,hp];rfl
 .rw[tG];intro x hx e he;rcases List.mem_append.1 hx with hx|hx
  .exact h.tg x hx e he
  .rw[List.mem_singleton]at hx;subst hx;exact h.ptg e (by rw[hp];exact he)
 .exact h.meet.snoc (by rw[hl];omega) h.pm
theorem su.nodup(h:su m c st i rs p t):st.length<=m.ed.length:=by
 have h1:st.Nodup:=mO h.nd;have:=gH (r:=List.range m.ed.length) h1 (λx hx=>List.mem_range.2 (h.lv x hx).1);rwa [List.length_range]at this
theorem su.done(hv:jB m)(hc:sT m c)(h:su m c st st.length rs [] t):rs=(cQ m c (aZ c st) st).ed/\ld (cQ m c (aZ c st) st)/\∀w,eM (cQ m c (aZ c st) st) w 0=eM m w 0:=by
 have yO:∀s∈st,s<m.ed.length/\aW m s:=λs hs=>by
  obtain ⟨h1,h2⟩:=h.lv s hs;refine ⟨h1,?_⟩;by_cases hx:aW m s
  .exact hx
  .exact absurd ((hc.eJ s h1).2 hx) h2
 have hf:∀k s cl,st[k]?=some s->c s=some cl->aZ c st cl=k:=λk s cl h1 h2=>Q2 h.nd h1 h2;have hr:rs=(cQ m c (aZ c st) st).ed:=by rw[h.rows,List.take_length];rfl
 have ht:∀s∈st,∀e∈cD c (aU m s),∃t∈st,c t=some e.to:=λs hs e he=>by
  have:=h.tg s (by rw[List.take_length];exact hs) e he
  obtain ⟨u,h1,h2⟩:=List.mem_map.1 this;exact ⟨u,h1,h2⟩
 refine ⟨hr,Ci hv hc yO hf ht ?_,λw=>jW hv hc yO hf ht w 0 0 h.zero⟩;rw[<-hr];have MC:=h.top;have h3:t+1=st.length:=MC;exact h.meet.done (by rw[hr];unfold cQ;simp;omega)
end
theorem q8(cls:Nat->Option Nat):∀(l:List Ed) (p:Option Ed),(yo cls p l).length<=p.toList.length+l.length
 | [],p=>by unfold yo;simp
 |e::r,p=>by
  unfold yo
  cases hc:cls e.to with
  |none=>simp only;have:=q8 cls r p;rw[List.length_cons];omega
  |some t=>
   cases p with
   |none=>simp only;have:=q8 cls r (some ⟨e.lo,e.hi,t⟩);simp at this|-;omega
   |some q=>
    simp only;split
    .have:=q8 cls r (some ⟨q.lo,e.hi,q.to⟩);simp at this|-;omega
    .have:=q8 cls r (some ⟨e.lo,e.hi,t⟩);simp at this|-;omega
theorem oT(cls:Nat->Option Nat)(l:List Ed):(cD cls l).length<=l.length:=by have:=q8 cls l none;simpa [cD] using this
theorem pP:∀{r:List Ed} {b:Nat} {e:Ed},bK b r->e∈r->bA r e.hi=some e.to
 |f::r,b,e,h,he=>by
  rw[bA];rcases List.mem_cons.1 he with rfl|he
  .rw[if_pos ⟨h.2.1,V⟩]
  .have bX:∀{r:List Ed} {b:Nat},bK b r->∀g∈r,b<=g.hi:=by
    intro r
    induction r with
    |nil=>intro b _ g hg;cases hg
    |cons a r ih=>
     intro b h g hg;rcases List.mem_cons.1 hg with rfl|hg
     .have h1:=h.1;have h2:=h.2.1;omega
     .have h1:=ih h.2.2 g hg;have h2:=h.1;have h3:=h.2.1;omega
   have:=bX h.2.2 e he;rw[if_neg U];exact pP h.2.2 he
theorem qL{cls:Nat->Option Nat}{l:List Ed}(hs:bK 0 l)(hb:∀e∈l,e.lo<256/\e.hi<256):∀e∈cD cls l,e.lo<256/\e.hi<256/\∃f∈l,cls f.to=some e.to:=by
 intro e he;obtain ⟨h1,h2,h3⟩:=gM (cls:=cls) l 0 hs;have k1:=mE h1 he;have k2:=pP h1 he;rw[h3]at k1 k2;obtain ⟨t,t1,t2⟩:=Option.bind_eq_some_iff.1 k1;obtain ⟨u,u1,-⟩:=Option.bind_eq_some_iff.1 k2;obtain ⟨f,f1,f2,f3,f4⟩:=gI t1;obtain ⟨g,g1,g2,g3,g4⟩:=gI u1;have:=hb f f1;have:=hb g g1;exact ⟨U,U,f,f1,by rw[f4];exact t2⟩
end Go.Proofs.YthamegenljmgmaaGreatDoor
