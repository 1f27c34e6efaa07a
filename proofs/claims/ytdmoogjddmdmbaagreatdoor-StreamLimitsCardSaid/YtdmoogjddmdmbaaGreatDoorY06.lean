/- Patterns in memory. · make.Shapes: the six patterns, exactly. -/
import Derived.Test.YtdmoogjddmdmbaaGreatDoorY02
import Derived.Test.YtdmoogjddmdmbaaGreatDoorY04
import Derived.Test.YtdmoogjddmdmbaaGreatDoorY05
namespace Go.Proofs.YtdmoogjddmdmbaaGreatDoor
set_option linter.unusedVariables false
set_option linter.unusedSimpArgs false
set_option maxRecDepth 100000
open Go.RowKit
def RgIn (w:World) (v:Value) (rs:List (Nat×Nat)):Prop:=∃A c,v = .slice A rs.length c/\(rs.length<=c/\c<=9223372036854775807)/\(rs=[]\/∃g f,A=some ⟨g,f,none⟩/\g<w.heap.size/\
 ∀i (h:i<rs.length),(w.cell? ⟨g,f+i*2,none⟩=some (.int .u8 (rs[i].1:Int))/\w.cell? ⟨g,f+i*2+1,none⟩=some (.int .u8 (rs[i].2:Int)))/\rs[i].1<256/\rs[i].2<256)
mutual
def NdIn (w:World):Nd->List Value->Prop
 | .mk op rs kids mn mx=>λvs=>∃v1 v2,vs=[.int .i64 op,v1,v2, .int .i64 mn, .int .i64 mx]/\RgIn w v1 rs/\∃A c,v2 = .slice A kids.length c/\(kids.length<=c/\c<=9223372036854775807)/\(kids=[]\/∃g f,A=some ⟨g,f,none⟩/\g<w.heap.size/\KdsIn w kids g f)
def KdsIn (w:World):List Nd->Nat->Nat->Prop
 | []=>λ_ _=>True
 | k::r=>λg f=>(∃vs:List Value,(∀j,j<5->w.cell? ⟨g,f+j,none⟩=vs[j]?)/\NdIn w k vs)/\KdsIn w r g (f+5)
end
theorem RgIn.later {w w':World} {v:Value} {rs:List (Nat×Nat)} (h:RgIn w v rs) (hb:Below w.heap.size w w'):RgIn w' v rs:=by
 obtain ⟨A,c,e,hc,h⟩:=h;refine ⟨A,c,e,hc,h.imp id ?_⟩;rintro ⟨g,f,h1,h2,h3⟩;refine ⟨g,f,h1,Nat.lt_of_lt_of_le h2 hb.size,λi hi=>?_⟩;obtain ⟨⟨q1,q2⟩,q3⟩:=h3 i hi;exact ⟨⟨(hb.cell (p:=⟨g,f+i*2,none⟩) h2).trans q1,(hb.cell (p:=⟨g,f+i*2+1,none⟩) h2).trans q2⟩,q3⟩
theorem nodesT_kid:∀{l:List Nd} {k:Nd},k∈l->nodesT k<=nodesTs l
 | a::r,k,h=>by
  rw[nodesTs];rcases List.mem_cons.1 h with rfl | h
  .omega
  .have:=nodesT_kid h;omega
theorem KdsIn.at {w:World}:∀{l:List Nd} {g f:Nat},KdsIn w l g f->∀i (h:i<l.length),∃vs:List Value,(∀j,j<5->w.cell? ⟨g,f+i*5+j,none⟩=vs[j]?)/\NdIn w l[i] vs
 | [],_,_,_,i,h=>by cases h
 | k::r,g,f,hk,i,h=>by
  cases i with
  | zero=>
   obtain ⟨vs,h1,h2⟩:=hk.1;exact ⟨vs,λj hj=>by rw[Nat.zero_mul,Nat.add_zero];exact h1 j hj,h2⟩
  | succ i=>
   obtain ⟨vs,h1,h2⟩:=KdsIn.at hk.2 i (by simpa using h)
   refine ⟨vs,λj hj=>?_,h2⟩;have:=h1 j hj;rw[show f+5+i*5+j=f+(i+1)*5+j by omega]at this
   exact this
theorem NdIn_later {w w':World} (hb:Below w.heap.size w w'):∀(m:Nat),(∀(n:Nd) (vs:List Value),nodesT n<=m->NdIn w n vs->NdIn w' n vs)/\(∀(l:List Nd) (g f:Nat),nodesTs l<=m->g<w.heap.size->KdsIn w l g f->KdsIn w' l g f):=by
 intro m
 induction m with
 | zero=>
  refine ⟨λn vs h=>?_,λl g f h hg hk=>?_⟩
  .cases n;rw[nodesT]at h;omega
  .cases l with
   | nil=>trivial
   | cons k r=>cases k;rw[nodesTs,nodesT]at h;omega
 | succ m ih=>
  have h1:∀(n:Nd) (vs:List Value),nodesT n<=m+1->NdIn w n vs->NdIn w' n vs:=by
   rintro ⟨op,rs,kids,mn,mx⟩ vs h ⟨v1,v2,e,hr,A,c,e2,hc,hk⟩;rw[nodesT]at h;refine ⟨v1,v2,e,hr.later hb,A,c,e2,hc,hk.imp id ?_⟩;rintro ⟨g,f,h1,h2,h3⟩;exact ⟨g,f,h1,Nat.lt_of_lt_of_le h2 hb.size,ih.2 kids g f (by omega) h2 h3⟩
  refine ⟨h1,λl=>?_⟩
  induction l with
  | nil=>intro _ _ _ _ _;trivial
  | cons k r ihl=>
   rintro g f h hg ⟨⟨vs,h2,h3⟩,h4⟩;rw[nodesTs]at h;exact ⟨⟨vs,λj hj=>(hb.cell (p:=⟨g,f+j,none⟩) hg).trans (h2 j hj),h1 k vs (by omega) h3⟩,ihl g (f+5) (by omega) hg h4⟩
theorem NdIn.later {w w':World} {n:Nd} {vs:List Value} (h:NdIn w n vs) (hb:Below w.heap.size w w'):NdIn w' n vs:=(NdIn_later hb _).1 n vs (Nat.le_refl _) h
theorem NdIn.form {w:World} {n:Nd} {vs:List Value} (h:NdIn w n vs):∃A1 c1 A2 c2,vs=[.int .i64 n.op, .slice A1 n.rs.length c1, .slice A2 n.kids.length c2, .int .i64 n.mn, .int .i64 n.mx]/\RgIn w (.slice A1 n.rs.length c1) n.rs/\(n.kids.length<=c2/\c2<=9223372036854775807)/\(n.kids=[]\/∃g f,A2=some ⟨g,f,none⟩/\g<w.heap.size/\KdsIn w n.kids g f):=by
 obtain ⟨op,rs,kids,mn,mx⟩:=n;obtain ⟨v1,v2,e,hr,A,c,rfl,hc,hk⟩:=h;obtain ⟨A1,c1,rfl,h1,h2⟩:=hr;exact ⟨A1,c1,A,c,e,⟨A1,c1,rfl,h1,h2⟩,hc,hk⟩
def byN (c:Nat):Nd:=.mk 1 [(c,c)] [] 0 0
def tiN (rs:List (Nat×Nat)) (mn mx:Int):Nd:=.mk 4 [] [.mk 1 rs [] 0 0] mn mx
def sqN (l:List Nd):Nd:=.mk 2 [] l 0 0
def shN:Nat->Nd
 | 0=>sqN [byN 116,byN 107,tiN [(48,57)] 2 4]
 | 1=>sqN [byN 107,byN 45,tiN [(48,57),(97,102)] 3 6]
 | 2=>tiN [(48,57)] 4 4
 | 3=>tiN [(65,90),(97,122)] 2 5
 | 4=>.mk 3 [] [byN 107,sqN [byN 107,byN 101],tiN [(48,57)] 2 2] 0 0
 | _=>sqN [byN 97,tiN [(48,57),(97,102)] 0 3,byN 98]
def NdS (b:Nat) (w:World) (nd:Nd) (vs:List Value):Prop:=∀W,Stay b w W->NdIn W nd vs
theorem NdS.later {b:Nat} {w w':World} {nd:Nd} {vs:List Value} (h:NdS b w nd vs) (hs:Stay b w w'):NdS b w' nd vs:=λW hW=>h W (hs.trans hW)
def RgS (b:Nat) (w:World) (v:Value) (rs:List (Nat×Nat)):Prop:=∀W,Stay b w W->RgIn W v rs
def PN (b:Nat) (w:World) (d m:Nat) (nd:Nd) (vs:List Value):Prop:=Pat b w d m vs/\NdS b w nd vs
theorem PN.later {b:Nat} {w w':World} {d m:Nat} {nd:Nd} {vs:List Value} (h:PN b w d m nd vs) (hs:Stay b w w'):PN b w' d m nd vs:=⟨h.1.later hs,h.2.later hs⟩
theorem PN.mono {b:Nat} {w:World} {d d' m m':Nat} {nd:Nd} {vs:List Value} (hd:d<=d') (hm:m<=m') (h:PN b w d m nd vs):PN b w d' m' nd vs:=⟨Pat.mono hd hm h.1,h.2⟩
def RN (b:Nat) (w:World) (v:Value) (rs:List (Nat×Nat)):Prop:=RgV b w v/\RgS b w v rs
theorem RN.later {b:Nat} {w w':World} {v:Value} {rs:List (Nat×Nat)} (h:RN b w v rs) (hs:Stay b w w'):RN b w' v rs:=⟨h.1.later hs,λW hW=>h.2 W (hs.trans hW)⟩
theorem cell_st {b:Nat} {w W:World} {g j:Nat} {cs:Array Value} {e:TypeId} {m:Nat×Nat} {u:Value} (h:w.heap[g]?=some (.cells cs e m)) (hs:Stay b w W) (hb:b<g) (hc:cs[j]?=some u):W.cell? ⟨g,j,none⟩=some u:=by
 have hg:=(Array.getElem?_eq_some_iff.1 h).1;rw[hs.cell hb hg,cell_of_row _ _ _ _ _ _ h];exact hc
theorem RN.new1 {b:Nat} {w':World} {g n c lo hi:Nat} {e:TypeId} (hg:w'.heap[g]?=some (.cells #[.int .u8 (lo:Int), .int .u8 (hi:Int)] e (0,0))) (hb:b<g) (hr:n=1/\c=1/\lo<=hi/\hi<256):RN b w' (.slice (some ⟨g,0,none⟩) n c) [(lo,hi)]:=by
 obtain ⟨rfl,rfl,h1,h2⟩:=hr;refine ⟨RgV.new (w:=w') (rs:=[((lo:Int),(hi:Int))]) hg hb rfl (by decide) (by decide) (λp hp=>by
  simp only[List.mem_cons,List.not_mem_nil,or_false]at hp;subst hp;exact ⟨by simp,by simp only;omega,by simp only;omega⟩),λW hW=>⟨_,1,rfl,⟨by simp,by decide⟩, .inr ⟨g,0,rfl,Nat.lt_of_lt_of_le (Array.getElem?_eq_some_iff.1 hg).1 hW.1,λi hi'=>?_⟩⟩⟩
 have:i=0:=by simp at hi';omega
 subst this;exact ⟨⟨cell_st hg hW hb rfl,cell_st hg hW hb rfl⟩,by show lo<256;omega,h2⟩
theorem RN.new2 {b:Nat} {w':World} {g n c lo hi lo2 hi2:Nat} {e:TypeId} (hg:w'.heap[g]?=some (.cells #[.int .u8 (lo:Int), .int .u8 (hi:Int), .int .u8 (lo2:Int), .int .u8 (hi2:Int)] e (0,0))) (hb:b<g) (hr:n=2/\c=2/\(lo<=hi/\hi<256)/\lo2<=hi2/\hi2<256):RN b w' (.slice (some ⟨g,0,none⟩) n c) [(lo,hi),(lo2,hi2)]:=by
 obtain ⟨rfl,rfl,⟨h1,h2⟩,h3,h4⟩:=hr;refine ⟨RgV.new (w:=w') (rs:=[((lo:Int),(hi:Int)),((lo2:Int),(hi2:Int))]) hg hb rfl (by decide) (by decide) (λp hp=>by
  simp only[List.mem_cons,List.not_mem_nil,or_false]at hp;rcases hp with rfl | rfl
  .exact ⟨by simp,by simp only;omega,by simp only;omega⟩
  .exact ⟨by simp,by simp only;omega,by simp only;omega⟩),λW hW=>⟨_,2,rfl,⟨by simp,by decide⟩, .inr ⟨g,0,rfl,Nat.lt_of_lt_of_le (Array.getElem?_eq_some_iff.1 hg).1 hW.1,λi hi'=>?_⟩⟩⟩
 have:i=0\/i=1:=by simp at hi';omega
 rcases this with rfl | rfl
 .exact ⟨⟨cell_st hg hW hb rfl,cell_st hg hW hb rfl⟩,by show lo<256;omega,h2⟩
 .exact ⟨⟨cell_st hg hW hb rfl,cell_st hg hW hb rfl⟩,by show lo2<256;omega,h4⟩
def AllPN (b:Nat) (w:World) (d m:Nat):List Nd->List (List Value)->Prop
 | [],[]=>True
 | nd::r,u::q=>PN b w d m nd u/\AllPN b w d m r q
 | _,_=>False
def KN (b:Nat) (w:World) (d m:Nat) (nds:List Nd) (n:Nat) (v:Value):Prop:=n=nds.length/\KdV b w (Pat b w d m) n v/\∃g c,v = .slice (some ⟨g,0,none⟩) n c/\(n<=c/\c<=1000)/\b<g/\g<w.heap.size/\∀W,Stay b w W->KdsIn W nds g 0
theorem KN.later {b:Nat} {w w':World} {d m n:Nat} {nds:List Nd} {v:Value} (h:KN b w d m nds n v) (hs:Stay b w w'):KN b w' d m nds n v:=by
 obtain ⟨h0,h1,g,c,rfl,h2,h3,h4,h5⟩:=h;exact ⟨h0,h1.later hs (λus=>Pat.later hs),g,c,rfl,h2,h3,Nat.lt_of_lt_of_le h4 hs.1,λW hW=>h5 W (hs.trans hW)⟩
theorem AllPN.kds {b:Nat} {w W:World} {d m g:Nat}:∀{nds:List Nd} {us:List (List Value)} {f:Nat},AllPN b w d m nds us->Stay b w W->(∀u∈us,u.length=5)->(∀j (h:j<us.length) i,i<5->W.cell? ⟨g,f+j*5+i,none⟩=us[j][i]?)->KdsIn W nds g f
 | [],[],_,_,_,_,_=>trivial
 | nd::r,u::q,f,h,hs,h5,hc=>by
  refine ⟨⟨u,λj hj=>?_,h.1.2 W hs⟩,AllPN.kds h.2 hs (λx hx=>h5 x (List.mem_cons_of_mem _ hx)) λj hj i hi=>?_⟩
  .have:=hc 0 (by simp) j hj
   rw[Nat.zero_mul,Nat.add_zero]at this;exact this
  .have:=hc (j+1) (by simpa using hj) i hi
   rw[show f+(j+1)*5+i=f+5+j*5+i by omega]at this
   exact this
 | [],_::_,_,h,_,_,_=>h.elim
 | _::_,[],_,h,_,_,_=>h.elim
theorem AllPN.pats {b:Nat} {w:World} {d m:Nat}:∀{nds:List Nd} {us:List (List Value)},AllPN b w d m nds us->nds.length=us.length/\∀u∈us,Pat b w d m u
 | [],[],_=>⟨rfl,λu hu=>by cases hu⟩
 | nd::r,u::q,h=>by
  obtain ⟨h1,h2⟩:=AllPN.pats h.2;exact ⟨by simp[h1],λx hx=>(List.mem_cons.1 hx).elim (λe=>e▸h.1.1) (h2 x)⟩
 | [],_::_,h=>h.elim
 | _::_,[],h=>h.elim
theorem flat5:∀(us:List (List Value)),(∀u∈us,u.length=5)->∀j (hj:j<us.length) i,i<5->us.flatten[j*5+i]?=(us[j])[i]?
 | [],_,j,hj,_,_=>by cases hj
 | a::r,h,j,hj,i,hi=>by
  have ha:=h a (by simp)
  match j,hj with
  | 0,_=>rw[List.flatten_cons,List.getElem?_append_left (by omega)];simp
  | j+1,hj=>
   rw[List.flatten_cons,List.getElem?_append_right (by omega),show (j+1)*5+i-a.length=j*5+i by omega,flat5 r (λu hu=>h u (by simp[hu])) j (by simpa using hj) i hi]
   rfl
theorem PN.len5 {b:Nat} {w:World} {d m:Nat} {nd:Nd} {vs:List Value} (h:PN b w d m nd vs):vs.length=5:=by
 obtain ⟨A1,c1,A2,c2,rfl,-⟩:=(h.2 w (Stay.refl b w)).form;rfl
theorem AllPN.len5 {b:Nat} {w:World} {d m:Nat}:∀{nds:List Nd} {us:List (List Value)},AllPN b w d m nds us->∀u∈us,u.length=5
 | [],[],_,u,hu=>by cases hu
 | nd::r,x::q,h,u,hu=>by
  rcases List.mem_cons.1 hu with rfl | hu
  .exact h.1.len5
  .exact AllPN.len5 h.2 u hu
 | [],_::_,h,_,_=>h.elim
 | _::_,[],h,_,_=>h.elim
theorem KN.new {b:Nat} {w:World} {d m:Nat} {nds:List Nd} {us:List (List Value)} {cs:Array Value} {e:TypeId} {n c:Nat} (hb:b<w.heap.size) (hcs:cs=us.flatten.toArray) (hp:AllPN b w d m nds us) (hn:n=us.length) (hn2:n<=c/\c<=1000) :
  KN b (w.alloc (.cells cs e)) d m nds n (.slice (some ⟨w.heap.size,0,none⟩) n c):=by
 have h5:=hp.len5;obtain ⟨hl,hpat⟩:=hp.pats;have hs:Stay b w (w.alloc (.cells cs e)):=Stay.of_below ((Below.refl _ _).alloc (Nat.le_refl _) _);refine ⟨by omega,KdV.later (KdV.new (G:=Pat b w d m) hb hcs h5 hpat hn (by omega)) (Stay.refl b _) (λus=>Pat.later hs),_,c,rfl,hn2,hb,by simp,λW hW=>?_⟩
 refine AllPN.kds (us:=us) hp (hs.trans hW) h5 λj hj i hi=>?_;rw[Nat.zero_add,hW.cell hb (by simp),World.cell?_alloc_mark,<-flat5 us h5 j hj i hi,hcs]
 simp
theorem PN.cho {b:Nat} {w:World} {d m n:Nat} {nds:List Nd} {A:Option Addr} {c:Nat} (h:KN b w d m nds n (.slice A n c)) (h1:1<=n):PN b w (d+1) m (.mk 3 [] nds 0 0) [.int .i64 3, .slice none 0 0, .slice A n c, .int .i64 0, .int .i64 0]:=by
 obtain ⟨h0,hk,g,c',e,h2,h3,h4,h5⟩:=h;injection e with e1 e2 e3;subst e1 e3;refine ⟨⟨_,_,_,_,⟨Sl.of _ _ _,Sl.of _ _ _⟩, .inr (.inr (.inl ⟨rfl,n,hk,h1⟩))⟩,λW hW=>⟨_,_,rfl,⟨none,0,rfl,⟨by simp,by simp⟩, .inl rfl⟩,_,c,by rw[h0],⟨by omega,by omega⟩, .inr ⟨g,0,rfl,Nat.lt_of_lt_of_le h4 hW.1,h5 W hW⟩⟩⟩
def NdNPost (b d m:Nat) (nd:Nd) (w:World) (e:Ending) (w':World):Prop:=∃A B n n' c c' o mn mx,e = .returned (.agg #[.int .i64 o, .slice A n c, .slice B n' c', .int .i64 mn, .int .i64 mx])/\PN b w' d m nd [.int .i64 o, .slice A n c, .slice B n' c', .int .i64 mn, .int .i64 mx]/\Below w.heap.size w w'
theorem byteN_any (b c:Nat) (h0:c<256) (h1:0<=c) (w:World) (hb:b<w.heap.size):Calls Tryz.prog 37 #[.int .u8 (c:Int)] w (NdNPost b 2 6 (byN c) w):=by
 have e1:w.heap.size+1=(w.alloc (Obj.cells #[Value.int IntKind.i64 1,Value.slice (some ⟨w.heap.size+1,0,none⟩) 1 1,Value.slice none 0 0,Value.int IntKind.i64 0,Value.int IntKind.i64 0] 41)).heap.size:=by simp
 have hg1:((w.alloc (Obj.cells #[Value.int IntKind.i64 1,Value.slice (some ⟨w.heap.size+1,0,none⟩) 1 1,Value.slice none 0 0,Value.int IntKind.i64 0,Value.int IntKind.i64 0] 41)).alloc (Obj.cells #[Value.int IntKind.u8 (c:Int),Value.int IntKind.u8 (c:Int)] 84)).heap[w.heap.size+1]?=some (.cells #[Value.int IntKind.u8 (c:Int),Value.int IntKind.u8 (c:Int)] 84 (0,0)):=by
  have h:=heap_alloc_new (w.alloc (Obj.cells #[Value.int IntKind.i64 1,Value.slice (some ⟨w.heap.size+1,0,none⟩) 1 1,Value.slice none 0 0,Value.int IntKind.i64 0,Value.int IntKind.i64 0] 41)) (.cells #[Value.int IntKind.u8 (c:Int),Value.int IntKind.u8 (c:Int)] 84);rw[<-e1]at h;exact h
 have hR:RN b ((w.alloc (Obj.cells #[Value.int IntKind.i64 1,Value.slice (some ⟨w.heap.size+1,0,none⟩) 1 1,Value.slice none 0 0,Value.int IntKind.i64 0,Value.int IntKind.i64 0] 41)).alloc (Obj.cells #[Value.int IntKind.u8 (c:Int),Value.int IntKind.u8 (c:Int)] 84)) (.slice (some ⟨w.heap.size+1,0,none⟩) 1 1) [(c,c)]:=
  RN.new1 (e:=84) hg1 (by omega) ⟨rfl,rfl,Nat.le_refl _,h0⟩
 have HR:=Lib.hid hR;clear hR hg1 e1
 go_enter Tryz.func37,Tryz.ntmps37
 go_wp2_with fail;refine bodyPost_ret (v:=.agg #[.int .i64 1, .slice (some ⟨w.heap.size+1,0,none⟩) 1 1, .slice none 0 0, .int .i64 0, .int .i64 0]) (by simp[results,Tryz.results37,go_sem];try rfl) rfl ?_
 refine ⟨_,_,_,_,_,_,_,_,_,rfl,⟨?_,λW hW=>?_⟩,((Below.refl _ w).alloc (Nat.le_refl _) _).alloc (by simp) _⟩
 .exact ⟨_,_,_,_,⟨Sl.of _ _ _,Sl.of _ _ _⟩, .inl ⟨rfl,HR.out.1,by omega⟩⟩
 .exact ⟨_,_,rfl,HR.out.2 W hW,none,0,rfl,⟨by simp,by simp⟩, .inl rfl⟩
theorem timesN_any (b:Nat) (A:Option Addr) (n c:Nat) (rs:List (Nat×Nat)) (mn mx:Int) (w:World) (hr:RN b w (.slice A n c) rs) (hb:b<w.heap.size) (h0:0<=mn) (h1:mn<=mx) (h1m:1<=mx) (h6:mx<=6):Calls Tryz.prog 38 #[.slice A n c, .int .i64 mn, .int .i64 mx] w (NdNPost b 2 6 (tiN rs mn mx) w):=by
 have HR:=Lib.hid hr;clear hr;have hp:PN b w 1 1 (.mk 1 rs [] 0 0) [.int .i64 1, .slice A n c, .slice none 0 0, .int .i64 0, .int .i64 0]:=⟨⟨_,_,_,_,⟨Sl.of _ _ _,Sl.of _ _ _⟩, .inl ⟨rfl,HR.out.1,by omega⟩⟩,λW hW=>⟨_,_,rfl,HR.out.2 W hW,none,0,rfl,⟨by simp,by simp⟩, .inl rfl⟩⟩
 have hbel:Below w.heap.size w (w.alloc (Obj.cells #[Value.int IntKind.i64 4,Value.slice none 0 0,Value.slice (some ⟨w.heap.size+1,0,none⟩) 1 1,Value.int IntKind.i64 mn,Value.int IntKind.i64 mx] 41)):=(Below.refl _ w).alloc (Nat.le_refl _) _;have hz:(w.alloc (Obj.cells #[Value.int IntKind.i64 4,Value.slice none 0 0,Value.slice (some ⟨w.heap.size+1,0,none⟩) 1 1,Value.int IntKind.i64 mn,Value.int IntKind.i64 mx] 41)).heap.size=w.heap.size+1:=by simp
 have hK:=KN.new (w:=w.alloc (Obj.cells #[Value.int IntKind.i64 4,Value.slice none 0 0,Value.slice (some ⟨w.heap.size+1,0,none⟩) 1 1,Value.int IntKind.i64 mn,Value.int IntKind.i64 mx] 41)) (d:=1) (m:=1) (nds:=[.mk 1 rs [] 0 0]) (us:=[[.int .i64 1, .slice A n c, .slice none 0 0, .int .i64 0, .int .i64 0]]) (cs:=#[.int .i64 1, .slice A n c, .slice none 0 0, .int .i64 0, .int .i64 0]) (e:=41) (n:=1) (c:=1) (by rw[hz];omega) rfl ⟨hp.later (Stay.of_below hbel),trivial⟩ rfl (by decide)
 rw[hz]at hK;have HK:=Lib.hid hK;clear hK hz hp hbel
 go_enter Tryz.func38,Tryz.ntmps38
 go_wp2_with fail;refine bodyPost_ret (v:=.agg #[.int .i64 4, .slice none 0 0, .slice (some ⟨w.heap.size+1,0,none⟩) 1 1, .int .i64 mn, .int .i64 mx]) (by simp[results,Tryz.results38,go_sem];try rfl) rfl ?_
 have hbel:Below w.heap.size w ((w.alloc (Obj.cells #[Value.int IntKind.i64 4,Value.slice none 0 0,Value.slice (some ⟨w.heap.size+1,0,none⟩) 1 1,Value.int IntKind.i64 mn,Value.int IntKind.i64 mx] 41)).alloc (Obj.cells #[Value.int IntKind.i64 1,Value.slice A n c,Value.slice none 0 0,Value.int IntKind.i64 0,Value.int IntKind.i64 0] 41)):=((Below.refl _ w).alloc (Nat.le_refl _) _).alloc (by simp) _
 obtain ⟨h00,hk,g,c',e,h2,h3,h4,h5⟩:=HK.out;injection e with e1 e2 e3;injection e1 with e1;injection e1 with e1 _ _;subst e1;refine ⟨_,_,_,_,_,_,_,_,_,rfl,⟨?_,λW hW=>?_⟩,hbel⟩
 .exact ⟨_,_,_,_,⟨Sl.of _ _ _,Sl.of _ _ _⟩, .inr (.inr (.inr ⟨rfl,1,1,hk,by omega,h0,h1,⟨h1m,by omega⟩,by omega⟩))⟩
 .exact ⟨_,_,rfl,⟨none,0,rfl,⟨by simp,by simp⟩, .inl rfl⟩,_,1,rfl,⟨by simp,by decide⟩, .inr ⟨_,0,rfl,Nat.lt_of_lt_of_le h4 hW.1,h5 W hW⟩⟩
theorem seqN_any (b:Nat) (A:Option Addr) (n c:Nat) (nds:List Nd) (w:World) (hk:KN b w 2 6 nds n (.slice A n c)) (h3:n<=3):Calls Tryz.prog 36 #[.slice A n c] w (NdNPost b 3 18 (sqN nds) w):=by
 have HK:=Lib.hid hk;clear hk
 go_enter Tryz.func36,Tryz.ntmps36
 go_wp2_with fail;refine bodyPost_ret (v:=.agg #[.int .i64 2, .slice none 0 0, .slice A n c, .int .i64 0, .int .i64 0]) (by simp[results,Tryz.results36,go_sem];try rfl) rfl ?_
 have hbel:Below w.heap.size w (w.alloc (Obj.cells #[Value.int IntKind.i64 2,Value.slice none 0 0,Value.slice A n c,Value.int IntKind.i64 0,Value.int IntKind.i64 0] 41)):=(Below.refl _ w).alloc (Nat.le_refl _) _;obtain ⟨h00,hk,g,c',e,h2,h3',h4,h5⟩:=HK.out.later (Stay.of_below hbel);injection e with e1 e2 e3;subst e1 e3;refine ⟨_,_,_,_,_,_,_,_,_,rfl,⟨?_,λW hW=>?_⟩,hbel⟩
 .exact ⟨_,_,_,_,⟨Sl.of _ _ _,Sl.of _ _ _⟩, .inr (.inl ⟨rfl,n,6,hk,by omega⟩)⟩
 .exact ⟨_,_,rfl,⟨none,0,rfl,⟨by simp,by simp⟩, .inl rfl⟩,_,c,by rw[h00],⟨by omega,by omega⟩, .inr ⟨_,0,rfl,Nat.lt_of_lt_of_le h4 hW.1,h5 W hW⟩⟩
def ShNPost (b:Nat) (w:World) (e:Ending) (w':World):Prop:=∃g,e = .returned (.slice (some ⟨g,0,none⟩) 6 6)/\KN b w' 4 18 [shN 0,shN 1,shN 2,shN 3,shN 4,shN 5] 6 (.slice (some ⟨g,0,none⟩) 6 6)/\Below w.heap.size w w'
set_option maxHeartbeats 8000000 in
theorem shapesN_any (b:Nat) (w:World) (hb:b<w.heap.size):Calls Tryz.prog 15 #[] w (ShNPost b w):=by
 obtain ⟨v0,hv0⟩:∃V,((w.alloc (Obj.cells #[Value.int IntKind.u8 48,Value.int IntKind.u8 57] 84)).alloc (Obj.cells #[Value.int IntKind.u8 48,Value.int IntKind.u8 57,Value.int IntKind.u8 97,Value.int IntKind.u8 102] 84)).alloc (Obj.cells #[Value.int IntKind.u8 65,Value.int IntKind.u8 90,Value.int IntKind.u8 97,Value.int IntKind.u8 122] 84)=V:=⟨_,rfl⟩;have hlow:Below w.heap.size w v0:=by rw[<-hv0];exact (((Below.refl _ w).alloc (Nat.le_refl _) _).alloc (by simp) _).alloc (by simp;omega) _
 have g1:v0.heap[w.heap.size]?=some (.cells #[Value.int IntKind.u8 48,Value.int IntKind.u8 57] 84 (0,0)):=by
  rw[<-hv0,Below.heap_alloc _ _ _ (by simp;omega),Below.heap_alloc _ _ _ (by simp)];exact heap_alloc_new _ _
 have g2:v0.heap[w.heap.size+1]?=some (.cells #[Value.int IntKind.u8 48,Value.int IntKind.u8 57,Value.int IntKind.u8 97,Value.int IntKind.u8 102] 84 (0,0)):=by
  rw[<-hv0,Below.heap_alloc _ _ _ (by simp)]
  rw[show w.heap.size+1=(w.alloc (Obj.cells #[Value.int IntKind.u8 48,Value.int IntKind.u8 57] 84)).heap.size by simp];exact heap_alloc_new _ _
 have g3:v0.heap[w.heap.size+1+1]?=some (.cells #[Value.int IntKind.u8 65,Value.int IntKind.u8 90,Value.int IntKind.u8 97,Value.int IntKind.u8 122] 84 (0,0)):=by
  rw[<-hv0];rw[show w.heap.size+1+1=((w.alloc (Obj.cells #[Value.int IntKind.u8 48,Value.int IntKind.u8 57] 84)).alloc (Obj.cells #[Value.int IntKind.u8 48,Value.int IntKind.u8 57,Value.int IntKind.u8 97,Value.int IntKind.u8 102] 84)).heap.size by simp];exact heap_alloc_new _ _
 have R1:=Lib.hid (RN.new1 (b:=b) (n:=1) (c:=1) g1 (by omega) (by decide))
 have R2:=Lib.hid (RN.new2 (b:=b) (n:=2) (c:=2) g2 (by omega) (by decide))
 have R3:=Lib.hid (RN.new2 (b:=b) (n:=2) (c:=2) g3 (by omega) (by decide))
 have hbv:b<v0.heap.size:=by have:=hlow.size;omega
 have HV0:=Lib.hid hv0;have HLOW:=Lib.hid hlow;clear g1 g2 g3 hv0 hlow
 go_enter Tryz.func15,Tryz.ntmps15
 go_wp2_with fail;rw[HV0.out];clear HV0;refine (byteN_any b 116 (by decide) (by decide) _ hbv).mono ?_
 rintro e w1 ⟨A1,B1,n1,k1,c1,d1,o1,l1,h1,rfl,p1,hb1⟩;have P1:=Lib.hid p1;have R1:=Lib.hid (R1.out.later (Stay.of_below hb1));have R2:=Lib.hid (R2.out.later (Stay.of_below hb1));have R3:=Lib.hid (R3.out.later (Stay.of_below hb1));have HLOW:=Lib.hid (HLOW.out.trans (hb1.mono HLOW.out.size));have hbv:b<w1.heap.size:=by have:=hb1.size;omega
 clear p1 hb1;go_wp2_with fail;refine (byteN_any b 107 (by decide) (by decide) _ hbv).mono ?_
 rintro e w2 ⟨A2,B2,n2,k2,c2,d2,o2,l2,h2,rfl,p2,hb2⟩;have P2:=Lib.hid p2;have R1:=Lib.hid (R1.out.later (Stay.of_below hb2));have R2:=Lib.hid (R2.out.later (Stay.of_below hb2));have R3:=Lib.hid (R3.out.later (Stay.of_below hb2));have P1:=Lib.hid (P1.out.later (Stay.of_below hb2));have HLOW:=Lib.hid (HLOW.out.trans (hb2.mono HLOW.out.size));have hbv:b<w2.heap.size:=by have:=hb2.size;omega
 clear p2 hb2;go_wp2_with fail;refine (timesN_any b _ _ _ _ 2 4 _ R1.out hbv (by decide) (by decide) (by decide) (by decide)).mono ?_
 rintro e w3 ⟨A3,B3,n3,k3,c3,d3,o3,l3,h3,rfl,p3,hb3⟩;have P3:=Lib.hid p3;have R1:=Lib.hid (R1.out.later (Stay.of_below hb3));have R2:=Lib.hid (R2.out.later (Stay.of_below hb3));have R3:=Lib.hid (R3.out.later (Stay.of_below hb3));have P1:=Lib.hid (P1.out.later (Stay.of_below hb3));have P2:=Lib.hid (P2.out.later (Stay.of_below hb3));have HLOW:=Lib.hid (HLOW.out.trans (hb3.mono HLOW.out.size));have hbv:b<w3.heap.size:=by have:=hb3.size;omega
 clear p3 hb3;obtain ⟨w4,hw4⟩:∃V,w3.alloc (Obj.cells #[Value.int IntKind.i64 o1,Value.slice A1 n1 c1,Value.slice B1 k1 d1,Value.int IntKind.i64 l1,Value.int IntKind.i64 h1,Value.int IntKind.i64 o2,Value.slice A2 n2 c2,Value.slice B2 k2 d2,Value.int IntKind.i64 l2,Value.int IntKind.i64 h2,Value.int IntKind.i64 o3,Value.slice A3 n3 c3,Value.slice B3 k3 d3,Value.int IntKind.i64 l3,Value.int IntKind.i64 h3] 41)=V:=⟨_,rfl⟩;have K1:=KN.new (w:=w3) (d:=2) (m:=6) (nds:=[byN 116,byN 107,tiN [(48,57)] 2 4]) (us:=[[Value.int IntKind.i64 o1,Value.slice A1 n1 c1,Value.slice B1 k1 d1,Value.int IntKind.i64 l1,Value.int IntKind.i64 h1],[Value.int IntKind.i64 o2,Value.slice A2 n2 c2,Value.slice B2 k2 d2,Value.int IntKind.i64 l2,Value.int IntKind.i64 h2],[Value.int IntKind.i64 o3,Value.slice A3 n3 c3,Value.slice B3 k3 d3,Value.int IntKind.i64 l3,Value.int IntKind.i64 h3]]) (cs:=#[Value.int IntKind.i64 o1,Value.slice A1 n1 c1,Value.slice B1 k1 d1,Value.int IntKind.i64 l1,Value.int IntKind.i64 h1,Value.int IntKind.i64 o2,Value.slice A2 n2 c2,Value.slice B2 k2 d2,Value.int IntKind.i64 l2,Value.int IntKind.i64 h2,Value.int IntKind.i64 o3,Value.slice A3 n3 c3,Value.slice B3 k3 d3,Value.int IntKind.i64 l3,Value.int IntKind.i64 h3]) (e:=41) (n:=3) (c:=3) hbv rfl ⟨(P1.out.mono (by decide) (by decide)),(P2.out.mono (by decide) (by decide)),(P3.out.mono (by decide) (by decide)),trivial⟩ rfl (by decide)
 have hb4:Below w3.heap.size w3 w4:=by rw[<-hw4];exact (Below.refl _ _).alloc (Nat.le_refl _) _
 rw[hw4]at K1;have K1:=Lib.hid K1;have HW4:=Lib.hid hw4;have R1:=Lib.hid (R1.out.later (Stay.of_below hb4));have R2:=Lib.hid (R2.out.later (Stay.of_below hb4));have R3:=Lib.hid (R3.out.later (Stay.of_below hb4));have P1:=Lib.hid (P1.out.later (Stay.of_below hb4));have P2:=Lib.hid (P2.out.later (Stay.of_below hb4));have P3:=Lib.hid (P3.out.later (Stay.of_below hb4));have HLOW:=Lib.hid (HLOW.out.trans (hb4.mono HLOW.out.size));have hbv:b<w4.heap.size:=by have:=hb4.size;omega
 clear hw4 hb4;go_wp2_with fail;rw[HW4.out];clear HW4;clear P1;clear P2;clear P3;refine (seqN_any b _ _ _ _ _ K1.out (by decide)).mono ?_
 rintro e w5 ⟨AS1,BS1,nS1,kS1,cS1,dS1,oS1,lS1,hS1,rfl,pS1,hb5⟩;have PS1:=Lib.hid pS1;have R1:=Lib.hid (R1.out.later (Stay.of_below hb5));have R2:=Lib.hid (R2.out.later (Stay.of_below hb5));have R3:=Lib.hid (R3.out.later (Stay.of_below hb5));have HLOW:=Lib.hid (HLOW.out.trans (hb5.mono HLOW.out.size));have hbv:b<w5.heap.size:=by have:=hb5.size;omega
 clear pS1 hb5;clear K1;go_wp2_with fail;refine (byteN_any b 107 (by decide) (by decide) _ hbv).mono ?_
 rintro e w6 ⟨A4,B4,n4,k4,c4,d4,o4,l4,h4,rfl,p4,hb6⟩;have P4:=Lib.hid p4;have R1:=Lib.hid (R1.out.later (Stay.of_below hb6));have R2:=Lib.hid (R2.out.later (Stay.of_below hb6));have R3:=Lib.hid (R3.out.later (Stay.of_below hb6));have PS1:=Lib.hid (PS1.out.later (Stay.of_below hb6));have HLOW:=Lib.hid (HLOW.out.trans (hb6.mono HLOW.out.size));have hbv:b<w6.heap.size:=by have:=hb6.size;omega
 clear p4 hb6;go_wp2_with fail;refine (byteN_any b 45 (by decide) (by decide) _ hbv).mono ?_
 rintro e w7 ⟨A5,B5,n5,k5,c5,d5,o5,l5,h5,rfl,p5,hb7⟩;have P5:=Lib.hid p5;have R1:=Lib.hid (R1.out.later (Stay.of_below hb7));have R2:=Lib.hid (R2.out.later (Stay.of_below hb7));have R3:=Lib.hid (R3.out.later (Stay.of_below hb7));have PS1:=Lib.hid (PS1.out.later (Stay.of_below hb7));have P4:=Lib.hid (P4.out.later (Stay.of_below hb7));have HLOW:=Lib.hid (HLOW.out.trans (hb7.mono HLOW.out.size));have hbv:b<w7.heap.size:=by have:=hb7.size;omega
 clear p5 hb7;go_wp2_with fail;refine (timesN_any b _ _ _ _ 3 6 _ R2.out hbv (by decide) (by decide) (by decide) (by decide)).mono ?_
 rintro e w8 ⟨A6,B6,n6,k6,c6,d6,o6,l6,h6,rfl,p6,hb8⟩;have P6:=Lib.hid p6;have R1:=Lib.hid (R1.out.later (Stay.of_below hb8));have R2:=Lib.hid (R2.out.later (Stay.of_below hb8));have R3:=Lib.hid (R3.out.later (Stay.of_below hb8));have PS1:=Lib.hid (PS1.out.later (Stay.of_below hb8));have P4:=Lib.hid (P4.out.later (Stay.of_below hb8));have P5:=Lib.hid (P5.out.later (Stay.of_below hb8));have HLOW:=Lib.hid (HLOW.out.trans (hb8.mono HLOW.out.size));have hbv:b<w8.heap.size:=by have:=hb8.size;omega
 clear p6 hb8;obtain ⟨w9,hw9⟩:∃V,w8.alloc (Obj.cells #[Value.int IntKind.i64 o4,Value.slice A4 n4 c4,Value.slice B4 k4 d4,Value.int IntKind.i64 l4,Value.int IntKind.i64 h4,Value.int IntKind.i64 o5,Value.slice A5 n5 c5,Value.slice B5 k5 d5,Value.int IntKind.i64 l5,Value.int IntKind.i64 h5,Value.int IntKind.i64 o6,Value.slice A6 n6 c6,Value.slice B6 k6 d6,Value.int IntKind.i64 l6,Value.int IntKind.i64 h6] 41)=V:=⟨_,rfl⟩;have K2:=KN.new (w:=w8) (d:=2) (m:=6) (nds:=[byN 107,byN 45,tiN [(48,57),(97,102)] 3 6]) (us:=[[Value.int IntKind.i64 o4,Value.slice A4 n4 c4,Value.slice B4 k4 d4,Value.int IntKind.i64 l4,Value.int IntKind.i64 h4],[Value.int IntKind.i64 o5,Value.slice A5 n5 c5,Value.slice B5 k5 d5,Value.int IntKind.i64 l5,Value.int IntKind.i64 h5],[Value.int IntKind.i64 o6,Value.slice A6 n6 c6,Value.slice B6 k6 d6,Value.int IntKind.i64 l6,Value.int IntKind.i64 h6]]) (cs:=#[Value.int IntKind.i64 o4,Value.slice A4 n4 c4,Value.slice B4 k4 d4,Value.int IntKind.i64 l4,Value.int IntKind.i64 h4,Value.int IntKind.i64 o5,Value.slice A5 n5 c5,Value.slice B5 k5 d5,Value.int IntKind.i64 l5,Value.int IntKind.i64 h5,Value.int IntKind.i64 o6,Value.slice A6 n6 c6,Value.slice B6 k6 d6,Value.int IntKind.i64 l6,Value.int IntKind.i64 h6]) (e:=41) (n:=3) (c:=3) hbv rfl ⟨(P4.out.mono (by decide) (by decide)),(P5.out.mono (by decide) (by decide)),(P6.out.mono (by decide) (by decide)),trivial⟩ rfl (by decide)
 have hb9:Below w8.heap.size w8 w9:=by rw[<-hw9];exact (Below.refl _ _).alloc (Nat.le_refl _) _
 rw[hw9]at K2;have K2:=Lib.hid K2;have HW9:=Lib.hid hw9;have R1:=Lib.hid (R1.out.later (Stay.of_below hb9));have R2:=Lib.hid (R2.out.later (Stay.of_below hb9));have R3:=Lib.hid (R3.out.later (Stay.of_below hb9));have PS1:=Lib.hid (PS1.out.later (Stay.of_below hb9));have P4:=Lib.hid (P4.out.later (Stay.of_below hb9));have P5:=Lib.hid (P5.out.later (Stay.of_below hb9));have P6:=Lib.hid (P6.out.later (Stay.of_below hb9));have HLOW:=Lib.hid (HLOW.out.trans (hb9.mono HLOW.out.size));have hbv:b<w9.heap.size:=by have:=hb9.size;omega
 clear hw9 hb9;go_wp2_with fail;rw[HW9.out];clear HW9;clear P4;clear P5;clear P6;refine (seqN_any b _ _ _ _ _ K2.out (by decide)).mono ?_
 rintro e w10 ⟨AS2,BS2,nS2,kS2,cS2,dS2,oS2,lS2,hS2,rfl,pS2,hb10⟩;have PS2:=Lib.hid pS2;have R1:=Lib.hid (R1.out.later (Stay.of_below hb10));have R2:=Lib.hid (R2.out.later (Stay.of_below hb10));have R3:=Lib.hid (R3.out.later (Stay.of_below hb10));have PS1:=Lib.hid (PS1.out.later (Stay.of_below hb10));have HLOW:=Lib.hid (HLOW.out.trans (hb10.mono HLOW.out.size));have hbv:b<w10.heap.size:=by have:=hb10.size;omega
 clear pS2 hb10;clear K2;go_wp2_with fail;refine (timesN_any b _ _ _ _ 4 4 _ R1.out hbv (by decide) (by decide) (by decide) (by decide)).mono ?_
 rintro e w11 ⟨A7,B7,n7,k7,c7,d7,o7,l7,h7,rfl,p7,hb11⟩;have P7:=Lib.hid p7;have R1:=Lib.hid (R1.out.later (Stay.of_below hb11));have R2:=Lib.hid (R2.out.later (Stay.of_below hb11));have R3:=Lib.hid (R3.out.later (Stay.of_below hb11));have PS1:=Lib.hid (PS1.out.later (Stay.of_below hb11));have PS2:=Lib.hid (PS2.out.later (Stay.of_below hb11));have HLOW:=Lib.hid (HLOW.out.trans (hb11.mono HLOW.out.size));have hbv:b<w11.heap.size:=by have:=hb11.size;omega
 clear p7 hb11;go_wp2_with fail;refine (timesN_any b _ _ _ _ 2 5 _ R3.out hbv (by decide) (by decide) (by decide) (by decide)).mono ?_
 rintro e w12 ⟨A8,B8,n8,k8,c8,d8,o8,l8,h8,rfl,p8,hb12⟩;have P8:=Lib.hid p8;have R1:=Lib.hid (R1.out.later (Stay.of_below hb12));have R2:=Lib.hid (R2.out.later (Stay.of_below hb12));have R3:=Lib.hid (R3.out.later (Stay.of_below hb12));have PS1:=Lib.hid (PS1.out.later (Stay.of_below hb12));have PS2:=Lib.hid (PS2.out.later (Stay.of_below hb12));have P7:=Lib.hid (P7.out.later (Stay.of_below hb12));have HLOW:=Lib.hid (HLOW.out.trans (hb12.mono HLOW.out.size));have hbv:b<w12.heap.size:=by have:=hb12.size;omega
 clear p8 hb12;go_wp2_with fail;refine (byteN_any b 107 (by decide) (by decide) _ hbv).mono ?_
 rintro e w13 ⟨A9,B9,n9,k9,c9,d9,o9,l9,h9,rfl,p9,hb13⟩;have P9:=Lib.hid p9;have R1:=Lib.hid (R1.out.later (Stay.of_below hb13));have R2:=Lib.hid (R2.out.later (Stay.of_below hb13));have R3:=Lib.hid (R3.out.later (Stay.of_below hb13));have PS1:=Lib.hid (PS1.out.later (Stay.of_below hb13));have PS2:=Lib.hid (PS2.out.later (Stay.of_below hb13));have P7:=Lib.hid (P7.out.later (Stay.of_below hb13));have P8:=Lib.hid (P8.out.later (Stay.of_below hb13));have HLOW:=Lib.hid (HLOW.out.trans (hb13.mono HLOW.out.size));have hbv:b<w13.heap.size:=by have:=hb13.size;omega
 clear p9 hb13;go_wp2_with fail;refine (byteN_any b 107 (by decide) (by decide) _ hbv).mono ?_
 rintro e w14 ⟨A10,B10,n10,k10,c10,d10,o10,l10,h10,rfl,p10,hb14⟩;have P10:=Lib.hid p10;have R1:=Lib.hid (R1.out.later (Stay.of_below hb14));have R2:=Lib.hid (R2.out.later (Stay.of_below hb14));have R3:=Lib.hid (R3.out.later (Stay.of_below hb14));have PS1:=Lib.hid (PS1.out.later (Stay.of_below hb14));have PS2:=Lib.hid (PS2.out.later (Stay.of_below hb14));have P7:=Lib.hid (P7.out.later (Stay.of_below hb14));have P8:=Lib.hid (P8.out.later (Stay.of_below hb14));have P9:=Lib.hid (P9.out.later (Stay.of_below hb14));have HLOW:=Lib.hid (HLOW.out.trans (hb14.mono HLOW.out.size));have hbv:b<w14.heap.size:=by have:=hb14.size;omega
 clear p10 hb14;go_wp2_with fail;refine (byteN_any b 101 (by decide) (by decide) _ hbv).mono ?_
 rintro e w15 ⟨A11,B11,n11,k11,c11,d11,o11,l11,h11,rfl,p11,hb15⟩;have P11:=Lib.hid p11;have R1:=Lib.hid (R1.out.later (Stay.of_below hb15));have R2:=Lib.hid (R2.out.later (Stay.of_below hb15));have R3:=Lib.hid (R3.out.later (Stay.of_below hb15));have PS1:=Lib.hid (PS1.out.later (Stay.of_below hb15));have PS2:=Lib.hid (PS2.out.later (Stay.of_below hb15));have P7:=Lib.hid (P7.out.later (Stay.of_below hb15));have P8:=Lib.hid (P8.out.later (Stay.of_below hb15));have P9:=Lib.hid (P9.out.later (Stay.of_below hb15));have P10:=Lib.hid (P10.out.later (Stay.of_below hb15));have HLOW:=Lib.hid (HLOW.out.trans (hb15.mono HLOW.out.size));have hbv:b<w15.heap.size:=by have:=hb15.size;omega
 clear p11 hb15;obtain ⟨w16,hw16⟩:∃V,w15.alloc (Obj.cells #[Value.int IntKind.i64 o10,Value.slice A10 n10 c10,Value.slice B10 k10 d10,Value.int IntKind.i64 l10,Value.int IntKind.i64 h10,Value.int IntKind.i64 o11,Value.slice A11 n11 c11,Value.slice B11 k11 d11,Value.int IntKind.i64 l11,Value.int IntKind.i64 h11] 41)=V:=⟨_,rfl⟩;have K3:=KN.new (w:=w15) (d:=2) (m:=6) (nds:=[byN 107,byN 101]) (us:=[[Value.int IntKind.i64 o10,Value.slice A10 n10 c10,Value.slice B10 k10 d10,Value.int IntKind.i64 l10,Value.int IntKind.i64 h10],[Value.int IntKind.i64 o11,Value.slice A11 n11 c11,Value.slice B11 k11 d11,Value.int IntKind.i64 l11,Value.int IntKind.i64 h11]]) (cs:=#[Value.int IntKind.i64 o10,Value.slice A10 n10 c10,Value.slice B10 k10 d10,Value.int IntKind.i64 l10,Value.int IntKind.i64 h10,Value.int IntKind.i64 o11,Value.slice A11 n11 c11,Value.slice B11 k11 d11,Value.int IntKind.i64 l11,Value.int IntKind.i64 h11]) (e:=41) (n:=2) (c:=2) hbv rfl ⟨(P10.out.mono (by decide) (by decide)),(P11.out.mono (by decide) (by decide)),trivial⟩ rfl (by decide)
 have hb16:Below w15.heap.size w15 w16:=by rw[<-hw16];exact (Below.refl _ _).alloc (Nat.le_refl _) _
 rw[hw16]at K3;have K3:=Lib.hid K3;have HW16:=Lib.hid hw16;have R1:=Lib.hid (R1.out.later (Stay.of_below hb16));have R2:=Lib.hid (R2.out.later (Stay.of_below hb16));have R3:=Lib.hid (R3.out.later (Stay.of_below hb16));have PS1:=Lib.hid (PS1.out.later (Stay.of_below hb16));have PS2:=Lib.hid (PS2.out.later (Stay.of_below hb16));have P7:=Lib.hid (P7.out.later (Stay.of_below hb16));have P8:=Lib.hid (P8.out.later (Stay.of_below hb16));have P9:=Lib.hid (P9.out.later (Stay.of_below hb16));have P10:=Lib.hid (P10.out.later (Stay.of_below hb16));have P11:=Lib.hid (P11.out.later (Stay.of_below hb16));have HLOW:=Lib.hid (HLOW.out.trans (hb16.mono HLOW.out.size));have hbv:b<w16.heap.size:=by have:=hb16.size;omega
 clear hw16 hb16;go_wp2_with fail;rw[HW16.out];clear HW16;clear P10;clear P11;refine (seqN_any b _ _ _ _ _ K3.out (by decide)).mono ?_
 rintro e w17 ⟨AS3,BS3,nS3,kS3,cS3,dS3,oS3,lS3,hS3,rfl,pS3,hb17⟩;have PS3:=Lib.hid pS3;have R1:=Lib.hid (R1.out.later (Stay.of_below hb17));have R2:=Lib.hid (R2.out.later (Stay.of_below hb17));have R3:=Lib.hid (R3.out.later (Stay.of_below hb17));have PS1:=Lib.hid (PS1.out.later (Stay.of_below hb17));have PS2:=Lib.hid (PS2.out.later (Stay.of_below hb17));have P7:=Lib.hid (P7.out.later (Stay.of_below hb17));have P8:=Lib.hid (P8.out.later (Stay.of_below hb17));have P9:=Lib.hid (P9.out.later (Stay.of_below hb17));have HLOW:=Lib.hid (HLOW.out.trans (hb17.mono HLOW.out.size));have hbv:b<w17.heap.size:=by have:=hb17.size;omega
 clear pS3 hb17;clear K3;go_wp2_with fail;refine (timesN_any b _ _ _ _ 2 2 _ R1.out hbv (by decide) (by decide) (by decide) (by decide)).mono ?_
 rintro e w18 ⟨A12,B12,n12,k12,c12,d12,o12,l12,h12,rfl,p12,hb18⟩;have P12:=Lib.hid p12;have R1:=Lib.hid (R1.out.later (Stay.of_below hb18));have R2:=Lib.hid (R2.out.later (Stay.of_below hb18));have R3:=Lib.hid (R3.out.later (Stay.of_below hb18));have PS1:=Lib.hid (PS1.out.later (Stay.of_below hb18));have PS2:=Lib.hid (PS2.out.later (Stay.of_below hb18));have P7:=Lib.hid (P7.out.later (Stay.of_below hb18));have P8:=Lib.hid (P8.out.later (Stay.of_below hb18));have P9:=Lib.hid (P9.out.later (Stay.of_below hb18));have PS3:=Lib.hid (PS3.out.later (Stay.of_below hb18));have HLOW:=Lib.hid (HLOW.out.trans (hb18.mono HLOW.out.size));have hbv:b<w18.heap.size:=by have:=hb18.size;omega
 clear p12 hb18;obtain ⟨w19,hw19⟩:∃V,w18.alloc (Obj.cells #[Value.int IntKind.i64 o9,Value.slice A9 n9 c9,Value.slice B9 k9 d9,Value.int IntKind.i64 l9,Value.int IntKind.i64 h9,Value.int IntKind.i64 oS3,Value.slice AS3 nS3 cS3,Value.slice BS3 kS3 dS3,Value.int IntKind.i64 lS3,Value.int IntKind.i64 hS3,Value.int IntKind.i64 o12,Value.slice A12 n12 c12,Value.slice B12 k12 d12,Value.int IntKind.i64 l12,Value.int IntKind.i64 h12] 41)=V:=⟨_,rfl⟩;have K4:=KN.new (w:=w18) (d:=3) (m:=18) (nds:=[byN 107,sqN [byN 107,byN 101],tiN [(48,57)] 2 2]) (us:=[[Value.int IntKind.i64 o9,Value.slice A9 n9 c9,Value.slice B9 k9 d9,Value.int IntKind.i64 l9,Value.int IntKind.i64 h9],[Value.int IntKind.i64 oS3,Value.slice AS3 nS3 cS3,Value.slice BS3 kS3 dS3,Value.int IntKind.i64 lS3,Value.int IntKind.i64 hS3],[Value.int IntKind.i64 o12,Value.slice A12 n12 c12,Value.slice B12 k12 d12,Value.int IntKind.i64 l12,Value.int IntKind.i64 h12]]) (cs:=#[Value.int IntKind.i64 o9,Value.slice A9 n9 c9,Value.slice B9 k9 d9,Value.int IntKind.i64 l9,Value.int IntKind.i64 h9,Value.int IntKind.i64 oS3,Value.slice AS3 nS3 cS3,Value.slice BS3 kS3 dS3,Value.int IntKind.i64 lS3,Value.int IntKind.i64 hS3,Value.int IntKind.i64 o12,Value.slice A12 n12 c12,Value.slice B12 k12 d12,Value.int IntKind.i64 l12,Value.int IntKind.i64 h12]) (e:=41) (n:=3) (c:=3) hbv rfl ⟨(P9.out.mono (by decide) (by decide)),(PS3.out.mono (by decide) (by decide)),(P12.out.mono (by decide) (by decide)),trivial⟩ rfl (by decide)
 have hb19:Below w18.heap.size w18 w19:=by rw[<-hw19];exact (Below.refl _ _).alloc (Nat.le_refl _) _
 rw[hw19]at K4;have K4:=Lib.hid K4;have HW19:=Lib.hid hw19;have R1:=Lib.hid (R1.out.later (Stay.of_below hb19));have R2:=Lib.hid (R2.out.later (Stay.of_below hb19));have R3:=Lib.hid (R3.out.later (Stay.of_below hb19));have PS1:=Lib.hid (PS1.out.later (Stay.of_below hb19));have PS2:=Lib.hid (PS2.out.later (Stay.of_below hb19));have P7:=Lib.hid (P7.out.later (Stay.of_below hb19));have P8:=Lib.hid (P8.out.later (Stay.of_below hb19));have P9:=Lib.hid (P9.out.later (Stay.of_below hb19));have PS3:=Lib.hid (PS3.out.later (Stay.of_below hb19));have P12:=Lib.hid (P12.out.later (Stay.of_below hb19));have HLOW:=Lib.hid (HLOW.out.trans (hb19.mono HLOW.out.size));have hbv:b<w19.heap.size:=by have:=hb19.size;omega
 clear hw19 hb19;go_wp2_with fail;rw[HW19.out];clear HW19;clear P9;clear PS3;clear P12;have PCH:=Lib.hid (show PN b w19 4 18 (shN 4) [Value.int IntKind.i64 3,Value.slice none 0 0,Value.slice (some ⟨w18.heap.size,0,none⟩) 3 3,Value.int IntKind.i64 0,Value.int IntKind.i64 0] from PN.cho K4.out (by decide))
 clear K4;refine (byteN_any b 97 (by decide) (by decide) _ hbv).mono ?_
 rintro e w20 ⟨A13,B13,n13,k13,c13,d13,o13,l13,h13,rfl,p13,hb20⟩;have P13:=Lib.hid p13;have R1:=Lib.hid (R1.out.later (Stay.of_below hb20));have R2:=Lib.hid (R2.out.later (Stay.of_below hb20));have R3:=Lib.hid (R3.out.later (Stay.of_below hb20));have PS1:=Lib.hid (PS1.out.later (Stay.of_below hb20));have PS2:=Lib.hid (PS2.out.later (Stay.of_below hb20));have P7:=Lib.hid (P7.out.later (Stay.of_below hb20));have P8:=Lib.hid (P8.out.later (Stay.of_below hb20));have PCH:=Lib.hid (PCH.out.later (Stay.of_below hb20));have HLOW:=Lib.hid (HLOW.out.trans (hb20.mono HLOW.out.size));have hbv:b<w20.heap.size:=by have:=hb20.size;omega
 clear p13 hb20;go_wp2_with fail;refine (timesN_any b _ _ _ _ 0 3 _ R2.out hbv (by decide) (by decide) (by decide) (by decide)).mono ?_
 rintro e w21 ⟨A14,B14,n14,k14,c14,d14,o14,l14,h14,rfl,p14,hb21⟩;have P14:=Lib.hid p14;have R1:=Lib.hid (R1.out.later (Stay.of_below hb21));have R2:=Lib.hid (R2.out.later (Stay.of_below hb21));have R3:=Lib.hid (R3.out.later (Stay.of_below hb21));have PS1:=Lib.hid (PS1.out.later (Stay.of_below hb21));have PS2:=Lib.hid (PS2.out.later (Stay.of_below hb21));have P7:=Lib.hid (P7.out.later (Stay.of_below hb21));have P8:=Lib.hid (P8.out.later (Stay.of_below hb21));have PCH:=Lib.hid (PCH.out.later (Stay.of_below hb21));have P13:=Lib.hid (P13.out.later (Stay.of_below hb21));have HLOW:=Lib.hid (HLOW.out.trans (hb21.mono HLOW.out.size));have hbv:b<w21.heap.size:=by have:=hb21.size;omega
 clear p14 hb21;go_wp2_with fail;refine (byteN_any b 98 (by decide) (by decide) _ hbv).mono ?_
 rintro e w22 ⟨A15,B15,n15,k15,c15,d15,o15,l15,h15,rfl,p15,hb22⟩;have P15:=Lib.hid p15;have R1:=Lib.hid (R1.out.later (Stay.of_below hb22));have R2:=Lib.hid (R2.out.later (Stay.of_below hb22));have R3:=Lib.hid (R3.out.later (Stay.of_below hb22));have PS1:=Lib.hid (PS1.out.later (Stay.of_below hb22));have PS2:=Lib.hid (PS2.out.later (Stay.of_below hb22));have P7:=Lib.hid (P7.out.later (Stay.of_below hb22));have P8:=Lib.hid (P8.out.later (Stay.of_below hb22));have PCH:=Lib.hid (PCH.out.later (Stay.of_below hb22));have P13:=Lib.hid (P13.out.later (Stay.of_below hb22));have P14:=Lib.hid (P14.out.later (Stay.of_below hb22));have HLOW:=Lib.hid (HLOW.out.trans (hb22.mono HLOW.out.size));have hbv:b<w22.heap.size:=by have:=hb22.size;omega
 clear p15 hb22;obtain ⟨w23,hw23⟩:∃V,w22.alloc (Obj.cells #[Value.int IntKind.i64 o13,Value.slice A13 n13 c13,Value.slice B13 k13 d13,Value.int IntKind.i64 l13,Value.int IntKind.i64 h13,Value.int IntKind.i64 o14,Value.slice A14 n14 c14,Value.slice B14 k14 d14,Value.int IntKind.i64 l14,Value.int IntKind.i64 h14,Value.int IntKind.i64 o15,Value.slice A15 n15 c15,Value.slice B15 k15 d15,Value.int IntKind.i64 l15,Value.int IntKind.i64 h15] 41)=V:=⟨_,rfl⟩;have K5:=KN.new (w:=w22) (d:=2) (m:=6) (nds:=[byN 97,tiN [(48,57),(97,102)] 0 3,byN 98]) (us:=[[Value.int IntKind.i64 o13,Value.slice A13 n13 c13,Value.slice B13 k13 d13,Value.int IntKind.i64 l13,Value.int IntKind.i64 h13],[Value.int IntKind.i64 o14,Value.slice A14 n14 c14,Value.slice B14 k14 d14,Value.int IntKind.i64 l14,Value.int IntKind.i64 h14],[Value.int IntKind.i64 o15,Value.slice A15 n15 c15,Value.slice B15 k15 d15,Value.int IntKind.i64 l15,Value.int IntKind.i64 h15]]) (cs:=#[Value.int IntKind.i64 o13,Value.slice A13 n13 c13,Value.slice B13 k13 d13,Value.int IntKind.i64 l13,Value.int IntKind.i64 h13,Value.int IntKind.i64 o14,Value.slice A14 n14 c14,Value.slice B14 k14 d14,Value.int IntKind.i64 l14,Value.int IntKind.i64 h14,Value.int IntKind.i64 o15,Value.slice A15 n15 c15,Value.slice B15 k15 d15,Value.int IntKind.i64 l15,Value.int IntKind.i64 h15]) (e:=41) (n:=3) (c:=3) hbv rfl ⟨(P13.out.mono (by decide) (by decide)),(P14.out.mono (by decide) (by decide)),(P15.out.mono (by decide) (by decide)),trivial⟩ rfl (by decide)
 have hb23:Below w22.heap.size w22 w23:=by rw[<-hw23];exact (Below.refl _ _).alloc (Nat.le_refl _) _
 rw[hw23]at K5;have K5:=Lib.hid K5;have HW23:=Lib.hid hw23;have R1:=Lib.hid (R1.out.later (Stay.of_below hb23));have R2:=Lib.hid (R2.out.later (Stay.of_below hb23));have R3:=Lib.hid (R3.out.later (Stay.of_below hb23));have PS1:=Lib.hid (PS1.out.later (Stay.of_below hb23));have PS2:=Lib.hid (PS2.out.later (Stay.of_below hb23));have P7:=Lib.hid (P7.out.later (Stay.of_below hb23));have P8:=Lib.hid (P8.out.later (Stay.of_below hb23));have PCH:=Lib.hid (PCH.out.later (Stay.of_below hb23));have P13:=Lib.hid (P13.out.later (Stay.of_below hb23));have P14:=Lib.hid (P14.out.later (Stay.of_below hb23));have P15:=Lib.hid (P15.out.later (Stay.of_below hb23));have HLOW:=Lib.hid (HLOW.out.trans (hb23.mono HLOW.out.size));have hbv:b<w23.heap.size:=by have:=hb23.size;omega
 clear hw23 hb23;go_wp2_with fail;rw[HW23.out];clear HW23;clear P13;clear P14;clear P15;refine (seqN_any b _ _ _ _ _ K5.out (by decide)).mono ?_
 rintro e w24 ⟨AS4,BS4,nS4,kS4,cS4,dS4,oS4,lS4,hS4,rfl,pS4,hb24⟩;have PS4:=Lib.hid pS4;have R1:=Lib.hid (R1.out.later (Stay.of_below hb24));have R2:=Lib.hid (R2.out.later (Stay.of_below hb24));have R3:=Lib.hid (R3.out.later (Stay.of_below hb24));have PS1:=Lib.hid (PS1.out.later (Stay.of_below hb24));have PS2:=Lib.hid (PS2.out.later (Stay.of_below hb24));have P7:=Lib.hid (P7.out.later (Stay.of_below hb24));have P8:=Lib.hid (P8.out.later (Stay.of_below hb24));have PCH:=Lib.hid (PCH.out.later (Stay.of_below hb24));have HLOW:=Lib.hid (HLOW.out.trans (hb24.mono HLOW.out.size));have hbv:b<w24.heap.size:=by have:=hb24.size;omega
 clear pS4 hb24;clear K5;obtain ⟨w25,hw25⟩:∃V,w24.alloc (Obj.cells #[Value.int IntKind.i64 oS1,Value.slice AS1 nS1 cS1,Value.slice BS1 kS1 dS1,Value.int IntKind.i64 lS1,Value.int IntKind.i64 hS1,Value.int IntKind.i64 oS2,Value.slice AS2 nS2 cS2,Value.slice BS2 kS2 dS2,Value.int IntKind.i64 lS2,Value.int IntKind.i64 hS2,Value.int IntKind.i64 o7,Value.slice A7 n7 c7,Value.slice B7 k7 d7,Value.int IntKind.i64 l7,Value.int IntKind.i64 h7,Value.int IntKind.i64 o8,Value.slice A8 n8 c8,Value.slice B8 k8 d8,Value.int IntKind.i64 l8,Value.int IntKind.i64 h8,Value.int IntKind.i64 3,Value.slice none 0 0,Value.slice (some ⟨w18.heap.size,0,none⟩) 3 3,Value.int IntKind.i64 0,Value.int IntKind.i64 0,Value.int IntKind.i64 oS4,Value.slice AS4 nS4 cS4,Value.slice BS4 kS4 dS4,Value.int IntKind.i64 lS4,Value.int IntKind.i64 hS4] 41)=V:=⟨_,rfl⟩;have K6:=KN.new (w:=w24) (d:=4) (m:=18) (nds:=[shN 0,shN 1,tiN [(48,57)] 4 4,tiN [(65,90),(97,122)] 2 5,shN 4,shN 5]) (us:=[[Value.int IntKind.i64 oS1,Value.slice AS1 nS1 cS1,Value.slice BS1 kS1 dS1,Value.int IntKind.i64 lS1,Value.int IntKind.i64 hS1],[Value.int IntKind.i64 oS2,Value.slice AS2 nS2 cS2,Value.slice BS2 kS2 dS2,Value.int IntKind.i64 lS2,Value.int IntKind.i64 hS2],[Value.int IntKind.i64 o7,Value.slice A7 n7 c7,Value.slice B7 k7 d7,Value.int IntKind.i64 l7,Value.int IntKind.i64 h7],[Value.int IntKind.i64 o8,Value.slice A8 n8 c8,Value.slice B8 k8 d8,Value.int IntKind.i64 l8,Value.int IntKind.i64 h8],[Value.int IntKind.i64 3,Value.slice none 0 0,Value.slice (some ⟨w18.heap.size,0,none⟩) 3 3,Value.int IntKind.i64 0,Value.int IntKind.i64 0],[Value.int IntKind.i64 oS4,Value.slice AS4 nS4 cS4,Value.slice BS4 kS4 dS4,Value.int IntKind.i64 lS4,Value.int IntKind.i64 hS4]]) (cs:=#[Value.int IntKind.i64 oS1,Value.slice AS1 nS1 cS1,Value.slice BS1 kS1 dS1,Value.int IntKind.i64 lS1,Value.int IntKind.i64 hS1,Value.int IntKind.i64 oS2,Value.slice AS2 nS2 cS2,Value.slice BS2 kS2 dS2,Value.int IntKind.i64 lS2,Value.int IntKind.i64 hS2,Value.int IntKind.i64 o7,Value.slice A7 n7 c7,Value.slice B7 k7 d7,Value.int IntKind.i64 l7,Value.int IntKind.i64 h7,Value.int IntKind.i64 o8,Value.slice A8 n8 c8,Value.slice B8 k8 d8,Value.int IntKind.i64 l8,Value.int IntKind.i64 h8,Value.int IntKind.i64 3,Value.slice none 0 0,Value.slice (some ⟨w18.heap.size,0,none⟩) 3 3,Value.int IntKind.i64 0,Value.int IntKind.i64 0,Value.int IntKind.i64 oS4,Value.slice AS4 nS4 cS4,Value.slice BS4 kS4 dS4,Value.int IntKind.i64 lS4,Value.int IntKind.i64 hS4]) (e:=41) (n:=6) (c:=6) hbv rfl ⟨(PS1.out.mono (by decide) (by decide)),(PS2.out.mono (by decide) (by decide)),(P7.out.mono (by decide) (by decide)),(P8.out.mono (by decide) (by decide)),(PCH.out.mono (by decide) (by decide)),(PS4.out.mono (by decide) (by decide)),trivial⟩ rfl (by decide)
 have hb25:Below w24.heap.size w24 w25:=by rw[<-hw25];exact (Below.refl _ _).alloc (Nat.le_refl _) _
 rw[hw25]at K6;have K6:=Lib.hid K6;have HW25:=Lib.hid hw25;have R1:=Lib.hid (R1.out.later (Stay.of_below hb25));have R2:=Lib.hid (R2.out.later (Stay.of_below hb25));have R3:=Lib.hid (R3.out.later (Stay.of_below hb25));have PS1:=Lib.hid (PS1.out.later (Stay.of_below hb25));have PS2:=Lib.hid (PS2.out.later (Stay.of_below hb25));have P7:=Lib.hid (P7.out.later (Stay.of_below hb25));have P8:=Lib.hid (P8.out.later (Stay.of_below hb25));have PCH:=Lib.hid (PCH.out.later (Stay.of_below hb25));have PS4:=Lib.hid (PS4.out.later (Stay.of_below hb25));have HLOW:=Lib.hid (HLOW.out.trans (hb25.mono HLOW.out.size));have hbv:b<w25.heap.size:=by have:=hb25.size;omega
 clear hw25 hb25;go_wp2_with fail;rw[HW25.out];clear HW25;go_ret;exact ⟨_,rfl,K6.out,HLOW.out⟩
end Go.Proofs.YtdmoogjddmdmbaaGreatDoor
