/- Walks. -/
import Derived.Test.YtdmoogjddmdmbaaGreatDoorV02
import Derived.Test.YtdmoogjddmdmbaaGreatDoorV04
import Derived.Test.YtdmoogjddmdmbaaGreatDoorV05
set_option maxRecDepth 100000
set_option maxHeartbeats 16000000
set_option linter.unusedVariables false
set_option linter.unusedSimpArgs false
namespace Go.Proofs.YtdmoogjddmdmbaaGreatDoor
open Go.RowKit
section
set_option linter.unusedVariables false
set_option linter.unusedSimpArgs false
open Go.RowKit
def oB (w:World) (v:Value) (rs:List (Nat×Nat)):Prop:=∃A c,v = .slice A rs.length c/\(rs.length<=c/\c<=9223372036854775807)/\(rs=[]\/∃g f,A=some ⟨g,f,none⟩/\g<w.heap.size/\
 ∀i (h:i<rs.length),(w.cell? ⟨g,f+i*2,none⟩=some (.int .u8 (rs[i].1:Int))/\w.cell? ⟨g,f+i*2+1,none⟩=some (.int .u8 (rs[i].2:Int)))/\rs[i].1<256/\rs[i].2<256)
mutual
def bX (w:World):Nd->List Value->Prop
 | .mk op rs kids mn mx=>λvs=>∃v1 v2,vs=[.int .i64 op,v1,v2, .int .i64 mn, .int .i64 mx]/\oB w v1 rs/\∃A c,v2 = .slice A kids.length c/\(kids.length<=c/\c<=9223372036854775807)/\(kids=[]\/∃g f,A=some ⟨g,f,none⟩/\g<w.heap.size/\fH w kids g f)
def fH (w:World):List Nd->Nat->Nat->Prop
 | []=>λ_ _=>True
 | k::r=>λg f=>(∃vs:List Value,(∀j,j<5->w.cell? ⟨g,f+j,none⟩=vs[j]?)/\bX w k vs)/\fH w r g (f+5)
end
theorem oB.later {w w':World} {v:Value} {rs:List (Nat×Nat)} (h:oB w v rs) (hb:Below w.heap.size w w'):oB w' v rs:=by
 obtain ⟨A,c,e,hc,h⟩:=h;refine ⟨A,c,e,hc,h.imp id ?_⟩;rintro ⟨g,f,h1,h2,h3⟩;refine ⟨g,f,h1,Nat.lt_of_lt_of_le h2 hb.size,λi hi=>?_⟩;obtain ⟨⟨q1,q2⟩,q3⟩:=h3 i hi;exact ⟨⟨(hb.cell (p:=⟨g,f+i*2,none⟩) h2).trans q1,(hb.cell (p:=⟨g,f+i*2+1,none⟩) h2).trans q2⟩,q3⟩
theorem aX:∀{l:List Nd} {k:Nd},k∈l->aC k<=bF l
 | a::r,k,h=>by
  rw[bF];rcases List.mem_cons.1 h with rfl | h
  .omega
  .have:=aX h;omega
theorem fH.at {w:World}:∀{l:List Nd} {g f:Nat},fH w l g f->∀i (h:i<l.length),∃vs:List Value,(∀j,j<5->w.cell? ⟨g,f+i*5+j,none⟩=vs[j]?)/\bX w l[i] vs
 | [],_,_,_,i,h=>by cases h
 | k::r,g,f,hk,i,h=>by
  cases i with
  | zero=>
   obtain ⟨vs,h1,h2⟩:=hk.1;exact ⟨vs,λj hj=>by rw[Nat.zero_mul,Nat.add_zero];exact h1 j hj,h2⟩
  | succ i=>
   obtain ⟨vs,h1,h2⟩:=fH.at hk.2 i (by simpa using h)
   refine ⟨vs,λj hj=>?_,h2⟩;have:=h1 j hj;rw[show f+5+i*5+j=f+(i+1)*5+j by omega]at this
   exact this
theorem FF {w w':World} (hb:Below w.heap.size w w'):∀(m:Nat),(∀(n:Nd) (vs:List Value),aC n<=m->bX w n vs->bX w' n vs)/\(∀(l:List Nd) (g f:Nat),bF l<=m->g<w.heap.size->fH w l g f->fH w' l g f):=by
 intro m
 induction m with
 | zero=>
  refine ⟨λn vs h=>?_,λl g f h hg hk=>?_⟩
  .cases n;rw[aC]at h;omega
  .cases l with
   | nil=>trivial
   | cons k r=>cases k;rw[bF,aC]at h;omega
 | succ m ih=>
  have h1:∀(n:Nd) (vs:List Value),aC n<=m+1->bX w n vs->bX w' n vs:=by
   rintro ⟨op,rs,kids,mn,mx⟩ vs h ⟨v1,v2,e,hr,A,c,e2,hc,hk⟩;rw[aC]at h;refine ⟨v1,v2,e,hr.later hb,A,c,e2,hc,hk.imp id ?_⟩;rintro ⟨g,f,h1,h2,h3⟩;exact ⟨g,f,h1,Nat.lt_of_lt_of_le h2 hb.size,ih.2 kids g f (by omega) h2 h3⟩
  refine ⟨h1,λl=>?_⟩
  induction l with
  | nil=>intro _ _ _ _ _;trivial
  | cons k r ihl=>
   rintro g f h hg ⟨⟨vs,h2,h3⟩,h4⟩;rw[bF]at h;exact ⟨⟨vs,λj hj=>(hb.cell (p:=⟨g,f+j,none⟩) hg).trans (h2 j hj),h1 k vs (by omega) h3⟩,ihl g (f+5) (by omega) hg h4⟩
theorem bX.later {w w':World} {n:Nd} {vs:List Value} (h:bX w n vs) (hb:Below w.heap.size w w'):bX w' n vs:=(FF hb _).1 n vs (Nat.le_refl _) h
theorem bX.form {w:World} {n:Nd} {vs:List Value} (h:bX w n vs):∃A1 c1 A2 c2,vs=[.int .i64 n.op, .slice A1 n.rs.length c1, .slice A2 n.kids.length c2, .int .i64 n.mn, .int .i64 n.mx]/\oB w (.slice A1 n.rs.length c1) n.rs/\(n.kids.length<=c2/\c2<=9223372036854775807)/\(n.kids=[]\/∃g f,A2=some ⟨g,f,none⟩/\g<w.heap.size/\fH w n.kids g f):=by
 obtain ⟨op,rs,kids,mn,mx⟩:=n;obtain ⟨v1,v2,e,hr,A,c,rfl,hc,hk⟩:=h;obtain ⟨A1,c1,rfl,h1,h2⟩:=hr;exact ⟨A1,c1,A,c,e,⟨A1,c1,rfl,h1,h2⟩,hc,hk⟩
end
section
set_option linter.unusedVariables false
set_option linter.unusedSimpArgs false
open Go.RowKit
def vw (c:Nat):Nd:=.mk 1 [(c,c)] [] 0 0
def Hx (rs:List (Nat×Nat)) (mn mx:Int):Nd:=.mk 4 [] [.mk 1 rs [] 0 0] mn mx
def Z7 (l:List Nd):Nd:=.mk 2 [] l 0 0
def iG:Nat->Nd
 | 0=>Z7 [vw 116,vw 107,Hx [(48,57)] 2 4]
 | 1=>Z7 [vw 107,vw 45,Hx [(48,57),(97,102)] 3 6]
 | 2=>Hx [(48,57)] 4 4
 | 3=>Hx [(65,90),(97,122)] 2 5
 | 4=>.mk 3 [] [vw 107,Z7 [vw 107,vw 101],Hx [(48,57)] 2 2] 0 0
 | _=>Z7 [vw 97,Hx [(48,57),(97,102)] 0 3,vw 98]
def NdS (b:Nat) (w:World) (nd:Nd) (vs:List Value):Prop:=∀W,af b w W->bX W nd vs
theorem NdS.later {b:Nat} {w w':World} {nd:Nd} {vs:List Value} (h:NdS b w nd vs) (hs:af b w w'):NdS b w' nd vs:=λW hW=>h W (hs.trans hW)
def RgS (b:Nat) (w:World) (v:Value) (rs:List (Nat×Nat)):Prop:=∀W,af b w W->oB W v rs
def PN (b:Nat) (w:World) (d m:Nat) (nd:Nd) (vs:List Value):Prop:=j6 b w d m vs/\NdS b w nd vs
theorem PN.later {b:Nat} {w w':World} {d m:Nat} {nd:Nd} {vs:List Value} (h:PN b w d m nd vs) (hs:af b w w'):PN b w' d m nd vs:=⟨h.1.later hs,h.2.later hs⟩
theorem PN.mono {b:Nat} {w:World} {d d' m m':Nat} {nd:Nd} {vs:List Value} (hd:d<=d') (hm:m<=m') (h:PN b w d m nd vs):PN b w d' m' nd vs:=⟨j6.mono hd hm h.1,h.2⟩
def RN (b:Nat) (w:World) (v:Value) (rs:List (Nat×Nat)):Prop:=PW b w v/\RgS b w v rs
theorem RN.later {b:Nat} {w w':World} {v:Value} {rs:List (Nat×Nat)} (h:RN b w v rs) (hs:af b w w'):RN b w' v rs:=⟨h.1.later hs,λW hW=>h.2 W (hs.trans hW)⟩
theorem kV {b:Nat} {w W:World} {g j:Nat} {cs:Array Value} {e:TypeId} {m:Nat×Nat} {u:Value} (h:w.heap[g]?=some (.cells cs e m)) (hs:af b w W) (hb:b<g) (hc:cs[j]?=some u):W.cell? ⟨g,j,none⟩=some u:=by
 have hg:=(Array.getElem?_eq_some_iff.1 h).1;rw[hs.cell hb hg,cell_of_row _ _ _ _ _ _ h];exact hc
theorem RN.ad1 {b:Nat} {w':World} {g n c lo hi:Nat} {e:TypeId} (hg:w'.heap[g]?=some (.cells #[.int .u8 (lo:Int), .int .u8 (hi:Int)] e (0,0))) (hb:b<g) (hr:n=1/\c=1/\lo<=hi/\hi<256):RN b w' (.slice (some ⟨g,0,none⟩) n c) [(lo,hi)]:=by
 obtain ⟨rfl,rfl,h1,h2⟩:=hr;refine ⟨PW.new (w:=w') (rs:=[((lo:Int),(hi:Int))]) hg hb rfl (by decide) (by decide) (λp hp=>by
  simp only[List.mem_cons,List.not_mem_nil,or_false]at hp;subst hp;exact ⟨by simp,by simp only;omega,by simp only;omega⟩),λW hW=>⟨_,1,rfl,⟨by simp,by decide⟩, .inr ⟨g,0,rfl,Nat.lt_of_lt_of_le (Array.getElem?_eq_some_iff.1 hg).1 hW.1,λi hi'=>?_⟩⟩⟩
 have:i=0:=by simp at hi';omega
 subst this;exact ⟨⟨kV hg hW hb rfl,kV hg hW hb rfl⟩,by show lo<256;omega,h2⟩
theorem RN.ad2 {b:Nat} {w':World} {g n c lo hi lo2 ez:Nat} {e:TypeId} (hg:w'.heap[g]?=some (.cells #[.int .u8 (lo:Int), .int .u8 (hi:Int), .int .u8 (lo2:Int), .int .u8 (ez:Int)] e (0,0))) (hb:b<g) (hr:n=2/\c=2/\(lo<=hi/\hi<256)/\lo2<=ez/\ez<256):RN b w' (.slice (some ⟨g,0,none⟩) n c) [(lo,hi),(lo2,ez)]:=by
 obtain ⟨rfl,rfl,⟨h1,h2⟩,h3,h4⟩:=hr;refine ⟨PW.new (w:=w') (rs:=[((lo:Int),(hi:Int)),((lo2:Int),(ez:Int))]) hg hb rfl (by decide) (by decide) (λp hp=>by
  simp only[List.mem_cons,List.not_mem_nil,or_false]at hp;rcases hp with rfl | rfl
  .exact ⟨by simp,by simp only;omega,by simp only;omega⟩
  .exact ⟨by simp,by simp only;omega,by simp only;omega⟩),λW hW=>⟨_,2,rfl,⟨by simp,by decide⟩, .inr ⟨g,0,rfl,Nat.lt_of_lt_of_le (Array.getElem?_eq_some_iff.1 hg).1 hW.1,λi hi'=>?_⟩⟩⟩
 have:i=0\/i=1:=by simp at hi';omega
 rcases this with rfl | rfl
 .exact ⟨⟨kV hg hW hb rfl,kV hg hW hb rfl⟩,by show lo<256;omega,h2⟩
 .exact ⟨⟨kV hg hW hb rfl,kV hg hW hb rfl⟩,by show lo2<256;omega,h4⟩
def lJ (b:Nat) (w:World) (d m:Nat):List Nd->List (List Value)->Prop
 | [],[]=>True
 | nd::r,u::q=>PN b w d m nd u/\lJ b w d m r q
 | _,_=>False
def KN (b:Nat) (w:World) (d m:Nat) (nds:List Nd) (n:Nat) (v:Value):Prop:=n=nds.length/\zJ b w (j6 b w d m) n v/\∃g c,v = .slice (some ⟨g,0,none⟩) n c/\(n<=c/\c<=1000)/\b<g/\g<w.heap.size/\∀W,af b w W->fH W nds g 0
theorem KN.later {b:Nat} {w w':World} {d m n:Nat} {nds:List Nd} {v:Value} (h:KN b w d m nds n v) (hs:af b w w'):KN b w' d m nds n v:=by
 obtain ⟨h0,h1,g,c,rfl,h2,h3,h4,h5⟩:=h;exact ⟨h0,h1.later hs (λus=>j6.later hs),g,c,rfl,h2,h3,Nat.lt_of_lt_of_le h4 hs.1,λW hW=>h5 W (hs.trans hW)⟩
theorem lJ.kds {b:Nat} {w W:World} {d m g:Nat}:∀{nds:List Nd} {us:List (List Value)} {f:Nat},lJ b w d m nds us->af b w W->(∀u∈us,u.length=5)->(∀j (h:j<us.length) i,i<5->W.cell? ⟨g,f+j*5+i,none⟩=us[j][i]?)->fH W nds g f
 | [],[],_,_,_,_,_=>trivial
 | nd::r,u::q,f,h,hs,h5,hc=>by
  refine ⟨⟨u,λj hj=>?_,h.1.2 W hs⟩,lJ.kds h.2 hs (λx hx=>h5 x (List.mem_cons_of_mem _ hx)) λj hj i hi=>?_⟩
  .have:=hc 0 (by simp) j hj
   rw[Nat.zero_mul,Nat.add_zero]at this;exact this
  .have:=hc (j+1) (by simpa using hj) i hi
   rw[show f+(j+1)*5+i=f+5+j*5+i by omega]at this
   exact this
 | [],_::_,_,h,_,_,_=>h.elim
 | _::_,[],_,h,_,_,_=>h.elim
theorem lJ.ad4 {b:Nat} {w:World} {d m:Nat}:∀{nds:List Nd} {us:List (List Value)},lJ b w d m nds us->nds.length=us.length/\∀u∈us,j6 b w d m u
 | [],[],_=>⟨rfl,λu hu=>by cases hu⟩
 | nd::r,u::q,h=>by
  obtain ⟨h1,h2⟩:=lJ.ad4 h.2;exact ⟨by simp[h1],λx hx=>(List.mem_cons.1 hx).elim (λe=>e▸h.1.1) (h2 x)⟩
 | [],_::_,h=>h.elim
 | _::_,[],h=>h.elim
theorem Ul:∀(us:List (List Value)),(∀u∈us,u.length=5)->∀j (hj:j<us.length) i,i<5->us.flatten[j*5+i]?=(us[j])[i]?
 | [],_,j,hj,_,_=>by cases hj
 | a::r,h,j,hj,i,hi=>by
  have ha:=h a (by simp)
  match j,hj with
  | 0,_=>rw[List.flatten_cons,List.getElem?_append_left (by omega)];simp
  | j+1,hj=>
   rw[List.flatten_cons,List.getElem?_append_right (by omega),show (j+1)*5+i-a.length=j*5+i by omega,Ul r (λu hu=>h u (by simp[hu])) j (by simpa using hj) i hi]
   rfl
theorem PN.Sr {b:Nat} {w:World} {d m:Nat} {nd:Nd} {vs:List Value} (h:PN b w d m nd vs):vs.length=5:=by
 obtain ⟨A1,c1,A2,c2,rfl,-⟩:=(h.2 w (af.refl b w)).form;rfl
theorem lJ.Sr {b:Nat} {w:World} {d m:Nat}:∀{nds:List Nd} {us:List (List Value)},lJ b w d m nds us->∀u∈us,u.length=5
 | [],[],_,u,hu=>by cases hu
 | nd::r,x::q,h,u,hu=>by
  rcases List.mem_cons.1 hu with rfl | hu
  .exact h.1.Sr
  .exact lJ.Sr h.2 u hu
 | [],_::_,h,_,_=>h.elim
 | _::_,[],h,_,_=>h.elim
theorem KN.new {b:Nat} {w:World} {d m:Nat} {nds:List Nd} {us:List (List Value)} {cs:Array Value} {e:TypeId} {n c:Nat} (hb:b<w.heap.size) (hcs:cs=us.flatten.toArray) (hp:lJ b w d m nds us) (hn:n=us.length) (mV:n<=c/\c<=1000) :
  KN b (w.alloc (.cells cs e)) d m nds n (.slice (some ⟨w.heap.size,0,none⟩) n c):=by
 have h5:=hp.Sr;obtain ⟨hl,RG⟩:=hp.ad4;have hs:af b w (w.alloc (.cells cs e)):=af.aa ((Below.refl _ _).alloc (Nat.le_refl _) _);refine ⟨by omega,zJ.later (zJ.new (G:=j6 b w d m) hb hcs h5 RG hn (by omega)) (af.refl b _) (λus=>j6.later hs),_,c,rfl,mV,hb,by simp,λW hW=>?_⟩
 refine lJ.kds (us:=us) hp (hs.trans hW) h5 λj hj i hi=>?_;rw[Nat.zero_add,hW.cell hb (by simp),World.cell?_alloc_mark,<-Ul us h5 j hj i hi,hcs]
 simp
theorem PN.jl {b:Nat} {w:World} {d m n:Nat} {nds:List Nd} {A:Option Addr} {c:Nat} (h:KN b w d m nds n (.slice A n c)) (h1:1<=n):PN b w (d+1) m (.mk 3 [] nds 0 0) [.int .i64 3, .slice none 0 0, .slice A n c, .int .i64 0, .int .i64 0]:=by
 obtain ⟨h0,hk,g,c',e,h2,h3,h4,h5⟩:=h;injection e with e1 e2 e3;subst e1 e3;refine ⟨⟨_,_,_,_,⟨Sl.of _ _ _,Sl.of _ _ _⟩, .inr (.inr (.inl ⟨rfl,n,hk,h1⟩))⟩,λW hW=>⟨_,_,rfl,⟨none,0,rfl,⟨by simp,by simp⟩, .inl rfl⟩,_,c,by rw[h0],⟨by omega,by omega⟩, .inr ⟨g,0,rfl,Nat.lt_of_lt_of_le h4 hW.1,h5 W hW⟩⟩⟩
def z8 (b d m:Nat) (nd:Nd) (w:World) (e:Ending) (w':World):Prop:=∃A B n n' c c' o mn mx,e = .returned (.agg #[.int .i64 o, .slice A n c, .slice B n' c', .int .i64 mn, .int .i64 mx])/\PN b w' d m nd [.int .i64 o, .slice A n c, .slice B n' c', .int .i64 mn, .int .i64 mx]/\Below w.heap.size w w'
theorem dX (b c:Nat) (h0:c<256) (h1:0<=c) (w:World) (hb:b<w.heap.size):Calls Tryz.prog 37 #[.int .u8 (c:Int)] w (z8 b 2 6 (vw c) w):=by
 have e1:w.heap.size+1=(w.alloc (Obj.cells #[Value.int IntKind.i64 1,Value.slice (some ⟨w.heap.size+1,0,none⟩) 1 1,Value.slice none 0 0,Value.int IntKind.i64 0,Value.int IntKind.i64 0] 41)).heap.size:=by simp
 have et:((w.alloc (Obj.cells #[Value.int IntKind.i64 1,Value.slice (some ⟨w.heap.size+1,0,none⟩) 1 1,Value.slice none 0 0,Value.int IntKind.i64 0,Value.int IntKind.i64 0] 41)).alloc (Obj.cells #[Value.int IntKind.u8 (c:Int),Value.int IntKind.u8 (c:Int)] 84)).heap[w.heap.size+1]?=some (.cells #[Value.int IntKind.u8 (c:Int),Value.int IntKind.u8 (c:Int)] 84 (0,0)):=by
  have h:=heap_alloc_new (w.alloc (Obj.cells #[Value.int IntKind.i64 1,Value.slice (some ⟨w.heap.size+1,0,none⟩) 1 1,Value.slice none 0 0,Value.int IntKind.i64 0,Value.int IntKind.i64 0] 41)) (.cells #[Value.int IntKind.u8 (c:Int),Value.int IntKind.u8 (c:Int)] 84);rw[<-e1]at h;exact h
 have hR:RN b ((w.alloc (Obj.cells #[Value.int IntKind.i64 1,Value.slice (some ⟨w.heap.size+1,0,none⟩) 1 1,Value.slice none 0 0,Value.int IntKind.i64 0,Value.int IntKind.i64 0] 41)).alloc (Obj.cells #[Value.int IntKind.u8 (c:Int),Value.int IntKind.u8 (c:Int)] 84)) (.slice (some ⟨w.heap.size+1,0,none⟩) 1 1) [(c,c)]:=
  RN.ad1 (e:=84) et (by omega) ⟨rfl,rfl,Nat.le_refl _,h0⟩
 have HR:=Lib.hid hR;clear hR et e1
 go_enter Tryz.func37,Tryz.ntmps37
 go_wp2_with fail;refine bodyPost_ret (v:=.agg #[.int .i64 1, .slice (some ⟨w.heap.size+1,0,none⟩) 1 1, .slice none 0 0, .int .i64 0, .int .i64 0]) (by simp[results,Tryz.results37,go_sem];try rfl) rfl ?_
 refine ⟨_,_,_,_,_,_,_,_,_,rfl,⟨?_,λW hW=>?_⟩,((Below.refl _ w).alloc (Nat.le_refl _) _).alloc (by simp) _⟩
 .exact ⟨_,_,_,_,⟨Sl.of _ _ _,Sl.of _ _ _⟩, .inl ⟨rfl,HR.out.1,by omega⟩⟩
 .exact ⟨_,_,rfl,HR.out.2 W hW,none,0,rfl,⟨by simp,by simp⟩, .inl rfl⟩
theorem fZ (b:Nat) (A:Option Addr) (n c:Nat) (rs:List (Nat×Nat)) (mn mx:Int) (w:World) (hr:RN b w (.slice A n c) rs) (hb:b<w.heap.size) (h0:0<=mn) (h1:mn<=mx) (h1m:1<=mx) (h6:mx<=6):Calls Tryz.prog 38 #[.slice A n c, .int .i64 mn, .int .i64 mx] w (z8 b 2 6 (Hx rs mn mx) w):=by
 have HR:=Lib.hid hr;clear hr;have hp:PN b w 1 1 (.mk 1 rs [] 0 0) [.int .i64 1, .slice A n c, .slice none 0 0, .int .i64 0, .int .i64 0]:=⟨⟨_,_,_,_,⟨Sl.of _ _ _,Sl.of _ _ _⟩, .inl ⟨rfl,HR.out.1,by omega⟩⟩,λW hW=>⟨_,_,rfl,HR.out.2 W hW,none,0,rfl,⟨by simp,by simp⟩, .inl rfl⟩⟩
 have aI:Below w.heap.size w (w.alloc (Obj.cells #[Value.int IntKind.i64 4,Value.slice none 0 0,Value.slice (some ⟨w.heap.size+1,0,none⟩) 1 1,Value.int IntKind.i64 mn,Value.int IntKind.i64 mx] 41)):=(Below.refl _ w).alloc (Nat.le_refl _) _;have hz:(w.alloc (Obj.cells #[Value.int IntKind.i64 4,Value.slice none 0 0,Value.slice (some ⟨w.heap.size+1,0,none⟩) 1 1,Value.int IntKind.i64 mn,Value.int IntKind.i64 mx] 41)).heap.size=w.heap.size+1:=by simp
 have hK:=KN.new (w:=w.alloc (Obj.cells #[Value.int IntKind.i64 4,Value.slice none 0 0,Value.slice (some ⟨w.heap.size+1,0,none⟩) 1 1,Value.int IntKind.i64 mn,Value.int IntKind.i64 mx] 41)) (d:=1) (m:=1) (nds:=[.mk 1 rs [] 0 0]) (us:=[[.int .i64 1, .slice A n c, .slice none 0 0, .int .i64 0, .int .i64 0]]) (cs:=#[.int .i64 1, .slice A n c, .slice none 0 0, .int .i64 0, .int .i64 0]) (e:=41) (n:=1) (c:=1) (by rw[hz];omega) rfl ⟨hp.later (af.aa aI),trivial⟩ rfl (by decide)
 rw[hz]at hK;have HK:=Lib.hid hK;clear hK hz hp aI
 go_enter Tryz.func38,Tryz.ntmps38
 go_wp2_with fail;refine bodyPost_ret (v:=.agg #[.int .i64 4, .slice none 0 0, .slice (some ⟨w.heap.size+1,0,none⟩) 1 1, .int .i64 mn, .int .i64 mx]) (by simp[results,Tryz.results38,go_sem];try rfl) rfl ?_
 have aI:Below w.heap.size w ((w.alloc (Obj.cells #[Value.int IntKind.i64 4,Value.slice none 0 0,Value.slice (some ⟨w.heap.size+1,0,none⟩) 1 1,Value.int IntKind.i64 mn,Value.int IntKind.i64 mx] 41)).alloc (Obj.cells #[Value.int IntKind.i64 1,Value.slice A n c,Value.slice none 0 0,Value.int IntKind.i64 0,Value.int IntKind.i64 0] 41)):=((Below.refl _ w).alloc (Nat.le_refl _) _).alloc (by simp) _
 obtain ⟨h00,hk,g,c',e,h2,h3,h4,h5⟩:=HK.out;injection e with e1 e2 e3;injection e1 with e1;injection e1 with e1 _ _;subst e1;refine ⟨_,_,_,_,_,_,_,_,_,rfl,⟨?_,λW hW=>?_⟩,aI⟩
 .exact ⟨_,_,_,_,⟨Sl.of _ _ _,Sl.of _ _ _⟩, .inr (.inr (.inr ⟨rfl,1,1,hk,by omega,h0,h1,⟨h1m,by omega⟩,by omega⟩))⟩
 .exact ⟨_,_,rfl,⟨none,0,rfl,⟨by simp,by simp⟩, .inl rfl⟩,_,1,rfl,⟨by simp,by decide⟩, .inr ⟨_,0,rfl,Nat.lt_of_lt_of_le h4 hW.1,h5 W hW⟩⟩
theorem qE (b:Nat) (A:Option Addr) (n c:Nat) (nds:List Nd) (w:World) (hk:KN b w 2 6 nds n (.slice A n c)) (h3:n<=3):Calls Tryz.prog 36 #[.slice A n c] w (z8 b 3 18 (Z7 nds) w):=by
 have HK:=Lib.hid hk;clear hk
 go_enter Tryz.func36,Tryz.ntmps36
 go_wp2_with fail;refine bodyPost_ret (v:=.agg #[.int .i64 2, .slice none 0 0, .slice A n c, .int .i64 0, .int .i64 0]) (by simp[results,Tryz.results36,go_sem];try rfl) rfl ?_
 have aI:Below w.heap.size w (w.alloc (Obj.cells #[Value.int IntKind.i64 2,Value.slice none 0 0,Value.slice A n c,Value.int IntKind.i64 0,Value.int IntKind.i64 0] 41)):=(Below.refl _ w).alloc (Nat.le_refl _) _;obtain ⟨h00,hk,g,c',e,h2,h3',h4,h5⟩:=HK.out.later (af.aa aI);injection e with e1 e2 e3;subst e1 e3;refine ⟨_,_,_,_,_,_,_,_,_,rfl,⟨?_,λW hW=>?_⟩,aI⟩
 .exact ⟨_,_,_,_,⟨Sl.of _ _ _,Sl.of _ _ _⟩, .inr (.inl ⟨rfl,n,6,hk,by omega⟩)⟩
 .exact ⟨_,_,rfl,⟨none,0,rfl,⟨by simp,by simp⟩, .inl rfl⟩,_,c,by rw[h00],⟨by omega,by omega⟩, .inr ⟨_,0,rfl,Nat.lt_of_lt_of_le h4 hW.1,h5 W hW⟩⟩
def Ss (b:Nat) (w:World) (e:Ending) (w':World):Prop:=∃g,e = .returned (.slice (some ⟨g,0,none⟩) 6 6)/\KN b w' 4 18 [iG 0,iG 1,iG 2,iG 3,iG 4,iG 5] 6 (.slice (some ⟨g,0,none⟩) 6 6)/\Below w.heap.size w w'
set_option maxHeartbeats 8000000 in
theorem rW (b:Nat) (w:World) (hb:b<w.heap.size):Calls Tryz.prog 15 #[] w (Ss b w):=by
 obtain ⟨v0,hv0⟩:∃V,((w.alloc (Obj.cells #[Value.int IntKind.u8 48,Value.int IntKind.u8 57] 84)).alloc (Obj.cells #[Value.int IntKind.u8 48,Value.int IntKind.u8 57,Value.int IntKind.u8 97,Value.int IntKind.u8 102] 84)).alloc (Obj.cells #[Value.int IntKind.u8 65,Value.int IntKind.u8 90,Value.int IntKind.u8 97,Value.int IntKind.u8 122] 84)=V:=⟨_,rfl⟩;have fV:Below w.heap.size w v0:=by rw[<-hv0];exact (((Below.refl _ w).alloc (Nat.le_refl _) _).alloc (by simp) _).alloc (by simp;omega) _
 have g1:v0.heap[w.heap.size]?=some (.cells #[Value.int IntKind.u8 48,Value.int IntKind.u8 57] 84 (0,0)):=by
  rw[<-hv0,Below.heap_alloc _ _ _ (by simp;omega),Below.heap_alloc _ _ _ (by simp)];exact heap_alloc_new _ _
 have g2:v0.heap[w.heap.size+1]?=some (.cells #[Value.int IntKind.u8 48,Value.int IntKind.u8 57,Value.int IntKind.u8 97,Value.int IntKind.u8 102] 84 (0,0)):=by
  rw[<-hv0,Below.heap_alloc _ _ _ (by simp)]
  rw[show w.heap.size+1=(w.alloc (Obj.cells #[Value.int IntKind.u8 48,Value.int IntKind.u8 57] 84)).heap.size by simp];exact heap_alloc_new _ _
 have g3:v0.heap[w.heap.size+1+1]?=some (.cells #[Value.int IntKind.u8 65,Value.int IntKind.u8 90,Value.int IntKind.u8 97,Value.int IntKind.u8 122] 84 (0,0)):=by
  rw[<-hv0];rw[show w.heap.size+1+1=((w.alloc (Obj.cells #[Value.int IntKind.u8 48,Value.int IntKind.u8 57] 84)).alloc (Obj.cells #[Value.int IntKind.u8 48,Value.int IntKind.u8 57,Value.int IntKind.u8 97,Value.int IntKind.u8 102] 84)).heap.size by simp];exact heap_alloc_new _ _
 have R1:=Lib.hid (RN.ad1 (b:=b) (n:=1) (c:=1) g1 (by omega) (by decide))
 have R2:=Lib.hid (RN.ad2 (b:=b) (n:=2) (c:=2) g2 (by omega) (by decide))
 have R3:=Lib.hid (RN.ad2 (b:=b) (n:=2) (c:=2) g3 (by omega) (by decide))
 have gJ:b<v0.heap.size:=by have:=fV.size;omega
 have vz:=Lib.hid hv0;have aW:=Lib.hid fV;clear g1 g2 g3 hv0 fV
 go_enter Tryz.func15,Tryz.ntmps15
 go_wp2_with fail;rw[vz.out];clear vz;refine (dX b 116 (by decide) (by decide) _ gJ).mono ?_
 rintro e w1 ⟨A1,B1,n1,k1,c1,d1,o1,l1,h1,rfl,p1,hb1⟩;have P1:=Lib.hid p1;have R1:=Lib.hid (R1.out.later (af.aa hb1));have R2:=Lib.hid (R2.out.later (af.aa hb1));have R3:=Lib.hid (R3.out.later (af.aa hb1));have aW:=Lib.hid (aW.out.trans (hb1.mono aW.out.size));have gJ:b<w1.heap.size:=by have:=hb1.size;omega
 clear p1 hb1;go_wp2_with fail;refine (dX b 107 (by decide) (by decide) _ gJ).mono ?_
 rintro e w2 ⟨A2,B2,n2,k2,c2,d2,o2,l2,h2,rfl,p2,aL⟩;have P2:=Lib.hid p2;have R1:=Lib.hid (R1.out.later (af.aa aL));have R2:=Lib.hid (R2.out.later (af.aa aL));have R3:=Lib.hid (R3.out.later (af.aa aL));have P1:=Lib.hid (P1.out.later (af.aa aL));have aW:=Lib.hid (aW.out.trans (aL.mono aW.out.size));have gJ:b<w2.heap.size:=by have:=aL.size;omega
 clear p2 aL;go_wp2_with fail;refine (fZ b _ _ _ _ 2 4 _ R1.out gJ (by decide) (by decide) (by decide) (by decide)).mono ?_
 rintro e w3 ⟨A3,B3,n3,k3,c3,d3,o3,l3,h3,rfl,p3,dc⟩;have P3:=Lib.hid p3;have R1:=Lib.hid (R1.out.later (af.aa dc));have R2:=Lib.hid (R2.out.later (af.aa dc));have R3:=Lib.hid (R3.out.later (af.aa dc));have P1:=Lib.hid (P1.out.later (af.aa dc));have P2:=Lib.hid (P2.out.later (af.aa dc));have aW:=Lib.hid (aW.out.trans (dc.mono aW.out.size));have gJ:b<w3.heap.size:=by have:=dc.size;omega
 clear p3 dc;obtain ⟨w4,PJ⟩:∃V,w3.alloc (Obj.cells #[Value.int IntKind.i64 o1,Value.slice A1 n1 c1,Value.slice B1 k1 d1,Value.int IntKind.i64 l1,Value.int IntKind.i64 h1,Value.int IntKind.i64 o2,Value.slice A2 n2 c2,Value.slice B2 k2 d2,Value.int IntKind.i64 l2,Value.int IntKind.i64 h2,Value.int IntKind.i64 o3,Value.slice A3 n3 c3,Value.slice B3 k3 d3,Value.int IntKind.i64 l3,Value.int IntKind.i64 h3] 41)=V:=⟨_,rfl⟩;have K1:=KN.new (w:=w3) (d:=2) (m:=6) (nds:=[vw 116,vw 107,Hx [(48,57)] 2 4]) (us:=[[Value.int IntKind.i64 o1,Value.slice A1 n1 c1,Value.slice B1 k1 d1,Value.int IntKind.i64 l1,Value.int IntKind.i64 h1],[Value.int IntKind.i64 o2,Value.slice A2 n2 c2,Value.slice B2 k2 d2,Value.int IntKind.i64 l2,Value.int IntKind.i64 h2],[Value.int IntKind.i64 o3,Value.slice A3 n3 c3,Value.slice B3 k3 d3,Value.int IntKind.i64 l3,Value.int IntKind.i64 h3]]) (cs:=#[Value.int IntKind.i64 o1,Value.slice A1 n1 c1,Value.slice B1 k1 d1,Value.int IntKind.i64 l1,Value.int IntKind.i64 h1,Value.int IntKind.i64 o2,Value.slice A2 n2 c2,Value.slice B2 k2 d2,Value.int IntKind.i64 l2,Value.int IntKind.i64 h2,Value.int IntKind.i64 o3,Value.slice A3 n3 c3,Value.slice B3 k3 d3,Value.int IntKind.i64 l3,Value.int IntKind.i64 h3]) (e:=41) (n:=3) (c:=3) gJ rfl ⟨(P1.out.mono (by decide) (by decide)),(P2.out.mono (by decide) (by decide)),(P3.out.mono (by decide) (by decide)),trivial⟩ rfl (by decide)
 have ox:Below w3.heap.size w3 w4:=by rw[<-PJ];exact (Below.refl _ _).alloc (Nat.le_refl _) _
 rw[PJ]at K1;have K1:=Lib.hid K1;have XI:=Lib.hid PJ;have R1:=Lib.hid (R1.out.later (af.aa ox));have R2:=Lib.hid (R2.out.later (af.aa ox));have R3:=Lib.hid (R3.out.later (af.aa ox));have P1:=Lib.hid (P1.out.later (af.aa ox));have P2:=Lib.hid (P2.out.later (af.aa ox));have P3:=Lib.hid (P3.out.later (af.aa ox));have aW:=Lib.hid (aW.out.trans (ox.mono aW.out.size));have gJ:b<w4.heap.size:=by have:=ox.size;omega
 clear PJ ox;go_wp2_with fail;rw[XI.out];clear XI;clear P1;clear P2;clear P3;refine (qE b _ _ _ _ _ K1.out (by decide)).mono ?_
 rintro e w5 ⟨AS1,BS1,nS1,kS1,cS1,dS1,oS1,lS1,hS1,rfl,pS1,gH⟩;have kc:=Lib.hid pS1;have R1:=Lib.hid (R1.out.later (af.aa gH));have R2:=Lib.hid (R2.out.later (af.aa gH));have R3:=Lib.hid (R3.out.later (af.aa gH));have aW:=Lib.hid (aW.out.trans (gH.mono aW.out.size));have gJ:b<w5.heap.size:=by have:=gH.size;omega
 clear pS1 gH;clear K1;go_wp2_with fail;refine (dX b 107 (by decide) (by decide) _ gJ).mono ?_
 rintro e w6 ⟨A4,B4,n4,k4,c4,d4,o4,l4,h4,rfl,p4,rh⟩;have P4:=Lib.hid p4;have R1:=Lib.hid (R1.out.later (af.aa rh));have R2:=Lib.hid (R2.out.later (af.aa rh));have R3:=Lib.hid (R3.out.later (af.aa rh));have kc:=Lib.hid (kc.out.later (af.aa rh));have aW:=Lib.hid (aW.out.trans (rh.mono aW.out.size));have gJ:b<w6.heap.size:=by have:=rh.size;omega
 clear p4 rh;go_wp2_with fail;refine (dX b 45 (by decide) (by decide) _ gJ).mono ?_
 rintro e w7 ⟨A5,B5,n5,k5,c5,d5,o5,l5,h5,rfl,p5,qs⟩;have P5:=Lib.hid p5;have R1:=Lib.hid (R1.out.later (af.aa qs));have R2:=Lib.hid (R2.out.later (af.aa qs));have R3:=Lib.hid (R3.out.later (af.aa qs));have kc:=Lib.hid (kc.out.later (af.aa qs));have P4:=Lib.hid (P4.out.later (af.aa qs));have aW:=Lib.hid (aW.out.trans (qs.mono aW.out.size));have gJ:b<w7.heap.size:=by have:=qs.size;omega
 clear p5 qs;go_wp2_with fail;refine (fZ b _ _ _ _ 3 6 _ R2.out gJ (by decide) (by decide) (by decide) (by decide)).mono ?_
 rintro e w8 ⟨A6,B6,n6,k6,c6,d6,o6,l6,h6,rfl,p6,Bq⟩;have P6:=Lib.hid p6;have R1:=Lib.hid (R1.out.later (af.aa Bq));have R2:=Lib.hid (R2.out.later (af.aa Bq));have R3:=Lib.hid (R3.out.later (af.aa Bq));have kc:=Lib.hid (kc.out.later (af.aa Bq));have P4:=Lib.hid (P4.out.later (af.aa Bq));have P5:=Lib.hid (P5.out.later (af.aa Bq));have aW:=Lib.hid (aW.out.trans (Bq.mono aW.out.size));have gJ:b<w8.heap.size:=by have:=Bq.size;omega
 clear p6 Bq;obtain ⟨w9,FM⟩:∃V,w8.alloc (Obj.cells #[Value.int IntKind.i64 o4,Value.slice A4 n4 c4,Value.slice B4 k4 d4,Value.int IntKind.i64 l4,Value.int IntKind.i64 h4,Value.int IntKind.i64 o5,Value.slice A5 n5 c5,Value.slice B5 k5 d5,Value.int IntKind.i64 l5,Value.int IntKind.i64 h5,Value.int IntKind.i64 o6,Value.slice A6 n6 c6,Value.slice B6 k6 d6,Value.int IntKind.i64 l6,Value.int IntKind.i64 h6] 41)=V:=⟨_,rfl⟩;have K2:=KN.new (w:=w8) (d:=2) (m:=6) (nds:=[vw 107,vw 45,Hx [(48,57),(97,102)] 3 6]) (us:=[[Value.int IntKind.i64 o4,Value.slice A4 n4 c4,Value.slice B4 k4 d4,Value.int IntKind.i64 l4,Value.int IntKind.i64 h4],[Value.int IntKind.i64 o5,Value.slice A5 n5 c5,Value.slice B5 k5 d5,Value.int IntKind.i64 l5,Value.int IntKind.i64 h5],[Value.int IntKind.i64 o6,Value.slice A6 n6 c6,Value.slice B6 k6 d6,Value.int IntKind.i64 l6,Value.int IntKind.i64 h6]]) (cs:=#[Value.int IntKind.i64 o4,Value.slice A4 n4 c4,Value.slice B4 k4 d4,Value.int IntKind.i64 l4,Value.int IntKind.i64 h4,Value.int IntKind.i64 o5,Value.slice A5 n5 c5,Value.slice B5 k5 d5,Value.int IntKind.i64 l5,Value.int IntKind.i64 h5,Value.int IntKind.i64 o6,Value.slice A6 n6 c6,Value.slice B6 k6 d6,Value.int IntKind.i64 l6,Value.int IntKind.i64 h6]) (e:=41) (n:=3) (c:=3) gJ rfl ⟨(P4.out.mono (by decide) (by decide)),(P5.out.mono (by decide) (by decide)),(P6.out.mono (by decide) (by decide)),trivial⟩ rfl (by decide)
 have pF:Below w8.heap.size w8 w9:=by rw[<-FM];exact (Below.refl _ _).alloc (Nat.le_refl _) _
 rw[FM]at K2;have K2:=Lib.hid K2;have HW9:=Lib.hid FM;have R1:=Lib.hid (R1.out.later (af.aa pF));have R2:=Lib.hid (R2.out.later (af.aa pF));have R3:=Lib.hid (R3.out.later (af.aa pF));have kc:=Lib.hid (kc.out.later (af.aa pF));have P4:=Lib.hid (P4.out.later (af.aa pF));have P5:=Lib.hid (P5.out.later (af.aa pF));have P6:=Lib.hid (P6.out.later (af.aa pF));have aW:=Lib.hid (aW.out.trans (pF.mono aW.out.size));have gJ:b<w9.heap.size:=by have:=pF.size;omega
 clear FM pF;go_wp2_with fail;rw[HW9.out];clear HW9;clear P4;clear P5;clear P6;refine (qE b _ _ _ _ _ K2.out (by decide)).mono ?_
 rintro e ZS ⟨AS2,BS2,nS2,kS2,cS2,dS2,oS2,lS2,Y1,rfl,pS2,qp⟩;have oX:=Lib.hid pS2;have R1:=Lib.hid (R1.out.later (af.aa qp));have R2:=Lib.hid (R2.out.later (af.aa qp));have R3:=Lib.hid (R3.out.later (af.aa qp));have kc:=Lib.hid (kc.out.later (af.aa qp));have aW:=Lib.hid (aW.out.trans (qp.mono aW.out.size));have gJ:b<ZS.heap.size:=by have:=qp.size;omega
 clear pS2 qp;clear K2;go_wp2_with fail;refine (fZ b _ _ _ _ 4 4 _ R1.out gJ (by decide) (by decide) (by decide) (by decide)).mono ?_
 rintro e w11 ⟨A7,B7,n7,k7,c7,d7,o7,l7,h7,rfl,p7,rD⟩;have P7:=Lib.hid p7;have R1:=Lib.hid (R1.out.later (af.aa rD));have R2:=Lib.hid (R2.out.later (af.aa rD));have R3:=Lib.hid (R3.out.later (af.aa rD));have kc:=Lib.hid (kc.out.later (af.aa rD));have oX:=Lib.hid (oX.out.later (af.aa rD));have aW:=Lib.hid (aW.out.trans (rD.mono aW.out.size));have gJ:b<w11.heap.size:=by have:=rD.size;omega
 clear p7 rD;go_wp2_with fail;refine (fZ b _ _ _ _ 2 5 _ R3.out gJ (by decide) (by decide) (by decide) (by decide)).mono ?_
 rintro e w12 ⟨A8,B8,n8,k8,c8,d8,o8,l8,h8,rfl,p8,oQ⟩;have P8:=Lib.hid p8;have R1:=Lib.hid (R1.out.later (af.aa oQ));have R2:=Lib.hid (R2.out.later (af.aa oQ));have R3:=Lib.hid (R3.out.later (af.aa oQ));have kc:=Lib.hid (kc.out.later (af.aa oQ));have oX:=Lib.hid (oX.out.later (af.aa oQ));have P7:=Lib.hid (P7.out.later (af.aa oQ));have aW:=Lib.hid (aW.out.trans (oQ.mono aW.out.size));have gJ:b<w12.heap.size:=by have:=oQ.size;omega
 clear p8 oQ;go_wp2_with fail;refine (dX b 107 (by decide) (by decide) _ gJ).mono ?_
 rintro e w13 ⟨A9,B9,n9,k9,c9,d9,o9,l9,h9,rfl,p9,oR⟩;have P9:=Lib.hid p9;have R1:=Lib.hid (R1.out.later (af.aa oR));have R2:=Lib.hid (R2.out.later (af.aa oR));have R3:=Lib.hid (R3.out.later (af.aa oR));have kc:=Lib.hid (kc.out.later (af.aa oR));have oX:=Lib.hid (oX.out.later (af.aa oR));have P7:=Lib.hid (P7.out.later (af.aa oR));have P8:=Lib.hid (P8.out.later (af.aa oR));have aW:=Lib.hid (aW.out.trans (oR.mono aW.out.size));have gJ:b<w13.heap.size:=by have:=oR.size;omega
 clear p9 oR;go_wp2_with fail;refine (dX b 107 (by decide) (by decide) _ gJ).mono ?_
 rintro e w14 ⟨A10,B10,n10,k10,tX,d10,o10,l10,h10,rfl,p10,vB⟩;have Z8:=Lib.hid p10;have R1:=Lib.hid (R1.out.later (af.aa vB));have R2:=Lib.hid (R2.out.later (af.aa vB));have R3:=Lib.hid (R3.out.later (af.aa vB));have kc:=Lib.hid (kc.out.later (af.aa vB));have oX:=Lib.hid (oX.out.later (af.aa vB));have P7:=Lib.hid (P7.out.later (af.aa vB));have P8:=Lib.hid (P8.out.later (af.aa vB));have P9:=Lib.hid (P9.out.later (af.aa vB));have aW:=Lib.hid (aW.out.trans (vB.mono aW.out.size));have gJ:b<w14.heap.size:=by have:=vB.size;omega
 clear p10 vB;go_wp2_with fail;refine (dX b 101 (by decide) (by decide) _ gJ).mono ?_
 rintro e w15 ⟨A11,B11,n11,k11,Ts,d11,Wn,l11,Wm,rfl,p11,sM⟩;have P11:=Lib.hid p11;have R1:=Lib.hid (R1.out.later (af.aa sM));have R2:=Lib.hid (R2.out.later (af.aa sM));have R3:=Lib.hid (R3.out.later (af.aa sM));have kc:=Lib.hid (kc.out.later (af.aa sM));have oX:=Lib.hid (oX.out.later (af.aa sM));have P7:=Lib.hid (P7.out.later (af.aa sM));have P8:=Lib.hid (P8.out.later (af.aa sM));have P9:=Lib.hid (P9.out.later (af.aa sM));have Z8:=Lib.hid (Z8.out.later (af.aa sM));have aW:=Lib.hid (aW.out.trans (sM.mono aW.out.size));have gJ:b<w15.heap.size:=by have:=sM.size;omega
 clear p11 sM;obtain ⟨w16,St⟩:∃V,w15.alloc (Obj.cells #[Value.int IntKind.i64 o10,Value.slice A10 n10 tX,Value.slice B10 k10 d10,Value.int IntKind.i64 l10,Value.int IntKind.i64 h10,Value.int IntKind.i64 Wn,Value.slice A11 n11 Ts,Value.slice B11 k11 d11,Value.int IntKind.i64 l11,Value.int IntKind.i64 Wm] 41)=V:=⟨_,rfl⟩;have K3:=KN.new (w:=w15) (d:=2) (m:=6) (nds:=[vw 107,vw 101]) (us:=[[Value.int IntKind.i64 o10,Value.slice A10 n10 tX,Value.slice B10 k10 d10,Value.int IntKind.i64 l10,Value.int IntKind.i64 h10],[Value.int IntKind.i64 Wn,Value.slice A11 n11 Ts,Value.slice B11 k11 d11,Value.int IntKind.i64 l11,Value.int IntKind.i64 Wm]]) (cs:=#[Value.int IntKind.i64 o10,Value.slice A10 n10 tX,Value.slice B10 k10 d10,Value.int IntKind.i64 l10,Value.int IntKind.i64 h10,Value.int IntKind.i64 Wn,Value.slice A11 n11 Ts,Value.slice B11 k11 d11,Value.int IntKind.i64 l11,Value.int IntKind.i64 Wm]) (e:=41) (n:=2) (c:=2) gJ rfl ⟨(Z8.out.mono (by decide) (by decide)),(P11.out.mono (by decide) (by decide)),trivial⟩ rfl (by decide)
 have rE:Below w15.heap.size w15 w16:=by rw[<-St];exact (Below.refl _ _).alloc (Nat.le_refl _) _
 rw[St]at K3;have K3:=Lib.hid K3;have ad6:=Lib.hid St;have R1:=Lib.hid (R1.out.later (af.aa rE));have R2:=Lib.hid (R2.out.later (af.aa rE));have R3:=Lib.hid (R3.out.later (af.aa rE));have kc:=Lib.hid (kc.out.later (af.aa rE));have oX:=Lib.hid (oX.out.later (af.aa rE));have P7:=Lib.hid (P7.out.later (af.aa rE));have P8:=Lib.hid (P8.out.later (af.aa rE));have P9:=Lib.hid (P9.out.later (af.aa rE));have Z8:=Lib.hid (Z8.out.later (af.aa rE));have P11:=Lib.hid (P11.out.later (af.aa rE));have aW:=Lib.hid (aW.out.trans (rE.mono aW.out.size));have gJ:b<w16.heap.size:=by have:=rE.size;omega
 clear St rE;go_wp2_with fail;rw[ad6.out];clear ad6;clear Z8;clear P11;refine (qE b _ _ _ _ _ K3.out (by decide)).mono ?_
 rintro e w17 ⟨AS3,BS3,nS3,kS3,cS3,dS3,oS3,lS3,V3,rfl,pS3,vC⟩;have Z9:=Lib.hid pS3;have R1:=Lib.hid (R1.out.later (af.aa vC));have R2:=Lib.hid (R2.out.later (af.aa vC));have R3:=Lib.hid (R3.out.later (af.aa vC));have kc:=Lib.hid (kc.out.later (af.aa vC));have oX:=Lib.hid (oX.out.later (af.aa vC));have P7:=Lib.hid (P7.out.later (af.aa vC));have P8:=Lib.hid (P8.out.later (af.aa vC));have P9:=Lib.hid (P9.out.later (af.aa vC));have aW:=Lib.hid (aW.out.trans (vC.mono aW.out.size));have gJ:b<w17.heap.size:=by have:=vC.size;omega
 clear pS3 vC;clear K3;go_wp2_with fail;refine (fZ b _ _ _ _ 2 2 _ R1.out gJ (by decide) (by decide) (by decide) (by decide)).mono ?_
 rintro e Su ⟨A12,B12,n12,k12,Tt,d12,o12,l12,yV,rfl,p12,sN⟩;have P12:=Lib.hid p12;have R1:=Lib.hid (R1.out.later (af.aa sN));have R2:=Lib.hid (R2.out.later (af.aa sN));have R3:=Lib.hid (R3.out.later (af.aa sN));have kc:=Lib.hid (kc.out.later (af.aa sN));have oX:=Lib.hid (oX.out.later (af.aa sN));have P7:=Lib.hid (P7.out.later (af.aa sN));have P8:=Lib.hid (P8.out.later (af.aa sN));have P9:=Lib.hid (P9.out.later (af.aa sN));have Z9:=Lib.hid (Z9.out.later (af.aa sN));have aW:=Lib.hid (aW.out.trans (sN.mono aW.out.size));have gJ:b<Su.heap.size:=by have:=sN.size;omega
 clear p12 sN;obtain ⟨w19,Sv⟩:∃V,Su.alloc (Obj.cells #[Value.int IntKind.i64 o9,Value.slice A9 n9 c9,Value.slice B9 k9 d9,Value.int IntKind.i64 l9,Value.int IntKind.i64 h9,Value.int IntKind.i64 oS3,Value.slice AS3 nS3 cS3,Value.slice BS3 kS3 dS3,Value.int IntKind.i64 lS3,Value.int IntKind.i64 V3,Value.int IntKind.i64 o12,Value.slice A12 n12 Tt,Value.slice B12 k12 d12,Value.int IntKind.i64 l12,Value.int IntKind.i64 yV] 41)=V:=⟨_,rfl⟩;have K4:=KN.new (w:=Su) (d:=3) (m:=18) (nds:=[vw 107,Z7 [vw 107,vw 101],Hx [(48,57)] 2 2]) (us:=[[Value.int IntKind.i64 o9,Value.slice A9 n9 c9,Value.slice B9 k9 d9,Value.int IntKind.i64 l9,Value.int IntKind.i64 h9],[Value.int IntKind.i64 oS3,Value.slice AS3 nS3 cS3,Value.slice BS3 kS3 dS3,Value.int IntKind.i64 lS3,Value.int IntKind.i64 V3],[Value.int IntKind.i64 o12,Value.slice A12 n12 Tt,Value.slice B12 k12 d12,Value.int IntKind.i64 l12,Value.int IntKind.i64 yV]]) (cs:=#[Value.int IntKind.i64 o9,Value.slice A9 n9 c9,Value.slice B9 k9 d9,Value.int IntKind.i64 l9,Value.int IntKind.i64 h9,Value.int IntKind.i64 oS3,Value.slice AS3 nS3 cS3,Value.slice BS3 kS3 dS3,Value.int IntKind.i64 lS3,Value.int IntKind.i64 V3,Value.int IntKind.i64 o12,Value.slice A12 n12 Tt,Value.slice B12 k12 d12,Value.int IntKind.i64 l12,Value.int IntKind.i64 yV]) (e:=41) (n:=3) (c:=3) gJ rfl ⟨(P9.out.mono (by decide) (by decide)),(Z9.out.mono (by decide) (by decide)),(P12.out.mono (by decide) (by decide)),trivial⟩ rfl (by decide)
 have rF:Below Su.heap.size Su w19:=by rw[<-Sv];exact (Below.refl _ _).alloc (Nat.le_refl _) _
 rw[Sv]at K4;have K4:=Lib.hid K4;have ad7:=Lib.hid Sv;have R1:=Lib.hid (R1.out.later (af.aa rF));have R2:=Lib.hid (R2.out.later (af.aa rF));have R3:=Lib.hid (R3.out.later (af.aa rF));have kc:=Lib.hid (kc.out.later (af.aa rF));have oX:=Lib.hid (oX.out.later (af.aa rF));have P7:=Lib.hid (P7.out.later (af.aa rF));have P8:=Lib.hid (P8.out.later (af.aa rF));have P9:=Lib.hid (P9.out.later (af.aa rF));have Z9:=Lib.hid (Z9.out.later (af.aa rF));have P12:=Lib.hid (P12.out.later (af.aa rF));have aW:=Lib.hid (aW.out.trans (rF.mono aW.out.size));have gJ:b<w19.heap.size:=by have:=rF.size;omega
 clear Sv rF;go_wp2_with fail;rw[ad7.out];clear ad7;clear P9;clear Z9;clear P12;have Kg:=Lib.hid (show PN b w19 4 18 (iG 4) [Value.int IntKind.i64 3,Value.slice none 0 0,Value.slice (some ⟨Su.heap.size,0,none⟩) 3 3,Value.int IntKind.i64 0,Value.int IntKind.i64 0] from PN.jl K4.out (by decide))
 clear K4;refine (dX b 97 (by decide) (by decide) _ gJ).mono ?_
 rintro e w20 ⟨A13,B13,n13,k13,c13,d13,o13,l13,h13,rfl,p13,vD⟩;have Um:=Lib.hid p13;have R1:=Lib.hid (R1.out.later (af.aa vD));have R2:=Lib.hid (R2.out.later (af.aa vD));have R3:=Lib.hid (R3.out.later (af.aa vD));have kc:=Lib.hid (kc.out.later (af.aa vD));have oX:=Lib.hid (oX.out.later (af.aa vD));have P7:=Lib.hid (P7.out.later (af.aa vD));have P8:=Lib.hid (P8.out.later (af.aa vD));have Kg:=Lib.hid (Kg.out.later (af.aa vD));have aW:=Lib.hid (aW.out.trans (vD.mono aW.out.size));have gJ:b<w20.heap.size:=by have:=vD.size;omega
 clear p13 vD;go_wp2_with fail;refine (fZ b _ _ _ _ 0 3 _ R2.out gJ (by decide) (by decide) (by decide) (by decide)).mono ?_
 rintro e w21 ⟨A14,B14,n14,k14,c14,d14,o14,l14,h14,rfl,p14,sO⟩;have P14:=Lib.hid p14;have R1:=Lib.hid (R1.out.later (af.aa sO));have R2:=Lib.hid (R2.out.later (af.aa sO));have R3:=Lib.hid (R3.out.later (af.aa sO));have kc:=Lib.hid (kc.out.later (af.aa sO));have oX:=Lib.hid (oX.out.later (af.aa sO));have P7:=Lib.hid (P7.out.later (af.aa sO));have P8:=Lib.hid (P8.out.later (af.aa sO));have Kg:=Lib.hid (Kg.out.later (af.aa sO));have Um:=Lib.hid (Um.out.later (af.aa sO));have aW:=Lib.hid (aW.out.trans (sO.mono aW.out.size));have gJ:b<w21.heap.size:=by have:=sO.size;omega
 clear p14 sO;go_wp2_with fail;refine (dX b 98 (by decide) (by decide) _ gJ).mono ?_
 rintro e w22 ⟨Lq,B15,n15,k15,Lr,d15,o15,l15,h15,rfl,p15,rG⟩;have P15:=Lib.hid p15;have R1:=Lib.hid (R1.out.later (af.aa rG));have R2:=Lib.hid (R2.out.later (af.aa rG));have R3:=Lib.hid (R3.out.later (af.aa rG));have kc:=Lib.hid (kc.out.later (af.aa rG));have oX:=Lib.hid (oX.out.later (af.aa rG));have P7:=Lib.hid (P7.out.later (af.aa rG));have P8:=Lib.hid (P8.out.later (af.aa rG));have Kg:=Lib.hid (Kg.out.later (af.aa rG));have Um:=Lib.hid (Um.out.later (af.aa rG));have P14:=Lib.hid (P14.out.later (af.aa rG));have aW:=Lib.hid (aW.out.trans (rG.mono aW.out.size));have gJ:b<w22.heap.size:=by have:=rG.size;omega
 clear p15 rG;obtain ⟨w23,FQ⟩:∃V,w22.alloc (Obj.cells #[Value.int IntKind.i64 o13,Value.slice A13 n13 c13,Value.slice B13 k13 d13,Value.int IntKind.i64 l13,Value.int IntKind.i64 h13,Value.int IntKind.i64 o14,Value.slice A14 n14 c14,Value.slice B14 k14 d14,Value.int IntKind.i64 l14,Value.int IntKind.i64 h14,Value.int IntKind.i64 o15,Value.slice Lq n15 Lr,Value.slice B15 k15 d15,Value.int IntKind.i64 l15,Value.int IntKind.i64 h15] 41)=V:=⟨_,rfl⟩;have K5:=KN.new (w:=w22) (d:=2) (m:=6) (nds:=[vw 97,Hx [(48,57),(97,102)] 0 3,vw 98]) (us:=[[Value.int IntKind.i64 o13,Value.slice A13 n13 c13,Value.slice B13 k13 d13,Value.int IntKind.i64 l13,Value.int IntKind.i64 h13],[Value.int IntKind.i64 o14,Value.slice A14 n14 c14,Value.slice B14 k14 d14,Value.int IntKind.i64 l14,Value.int IntKind.i64 h14],[Value.int IntKind.i64 o15,Value.slice Lq n15 Lr,Value.slice B15 k15 d15,Value.int IntKind.i64 l15,Value.int IntKind.i64 h15]]) (cs:=#[Value.int IntKind.i64 o13,Value.slice A13 n13 c13,Value.slice B13 k13 d13,Value.int IntKind.i64 l13,Value.int IntKind.i64 h13,Value.int IntKind.i64 o14,Value.slice A14 n14 c14,Value.slice B14 k14 d14,Value.int IntKind.i64 l14,Value.int IntKind.i64 h14,Value.int IntKind.i64 o15,Value.slice Lq n15 Lr,Value.slice B15 k15 d15,Value.int IntKind.i64 l15,Value.int IntKind.i64 h15]) (e:=41) (n:=3) (c:=3) gJ rfl ⟨(Um.out.mono (by decide) (by decide)),(P14.out.mono (by decide) (by decide)),(P15.out.mono (by decide) (by decide)),trivial⟩ rfl (by decide)
 have jk:Below w22.heap.size w22 w23:=by rw[<-FQ];exact (Below.refl _ _).alloc (Nat.le_refl _) _
 rw[FQ]at K5;have K5:=Lib.hid K5;have aea:=Lib.hid FQ;have R1:=Lib.hid (R1.out.later (af.aa jk));have R2:=Lib.hid (R2.out.later (af.aa jk));have R3:=Lib.hid (R3.out.later (af.aa jk));have kc:=Lib.hid (kc.out.later (af.aa jk));have oX:=Lib.hid (oX.out.later (af.aa jk));have P7:=Lib.hid (P7.out.later (af.aa jk));have P8:=Lib.hid (P8.out.later (af.aa jk));have Kg:=Lib.hid (Kg.out.later (af.aa jk));have Um:=Lib.hid (Um.out.later (af.aa jk));have P14:=Lib.hid (P14.out.later (af.aa jk));have P15:=Lib.hid (P15.out.later (af.aa jk));have aW:=Lib.hid (aW.out.trans (jk.mono aW.out.size));have gJ:b<w23.heap.size:=by have:=jk.size;omega
 clear FQ jk;go_wp2_with fail;rw[aea.out];clear aea;clear Um;clear P14;clear P15;refine (qE b _ _ _ _ _ K5.out (by decide)).mono ?_
 rintro e w24 ⟨AS4,BS4,nS4,kS4,cS4,dS4,oS4,lS4,hS4,rfl,pS4,qh⟩;have PS4:=Lib.hid pS4;have R1:=Lib.hid (R1.out.later (af.aa qh));have R2:=Lib.hid (R2.out.later (af.aa qh));have R3:=Lib.hid (R3.out.later (af.aa qh));have kc:=Lib.hid (kc.out.later (af.aa qh));have oX:=Lib.hid (oX.out.later (af.aa qh));have P7:=Lib.hid (P7.out.later (af.aa qh));have P8:=Lib.hid (P8.out.later (af.aa qh));have Kg:=Lib.hid (Kg.out.later (af.aa qh));have aW:=Lib.hid (aW.out.trans (qh.mono aW.out.size));have gJ:b<w24.heap.size:=by have:=qh.size;omega
 clear pS4 qh;clear K5;obtain ⟨w25,Sw⟩:∃V,w24.alloc (Obj.cells #[Value.int IntKind.i64 oS1,Value.slice AS1 nS1 cS1,Value.slice BS1 kS1 dS1,Value.int IntKind.i64 lS1,Value.int IntKind.i64 hS1,Value.int IntKind.i64 oS2,Value.slice AS2 nS2 cS2,Value.slice BS2 kS2 dS2,Value.int IntKind.i64 lS2,Value.int IntKind.i64 Y1,Value.int IntKind.i64 o7,Value.slice A7 n7 c7,Value.slice B7 k7 d7,Value.int IntKind.i64 l7,Value.int IntKind.i64 h7,Value.int IntKind.i64 o8,Value.slice A8 n8 c8,Value.slice B8 k8 d8,Value.int IntKind.i64 l8,Value.int IntKind.i64 h8,Value.int IntKind.i64 3,Value.slice none 0 0,Value.slice (some ⟨Su.heap.size,0,none⟩) 3 3,Value.int IntKind.i64 0,Value.int IntKind.i64 0,Value.int IntKind.i64 oS4,Value.slice AS4 nS4 cS4,Value.slice BS4 kS4 dS4,Value.int IntKind.i64 lS4,Value.int IntKind.i64 hS4] 41)=V:=⟨_,rfl⟩;have K6:=KN.new (w:=w24) (d:=4) (m:=18) (nds:=[iG 0,iG 1,Hx [(48,57)] 4 4,Hx [(65,90),(97,122)] 2 5,iG 4,iG 5]) (us:=[[Value.int IntKind.i64 oS1,Value.slice AS1 nS1 cS1,Value.slice BS1 kS1 dS1,Value.int IntKind.i64 lS1,Value.int IntKind.i64 hS1],[Value.int IntKind.i64 oS2,Value.slice AS2 nS2 cS2,Value.slice BS2 kS2 dS2,Value.int IntKind.i64 lS2,Value.int IntKind.i64 Y1],[Value.int IntKind.i64 o7,Value.slice A7 n7 c7,Value.slice B7 k7 d7,Value.int IntKind.i64 l7,Value.int IntKind.i64 h7],[Value.int IntKind.i64 o8,Value.slice A8 n8 c8,Value.slice B8 k8 d8,Value.int IntKind.i64 l8,Value.int IntKind.i64 h8],[Value.int IntKind.i64 3,Value.slice none 0 0,Value.slice (some ⟨Su.heap.size,0,none⟩) 3 3,Value.int IntKind.i64 0,Value.int IntKind.i64 0],[Value.int IntKind.i64 oS4,Value.slice AS4 nS4 cS4,Value.slice BS4 kS4 dS4,Value.int IntKind.i64 lS4,Value.int IntKind.i64 hS4]]) (cs:=#[Value.int IntKind.i64 oS1,Value.slice AS1 nS1 cS1,Value.slice BS1 kS1 dS1,Value.int IntKind.i64 lS1,Value.int IntKind.i64 hS1,Value.int IntKind.i64 oS2,Value.slice AS2 nS2 cS2,Value.slice BS2 kS2 dS2,Value.int IntKind.i64 lS2,Value.int IntKind.i64 Y1,Value.int IntKind.i64 o7,Value.slice A7 n7 c7,Value.slice B7 k7 d7,Value.int IntKind.i64 l7,Value.int IntKind.i64 h7,Value.int IntKind.i64 o8,Value.slice A8 n8 c8,Value.slice B8 k8 d8,Value.int IntKind.i64 l8,Value.int IntKind.i64 h8,Value.int IntKind.i64 3,Value.slice none 0 0,Value.slice (some ⟨Su.heap.size,0,none⟩) 3 3,Value.int IntKind.i64 0,Value.int IntKind.i64 0,Value.int IntKind.i64 oS4,Value.slice AS4 nS4 cS4,Value.slice BS4 kS4 dS4,Value.int IntKind.i64 lS4,Value.int IntKind.i64 hS4]) (e:=41) (n:=6) (c:=6) gJ rfl ⟨(kc.out.mono (by decide) (by decide)),(oX.out.mono (by decide) (by decide)),(P7.out.mono (by decide) (by decide)),(P8.out.mono (by decide) (by decide)),(Kg.out.mono (by decide) (by decide)),(PS4.out.mono (by decide) (by decide)),trivial⟩ rfl (by decide)
 have sP:Below w24.heap.size w24 w25:=by rw[<-Sw];exact (Below.refl _ _).alloc (Nat.le_refl _) _
 rw[Sw]at K6;have K6:=Lib.hid K6;have aec:=Lib.hid Sw;have R1:=Lib.hid (R1.out.later (af.aa sP));have R2:=Lib.hid (R2.out.later (af.aa sP));have R3:=Lib.hid (R3.out.later (af.aa sP));have kc:=Lib.hid (kc.out.later (af.aa sP));have oX:=Lib.hid (oX.out.later (af.aa sP));have P7:=Lib.hid (P7.out.later (af.aa sP));have P8:=Lib.hid (P8.out.later (af.aa sP));have Kg:=Lib.hid (Kg.out.later (af.aa sP));have PS4:=Lib.hid (PS4.out.later (af.aa sP));have aW:=Lib.hid (aW.out.trans (sP.mono aW.out.size));have gJ:b<w25.heap.size:=by have:=sP.size;omega
 clear Sw sP;go_wp2_with fail;rw[aec.out];clear aec;go_ret;exact ⟨_,rfl,K6.out,aW.out⟩
end
end Go.Proofs.YtdmoogjddmdmbaaGreatDoor
