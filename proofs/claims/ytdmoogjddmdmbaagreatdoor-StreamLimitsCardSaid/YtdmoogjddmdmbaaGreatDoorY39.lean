/- (scan.Finder).matches: the matches of a kind, given what Passes answers. · A scanner in memory; stream.advance as a plain function. · stream.margin, stream.advance: the walk through the choices of a kind in what is kept. · slices.Clone at bytes, numbers and matches; stream.copied. · stream.valid of a scanner that is valid; stream.New. · scan.Every, scan.All: the matches of all kinds in a text, in order. · scan.All of any library and text. -/
import Derived.Test.YtdmoogjddmdmbaaGreatDoorY36
import Derived.Test.YtdmoogjddmdmbaaGreatDoorY38
import Derived.Test.YtdmoogjddmdmbaaGreatDoorY16
import Derived.Test.YtdmoogjddmdmbaaGreatDoorY26
import Derived.Test.YtdmoogjddmdmbaaGreatDoorY25
import Derived.Test.YtdmoogjddmdmbaaGreatDoorY11
import Derived.Deep.RegionHeld3
import Derived.BigRegion
import Derived.Test.YtdmoogjddmdmbaaGreatDoorY07
import Derived.Test.YtdmoogjddmdmbaaGreatDoorY27
import Derived.Test.YtdmoogjddmdmbaaGreatDoorY28
namespace Go.Proofs.YtdmoogjddmdmbaaGreatDoor
set_option linter.unusedVariables false
set_option linter.unusedSimpArgs false
set_option maxRecDepth 100000
open Go.RowKit
def PassH (u:KC) (v:Value) (n:Nat) (p:Nat->Nat->Bool) (w:World):Prop:=∀W a z,Below w.heap.size w W->a<z->z<=n->Calls Tryz.prog 96 #[.agg #[.string u.nm, .int .i64 u.op, .slice u.a1 u.n1 u.c1, .slice u.a2 u.n2 u.c2, .int .i64 u.mn, .int .i64 u.mx, .bool u.wh, .int .i64 u.ck, .int .i64 u.en, .slice u.a3 u.n3 u.c3, .int .i64 u.nr],v, .int .i64 (a:Int), .int .i64 (z:Int)] W λe w'=>e = .returned (.bool (p a z))/\Below W.heap.size W w'
theorem fpasses_any (x:KC×M2) (v:Value) (n a z:Nat) (p:Nat->Nat->Bool) (w:World) (hp:PassH x.1 v n p w) (h1:a<z) (h2:z<=n) :
  Calls Tryz.prog 76 #[.agg #[.string x.1.nm, .int .i64 x.1.op, .slice x.1.a1 x.1.n1 x.1.c1, .slice x.1.a2 x.1.n2 x.1.c2, .int .i64 x.1.mn, .int .i64 x.1.mx, .bool x.1.wh, .int .i64 x.1.ck, .int .i64 x.1.en, .slice x.1.a3 x.1.n3 x.1.c3, .int .i64 x.1.nr, .slice x.2.a1 x.2.n1 x.2.c1, .slice x.2.a2 x.2.n2 x.2.c2],v, .int .i64 (a:Int), .int .i64 (z:Int)] w λe w'=>e = .returned (.bool (p a z))/\Below w.heap.size w w':=by
 have HP:=Lib.hid λW (hb:Below w.heap.size w W)=>hp W a z hb h1 h2;clear hp h1 h2
 go_enter Tryz.func76,Tryz.ntmps76
 go_wp2_with fail;refine calls_nm λW0 hW0=>?_;have hb0:Below w.heap.size w W0:=by rw[hW0];exact (Below.refl _ _).alloc (Nat.le_refl _) _
 have H0:=Lib.hid hb0;clear hW0 hb0;refine (HP.out W0 H0.out).mono ?_;rintro e w1 ⟨rfl,hb1⟩;have H1:=Lib.hid (H0.out.trans (hb1.mono H0.out.size));clear hb1;go_wp2_with fail;go_ret;exact ⟨rfl,H1.out⟩
theorem info_match:(Tryz.prog.info? 36).map (λi=>(i.zero,i.size,i.bytes))=some (some (.agg #[.int .i64 0, .int .i64 0, .int .i64 0]),3,24):=by kernel_rfl
def RnT (b:Nat) (l:List Mt) (w:World):Prop:=∃A c,w.heap[b]?=some (.cells #[.slice A l.length c] 31 (0,0))/\w.ownsRow (b+1) 36 3 (.slice A l.length c) l.length (rowF encT l)
structure MaB (x:KC×M2) (v:Value) (kd N:Nat) (w:World):Prop where
 b0:bxF x N w
 b1:w.heap[N+1]?=some (.cells #[v] 28 (0,0))
 b2:w.heap[N+2]?=some (.cells #[.int .i64 (kd:Int)] 3 (0,0))
def flT (p:Nat->Nat->Bool) (kd:Nat) (l:List (Nat×Nat)):List Mt:=mtK kd (l.filter λq=>p q.1 q.2)
def advL (m wait:Nat) (en:Bool) (cho:Nat->Option Nat) (p:Nat->Nat->Bool):Nat->Nat->List (Nat×Nat)×Nat
 | 0,a=>([],a)
 | f+1,a=>if m<=a\/(en=false/\m<a+wait) then ([],a) else match cho a with
  | none=>advL m wait en cho p f (a+1)
  | some t=>(if p a t then (a,t)::(advL m wait en cho p f t).1 else (advL m wait en cho p f t).1,(advL m wait en cho p f t).2)
def mtB (kd ba:Nat) (l:List (Nat×Nat)):List Mt:=l.map λq=>⟨kd,ba+q.1,ba+q.2⟩
structure ScS (B b:Nat) (tt ba:Nat) (K:List UInt8) (nx:List Nat) (ms:List Mt) (kv nv mv:Value) (w:World):Prop where
 box:w.heap[b]?=some (.cells #[.int .i64 (tt:Int), .int .i64 (ba:Int),kv,nv,mv] 51 (0,0))
 hb:B<=b
 k:OB 5 B kv K w
 n:OR 3 1 inC B nv nx w
 m:OR 36 3 encT B mv ms w
theorem ScS.lt {B b tt ba:Nat} {K:List UInt8} {nx:List Nat} {ms:List Mt} {kv nv mv:Value} {w:World} (h:ScS B b tt ba K nx ms kv nv mv w):b<w.heap.size:=(Array.getElem?_eq_some_iff.1 h.box).1
theorem ScS.later {B b tt ba:Nat} {K:List UInt8} {nx:List Nat} {ms:List Mt} {kv nv mv:Value} {w w':World} (h:ScS B b tt ba K nx ms kv nv mv w) (hb:Below w.heap.size w w'):ScS B b tt ba K nx ms kv nv mv w':=
 ⟨(hb.block _ h.lt).trans h.box,h.hb,own_same h.k λg hg=>hb.block g (h.k.lt g hg).2,OR.later h.n hb,OR.later h.m hb⟩
theorem ScS.cells {B b tt ba:Nat} {K:List UInt8} {nx:List Nat} {ms:List Mt} {kv nv mv:Value} {w:World} (h:ScS B b tt ba K nx ms kv nv mv w) :
  w.cell? ⟨b,0,none⟩=some (.int .i64 (tt:Int))/\w.cell? ⟨b,1,none⟩=some (.int .i64 (ba:Int))/\w.cell? ⟨b,2,none⟩=some kv/\w.cell? ⟨b,3,none⟩=some nv/\w.cell? ⟨b,4,none⟩=some mv:=by
 refine ⟨?_,?_,?_,?_,?_⟩ <;> (rw[cell_of_row _ _ _ _ _ _ h.box]; rfl)
theorem ScS.setN {B b tt ba:Nat} {K:List UInt8} {nx:List Nat} {ms:List Mt} {kv mv:Value} {g c:Nat} {w:World} (h:ScS B b tt ba K nx ms kv (.slice (some ⟨g,0,none⟩) nx.length c) mv w) (i v:Nat) (hi:i<nx.length) :
  ScS B b tt ba K (nx.set i v) ms kv (.slice (some ⟨g,0,none⟩) nx.length c) mv (w.setCell ⟨g,i,none⟩ (.int .i64 (v:Int)))/\Below B w (w.setCell ⟨g,i,none⟩ (.int .i64 (v:Int)))/\∀(k:Nat) (T:TypeId) (cs:Array Value) (mm:Nat×Nat),T≠3->w.heap[k]?=some (.cells cs T mm)->(w.setCell ⟨g,i,none⟩ (.int .i64 (v:Int))).heap[k]?=w.heap[k]?:=by
 obtain ⟨cg,mg,hg⟩:=own_type h.n g rfl;have hne:∀(k:Nat) (T:TypeId) (cs:Array Value) (mm:Nat×Nat),T≠3->w.heap[k]?=some (.cells cs T mm)->k≠g:=λk T cs mm hT hk e=>by
  subst e;rw[hg]at hk;injection hk with hk;injection hk with _ hk _;exact hT hk.symm
 have oth:∀k,k≠g->(w.setCell ⟨g,i,none⟩ (.int .i64 (v:Int))).heap[k]?=w.heap[k]?:=λk hk=>Below.heap_setCell _ _ _ _ (by dsimp only;omega)
 refine ⟨⟨(oth b (hne _ _ _ _ (by decide) h.box)).trans h.box,h.hb,own_same h.k λq hq=>?_,?_,own_same h.m λq hq=>?_⟩,(Below.refl _ _).setCell (p:=⟨g,i,none⟩) (h.n.lt g rfl).1 _,λk T cs mm hT hk=>oth k (hne k T cs mm hT hk)⟩
 .obtain ⟨cs,mm,hk⟩:=own_type h.k q hq;exact oth q (hne _ _ _ _ (by decide) hk)
 .have h9:=OR.setAt inC_E h.n i 0 hi (by decide) v (.int .i64 (v:Int)) rfl
  simpa using h9
 .obtain ⟨cs,mm,hk⟩:=own_type h.m q hq;exact oth q (hne _ _ _ _ (by decide) hk)
theorem ScS.app {B b tt ba:Nat} {K:List UInt8} {nx:List Nat} {ms:List Mt} {kv nv mv mv':Value} {w w9:World} (h:ScS B b tt ba K nx ms kv nv mv w) (x:Mt) (hg:w.grownBy w9 mv.ownBlock) (ho:OR 36 3 encT B mv' (ms++[x]) w9) :
  ScS B b tt ba K nx (ms++[x]) kv nv mv' (w9.setCell ⟨b,4,none⟩ mv')/\Below B w (w9.setCell ⟨b,4,none⟩ mv')/\∀(k:Nat) (T:TypeId) (cs:Array Value) (mm:Nat×Nat),T≠36->T≠51->w.heap[k]?=some (.cells cs T mm)->(w9.setCell ⟨b,4,none⟩ mv').heap[k]?=w.heap[k]?:=by
 have hne:∀(k:Nat) (T:TypeId) (cs:Array Value) (mm:Nat×Nat),T≠36->w.heap[k]?=some (.cells cs T mm)->w9.heap[k]?=w.heap[k]?:=λk T cs mm hT hk=>hg.block k (Array.getElem?_eq_some_iff.1 hk).1 λe=>by
  obtain ⟨cg,mg,h9⟩:=own_type h.m k e.symm;rw[h9]at hk;injection hk with hk;injection hk with _ hk _;exact hT hk.symm
 have oth:∀k,k≠b->(w9.setCell ⟨b,4,none⟩ mv').heap[k]?=w9.heap[k]?:=λk hk=>Below.heap_setCell _ _ _ _ (by dsimp only;omega)
 have hnb:∀(k:Nat) (T:TypeId) (cs:Array Value) (mm:Nat×Nat),T≠51->w.heap[k]?=some (.cells cs T mm)->k≠b:=λk T cs mm hT hk e=>by
  subst e;rw[h.box]at hk;injection hk with hk;injection hk with _ hk _;exact hT hk.symm
 have hbb:=(hne b _ _ _ (by decide) h.box).trans h.box
 have hB9:Below B w w9:=(Below.refl B w).grown hg (Nat.le_trans h.hb (Nat.le_of_lt h.lt)) λq hq=>(h.m.lt q hq).1;refine ⟨⟨?_,h.hb,own_same h.k λq hq=>?_,own_same h.n λq hq=>?_,own_same ho λq hq=>oth q λe=>?_⟩,hB9.setCell (p:=⟨b,4,none⟩) h.hb _,λk T cs mm h1 h2 hk=>(oth k (hnb k T cs mm h2 hk)).trans (hne k T cs mm h1 hk)⟩
 .have:=set_row3 hbb 4 mv';simpa using this
 .obtain ⟨cs,mm,hk⟩:=own_type h.k q hq;exact (oth q (hnb _ _ _ _ (by decide) hk)).trans (hne _ _ _ _ (by decide) hk)
 .obtain ⟨cs,mm,hk⟩:=own_type h.n q hq;exact (oth q (hnb _ _ _ _ (by decide) hk)).trans (hne _ _ _ _ (by decide) hk)
 .obtain ⟨cs,mm,hk⟩:=own_type ho q hq;subst e;rw[hbb]at hk;injection hk with hk;injection hk with _ hk _;exact absurd hk (by decide)
theorem margin_any (u:KC) (nr:Nat) (w:World) (h:u.nr=(nr:Int)):Calls Tryz.prog 43 #[.agg #[.string u.nm, .int .i64 u.op, .slice u.a1 u.n1 u.c1, .slice u.a2 u.n2 u.c2, .int .i64 u.mn, .int .i64 u.mx, .bool u.wh, .int .i64 u.ck, .int .i64 u.en, .slice u.a3 u.n3 u.c3, .int .i64 u.nr]] w λe w'=>e = .returned (.int .i64 ((max nr 1:Nat):Int))/\Below w.heap.size w w':=by
 have hm:max u.nr 1=((max nr 1:Nat):Int):=by omega
 clear h
 go_enter Tryz.func43,Tryz.ntmps43
 go_wp2_with fail;go_ret;exact ⟨rfl,(Below.refl _ _).alloc (Nat.le_refl _) _⟩
structure AdH (B:Nat) (x:KC×M2) (m:Mc) (nd:Nd) (p:Nat->Nat->Bool) (kv:Value) (K:List UInt8) (w0:World):Prop where
 mc:∀W,Below B w0 W->McIn W x.2.val m
 go:McGo m
 ndi:∀W,Below B w0 W->NdIn W nd x.1.pat
 vd:validF nd=0
 lg:longF nd<=1024
 ps:∀W,Below B w0 W->OB 5 B kv K W->PassH x.1 kv K.length p W
theorem advL_stop {m wait:Nat} {en:Bool} {cho:Nat->Option Nat} {p:Nat->Nat->Bool} {f a:Nat} (hf:m+1<=a+f) (ha:a<=m) (h:m<=a\/(en=false/\m<a+wait)):advL m wait en cho p f a=([],a):=by
 cases f with
 | zero=>omega
 | succ f=>rw[advL,if_pos h]
theorem advL_none {m wait:Nat} {en:Bool} {cho:Nat->Option Nat} {p:Nat->Nat->Bool} {f a:Nat} (hf:m+1<=a+f) (h:¬(m<=a\/(en=false/\m<a+wait))) (hc:cho a=none):∃f',f=f'+1/\advL m wait en cho p f a=advL m wait en cho p f' (a+1):=by
 cases f with
 | zero=>omega
 | succ f=>exact ⟨f,rfl,by rw[advL,if_neg h,hc]⟩
theorem advL_some {m wait:Nat} {en:Bool} {cho:Nat->Option Nat} {p:Nat->Nat->Bool} {f a t:Nat} (hf:m+1<=a+f) (h:¬(m<=a\/(en=false/\m<a+wait))) (hc:cho a=some t):∃f',f=f'+1/\advL m wait en cho p f a=(if p a t then (a,t)::(advL m wait en cho p f' t).1 else (advL m wait en cho p f' t).1,(advL m wait en cho p f' t).2):=by
 cases f with
 | zero=>omega
 | succ f=>exact ⟨f,rfl,by rw[advL,if_neg h,hc]⟩
theorem chF_bd {m:Mc} {wh:Bool} {bs:List Nat} {i t:Nat} (h:chF m wh bs i=some t):i<t/\t<=bs.length:=by
 unfold chF choF at h;have h1:=List.find?_some h;have h2:=List.mem_of_find?_eq_some h;rw[Bool.and_eq_true,decide_eq_true_eq]at h1;unfold clrF at h1;refine ⟨h1.1,?_⟩;have h3:=h1.2;rw[Bool.and_eq_true,Bool.and_eq_true,decide_eq_true_eq,decide_eq_true_eq]at h3;exact h3.1.2
structure AdI (B b tt ba N:Nat) (x:KC×M2) (K:List UInt8) (nx:List Nat) (ms:List Mt) (kv nv mv:Value) (w wr:World):Prop where
 s:ScS B b tt ba K nx ms kv nv mv wr
 bl:Below B w wr
 f:bxF x N wr
 u:bxU x.1 (N+1) wr
theorem AdI.later {B b tt ba N:Nat} {x:KC×M2} {K:List UInt8} {nx:List Nat} {ms:List Mt} {kv nv mv:Value} {w wr w':World} (h:AdI B b tt ba N x K nx ms kv nv mv w wr) (hb:Below wr.heap.size wr w'):AdI B b tt ba N x K nx ms kv nv mv w w':=
 ⟨h.s.later hb,h.bl.trans (hb.mono (Nat.le_trans h.s.hb (Nat.le_of_lt h.s.lt))),h.f.later hb,h.u.later hb⟩
theorem two_bx {w W:World} {a b:Array Value} {T U:TypeId} (h:W=(w.alloc (.cells a T)).alloc (.cells b U)):Below w.heap.size w W/\W.heap[w.heap.size]?=some (.cells a T (0,0))/\W.heap[w.heap.size+1]?=some (.cells b U (0,0)):=by
 have h1:=heap_alloc_new (w.alloc (.cells a T)) (.cells b U);have h2:(w.alloc (.cells a T)).heap.size=w.heap.size+1:=by simp
 rw[h2]at h1;subst h;exact ⟨((Below.refl _ _).alloc (Nat.le_refl _) _).alloc (by simp) _,(old_alloc (w.alloc (.cells a T)) _ w.heap.size (by simp)).trans (heap_alloc_new w _),h1⟩
theorem ScS.nxc {B b tt ba:Nat} {K:List UInt8} {nx:List Nat} {ms:List Mt} {kv mv:Value} {g n c:Nat} {w:World} (h:ScS B b tt ba K nx ms kv (.slice (some ⟨g,0,none⟩) n c) mv w) (i:Nat) (hi:i<nx.length):w.cell? ⟨g,i,none⟩=some (.int .i64 (nx[i]:Int))/\w.frozen? ⟨g,i,none⟩=false/\g<w.heap.size:=by
 obtain ⟨A',c',e,-,hor⟩:=h.n.cells inC_E;injection e with e1 _ _;rcases hor with h0 | ⟨g',e2,-,hg,hc⟩
 .rw[h0]at hi;cases hi
 .rw[e2]at e1;injection e1 with e1;injection e1 with e1 _ _;subst e1;have:=hc i hi 0 (by decide)
  rw[Nat.mul_one,Nat.add_zero]at this;exact ⟨this.1,this.2,hg⟩
theorem AdI.setN {B b tt ba N:Nat} {x:KC×M2} {K:List UInt8} {nx:List Nat} {ms:List Mt} {kv mv:Value} {g n c:Nat} {w wr:World} (h:AdI B b tt ba N x K nx ms kv (.slice (some ⟨g,0,none⟩) n c) mv w wr) (hn:nx.length=n) (i v:Nat) (hi:i<nx.length):AdI B b tt ba N x K (nx.set i v) ms kv (.slice (some ⟨g,0,none⟩) n c) mv w (wr.setCell ⟨g,i,none⟩ (.int .i64 (v:Int))):=by
 subst hn;obtain ⟨h1,h2,h3⟩:=h.s.setN i v hi;exact ⟨h1,h.bl.trans h2,(h3 _ _ _ _ (by decide) h.f).trans h.f,(h3 _ _ _ _ (by decide) h.u).trans h.u⟩
theorem AdI.app {B b tt ba N:Nat} {x:KC×M2} {K:List UInt8} {nx:List Nat} {ms:List Mt} {kv nv mv mv':Value} {w wr w9:World} (h:AdI B b tt ba N x K nx ms kv nv mv w wr) (y:Mt) (hg:wr.grownBy w9 mv.ownBlock) (ho:OR 36 3 encT B mv' (ms++[y]) w9):AdI B b tt ba N x K nx (ms++[y]) kv nv mv' w (w9.setCell ⟨b,4,none⟩ mv'):=by
 obtain ⟨h1,h2,h3⟩:=h.s.app y hg ho;exact ⟨h1,h.bl.trans h2,(h3 _ _ _ _ (by decide) (by decide) h.f).trans h.f,(h3 _ _ _ _ (by decide) (by decide) h.u).trans h.u⟩
def SgV (W:World) (mv:Value) (c:Nat) (w:World):Prop:=W.grownBy w mv.ownBlock/\(c=0->Below W.heap.size W w)
def factV (B b kd ba a t ba_a ba_t:Nat) (ms:List Mt) (mv:Value) (W:World):Nat->Nat->Value->World->Prop
 | _,0,x,_=>x = .pointer (some ⟨b,0,none⟩)
 | _,1,x,_=>x = .pointer (some ⟨b,0,none⟩)
 | _,2,x,_=>x = .pointer (some ⟨b,0,none⟩)
 | _,3,x,_=>x = .pointer (some ⟨b,4,none⟩)
 | _,4,x,_=>x=mv
 | _,5,x,_=>x = .int .i64 (kd:Int)
 | _,6,x,_=>x = .pointer (some ⟨b,0,none⟩)
 | _,7,x,_=>x = .pointer (some ⟨b,0,none⟩)
 | _,8,x,_=>x = .pointer (some ⟨b,1,none⟩)
 | _,9,x,_=>x = .int .i64 (ba:Int)
 | _,10,x,_=>x = .int .i64 (a:Int)
 | _,11,x,_=>x = .int .i64 (ba_a:Int)
 | _,12,x,_=>x = .pointer (some ⟨b,0,none⟩)
 | _,13,x,_=>x = .pointer (some ⟨b,0,none⟩)
 | _,14,x,_=>x = .pointer (some ⟨b,1,none⟩)
 | _,15,x,_=>x = .int .i64 (ba:Int)
 | _,16,x,_=>x = .int .i64 (t:Int)
 | _,17,x,_=>x = .int .i64 (ba_t:Int)
 | _,18,x,_=>x = .agg #[.int .i64 (kd:Int), .int .i64 (ba_a:Int), .int .i64 (ba_t:Int)]
 | c,19,x,w=>c<=0->∃g,x = .slice (some ⟨g,0,none⟩) 1 1/\W.heap.size<=g/\w.heap[g]?=some (.cells #[.int .i64 (kd:Int), .int .i64 (ba_a:Int), .int .i64 (ba_t:Int)] 36 (0,0))
 | c,20,x,w=>c=1->∃A' c',x = .slice A' (ms.length+1) c'/\OR 36 3 encT B x (ms++[⟨kd,ba_a,ba_t⟩]) w
 | _,21,x,_=>x = .pointer (some ⟨b,0,none⟩)
 | _,22,x,_=>x = .pointer (some ⟨b,4,none⟩)
 | _,_,_,_=>True
theorem factV_free {B b kd ba a t ba_a ba_t:Nat} {ms:List Mt} {mv:Value} {W:World} {c j:Nat} {x:Value} {w w':World} (hb:Below w.heap.size w w') (h:factV B b kd ba a t ba_a ba_t ms mv W c j x w):factV B b kd ba a t ba_a ba_t ms mv W c j x w':=by
 unfold factV at h|-
 split at h
 all_goals first
  | exact h
  | (intro hc
     obtain ⟨g,h1,hg,hh⟩:=h (by omega)
     exact ⟨g,h1,hg,(hb.block g (Array.getElem?_eq_some_iff.1 hh).1).trans hh⟩)
  | (intro hc
     obtain ⟨A',c',h1,ho⟩:=h hc;exact ⟨A',c',h1,OR.later ho hb⟩)
theorem factV_app {B b kd ba a t ba_a ba_t:Nat} {ms:List Mt} {mv:Value} {W:World} {j:Nat} {x:Value} {w w':World} (hj:j≠20) (h:factV B b kd ba a t ba_a ba_t ms mv W 0 j x w):factV B b kd ba a t ba_a ba_t ms mv W 1 j x w':=by
 unfold factV at h|-
 split at h
 all_goals first
  | exact h
  | exact absurd rfl hj
  | (intro hc;exact absurd hc (by decide))
set_option maxHeartbeats 16000000 in
theorem advance_any (B b tt ba kd nr:Nat) (K:List UInt8) (nx:List Nat) (ms:List Mt) (kv nv mv:Value) (x:KC×M2) (m:Mc) (nd:Nd) (p:Nat->Nat->Bool) (en:Bool) (w:World) (hnr:x.1.nr=(nr:Int)) (hs:ScS B b tt ba K nx ms kv nv mv w) (hA:AdH B x m nd p kv K w) (hkd:kd<nx.length) (hKl:K.length<=70000) (hba:ba<=70000) (hn1:nx[kd]<=ba+K.length) (hnl:nx.length<=32) (hms:ms.length<=200000) (hn64:nr<=64) :
  Calls Tryz.prog 42 #[.pointer (some ⟨b,0,none⟩), .agg #[.string x.1.nm, .int .i64 x.1.op, .slice x.1.a1 x.1.n1 x.1.c1, .slice x.1.a2 x.1.n2 x.1.c2, .int .i64 x.1.mn, .int .i64 x.1.mx, .bool x.1.wh, .int .i64 x.1.ck, .int .i64 x.1.en, .slice x.1.a3 x.1.n3 x.1.c3, .int .i64 x.1.nr, .slice x.2.a1 x.2.n1 x.2.c1, .slice x.2.a2 x.2.n2 x.2.c2], .agg #[.string x.1.nm, .int .i64 x.1.op, .slice x.1.a1 x.1.n1 x.1.c1, .slice x.1.a2 x.1.n2 x.1.c2, .int .i64 x.1.mn, .int .i64 x.1.mx, .bool x.1.wh, .int .i64 x.1.ck, .int .i64 x.1.en, .slice x.1.a3 x.1.n3 x.1.c3, .int .i64 x.1.nr], .int .i64 (kd:Int), .bool en] w λe w'=>(∃v,e = .returned v)/\∃mv',ScS B b tt ba K (nx.set kd (ba+(advL K.length (longF nd+max nr 1) en (chF m x.1.wh (K.map UInt8.toNat)) p (K.length+1) (nx[kd]-ba)).2)) (ms++mtB kd ba (advL K.length (longF nd+max nr 1) en (chF m x.1.wh (K.map UInt8.toNat)) p (K.length+1) (nx[kd]-ba)).1) kv nv mv' w'/\Below B w w':=by
 obtain ⟨R,hR⟩:∃R,advL K.length (longF nd+max nr 1) en (chF m x.1.wh (K.map UInt8.toNat)) p (K.length+1) (nx[kd]-ba)=R:=⟨_,rfl⟩;rw[hR];obtain ⟨cho,hcho⟩:∃c,chF m x.1.wh (K.map UInt8.toNat)=c:=⟨_,rfl⟩;have hcb:∀i t,cho i=some t->i<t/\t<=K.length:=λi t h=>by rw[<-hcho]at h;have:=chF_bd h;rwa [List.length_map]at this
 obtain ⟨q0,hq0⟩:∃q,nx[kd]=q:=⟨_,rfl⟩;rw[hcho,hq0]at hR;rw[hq0]at hn1;obtain ⟨Lg,hLg⟩:∃L,longF nd=L:=⟨_,rfl⟩;obtain ⟨mr,hmr⟩:∃L,max nr 1=L:=⟨_,rfl⟩;rw[hLg,hmr]at hR;have hLl:=hA.lg;rw[hLg]at hLl;have hmr64:mr<=64:=by omega
 obtain ⟨Ak,ck,rfl,hck,-⟩:=OBs.form hs.k;obtain ⟨An,cn,rfl,hcn1,hcn2⟩:=own_form (show w.ownsRow _ _ _ _ _ _ from hs.n);obtain ⟨g,rfl⟩:∃g,An=some ⟨g,0,none⟩:=by
  rcases hs.n.2 with ⟨-,h0⟩ | ⟨g',cap,cur,e,-⟩
  .omega
  .injection e with e _ _;exact ⟨g',e⟩
 obtain ⟨nK,hnK⟩:∃n,K.length=n:=⟨_,rfl⟩;obtain ⟨nN,hnN⟩:∃n,nx.length=n:=⟨_,rfl⟩;have hBw:B<=w.heap.size:=Nat.le_trans hs.hb (Nat.le_of_lt hs.lt);have HCHO:=Lib.hid λ(W:World) (a:Nat) (hb:Below B w W) (hk:OB 5 B (.slice Ak K.length ck) K W) (ha:a<=K.length)=>(by
  have h:=choice_any x m Ak K.length ck a (K.map UInt8.toNat) W (hA.mc W hb) hA.go (OBs.reads hk) (by simp) (by omega) (λb hb=>by obtain ⟨y,-,rfl⟩:=List.mem_map.1 hb;exact y.toNat_lt) ha
  rwa [hcho]at h)
 have HPS:=Lib.hid λ(W:World) (a t:Nat) (hb:Below B w W) (hk:OB 5 B (.slice Ak K.length ck) K W) (h1:a<t) (h2:t<=K.length)=>fpasses_any x (.slice Ak K.length ck) K.length a t p W (hA.ps W hb hk) h1 h2;have HLO:=Lib.hid λ(W:World) (hb:Below B w W)=>(by
  have h:=plong_any nd x.1.pat W (hA.ndi W hb) hA.vd;rwa [hLg]at h)
 have HMA:=Lib.hid λ(W:World)=>(by
  have h:=margin_any x.1 nr W hnr;rwa [hmr]at h)
 rw[hnK]at hcb hR hKl hn1 hck HCHO HPS|-;rw[hnN]at hnl hcn1|-;have hkd':kd<nN:=by omega
 have HS:=Lib.hid (And.intro hs (And.intro hnN (And.intro hnK (And.intro hq0 (And.intro hBw hkd)))));have HCB:=Lib.hid hcb;have HR:=Lib.hid hR;clear hs hA hnr hcho hcb hq0 hLg hmr hnK hnN hR hBw
 go_enter Tryz.func42,Tryz.ntmps42
 go_upto_region 1 with fail
 refine wp_nm λW hW=>?_;obtain ⟨hbW,hF,hU⟩:=two_bx hW;have hI:AdI B b tt ba w.heap.size x K nx ms (.slice Ak nK ck) (.slice (some ⟨g,0,none⟩) nN cn) mv w W:=⟨by have h:=HS.out.1.later hbW;rw[HS.out.2.1,HS.out.2.2.1]at h;exact h,hbW.mono HS.out.2.2.2.2.1,hF,hU⟩
 have HI:=Lib.hid hI;clear hW hbW hF hU hI;obtain ⟨N,hN⟩:∃N,w.heap.size=N:=⟨_,rfl⟩;rw[hN]at HI|-;have HN:=Lib.hid hN;clear hN;have hdc:=λd:BelT W.heap.size W=>(HI.out.later d.property).u.cells;have hd0:=λd:BelT W.heap.size W=>(hdc d).1.1;have hd1:=λd:BelT W.heap.size W=>(hdc d).1.2.1;have hd2:=λd:BelT W.heap.size W=>(hdc d).1.2.2.1;have hd3:=λd:BelT W.heap.size W=>(hdc d).1.2.2.2.1;have hd4:=λd:BelT W.heap.size W=>(hdc d).1.2.2.2.2.1;have hd5:=λd:BelT W.heap.size W=>(hdc d).1.2.2.2.2.2;have hd6:=λd:BelT W.heap.size W=>(hdc d).2.1.1;have hd7:=λd:BelT W.heap.size W=>(hdc d).2.1.2.1;have hd8:=λd:BelT W.heap.size W=>(hdc d).2.1.2.2.1;have hd9:=λd:BelT W.heap.size W=>(hdc d).2.1.2.2.2.1;have hda:=λd:BelT W.heap.size W=>(hdc d).2.1.2.2.2.2;have hdl:=λd:BelT W.heap.size W=>(hdc d).2.2;have HA1:=Lib.hid λd:BelT W.heap.size W=>HLO.out d.val (HI.out.later d.property).bl;have HA2:=Lib.hid λd:BelT W.heap.size W=>HMA.out d.val;clear hdc;obtain ⟨wt,hwt⟩:∃wt,Lg+mr=wt:=⟨_,rfl⟩;have hw10:IntKind.i64.wrap ((Lg:Int)+(mr:Int))=(wt:Int):=by rw[IntWalk.i64_in _ (by omega)];omega
 refine wp_region_below (Below.refl W.heap.size W) (by kernel_rfl) (by kernel_rfl) ?_
 repeat (go_big_quiet_step (fail))
 go_big_quiet_step ((go_at_call 74;exact Calls.below_of (Nat.le_refl _) (HA1.out _)))
 repeat (go_big_quiet_step (fail))
 go_big_quiet_step ((go_at_call 43;exact Calls.below_of (Nat.le_refl _) (HA2.out _)))
 repeat (go_big_quiet_step (fail))
 refine wpQuiet_nil ?_;intro w1 hw';have hI1:AdI B b tt ba N x K nx ms (.slice Ak nK ck) (.slice (some ⟨g,0,none⟩) nN cn) mv w w1:=by obtain ⟨d9,rfl⟩:=hw';exact HI.out.later d9.property
 have HI1:=Lib.hid hI1;clear hw' hd0 hd1 hd2 hd3 hd4 hd5 hd6 hd7 hd8 hd9 hda hdl hI1 hw10 HA1 HA2;obtain ⟨c0,c1,c2,c3,c4⟩:=HI1.out.s.cells;have lb:=HI1.out.s.lt;have hnx0:=HI1.out.s.nxc kd hkd;rw[HS.out.2.2.2.1]at hnx0;obtain ⟨e0,f0,lg⟩:=hnx0;obtain ⟨a0,ha0⟩:∃a0,q0-ba=a0:=⟨_,rfl⟩;have hw2:IntKind.i64.wrap ((q0:Int) - (ba:Int))=(q0:Int) - (ba:Int):=IntWalk.i64_in _ (by omega)
 have hmx:max ((q0:Int) - (ba:Int)) 0=(a0:Int):=by omega
 have hdk:decide ((kd:Int)<(nN:Int))=true:=decide_eq_true (by omega)
 have hdk2:decide (kd<nN)=true:=decide_eq_true hkd'
 go_upto_region 2 with fail
 go_region
 clear c0 c1 c2 c3 c4 lb e0 f0 lg hw2 hmx;go_wp2_with fail
 go_loopw [11] (λiv wr=>∃(a f:Nat) (acc:List (Nat×Nat)) (q:Nat) (mv1:Value),iv = .int .i64 (a:Int)/\a<=nK/\nK+1<=a+f/\Hid (R=(acc++(advL nK wt en cho p f a).1,(advL nK wt en cho p f a).2)/\acc.length<=a)/\Hid (AdI B b tt ba N x K (nx.set kd q) (ms++mtB kd ba acc) (.slice Ak nK ck) (.slice (some ⟨g,0,none⟩) nN cn) mv1 w wr)) (λiv _=>(nK+1-intOf iv).toNat)
 case atStart=>
  refine ⟨a0,nK+1,[],nx[kd],mv,rfl,by omega,by omega,⟨?_,Nat.zero_le _⟩,?_⟩
  .have h:=HR.out;rw[ha0,hwt]at h;rw[h,List.nil_append]
  .rw[List.set_getElem_self,mtB,List.map_nil,List.append_nil];exact HI1.out.later (Below.refl _ _).drew
 case round=>
  obtain ⟨a,f,acc,q,mv1,rfl,ha,hf,HRel,HJ⟩:=hrel;obtain ⟨c0,c1,c2,c3,c4⟩:=HJ.out.s.cells;have lb:=HJ.out.s.lt;have hkl:kd<(nx.set kd q).length:=by rw[List.length_set];exact hkd
  obtain ⟨e0,f0,lg⟩:=HJ.out.s.nxc kd hkl;obtain ⟨ba_a,hba_a⟩:∃z,ba+a=z:=⟨_,rfl⟩;have hw3:IntKind.i64.wrap ((ba:Int)+(a:Int))=(ba_a:Int):=by rw[IntWalk.i64_in _ (by omega)];omega
  go_upto_region 3 with fail
  go_region
  have hj:AdI B b tt ba N x K (nx.set kd ba_a) (ms++mtB kd ba acc) (.slice Ak nK ck) (.slice (some ⟨g,0,none⟩) nN cn) mv1 w (wr.setCell ⟨g,kd,none⟩ (.int .i64 (ba_a:Int))).drew:=by
   have h:=HJ.out.setN (by rw[List.length_set];exact HS.out.2.1) kd ba_a hkl
   rw[List.set_set]at h;exact h.later (Below.refl _ _).drew
  obtain ⟨W,hW⟩:∃W,(wr.setCell ⟨g,kd,none⟩ (.int .i64 (ba_a:Int))).drew=W:=⟨_,rfl⟩;rw[hW]at hj|-;have HJ3:=Lib.hid hj;clear hW hj c0 c1 c2 c3 c4 lb e0 f0 lg HJ hw3;obtain ⟨c0,c1,c2,c3,c4⟩:=HJ3.out.s.cells;have lb:=HJ3.out.s.lt;obtain ⟨aw,haw⟩:∃z,a+wt=z:=⟨_,rfl⟩;have hw4:IntKind.i64.wrap ((a:Int)+(wt:Int))=(aw:Int):=by rw[IntWalk.i64_in _ (by omega)];omega
  have hstop:(nK<=a\/(en=false/\nK<aw))\/(¬nK<=a/\(en=true\/¬nK<aw)):=by
   cases en
   .by_cases h1:nK<=a
    .exact .inl (.inl h1)
    .by_cases h2:nK<aw
     .exact .inl (.inr ⟨rfl,h2⟩)
     .exact .inr ⟨h1, .inr h2⟩
   .by_cases h1:nK<=a
    .exact .inl (.inl h1)
    .exact .inr ⟨h1, .inl rfl⟩
  rcases hstop with hst | ⟨hng,hst⟩
  .have hend:R.2=a/\R.1=acc:=by
    have h:=HRel.out.1;rw[advL_stop hf ha (by rw[haw];exact hst),List.append_nil]at h
    rw[h];exact ⟨rfl,rfl⟩
   have HE:=Lib.hid hend;have HFin:=Lib.hid (show ScS B b tt ba K (nx.set kd (ba+R.2)) (ms++mtB kd ba R.1) (.slice Ak nK ck) (.slice (some ⟨g,0,none⟩) nN cn) mv1 W/\Below B w W from by rw[hend.1,hend.2,hba_a];exact ⟨HJ3.out.s,HJ3.out.bl⟩)
   clear hend;rcases hst with h1 | ⟨rfl,h2⟩
   .have hd1:decide ((nK:Int)<=(a:Int))=true:=decide_eq_true (by omega)
    have hd2:decide (nK<=a)=true:=decide_eq_true h1;go_wp2_with fail
    (try simp only[Exit.inBlock,Exit.then]);refine bodyPost_ret (results_none rfl _ _ _) rfl ?_
    exact ⟨⟨_,rfl⟩,_,HFin.out.1,HFin.out.2⟩
   .by_cases h1:nK<=a
    .have hd1:decide ((nK:Int)<=(a:Int))=true:=decide_eq_true (by omega)
     have hd2:decide (nK<=a)=true:=decide_eq_true h1;go_wp2_with fail
     (try simp only[Exit.inBlock,Exit.then]);refine bodyPost_ret (results_none rfl _ _ _) rfl ?_
     exact ⟨⟨_,rfl⟩,_,HFin.out.1,HFin.out.2⟩
    .have hd1:decide ((nK:Int)<=(a:Int))=false:=decide_eq_false (by omega)
     have hd2:decide (nK<=a)=false:=decide_eq_false h1;have hd3:decide ((nK:Int)<(aw:Int))=true:=decide_eq_true (by omega)
     have hd4:decide (nK<aw)=true:=decide_eq_true h2;go_wp2_with fail
     (try simp only[Exit.inBlock,Exit.then]);refine bodyPost_ret (results_none rfl _ _ _) rfl ?_
     exact ⟨⟨_,rfl⟩,_,HFin.out.1,HFin.out.2⟩
  .have hgo:¬(nK<=a\/(en=false/\nK<a+wt)):=by
    rw[haw];rintro (h | ⟨h1,h2⟩)
    .exact hng h
    .rcases hst with h | h
     .rw[h1]at h;cases h
     .exact h h2
   have HGO:=Lib.hid hgo;have hd1:decide ((nK:Int)<=(a:Int))=false:=decide_eq_false (by omega)
   have hd2:decide (nK<=a)=false:=decide_eq_false hng;obtain ⟨z3,hd3⟩:∃z,decide ((nK:Int)<(aw:Int))=z:=⟨_,rfl⟩;have hd4:decide (nK<aw)=z3:=by rw[<-hd3];exact decide_eq_decide.2 (by omega)
   have hz:en=false->z3=false:=λhe=>by
    rcases hst with h | h
    .rw[he]at h;cases h
    .rw[<-hd4];exact decide_eq_false h
   clear hgo hst
   cases en
   all_goals
    try (have hzz:=hz rfl;subst hzz)
    clear hz
    go_upto_region 5 with fail
    have hdf:=λd:BelT W.heap.size W=>(HJ3.out.later d.property).f.cells;have hf0:=λd:BelT W.heap.size W=>(hdf d).1.1;have hf1:=λd:BelT W.heap.size W=>(hdf d).1.2.1;have hf2:=λd:BelT W.heap.size W=>(hdf d).1.2.2.1;have hf3:=λd:BelT W.heap.size W=>(hdf d).1.2.2.2.1;have hf4:=λd:BelT W.heap.size W=>(hdf d).1.2.2.2.2.1;have hf5:=λd:BelT W.heap.size W=>(hdf d).1.2.2.2.2.2;have hf6:=λd:BelT W.heap.size W=>(hdf d).2.1.1;have hf7:=λd:BelT W.heap.size W=>(hdf d).2.1.2.1;have hf8:=λd:BelT W.heap.size W=>(hdf d).2.1.2.2.1;have hf9:=λd:BelT W.heap.size W=>(hdf d).2.1.2.2.2.1;have hfa:=λd:BelT W.heap.size W=>(hdf d).2.1.2.2.2.2;have hfb:=λd:BelT W.heap.size W=>(hdf d).2.2.1.1;have hfc:=λd:BelT W.heap.size W=>(hdf d).2.2.1.2;have hfl:=λd:BelT W.heap.size W=>(hdf d).2.2.2;have hfk:=λd:BelT W.heap.size W=>(HJ3.out.later d.property).s.cells.2.2.1;have hflb:=λd:BelT W.heap.size W=>(HJ3.out.later d.property).s.lt;have HC:=Lib.hid λd:BelT W.heap.size W=>HCHO.out d.val a (HJ3.out.later d.property).bl (by exact (HJ3.out.later d.property).s.k) ha
    clear hdf c0 c1 c2 c3 c4 lb
    cases hca:cho a with
    | none=>
     rw[hca]at HC;simp only[Option.getD_none,Option.isSome_none]at HC;refine wp_region_below (Below.refl W.heap.size W) (by kernel_rfl) (by kernel_rfl) ?_
     repeat (go_big_quiet_step (fail))
     go_big_quiet_step ((go_at_call 75;exact Calls.below_of (Nat.le_refl _) (HC.out _)))
     repeat (go_big_quiet_step (fail))
     refine wpQuiet_nil ?_;intro w5 hw';have hj5:=(show AdI B b tt ba N x K (nx.set kd ba_a) (ms++mtB kd ba acc) (.slice Ak nK ck) (.slice (some ⟨g,0,none⟩) nN cn) mv1 w w5 by obtain ⟨d9,rfl⟩:=hw';exact HJ3.out.later d9.property)
     have HJ5:=Lib.hid hj5;have hw6:IntKind.i64.wrap ((a:Int)+1)=((a+1:Nat):Int):=by rw[IntWalk.i64_in _ (by omega)];omega
     clear hw' hf0 hf1 hf2 hf3 hf4 hf5 hf6 hf7 hf8 hf9 hfa hfb hfc hfl hfk hflb hj5;obtain ⟨f',rfl,hre⟩:=advL_none (p:=p) hf HGO.out hca;go_wp2_with fail;refine ⟨⟨a+1,f',acc,ba_a,mv1,rfl,by omega,by omega,⟨?_,by have:=HRel.out.2;omega⟩,HJ5.out⟩,by simp[intOf];omega⟩
     rw[<-hre];exact HRel.out.1
    | some t=>
     obtain ⟨hat,htn⟩:=HCB.out a t hca;rw[hca]at HC;simp only[Option.getD_some,Option.isSome_some]at HC;refine wp_region_below (Below.refl W.heap.size W) (by kernel_rfl) (by kernel_rfl) ?_
     repeat (go_big_quiet_step (fail))
     go_big_quiet_step ((go_at_call 75;exact Calls.below_of (Nat.le_refl _) (HC.out _)))
     repeat (go_big_quiet_step (fail))
     refine wpQuiet_nil ?_;intro w5 hw';have hj5:=(show AdI B b tt ba N x K (nx.set kd ba_a) (ms++mtB kd ba acc) (.slice Ak nK ck) (.slice (some ⟨g,0,none⟩) nN cn) mv1 w w5 by obtain ⟨d9,rfl⟩:=hw';exact HJ3.out.later d9.property)
     have HJ5:=Lib.hid hj5;clear hw' hf0 hf1 hf2 hf3 hf4 hf5 hf6 hf7 hf8 hf9 hfa hfb hfc hfl hfk hflb hj5;obtain ⟨f',rfl,hre⟩:=advL_some (p:=p) hf HGO.out hca;have HRE:=Lib.hid hre;clear hre
     go_upto_region 8 with fail
     have hdg:=λd:BelT w5.heap.size w5=>(HJ5.out.later d.property).f.cells;have hg0:=λd:BelT w5.heap.size w5=>(hdg d).1.1;have hg1:=λd:BelT w5.heap.size w5=>(hdg d).1.2.1;have hg2:=λd:BelT w5.heap.size w5=>(hdg d).1.2.2.1;have hg3:=λd:BelT w5.heap.size w5=>(hdg d).1.2.2.2.1;have hg4:=λd:BelT w5.heap.size w5=>(hdg d).1.2.2.2.2.1;have hg5:=λd:BelT w5.heap.size w5=>(hdg d).1.2.2.2.2.2;have hg6:=λd:BelT w5.heap.size w5=>(hdg d).2.1.1;have hg7:=λd:BelT w5.heap.size w5=>(hdg d).2.1.2.1;have hg8:=λd:BelT w5.heap.size w5=>(hdg d).2.1.2.2.1;have hg9:=λd:BelT w5.heap.size w5=>(hdg d).2.1.2.2.2.1;have hga:=λd:BelT w5.heap.size w5=>(hdg d).2.1.2.2.2.2;have hgb:=λd:BelT w5.heap.size w5=>(hdg d).2.2.1.1;have hgc:=λd:BelT w5.heap.size w5=>(hdg d).2.2.1.2;have hgl:=λd:BelT w5.heap.size w5=>(hdg d).2.2.2;have hgk:=λd:BelT w5.heap.size w5=>(HJ5.out.later d.property).s.cells.2.2.1;have hglb:=λd:BelT w5.heap.size w5=>(HJ5.out.later d.property).s.lt;have HP:=Lib.hid λd:BelT w5.heap.size w5=>HPS.out d.val a t (HJ5.out.later d.property).bl (HJ5.out.later d.property).s.k hat htn;obtain ⟨pz,hpz⟩:∃z,p a t=z:=⟨_,rfl⟩;rw[hpz]at HP;have HPZ:=Lib.hid hpz;clear hdg hpz;refine wp_region_below (Below.refl w5.heap.size w5) (by kernel_rfl) (by kernel_rfl) ?_
     repeat (go_big_quiet_step (fail))
     go_big_quiet_step ((go_at_call 76;exact Calls.below_of (Nat.le_refl _) (HP.out _)))
     repeat (go_big_quiet_step (fail))
     refine wpQuiet_nil ?_;intro W8 hw';have hj8:=(show AdI B b tt ba N x K (nx.set kd ba_a) (ms++mtB kd ba acc) (.slice Ak nK ck) (.slice (some ⟨g,0,none⟩) nN cn) mv1 w W8 by obtain ⟨d9,rfl⟩:=hw';exact HJ5.out.later d9.property)
     have HJ8:=Lib.hid hj8;clear hw' hg0 hg1 hg2 hg3 hg4 hg5 hg6 hg7 hg8 hg9 hga hgb hgc hgl hgk hglb hj8 HP
     cases pz with
     | false=>
      go_wp2_with fail;refine ⟨⟨t,f',acc,ba_a,mv1,rfl,htn,by omega,⟨?_,by have:=HRel.out.2;omega⟩,HJ8.out⟩,by simp[intOf];omega⟩
      have h:=HRel.out.1;rw[HRE.out,if_neg (by rw[HPZ.out];decide)]at h
      exact h
     | true=>
      obtain ⟨ms9,hms9⟩:∃z,ms++mtB kd ba acc=z:=⟨_,rfl⟩;obtain ⟨mv9,hmv9⟩:∃z,mv1=z:=⟨_,rfl⟩;obtain ⟨ba_t,hba_t⟩:∃z,ba+t=z:=⟨_,rfl⟩;obtain ⟨ie,hie,hk0,hk1,hk2⟩:=info_parts info_match;have hw9:IntKind.i64.wrap ((ba:Int)+(t:Int))=(ba_t:Int):=by rw[IntWalk.i64_in _ (by omega)];omega
      have hw9a:IntKind.i64.wrap ((ba:Int)+(a:Int))=(ba_a:Int):=by rw[IntWalk.i64_in _ (by omega)];omega
      have HWR:=Lib.hid (And.intro hw9a hw9);rw[hms9,hmv9]at HJ8;have hl9:ms9.length<=270000:=by rw[<-hms9,List.length_append,mtB,List.length_map];have:=HRel.out.2;omega
      have HOW:=Lib.hid (And.intro HJ8.out.s.m (And.intro hl9 (Nat.le_trans HJ8.out.s.hb (Nat.le_of_lt HJ8.out.s.lt))));have HBC:=Lib.hid (λ(wz:World) (hS:W8.grownBy wz mv9.ownBlock)=>(by
       have hbb:=hS.block b HJ8.out.s.lt (λe=>by
        obtain ⟨cg,mg,h9⟩:=own_type HJ8.out.s.m b e.symm;rw[HJ8.out.s.box]at h9;injection h9 with h9;injection h9 with _ h9 _;exact absurd h9 (by decide))
       have hbx:=hbb.trans HJ8.out.s.box;exact ⟨⟨by rw[cell_of_row _ _ _ _ _ _ hbx];rfl,by rw[cell_of_row _ _ _ _ _ _ hbx];rfl,by rw[cell_of_row _ _ _ _ _ _ hbx];rfl,by rw[cell_of_row _ _ _ _ _ _ hbx];rfl,by rw[cell_of_row _ _ _ _ _ _ hbx];rfl⟩,(Array.getElem?_eq_some_iff.1 hbx).1,by simp[World.frozen?,hbx]⟩:(wz.cell? ⟨b,0,none⟩=some (.int .i64 (tt:Int))/\wz.cell? ⟨b,1,none⟩=some (.int .i64 (ba:Int))/\wz.cell? ⟨b,2,none⟩=some (.slice Ak nK ck)/\wz.cell? ⟨b,3,none⟩=some (.slice (some ⟨g,0,none⟩) nN cn)/\wz.cell? ⟨b,4,none⟩=some mv9)/\b<wz.heap.size/\wz.frozen? ⟨b,4,none⟩=false))
      have hS0:SgV W8 mv9 0 W8.drew:=⟨World.grownBy.but (show W8.grownBy W8.drew none from ⟨rfl,rfl,rfl,Nat.le_refl _,λ_ _ _=>rfl⟩) _,λ_=>(Below.refl _ _).drew⟩;clear hw9 hw9a
      go_upto_region 9 with fail
      obtain ⟨W,hWW⟩:∃z,W8=z:=⟨_,rfl⟩;rw[hWW]at HJ8 HOW HBC hS0|-;clear hWW;refine wp_region_chain 23 [20] (factV B b kd ba a t ba_a ba_t ms9 mv9 W) (SgV W mv9) (by kernel_rfl) (by kernel_rfl) (by kernel_rfl) (by kernel_rfl) (by kernel_rfl) (by kernel_rfl) (by decide) hS0 ?_ ?_
      .simp only[pq4,pq5];refine HSteps.pure (by decide) ?_ (HSteps.pure (by decide) ?_ (HSteps.pure (by decide) ?_ (HSteps.pure (by decide) ?_ (HSteps.pure (by decide) ?_ (HSteps.pure (by decide) ?_ (HSteps.pure (by decide) ?_ (HSteps.pure (by decide) ?_ (HSteps.pure (by decide) ?_ (HSteps.pure (by decide) ?_ (HSteps.pure (by decide) ?_ (HSteps.pure (by decide) ?_ (HSteps.pure (by decide) ?_ (HSteps.pure (by decide) ?_ (HSteps.pure (by decide) ?_ (HSteps.pure (by decide) ?_ (HSteps.pure (by decide) ?_ (HSteps.pure (by decide) ?_ (HSteps.pure (by decide) ?_ (HSteps.free (by decide) ?_ (HSteps.eff 0 rfl ?_ (HSteps.pure (by decide) ?_ (HSteps.pure (by decide) ?_ (HSteps.nil)))))))))))))))))))))))
       all_goals first | (with_reducible intro v wz c hlo hS hE K hK;simp only[putAll,Act.put,pq1,pq2,pq3,Nat.zero_add,Nat.reduceAdd,pq4,pq5]at hK|-) | (intro v wz hS hE K hK;simp only[putAll,Act.put,pq1,pq2,pq3,Nat.zero_add,Nat.reduceAdd,pq4,pq5]at hK|-)
       .have HX:=Lib.hid hS;clear hS hE hlo;go_wp2_with fail;exact hK.out _ rfl
       .have HX:=Lib.hid hS;clear hS hE hlo;go_wp2_with fail;exact hK.out _ rfl
       .have e1:v 1=_:=hE.1 rfl;rw[e1]at hK|-;have HX:=Lib.hid hS;clear hS hE hlo;go_wp2_with fail;exact hK.out _ rfl
       .have e2:v 2=_:=hE.1 rfl;rw[e2]at hK|-;have HX:=Lib.hid hS;clear hS hE hlo;go_wp2_with fail;exact hK.out _ rfl
       .have e3:v 3=_:=hE.1 rfl;rw[e3]at hK|-;obtain ⟨⟨c0,c1,c2,c3,c4⟩,lbz⟩:=HBC.out wz hS.1;have HX:=Lib.hid hS;clear hS hE hlo;go_wp2_with fail;exact hK.out _ rfl
       .have HX:=Lib.hid hS;clear hS hE hlo;go_wp2_with fail;exact hK.out _ rfl
       .have HX:=Lib.hid hS;clear hS hE hlo;go_wp2_with fail;exact hK.out _ rfl
       .have e6:v 6=_:=hE.1 rfl;rw[e6]at hK|-;have HX:=Lib.hid hS;clear hS hE hlo;go_wp2_with fail;exact hK.out _ rfl
       .have e7:v 7=_:=hE.1 rfl;rw[e7]at hK|-;have HX:=Lib.hid hS;clear hS hE hlo;go_wp2_with fail;exact hK.out _ rfl
       .have e8:v 8=_:=hE.1 rfl;rw[e8]at hK|-;obtain ⟨⟨c0,c1,c2,c3,c4⟩,lbz⟩:=HBC.out wz hS.1;have HX:=Lib.hid hS;clear hS hE hlo;go_wp2_with fail;exact hK.out _ rfl
       .have HX:=Lib.hid hS;clear hS hE hlo;go_wp2_with fail;exact hK.out _ rfl
       .have e9:v 9=_:=hE.1 rfl;have e10:v 10=_:=hE.2.1 rfl;rw[e9,e10]at hK|-;have hw:=HWR.out.1;have HX:=Lib.hid hS;clear hS hE hlo;go_wp2_with fail;exact hK.out _ rfl
       .have HX:=Lib.hid hS;clear hS hE hlo;go_wp2_with fail;exact hK.out _ rfl
       .have e12:v 12=_:=hE.1 rfl;rw[e12]at hK|-;have HX:=Lib.hid hS;clear hS hE hlo;go_wp2_with fail;exact hK.out _ rfl
       .have e13:v 13=_:=hE.1 rfl;rw[e13]at hK|-;have HX:=Lib.hid hS;clear hS hE hlo;go_wp2_with fail;exact hK.out _ rfl
       .have e14:v 14=_:=hE.1 rfl;rw[e14]at hK|-;obtain ⟨⟨c0,c1,c2,c3,c4⟩,lbz⟩:=HBC.out wz hS.1;have HX:=Lib.hid hS;clear hS hE hlo;go_wp2_with fail;exact hK.out _ rfl
       .have HX:=Lib.hid hS;clear hS hE hlo;go_wp2_with fail;exact hK.out _ rfl
       .have e15:v 15=_:=hE.1 rfl;have e16:v 16=_:=hE.2.1 rfl;rw[e15,e16]at hK|-;have hw:=HWR.out.2;have HX:=Lib.hid hS;clear hS hE hlo;go_wp2_with fail;exact hK.out _ rfl
       .have e5:v 5=_:=hE.1 rfl;have e11:v 11=_:=hE.2.1 rfl;have e17:v 17=_:=hE.2.2.1 rfl;rw[e5,e11,e17]at hK|-;have HX:=Lib.hid hS;clear hS hE hlo;go_wp2_with fail;exact hK.out _ rfl
       .have e18:v 18=_:=hE.1 rfl;rw[e18]at hK|-;have hzW:=hS.1.size;have hbz:Below wz.heap.size wz (wz.alloc (.cells #[.int .i64 (kd:Int), .int .i64 (ba_a:Int), .int .i64 (ba_t:Int)] 36)):=(Below.refl _ _).alloc (Nat.le_refl _) _;have HX:=Lib.hid (And.intro (show SgV W mv9 c (wz.alloc (.cells #[.int .i64 (kd:Int), .int .i64 (ba_a:Int), .int .i64 (ba_t:Int)] 36)) from ⟨hS.1.trans (World.grownBy.but ⟨hbz.os,hbz.tape,hbz.output,hbz.size,λk hk _=>hbz.block k hk⟩ _),λh=>(hS.2 h).trans (hbz.mono hzW)⟩) hbz);clear hS hE hlo hbz;go_wp2_with fail;exact hK.out _ _ (λj z hj h=>factV_free HX.out.2 h) HX.out.1 (λ_=>⟨wz.heap.size,rfl,hzW,heap_alloc_new wz _⟩)
       .have e4:v 4=_:=hE.1 rfl;rw[e4]at hK|-;have E19:=hE.2.1 rfl;obtain ⟨g9,e9,hg9,hh9⟩:=E19 (Nat.le_refl _);rw[e9]at hK|-;have hownz:=OR.later HOW.out.1 (hS.2 rfl);have hzz:=hS.1.size;have hlen:=HOW.out.2.1;have hBW:=HOW.out.2.2;have hrow:∀(j:Nat) (u:Value),[Value.int .i64 (kd:Int), .int .i64 (ba_a:Int), .int .i64 (ba_t:Int)][j]?=some u->wz.cell? ((⟨g9,0,none⟩:Addr).add j)=some u:=λj u hj=>by
         rw[Addr.add_lit,Nat.zero_add,cell_of_row _ _ _ _ _ _ hh9];simpa using hj
        have HX:=Lib.hid (And.intro hS hownz);clear hS hE hh9 E19;refine appI_at rfl _ _ 31 rfl B 36 ie _ 3 24 Tryz.underlying31 hie hk0 hk1 hk2 rfl (by decide) mv9 ms9.length (rowF encT ms9) rfl hownz ⟨g9,0,none⟩ 1 1 [.int .i64 (kd:Int), .int .i64 (ba_a:Int), .int .i64 (ba_t:Int)] rfl rfl hrow (by intro u hu; simp only[List.mem_cons,List.not_mem_nil,or_false]at hu; rcases hu with rfl | rfl | rfl <;> rfl) (by unfold maxLen; omega) (by omega) (by omega) ?_
        intro v' wx hownX hgX hfX;refine wpList_nil ?_;simp only[Act.put,List.setIfInBounds_toArray,List.set_cons_zero,List.set_cons_succ]
        change K _ _
        obtain ⟨A',c',rfl,-,-⟩:=own_form hownX;refine hK.out _ _ (λj z hj h=>factV_app hj h) ⟨HX.out.1.1.trans hgX,λh=>absurd h (by decide)⟩ (λ_=>⟨A',c',rfl,?_⟩)
        show wx.ownsRow _ _ _ _ (ms9++[(⟨kd,ba_a,ba_t⟩:Mt)]).length (rowF encT (ms9++[⟨kd,ba_a,ba_t⟩]));rw[List.length_append,rowF_app,rowF_single];exact hownX
       .have e0:v 0=_:=hE.1 rfl;rw[e0]at hK|-;have HX:=Lib.hid hS;clear hS hE hlo;go_wp2_with fail;exact hK.out _ rfl
       .have e21:v 21=_:=hE.1 rfl;rw[e21]at hK|-;have HX:=Lib.hid hS;clear hS hE hlo;go_wp2_with fail;exact hK.out _ rfl
      .intro v wz hS hF;obtain ⟨A9,c9,e20,ho9⟩:∃A9 c9,v 20 = .slice A9 (ms9.length+1) c9/\OR 36 3 encT B (v 20) (ms9++[⟨kd,ba_a,ba_t⟩]) wz:=hF 20 (by decide) rfl
       have e22:v 22=_:=hF 22 (by decide)
       simp only[putAll,Act.put,pq1,pq2,pq3,Nat.zero_add,Nat.reduceAdd,pq4,pq5,List.drop_succ_cons,List.drop_zero,e22];rw[e20]at ho9|-;obtain ⟨⟨c0,c1,c2,c3,c4⟩,lbz,frz⟩:=HBC.out wz hS.1;have hjf:=HJ8.out.app ⟨kd,ba_a,ba_t⟩ hS.1 ho9;have HJF:=Lib.hid hjf;clear hjf hS hF e20 e22 ho9 hS0;go_wp2_with fail;refine ⟨⟨t,f',acc++[(a,t)],ba_a, .slice A9 (ms9.length+1) c9,rfl,htn,by omega,⟨?_,by have:=HRel.out.2;simp;omega⟩,?_⟩,by simp[intOf];omega⟩
       .have h:=HRel.out.1;rw[HRE.out,if_pos HPZ.out]at h;rw[h,List.append_assoc,List.singleton_append]
       .have e9:ms++mtB kd ba (acc++[(a,t)])=ms9++[⟨kd,ba_a,ba_t⟩]:=by rw[<-hms9,mtB,mtB,List.map_append,<-List.append_assoc,<-hba_a,<-hba_t];rfl
        rw[e9];exact HJF.out
def RIn {α:Type} (enc:α->List Value) (n:Nat) (w:World) (v:Value) (l:List α):Prop:=∃A c,v = .slice A l.length c/\(l.length<=c/\c<=9223372036854775807)/\(l=[]\/∃g f,A=some ⟨g,f,none⟩/\g<w.heap.size/\∀i (h:i<l.length),∀j,j<n->w.cell? ⟨g,f+i*n+j,none⟩=(enc l[i])[j]?)
theorem RIn.later {α:Type} {enc:α->List Value} {n:Nat} {w w':World} {v:Value} {l:List α} (h:RIn enc n w v l) (hb:Below w.heap.size w w'):RIn enc n w' v l:=by
 obtain ⟨A,c,e,hc,h⟩:=h;refine ⟨A,c,e,hc,h.imp id ?_⟩;rintro ⟨g,f,h1,hg,hcell⟩;exact ⟨g,f,h1,Nat.lt_of_lt_of_le hg hb.size,λi hi j hj=>(hb.cell (p:=⟨g,f+i*n+j,none⟩) hg).trans (hcell i hi j hj)⟩
theorem RIn.of_OR {α:Type} {enc:α->List Value} {n:Nat} (E:EncS enc n) {e:TypeId} {B:Nat} {v:Value} {l:List α} {w:World} (h:OR e n enc B v l w):RIn enc n w v l:=by
 obtain ⟨A,c,rfl,hle,hcl⟩:=h.cells E;obtain ⟨A',c',e0,-,hcm⟩:=own_form (show w.ownsRow _ _ _ _ _ _ from h);injection e0 with _ _ e0;subst e0;refine ⟨A,c,rfl,⟨hle,hcm⟩,?_⟩;rcases hcl with hcl | ⟨g,rfl,hB,hg,hc⟩
 .exact .inl hcl
 .exact .inr ⟨g,0,rfl,hg,λi hi j hj=>by rw[Nat.zero_add];exact (hc i hi j hj).1⟩
def u8C (c:UInt8):List Value:=[.int .u8 c.toNat]
theorem u8C_E:EncS u8C 1:=⟨by decide,λ_=>rfl,λx u hu=>by simp[u8C]at hu;subst hu;rfl⟩
theorem rowF_u8:∀l:List UInt8,rowF u8C l=l.map λc=>Value.int .u8 c.toNat
 | []=>rfl
 | c::r=>by
  show u8C c++rowF u8C r=_;rw[rowF_u8 r];rfl
set_option maxHeartbeats 1000000 in
theorem cloneY_any (v:Value) (l:List UInt8) (w:World) (h:RIn u8C 1 w v l) (hl:l.length<=900000):Calls Tryz.prog 44 #[v] w λe w'=>∃rv,e = .returned rv/\OR 5 1 u8C w.heap.size rv l w'/\Below w.heap.size w w':=by
 obtain ⟨i0,hi,hz0,hz1,hz2⟩:=info_parts info_u8;obtain ⟨A,c,rfl,hc,hcell⟩:=h;have hnil:=λw=>Lib.run_eql_slice_nil (P:=Tryz.prog) w 28 5 A l.length c 0 0 Tryz.underlying28
 cases A with
 | none=>
  obtain rfl:l=[]:=by
   rcases hcell with h | ⟨g,f,h,-⟩
   .exact h
   .cases h
  simp only[List.length_nil]at hnil
  go_enter Tryz.func44,Tryz.ntmps44
  go_wp2_with fail;go_ret;exact ⟨_,rfl,OR.nil_ _ _ _,Below.refl _ _⟩
 | some ad=>
  have HC:=Lib.hid (show ∀w1,Below w.heap.size w w1->∀i (h:i<l.length),∀j<1,w1.cell? (ad.add (i*1+j))=(u8C l[i])[j]? from λw1 hb i hi j hj=>by
   rcases hcell with h | ⟨g,f,h,hg,hm⟩
   .rw[h]at hi;simp at hi
   .injection h with h;subst h;rw[Addr.add_lit,<-Nat.add_assoc];exact (hb.cell (p:=⟨g,f+i*1+j,none⟩) hg).trans (hm i hi j hj))
  clear hcell;have h0:=OR.empty (enc:=u8C) (n:=1) 5 w;have hb0:=(Below.refl w.heap.size w).alloc (Nat.le_refl _) (.cells #[] 5)
  go_enter Tryz.func44,Tryz.ntmps44
  go_wp2_with (at_builtin;refine app_at u8C_E Tryz.underlying28 hi hz0 hz1 hz2 rfl (by decide) _ _ _ ad _ [] l w.heap.size rfl rfl rfl rfl h0 (HC.out _ hb0) (by simp) (by omega) (by simp) ?_;intro v1 w1 hown1 hb1)
  go_ret;exact ⟨_,rfl,by simpa using hown1,hb0.trans hb1⟩
set_option maxHeartbeats 1000000 in
theorem cloneI_any (v:Value) (l:List Nat) (w:World) (h:RIn inC 1 w v l) (hl:l.length<=900000):Calls Tryz.prog 72 #[v] w λe w'=>∃rv,e = .returned rv/\OR 3 1 inC w.heap.size rv l w'/\Below w.heap.size w w':=by
 obtain ⟨i0,hi,hz0,hz1,hz2⟩:=info_parts info_int;obtain ⟨A,c,rfl,hc,hcell⟩:=h;have hnil:=λw=>Lib.run_eql_slice_nil (P:=Tryz.prog) w 22 3 A l.length c 0 0 Tryz.underlying22
 cases A with
 | none=>
  obtain rfl:l=[]:=by
   rcases hcell with h | ⟨g,f,h,-⟩
   .exact h
   .cases h
  simp only[List.length_nil]at hnil
  go_enter Tryz.func72,Tryz.ntmps72
  go_wp2_with fail;go_ret;exact ⟨_,rfl,OR.nil_ _ _ _,Below.refl _ _⟩
 | some ad=>
  have HC:=Lib.hid (show ∀w1,Below w.heap.size w w1->∀i (h:i<l.length),∀j<1,w1.cell? (ad.add (i*1+j))=(inC l[i])[j]? from λw1 hb i hi j hj=>by
   rcases hcell with h | ⟨g,f,h,hg,hm⟩
   .rw[h]at hi;simp at hi
   .injection h with h;subst h;rw[Addr.add_lit,<-Nat.add_assoc];exact (hb.cell (p:=⟨g,f+i*1+j,none⟩) hg).trans (hm i hi j hj))
  clear hcell;have h0:=OR.empty (enc:=inC) (n:=1) 3 w;have hb0:=(Below.refl w.heap.size w).alloc (Nat.le_refl _) (.cells #[] 3)
  go_enter Tryz.func72,Tryz.ntmps72
  go_wp2_with (at_builtin;refine app_at inC_E Tryz.underlying22 hi hz0 hz1 hz2 rfl (by decide) _ _ _ ad _ [] l w.heap.size rfl rfl rfl rfl h0 (HC.out _ hb0) (by simp) (by omega) (by simp) ?_;intro v1 w1 hown1 hb1)
  go_ret;exact ⟨_,rfl,by simpa using hown1,hb0.trans hb1⟩
set_option maxHeartbeats 1000000 in
theorem cloneT_any (v:Value) (l:List Mt) (w:World) (h:RIn encT 3 w v l) (hl:l.length<=900000):Calls Tryz.prog 73 #[v] w λe w'=>∃rv,e = .returned rv/\OR 36 3 encT w.heap.size rv l w'/\Below w.heap.size w w':=by
 obtain ⟨i0,hi,hz0,hz1,hz2⟩:=info_parts info_match;obtain ⟨A,c,rfl,hc,hcell⟩:=h;have hnil:=λw=>Lib.run_eql_slice_nil (P:=Tryz.prog) w 31 36 A l.length c 0 0 Tryz.underlying31
 cases A with
 | none=>
  obtain rfl:l=[]:=by
   rcases hcell with h | ⟨g,f,h,-⟩
   .exact h
   .cases h
  simp only[List.length_nil]at hnil
  go_enter Tryz.func73,Tryz.ntmps73
  go_wp2_with fail;go_ret;exact ⟨_,rfl,OR.nil_ _ _ _,Below.refl _ _⟩
 | some ad=>
  have HC:=Lib.hid (show ∀w1,Below w.heap.size w w1->∀i (h:i<l.length),∀j<3,w1.cell? (ad.add (i*3+j))=(encT l[i])[j]? from λw1 hb i hi j hj=>by
   rcases hcell with h | ⟨g,f,h,hg,hm⟩
   .rw[h]at hi;simp at hi
   .injection h with h;subst h;rw[Addr.add_lit,<-Nat.add_assoc];exact (hb.cell (p:=⟨g,f+i*3+j,none⟩) hg).trans (hm i hi j hj))
  clear hcell;have h0:=OR.empty (enc:=encT) (n:=3) 36 w;have hb0:=(Below.refl w.heap.size w).alloc (Nat.le_refl _) (.cells #[] 36)
  go_enter Tryz.func73,Tryz.ntmps73
  go_wp2_with (at_builtin;refine app_at encT_E Tryz.underlying31 hi hz0 hz1 hz2 rfl (by decide) _ _ _ ad _ [] l w.heap.size rfl rfl rfl rfl h0 (HC.out _ hb0) (by simp) (by omega) (by simp) ?_;intro v1 w1 hown1 hb1)
  go_ret;exact ⟨_,rfl,by simpa using hown1,hb0.trans hb1⟩
def factC (N:Nat) (kv nv mv:Value) (K:List UInt8) (nx:List Nat) (ms:List Mt) (W:World):Nat->Nat->Value->World->Prop
 | _,0,x,_=>x = .pointer (some ⟨N,2,none⟩)
 | _,1,x,_=>x=kv
 | c,2,x,w=>1<=c->w.ownsRow W.heap.size 5 1 x K.length (rowF u8C K)
 | _,3,x,_=>x = .pointer (some ⟨N,3,none⟩)
 | _,4,x,_=>x=nv
 | c,5,x,w=>2<=c->w.ownsRow W.heap.size 3 1 x nx.length (rowF inC nx)
 | _,6,x,_=>x = .pointer (some ⟨N,4,none⟩)
 | _,7,x,_=>x=mv
 | c,8,x,w=>3<=c->w.ownsRow W.heap.size 36 3 x ms.length (rowF encT ms)
 | _,9,x,_=>x = .pointer (some ⟨N,2,none⟩)
 | _,_,_,_=>True
theorem factC_next {N:Nat} {kv nv mv:Value} {K:List UInt8} {nx:List Nat} {ms:List Mt} {W:World} {c j:Nat} {x:Value} {w w':World} (hb:Below w.heap.size w w') (hj:(c=0->j≠2)/\(c=1->j≠5)/\(c=2->j≠8)) (h:factC N kv nv mv K nx ms W c j x w):factC N kv nv mv K nx ms W (c+1) j x w':=by
 unfold factC at h|-
 split at h
 all_goals first
  | exact h
  | (intro hc
     have h1:=h (by obtain ⟨a1,a2,a3⟩:=hj;omega)
     exact own_same h1 λg hg=>hb.block g (World.ownsRow.lt h1 g hg).2)
theorem info_scanner:(Tryz.prog.info? 51).map (·.size)=some 5:=by kernel_rfl
structure ScV (w:World) (K:List UInt8) (nx:List Nat) (ms:List Mt) (kv nv mv:Value):Prop where
 k:RIn u8C 1 w kv K
 n:RIn inC 1 w nv nx
 m:RIn encT 3 w mv ms
theorem ScV.later {w w':World} {K:List UInt8} {nx:List Nat} {ms:List Mt} {kv nv mv:Value} (h:ScV w K nx ms kv nv mv) (hb:Below w.heap.size w w'):ScV w' K nx ms kv nv mv:=⟨h.k.later hb,h.n.later hb,h.m.later hb⟩
set_option maxHeartbeats 4000000 in
theorem copied_any (tt ba:Int) (K:List UInt8) (nx:List Nat) (ms:List Mt) (kv nv mv:Value) (w:World) (h:ScV w K nx ms kv nv mv) (h1:K.length<=900000) (h2:nx.length<=900000) (h3:ms.length<=900000) :
  Calls Tryz.prog 41 #[.agg #[.int .i64 tt, .int .i64 ba,kv,nv,mv]] w λe w'=>∃A1 c1 A2 c2 A3 c3,e = .returned (.agg #[.int .i64 tt, .int .i64 ba, .slice A1 K.length c1, .slice A2 nx.length c2, .slice A3 ms.length c3])/\OB 5 w.heap.size (.slice A1 K.length c1) K w'/\OR 3 1 inC w.heap.size (.slice A2 nx.length c2) nx w'/\OR 36 3 encT w.heap.size (.slice A3 ms.length c3) ms w'/\Below w.heap.size w w':=by
 obtain ⟨Ak,ck,rfl,-⟩:=id h.k;obtain ⟨An,cn,rfl,-⟩:=id h.n;obtain ⟨Am,cm,rfl,-⟩:=id h.m;have H:=Lib.hid h;clear h
 go_enter Tryz.func41,Tryz.ntmps41
 go_upto_region 1 with fail
 refine wp_nm λW hW=>?_;obtain ⟨hbW,hB0,hB1⟩:=two_bx hW;have HB1:=Lib.hid hB1;obtain ⟨kv,hkv⟩:∃v,Value.slice Ak K.length ck=v:=⟨_,rfl⟩;obtain ⟨nv,hnv⟩:∃v,Value.slice An nx.length cn=v:=⟨_,rfl⟩;obtain ⟨mv,hmv⟩:∃v,Value.slice Am ms.length cm=v:=⟨_,rfl⟩;rw[hkv,hnv,hmv]at H;rw[hkv,hnv,hmv]at hB0;have HBX:=Lib.hid (λ(wz:World) (hb:Below W.heap.size W wz)=>(hb.block _ (Array.getElem?_eq_some_iff.1 hB0).1).trans hB0);have HK:=Lib.hid (λ(wz:World) (hb:Below W.heap.size W wz)=>cloneY_any kv K wz (H.out.k.later (hbW.trans (hb.mono hbW.size))) h1);have HN:=Lib.hid (λ(wz:World) (hb:Below W.heap.size W wz)=>cloneI_any nv nx wz (H.out.n.later (hbW.trans (hb.mono hbW.size))) h2);have HM:=Lib.hid (λ(wz:World) (hb:Below W.heap.size W wz)=>cloneT_any mv ms wz (H.out.m.later (hbW.trans (hb.mono hbW.size))) h3);have hzW:w.heap.size+2<=W.heap.size:=by have:=(Array.getElem?_eq_some_iff.1 hB1).1;omega
 have HZW:=Lib.hid (And.intro hzW hbW);have hS0:Below W.heap.size W W.drew:=(Below.refl _ _).drew;clear hW hbW hB0 hB1 hkv hnv hmv hzW;refine wp_region_chain 10 [2,5,8] (factC w.heap.size kv nv mv K nx ms W) (λ_ w'=>Below W.heap.size W w') (by kernel_rfl) (by kernel_rfl) (by kernel_rfl) (by kernel_rfl) (by kernel_rfl) (by kernel_rfl) (by decide) hS0 ?_ ?_
 .simp only[pq4,pq5];refine HSteps.pure (by decide) ?_ (HSteps.pure (by decide) ?_ (HSteps.eff 0 rfl ?_ (HSteps.pure (by decide) ?_ (HSteps.pure (by decide) ?_ (HSteps.eff 1 rfl ?_ (HSteps.pure (by decide) ?_ (HSteps.pure (by decide) ?_ (HSteps.eff 2 rfl ?_ (HSteps.pure (by decide) ?_ (HSteps.nil))))))))))
  all_goals first | (with_reducible intro v wz c hlo hS hE K hK;simp only[putAll,Act.put,pq1,pq2,pq3,Nat.zero_add,Nat.reduceAdd,pq4,pq5]at hK|-) | (intro v wz hS hE K hK;simp only[putAll,Act.put,pq1,pq2,pq3,Nat.zero_add,Nat.reduceAdd,pq4,pq5]at hK|-)
  .have HX:=Lib.hid hS;clear hS hE hlo;go_wp2_with fail;exact hK.out _ rfl
  .have e0:v 0=_:=hE.1 rfl;rw[e0]at hK|-;obtain ⟨c0,c1,c2,c3,c4⟩:=cells5 (HBX.out wz hS);have lbz:w.heap.size<wz.heap.size:=(Array.getElem?_eq_some_iff.1 (HBX.out wz hS)).1;have HX:=Lib.hid hS;clear hS hE hlo;go_wp2_with fail;exact hK.out _ rfl
  .have e1:v 1=_:=hE.1 rfl;rw[e1]at hK|-;have HX:=Lib.hid hS;have HC:=Lib.hid (HK.out wz hS);clear hS hE;go_wp2_with fail;refine HC.out.mono ?_;rintro e wy ⟨rv,rfl,hrv,hy⟩;have HP:=Lib.hid (And.intro hrv hy);clear hrv hy;go_wp2_with fail;refine hK.out _ _ (λj z hj h=>factC_next HP.out.2 ⟨λ_=>hj,λh=>absurd h (by decide),λh=>absurd h (by decide)⟩ h) (HX.out.trans (HP.out.2.mono HX.out.size)) (λ_=>own_mono HP.out.1 HX.out.size)
  .have HX:=Lib.hid hS;clear hS hE hlo;go_wp2_with fail;exact hK.out _ rfl
  .have e3:v 3=_:=hE.1 rfl;rw[e3]at hK|-;obtain ⟨c0,c1,c2,c3,c4⟩:=cells5 (HBX.out wz hS);have lbz:w.heap.size<wz.heap.size:=(Array.getElem?_eq_some_iff.1 (HBX.out wz hS)).1;have HX:=Lib.hid hS;clear hS hE hlo;go_wp2_with fail;exact hK.out _ rfl
  .have e4:v 4=_:=hE.1 rfl;rw[e4]at hK|-;have HX:=Lib.hid hS;have HC:=Lib.hid (HN.out wz hS);clear hS hE;go_wp2_with fail;refine HC.out.mono ?_;rintro e wy ⟨rv,rfl,hrv,hy⟩;have HP:=Lib.hid (And.intro hrv hy);clear hrv hy;go_wp2_with fail;refine hK.out _ _ (λj z hj h=>factC_next HP.out.2 ⟨λh=>absurd h (by decide),λ_=>hj,λh=>absurd h (by decide)⟩ h) (HX.out.trans (HP.out.2.mono HX.out.size)) (λ_=>own_mono HP.out.1 HX.out.size)
  .have HX:=Lib.hid hS;clear hS hE hlo;go_wp2_with fail;exact hK.out _ rfl
  .have e6:v 6=_:=hE.1 rfl;rw[e6]at hK|-;obtain ⟨c0,c1,c2,c3,c4⟩:=cells5 (HBX.out wz hS);have lbz:w.heap.size<wz.heap.size:=(Array.getElem?_eq_some_iff.1 (HBX.out wz hS)).1;have HX:=Lib.hid hS;clear hS hE hlo;go_wp2_with fail;exact hK.out _ rfl
  .have e7:v 7=_:=hE.1 rfl;rw[e7]at hK|-;have HX:=Lib.hid hS;have HC:=Lib.hid (HM.out wz hS);clear hS hE;go_wp2_with fail;refine HC.out.mono ?_;rintro e wy ⟨rv,rfl,hrv,hy⟩;have HP:=Lib.hid (And.intro hrv hy);clear hrv hy;go_wp2_with fail;refine hK.out _ _ (λj z hj h=>factC_next HP.out.2 ⟨λh=>absurd h (by decide),λh=>absurd h (by decide),λ_=>hj⟩ h) (HX.out.trans (HP.out.2.mono HX.out.size)) (λ_=>own_mono HP.out.1 HX.out.size)
  .have HX:=Lib.hid hS;clear hS hE hlo;go_wp2_with fail;exact hK.out _ rfl
 .intro v wz hS hF;have e9:v 9=_:=hF 9 (by decide)
  have e2:=hF 2 (by decide) (by decide)
  have e5:=hF 5 (by decide) (by decide)
  have e8:=hF 8 (by decide) (by decide)
  obtain ⟨A2,d2,q2,-,-⟩:=own_form e2;obtain ⟨A5,d5,q5,-,-⟩:=own_form e5;obtain ⟨A8,d8,q8,-,-⟩:=own_form e8;rw[q2]at e2;rw[q5]at e5;rw[q8]at e8;simp only[putAll,Act.put,pq1,pq2,pq3,Nat.zero_add,Nat.reduceAdd,pq4,pq5,List.drop_succ_cons,List.drop_zero,e9,q2,q5,q8];have hb0:=HBX.out wz hS;have hb1:=(hS.block (w.heap.size+1) (by have:=HZW.out.1;omega)).trans HB1.out
  obtain ⟨c0,c1,c2,c3,c4⟩:=cells5 hb0;obtain ⟨y0,y1,y2,y3,y4⟩:=cells5 hb1;have fr0:∀j,wz.frozen? ⟨w.heap.size,j,none⟩=false:=λj=>by simp[World.frozen?,hb0]
  have fr1:∀j,wz.frozen? ⟨w.heap.size+1,j,none⟩=false:=λj=>by simp[World.frozen?,hb1]
  have f2:=fr0 2;have f3:=fr0 3;have f4:=fr0 4;have g0:=fr1 0;have g1:=fr1 1;have g2:=fr1 2;have g3:=fr1 3;have g4:=fr1 4;have l0:w.heap.size<wz.heap.size:=(Array.getElem?_eq_some_iff.1 hb0).1;have l1:w.heap.size+1<wz.heap.size:=(Array.getElem?_eq_some_iff.1 hb1).1;have HE:=Lib.hid (And.intro e2 (And.intro e5 (And.intro e8 hS)));clear hb0 hb1 fr0 fr1 e2 e5 e8 e9 q2 q5 q8 hF hS hS0;go_wp2_with fail;refine post_named λWf hWf=>?_;have hrow:Wf.heap[w.heap.size+1]?=some (.cells #[.int .i64 tt, .int .i64 ba, .slice A2 K.length d2, .slice A5 nx.length d5, .slice A8 ms.length d8] 51 (0,0)):=by
   have hb1:=(HE.out.2.2.2.block (w.heap.size+1) (by have:=HZW.out.1;omega)).trans HB1.out
   rw[hWf];simp[World.setCell,Array.getElem?_modify,hb1]
  have oth:∀q,W.heap.size<=q->Wf.heap[q]?=wz.heap[q]?:=λq hq=>by
   have:=HZW.out.1;have h1:¬w.heap.size=q:=by omega
   have h2:¬w.heap.size+1=q:=by omega
   rw[hWf];simp[World.setCell,Array.getElem?_modify,h1,h2]
  have hbf:Below w.heap.size w Wf:=by
   have h:=HZW.out.2.trans (HE.out.2.2.2.mono HZW.out.2.size);rw[hWf]
   iterate 8 (refine Below.setCell ?_ (by dsimp only;omega) _)
   exact h
  clear hWf;refine bodyPost_ret (v:=.agg #[.int .i64 tt, .int .i64 ba, .slice A2 K.length d2, .slice A5 nx.length d5, .slice A8 ms.length d8]) (results_cell_row (p:=2) rfl _ _ (w.heap.size+1) 51 _ (0,0) _ rfl hrow Tryz.underlying51 rfl info_scanner) rfl ?_;have hwW:w.heap.size<=W.heap.size:=by have:=HZW.out.1;omega
  refine ⟨A2,d2,A5,d5,A8,d8,rfl,?_,?_,?_,hbf⟩
  .have h:=own_same (own_mono HE.out.1 hwW) (w':=Wf) λq hq=>oth q (World.ownsRow.lt HE.out.1 q hq).1;rw[rowF_u8]at h;exact h
  .exact own_same (own_mono HE.out.2.1 hwW) (w':=Wf) λq hq=>oth q (World.ownsRow.lt HE.out.2.1 q hq).1
  .exact own_same (own_mono HE.out.2.2.1 hwW) (w':=Wf) λq hq=>oth q (World.ownsRow.lt HE.out.2.2.1 q hq).1
theorem valid1_any (b tt x:Nat) (w:World) (h:w.cell? ⟨b,0,none⟩=some (.int .i64 (tt:Int))) (hx:x<=tt):Calls Tryz.prog 71 #[.int .i64 (x:Int), .pointer (some ⟨b,0,none⟩)] w λe w'=>e = .returned (.bool false)/\Below w.heap.size w w':=by
 have hb:=World.block_lt_of_cell? w _ h;have hb1:b<w.heap.size:=hb;have d1:decide ((x:Int)<0)=false:=decide_eq_false (by omega)
 have d2:decide ((tt:Int)<(x:Int))=false:=decide_eq_false (by omega)
 have d3:decide (tt<x)=false:=decide_eq_false (by omega)
 clear hb
 go_enter Tryz.func71,Tryz.ntmps71
 go_wp2_with fail;go_ret;exact ⟨rfl,Below.refl _ _⟩
theorem callV1 (args:Array Value) (w:World):(callFunc 71 args).run Tryz.prog w = .ok (.enter 71 args) w:=by rfl
theorem RIn.ii {w:World} {v:Value} {l:List Nat} (h:RIn inC 1 w v l):IIn w v l:=by
 obtain ⟨A,c,e,hc,h⟩:=h;refine ⟨A,c,e,hc,h.imp id ?_⟩;rintro ⟨g,f,h1,hg,hcell⟩;exact ⟨g,f,h1,hg,λi hi=>by have:=hcell i hi 0 (by decide);rw[Nat.mul_one,Nat.add_zero]at this;exact this⟩
set_option maxHeartbeats 4000000 in
theorem validS_any (A:Option Addr) (n c tt ba:Nat) (K:List UInt8) (nx:List Nat) (ms:List Mt) (kv nv mv:Value) (w:World) (h:ScV w K nx ms kv nv mv) (h1:tt<=65536) (h2:K.length+ba=tt) (h3:nx.length=n) (h4:∀x∈nx,x<=tt) (h5:n<=32) :
  Calls Tryz.prog 40 #[.slice A n c, .agg #[.int .i64 (tt:Int), .int .i64 (ba:Int),kv,nv,mv]] w λe w'=>e = .returned (.bool true)/\Below w.heap.size w w':=by
 obtain ⟨Ak,ck,rfl,-⟩:=id h.k;obtain ⟨An,cn,rfl,-⟩:=id h.n;obtain ⟨Am,cm,rfl,-⟩:=id h.m;have HN:=Lib.hid h.n.ii;obtain ⟨kl,hkl⟩:∃k,K.length=k:=⟨_,rfl⟩;rw[hkl]at h2|-;rw[h3]at HN|-;have d0:decide ((0:Int)<=(tt:Int))=true:=decide_eq_true (by omega)
 have d1:decide ((tt:Int)<=65536)=true:=decide_eq_true (by omega)
 have d2:decide ((0:Int)<=(ba:Int))=true:=decide_eq_true (by omega)
 have d3:decide ((ba:Int)<=(tt:Int))=true:=decide_eq_true (by omega)
 have d3n:decide (ba<=tt)=true:=decide_eq_true (by omega)
 have d1n:decide (tt<=65536)=true:=decide_eq_true h1;have hw:IntKind.i64.wrap ((tt:Int) - (ba:Int))=(kl:Int):=by rw[IntWalk.i64_in _ (by omega)];omega
 have HC:=Lib.hid (λ(W:World) (b:Nat) (hb:Below w.heap.size w W) (hc:W.heap[b]?=some (.cells #[.int .i64 (tt:Int), .int .i64 (ba:Int), .slice Ak kl ck, .slice An n cn, .slice Am ms.length cm] 51 (0,0)))=>(by
  have h:=containsI 71 #[.pointer (some ⟨b,0,none⟩)] nx (λ_=>false) (.slice An n cn) W (HN.out.later hb) ⟨callV1,λx hx W2 hW2=>valid1_any b tt x W2 (by
   have:=(hW2.block b (Array.getElem?_eq_some_iff.1 hc).1).trans hc;rw[cell_of_row _ _ _ _ _ _ this];rfl) (h4 x hx)⟩
  have e:nx.any (λ_=>false)=false:=by simp
  rw[e]at h;exact h))
 clear h h4 hkl h3
 go_enter Tryz.func40,Tryz.ntmps40
 go_upto_region 1 with fail
 refine wp_nm λW hW=>?_;have hb0:W.heap[w.heap.size]?=some (.cells #[.int .i64 (tt:Int), .int .i64 (ba:Int), .slice Ak kl ck, .slice An n cn, .slice Am ms.length cm] 51 (0,0)):=by rw[hW];exact heap_alloc_new w _
 have hbw:Below w.heap.size w W:=by rw[hW];exact (Below.refl _ _).alloc (Nat.le_refl _) _
 have HK:=Lib.hid (HC.out W _ hbw hb0);have HB:=Lib.hid hbw;obtain ⟨c0,c1,c2,c3,c4⟩:=cells5 hb0;have lb:w.heap.size<W.heap.size:=(Array.getElem?_eq_some_iff.1 hb0).1;clear hW hbw hb0 HC;go_wp2_with fail;refine HK.out.mono ?_;rintro e w1 ⟨rfl,hb1⟩;have HB1:=Lib.hid (HB.out.trans (hb1.mono HB.out.size));clear hb1 c0 c1 c2 c3 c4 lb;go_wp2_with fail;go_ret;exact ⟨rfl,HB1.out⟩
def evF (fs:List (KC×M2)) (ms:List Mc) (bs:List Nat) (p:Nat->Nat->Nat->Bool) (i:Nat):List (Nat×Nat):=(chA ((ms[i]?).getD ⟨[],[]⟩) ((fs[i]?).map (·.1.wh) |>.getD false) bs).filter λq=>p i q.1 q.2
theorem LcA.good {k:Kn} {m:Mc} (h:LcA k 0 m):CmGood k.pat m/\validF k.pat=0/\LcOK k=true/\nmOK (bl k.nm)=true:=by
 rcases h with ⟨-,h⟩ | ⟨h0,er0,hc,⟨h1,h2⟩ | ⟨rfl,h2⟩⟩
 .cases h
 .exact absurd h2.symm h1
 .cases hq:LcOK k with
  | false=>rw[hq]at h2;cases h2
  | true=>exact ⟨hc.good.1,hc.good.2,rfl,h0⟩
theorem CmGood.go {nd:Nd} {m:Mc} (h:CmGood nd m):McGo m:=⟨h.vld.1,h.vld.2.1,h.vld.2.2.1⟩
theorem LaA.all {ks:List Kn} {ms:List Mc} (h:LaA ks 0 ms):(1<=ks.length/\ks.length<=32)/\ms.length=ks.length/\∀i (h1:i<ks.length) (h2:i<ms.length),LcA ks[i] 0 ms[i]:=by
 rcases h with ⟨-,h⟩ | ⟨h1,⟨i,-,-,-,h⟩ | ⟨h2,h3,-⟩⟩
 .cases h
 .exact absurd rfl h
 .exact ⟨h1,h2,h3⟩
def evK (ks:List Kn) (ms:List Mc) (bs:List Nat) (p:Nat->Nat->Nat->Bool) (i:Nat):List (Nat×Nat):=(chA ((ms[i]?).getD ⟨[],[]⟩) ((ks[i]?).map Kn.wh |>.getD false) bs).filter λq=>p i q.1 q.2
def SaPost (ks:List Kn) (bs:List Nat) (p:Nat->Nat->Nat->Bool) (w:World) (e:Ending) (w':World):Prop:=Below w.heap.size w w'/\∃er ms,LaA ks er ms/\
 ((er≠0/\e = .returned (.tuple #[.slice none 0 0, .int .i64 er]))\/(er=0/\65536<bs.length/\e = .returned (.tuple #[.slice none 0 0, .int .i64 3]))\/
  (er=0/\bs.length<=65536/\∃v o,e = .returned (.tuple #[v, .int .i64 0])/\MtIn w' v o/\o.Perm (allK (evK ks ms bs p) ks.length 0)/\o.Pairwise LeMt))
end Go.Proofs.YtdmoogjddmdmbaaGreatDoor
