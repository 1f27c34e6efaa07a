/- (scan.Finder).Choice and choices, in general. · Walk: ref08.Definite at a text that is not too long. · law08.runs at two rows that hold the same. -/
import Derived.Test.YtadjdkickjjieaaGreatDoorY30
import Derived.Test.YtadjdkickjjieaaGreatDoorY38
import Derived.Test.YtadjdkickjjieaaGreatDoorY25
import Derived.Test.YtadjdkickjjieaaGreatDoorY23
namespace Go.Proofs.YtadjdkickjjieaaGreatDoor
set_option linter.unusedVariables false
set_option linter.unusedSimpArgs false
set_option maxRecDepth 100000
open Go.RowKit
def McGo (m:Mc):Prop:=Vld m/\McSm m/\1<=m.ed.length
theorem zHX (x:KC×M2) (m:Mc) (A:Option Addr) (n c i:Nat) (bs:List Nat) (w:World) (hm:McIn w x.2.val m) (hv:McGo m) (hb:ByIn w (.slice A n c) bs) (hn:bs.length=n) (hnl:n<=900000) (hby:∀b∈bs,b<256) (hi:i<=n) :
  Calls Tryz.prog 61 #[.agg #[.string x.1.nm, .int .i64 x.1.op, .slice x.1.a1 x.1.n1 x.1.c1, .slice x.1.a2 x.1.n2 x.1.c2, .int .i64 x.1.mn, .int .i64 x.1.mx, .bool x.1.wh, .int .i64 x.1.ck, .int .i64 x.1.en, .slice x.1.a3 x.1.n3 x.1.c3, .int .i64 x.1.nr, .slice x.2.a1 x.2.n1 x.2.c1, .slice x.2.a2 x.2.n2 x.2.c2], .slice A n c, .int .i64 (i:Int)] w λe w'=>e = .returned (.tuple #[.int .i64 (((chF m x.1.wh bs i).getD 0:Nat):Int), .bool (chF m x.1.wh bs i).isSome])/\Below w.heap.size w w':=by
 have hmem:=zCf m (bs.drop i) 0 i;refine zDN x.1 m x.2.a1 x.2.a2 A x.2.n1 x.2.n2 x.2.c1 x.2.c2 n c i bs (rchF m (bs.drop i) 0 i) (clrF x.1.wh bs i) w hm hv.1 hv.2.1 hv.2.2 hb hn hnl hby hi rfl ?_ ?_ ?_
 .have:=zIm m (bs.drop i) 0 i;rw[List.length_drop]at this;omega
 .intro t ht;obtain ⟨j,rfl,h1,-⟩:=(hmem t).1 ht;rw[List.length_drop]at h1;omega
 .intro W t hW _;exact zHk x.1 A n c i t bs W (hb.later hW) hn hnl
theorem zG0 {f:Nat->Option Nat} {n:Nat} (hf:∀i t,i<n->f i=some t->i<t) {i:Nat} (hi:i<n):chsF f n n i=match f i with | none=>chsF f n n (i+1) | some t=>(i,t)::chsF f n n t:=by
 obtain ⟨k,rfl⟩:∃k,n=k+1:=⟨n - 1,by omega⟩
 rw[chsF,if_pos hi]
 cases h:f i with
 | none=>exact zCQ f (k+1) hf k (k+1) (i+1) (by omega) (by omega)
 | some t=>
  have:=hf i t hi h;show (i,t)::_=(i,t)::_;rw[zCQ f (k+1) hf k (k+1) t (by omega) (by omega)]
theorem zJX {f:Nat->Option Nat} {n i:Nat} (hi:n<=i):chsF f n n i=[]:=by
 cases n with
 | zero=>rfl
 | succ k=>rw[chsF,if_neg (by omega)]
def zNO (b TY:Nat) (I:List (Nat×Nat)->World->Prop) (l:List (Nat×Nat)) (W:World) (e:Ending) (w':World):Prop:=
 (∃v,e = .returned v)/\I l w'/\Below b W w'/\∀q T cs m,q≠b->T≠TY->W.heap[q]?=some (.cells cs T m)->w'.heap[q]?=some (.cells cs T m)
def bxF (x:KC×M2) (b:Nat) (w:World):Prop:=w.heap[b]?=some (.cells #[.string x.1.nm, .int .i64 x.1.op, .slice x.1.a1 x.1.n1 x.1.c1, .slice x.1.a2 x.1.n2 x.1.c2, .int .i64 x.1.mn, .int .i64 x.1.mx, .bool x.1.wh, .int .i64 x.1.ck, .int .i64 x.1.en, .slice x.1.a3 x.1.n3 x.1.c3, .int .i64 x.1.nr, .slice x.2.a1 x.2.n1 x.2.c1, .slice x.2.a2 x.2.n2 x.2.c2] 75 (0,0))
theorem bxF.later {x:KC×M2} {b:Nat} {w w':World} (h:bxF x b w) (hb:Below w.heap.size w w'):bxF x b w':=(hb.block b (Array.getElem?_eq_some_iff.1 h).1).trans h
theorem bxF.cells {x:KC×M2} {b:Nat} {w:World} (h:bxF x b w):(w.cell? ⟨b,0,none⟩=some (.string x.1.nm)/\w.cell? ⟨b,1,none⟩=some (.int .i64 x.1.op)/\w.cell? ⟨b,2,none⟩=some (.slice x.1.a1 x.1.n1 x.1.c1)/\w.cell? ⟨b,3,none⟩=some (.slice x.1.a2 x.1.n2 x.1.c2)/\w.cell? ⟨b,4,none⟩=some (.int .i64 x.1.mn)/\w.cell? ⟨b,5,none⟩=some (.int .i64 x.1.mx))/\(w.cell? ⟨b,6,none⟩=some (.bool x.1.wh)/\w.cell? ⟨b,7,none⟩=some (.int .i64 x.1.ck)/\w.cell? ⟨b,8,none⟩=some (.int .i64 x.1.en)/\w.cell? ⟨b,9,none⟩=some (.slice x.1.a3 x.1.n3 x.1.c3)/\w.cell? ⟨b,10,none⟩=some (.int .i64 x.1.nr))/\(w.cell? ⟨b,11,none⟩=some (.slice x.2.a1 x.2.n1 x.2.c1)/\w.cell? ⟨b,12,none⟩=some (.slice x.2.a2 x.2.n2 x.2.c2))/\b<w.heap.size:=by
 refine ⟨⟨?_,?_,?_,?_,?_,?_⟩,⟨?_,?_,?_,?_,?_⟩,⟨?_,?_⟩,(Array.getElem?_eq_some_iff.1 h).1⟩ <;> (rw[cell_of_row _ _ _ _ _ _ h]; rfl)
set_option maxHeartbeats 8000000 in
theorem zFl (x:KC×M2) (m:Mc) (A:Option Addr) (n c b TY gi:Nat) (caps:Array Value) (bs:List Nat) (I:List (Nat×Nat)->World->Prop) (w:World) (hei:∀args w',(callFunc gi args).run Tryz.prog w' = .ok (.enter gi args) w') (hmb:∀W,Below b w W->McIn W x.2.val m/\ByIn W (.slice A n c) bs) (hv:McGo m) (hn:bs.length=n) (hnl:n<=900000) (hby:∀b∈bs,b<256)
  (hb:b<w.heap.size) (hTY:TY≠75) (h0:I [] w) (hIl:∀l W W',I l W->Below W.heap.size W W'->I l W')
  (hE:∀l a z W,(l++[(a,z)]).length<=n->a<z/\z<=n->Below b w W->I l W->Calls Tryz.prog gi (#[.int .i64 (a:Int), .int .i64 (z:Int)]++caps) W (zNO b TY I (l++[(a,z)]) W)) :
  Calls Tryz.prog 32 #[.agg #[.string x.1.nm, .int .i64 x.1.op, .slice x.1.a1 x.1.n1 x.1.c1, .slice x.1.a2 x.1.n2 x.1.c2, .int .i64 x.1.mn, .int .i64 x.1.mx, .bool x.1.wh, .int .i64 x.1.ck, .int .i64 x.1.en, .slice x.1.a3 x.1.n3 x.1.c3, .int .i64 x.1.nr, .slice x.2.a1 x.2.n1 x.2.c1, .slice x.2.a2 x.2.n2 x.2.c2], .slice A n c, .func (.func gi) #[] caps] w λe w'=>(∃v,e = .returned v)/\I (chA m x.1.wh bs) w'/\Below b w w':=by
 have HM:=Lib.hid hmb;have HC:=Lib.hid λ(i:Nat) (hi:i<=n) (W:World) (hW:Below b w W)=>zHX x m A n c i bs W (hmb W hW).1 hv (hmb W hW).2 hn hnl hby hi;have HE:=Lib.hid hE;have HI:=Lib.hid (And.intro hIl hTY);have hwh:∃wh,x.1.wh=wh:=⟨_,rfl⟩;obtain ⟨f,hf⟩:∃f,chF m x.1.wh bs=f:=⟨_,rfl⟩;have hlt:∀i t,i<n->f i=some t->i<t/\t<=n:=λi t hi h=>by rw[<-hn];rw[<-hf]at h;exact zGj (by omega) h
 have hch:chA m x.1.wh bs=chsF f n n 0:=by unfold chA;rw[hn,hf]
 have hlen:∀k i,i<=n->(chsF f n k i).length+i<=n:=by
  intro k
  induction k with
  | zero=>intro i hi;rw[chsF];simpa using hi
  | succ k ih=>
   intro i hi;rw[chsF];by_cases h:i<n
   .rw[if_pos h]
    cases hfi:f i with
    | none=>have:=ih (i+1) (by omega);show (chsF f n k (i+1)).length+i<=n;omega
    | some t=>have h9:=hlt i t h hfi;have:=ih t h9.2;show ((i,t)::chsF f n k t).length+i<=n;simp only[List.length_cons];omega
   .rw[if_neg h];simpa using hi
 rw[hch];have hlen0:=hlen n 0 (Nat.zero_le _);obtain ⟨L,hL⟩:∃L,chsF f n n 0=L:=⟨_,rfl⟩;rw[hL]at hlen0|-;have HL:=Lib.hid (And.intro hL (And.intro hlt hlen0));have HF:=Lib.hid hf;have HI0:=Lib.hid h0;clear hmb hv hby hE hIl hTY h0 hch hlen hlen0 hlt hL hf hwh hn
 go_enter Tryz.func32,Tryz.ntmps32
 go_wp2_with fail;refine zBl λW0 hW0=>?_;have hb0:Below w.heap.size w W0:=by rw[hW0];exact (Below.refl _ _).alloc (Nat.le_refl _) _
 have hX0:bxF x w.heap.size W0:=by rw[hW0];exact heap_alloc_new w _
 have H0:=Lib.hid (And.intro (hb0.mono (Nat.le_of_lt hb)) (And.intro hX0 (HI.out.1 [] w W0 HI0.out hb0)));clear hW0 hb0 hX0 HI0
 go_loopw [6] (λv wr=>∃(i:Nat) (l:List (Nat×Nat)),i<=n/\v = .int .i64 (i:Int)/\Hid (l++chsF f n n i=L/\I l wr)/\bxF x w.heap.size wr/\Below b w wr) (λv _=>n - (intOf v).toNat)
 case atStart=>exact ⟨0,[],by omega,rfl,⟨HL.out.1,H0.out.2.2⟩,H0.out.2.1,H0.out.1⟩
 case round=>
  obtain ⟨i,l,hi,rfl,HR,hX,hbw⟩:=hrel;by_cases hin:i<n
  .have hd:decide ((i:Int)<(n:Int))=true:=decide_eq_true (by omega)
   have hdn:decide (i<n)=true:=decide_eq_true hin;obtain ⟨⟨c0,c1,c2,c3,c4,c5⟩,⟨c6,c7,c8,c9,c10⟩,⟨c11,c12⟩,lb⟩:=hX.cells;have H1:=Lib.hid (And.intro hX hbw);have CC:=Lib.hid (HC.out i hi wr hbw);rw[HF.out]at CC;have hst:=zG0 (λi t h1 h2=>(HL.out.2.1 i t h1 h2).1) hin;clear hX hbw
   cases hfi:f i with
   | none=>
    rw[hfi]at CC hst;have HS:=Lib.hid hst;clear hst hfi;go_wp2_with fail;refine CC.out.mono ?_;rintro e w1 ⟨rfl,hb1⟩;have H2:=Lib.hid (And.intro (H1.out.1.later hb1) (And.intro (H1.out.2.trans (hb1.mono (by have:=H1.out.2.size;omega))) (HI.out.1 l wr w1 HR.out.2 hb1)))
    clear hb1 c0 c1 c2 c3 c4 c5 c6 c7 c8 c9 c10 c11 c12 lb;go_wp2_with fail;go_roundw
    case rel=>exact ⟨i+1,l,by omega,by go_num,⟨by rw[<-HR.out.1,HS.out],H2.out.2.2⟩,H2.out.1,H2.out.2.1⟩
    case measure=>simp[intOf];omega
   | some t=>
    rw[hfi]at CC hst;have htt:=HL.out.2.1 i t hin hfi;have HS:=Lib.hid hst;clear hst hfi;go_wp2_with fail;refine CC.out.mono ?_;rintro e w1 ⟨rfl,hb1⟩;have H2:=Lib.hid (And.intro (H1.out.1.later hb1) (And.intro (H1.out.2.trans (hb1.mono (by have:=H1.out.2.size;omega))) (HI.out.1 l wr w1 HR.out.2 hb1)))
    clear hb1 c0 c1 c2 c3 c4 c5 c6 c7 c8 c9 c10 c11 c12 lb;have hll:(l++[(i,t)]).length<=n:=by
     have h1:=congrArg List.length HR.out.1;rw[HS.out]at h1;have:=HL.out.2.2;simp only[List.length_append,List.length_cons]at h1|-;simp only[List.length_nil];omega
    have HEE:=Lib.hid (HE.out l i t w1 hll htt H2.out.2.1 H2.out.2.2);have htz:(t:Int)<=n:=by omega
    clear hll;go_wp2_with fail;refine HEE.out.mono ?_;rintro e w2 ⟨⟨v2,rfl⟩,hI2,hb2,hk2⟩;have H3:=Lib.hid (And.intro (show bxF x w.heap.size w2 from hk2 w.heap.size _ _ _ (by omega) (λe=>HI.out.2 e.symm) H2.out.1) (And.intro (H2.out.2.1.trans hb2) hI2))
    clear hI2 hb2 hk2;go_wp2_with fail;go_roundw
    case rel=>exact ⟨t,l++[(i,t)],by omega,by go_num,⟨by rw[<-HR.out.1,HS.out];simp,H3.out.2.2⟩,H3.out.1,H3.out.2.1⟩
    case measure=>simp[intOf];omega
  .obtain rfl:i=n:=by omega
   have hd:decide ((i:Int)<(i:Int))=false:=decide_eq_false (by omega)
   have hdn:decide (i<i)=false:=decide_eq_false (by omega)
   go_wp2_with fail
   go_end0
   refine ⟨⟨_,rfl⟩,?_,hbw⟩;have h1:=HR.out.1;rw[zJX (Nat.le_refl _),List.append_nil]at h1;rw[<-h1];exact HR.out.2
def rnC (p:Nat×Nat):List Value:=[.int .i64 0, .int .i64 (p.1:Int), .int .i64 (p.2:Int)]
theorem zLb:EncS rnC 3:=⟨by decide,λ_=>rfl,λx u hu=>by
 simp only[rnC,List.mem_cons,List.not_mem_nil,or_false]at hu;rcases hu with rfl | rfl | rfl <;> rfl⟩
structure BstI (m:Mc) (wh:Bool) (bs:List Nat) (i t:Nat) (B:Option Nat):Prop where
 a:∀x,B=some x->AccT m wh bs i x/\x<t
 b:∀x,AccT m wh bs i x->x<t->∃y,B=some y/\x<=y
theorem BstI.start (m:Mc) (wh:Bool) (bs:List Nat) (i:Nat):BstI m wh bs i (i+1) none:=⟨λx h=>(by cases h),λx h h2=>by have:=h.1;omega⟩
theorem BstI.yes {m:Mc} {wh:Bool} {bs:List Nat} {i t:Nat} {B:Option Nat} (h:BstI m wh bs i t B) (ha:AccT m wh bs i t):BstI m wh bs i (t+1) (some t):=
 ⟨λx e=>by injection e with e;subst e;exact ⟨ha,by omega⟩,λx hx h2=>⟨t,rfl,by omega⟩⟩
theorem BstI.no {m:Mc} {wh:Bool} {bs:List Nat} {i t:Nat} {B:Option Nat} (h:BstI m wh bs i t B) (ha:¬AccT m wh bs i t):BstI m wh bs i (t+1) B:=
 ⟨λx e=>⟨(h.a x e).1,by have:=(h.a x e).2;omega⟩,λx hx h2=>h.b x hx (by
  have:x≠t:=λe=>ha (e▸hx);omega)⟩
theorem BstI.done {m:Mc} {wh:Bool} {bs:List Nat} {i:Nat} {B:Option Nat} (h:BstI m wh bs i (bs.length+1) B) (hi:i<=bs.length):chF m wh bs i=B:=by
 cases B with
 | none=>
  cases hc:chF m wh bs i with
  | none=>rfl
  | some t=>
   have h1:=((zIx m wh bs i t hi).1 hc).1;obtain ⟨y,e,-⟩:=h.b t h1 (by have:=h1.2.1;omega)
   cases e
 | some t=>
  refine (zIx m wh bs i t hi).2 ⟨(h.a t rfl).1,λx hx=>?_⟩;obtain ⟨y,e,hy⟩:=h.b x hx (by have:=hx.2.1;omega)
  injection e with e;omega
def bI:Option Nat->Int
 | none=>-1
 | some t=>(t:Int)
def zM6 (l:List (Nat×Nat)) (w:World) (e:Ending) (w':World):Prop:=∃v,e = .returned v/\OR 80 3 rnC w.heap.size v l w'/\Below w.heap.size w w'
set_option maxHeartbeats 16000000 in
theorem zKi (u:KC) (nd:Nd) (m:Mc) (A:Option Addr) (n c:Nat) (bs:List Nat) (w:World) (hu:NdIn w nd u.pat) (hv:zAV nd=0) (hm:∀x,acF m x 0=true↔zAc nd x) (hb:ByIn w (.slice A n c) bs) (hl:bs.length=n) (hnl:n<=200) (hby:∀b∈bs,b<256) :
  Calls Tryz.prog 15 #[.agg #[.string u.nm, .int .i64 u.op, .slice u.a1 u.n1 u.c1, .slice u.a2 u.n2 u.c2, .int .i64 u.mn, .int .i64 u.mx, .bool u.wh, .int .i64 u.ck, .int .i64 u.en, .slice u.a3 u.n3 u.c3, .int .i64 u.nr], .slice A n c] w (zM6 (chA m u.wh bs) w):=by
 obtain ⟨ie,hie,hk0,hk1,hk2⟩:=info_parts zGN;have HCL:=Lib.hid λ(i t:Nat) (h1:i<=t) (h2:t<=n) W (hW:Below w.heap.size w W)=>zFo u A n c i t bs W (hb.later hW) hl (by omega) h1 h2
 obtain ⟨f,hf⟩:∃f,chF m u.wh bs=f:=⟨_,rfl⟩;have hlt:∀i t,i<n->f i=some t->i<t/\t<=n:=λi t hi h=>by rw[<-hl];rw[<-hf]at h;exact zGj (by omega) h
 have hst:∀i,i<n->chsF f n n i=match f i with | none=>chsF f n n (i+1) | some t=>(i,t)::chsF f n n t:=λi hi=>zG0 (λi t h1 h2=>(hlt i t h1 h2).1) hi
 have hch:chA m u.wh bs=chsF f n n 0:=by unfold chA;rw[hl,hf]
 rw[hch];obtain ⟨L,hL⟩:∃L,chsF f n n 0=L:=⟨_,rfl⟩;rw[hL];obtain ⟨A',c',e0,hc,hor⟩:=id hb;injection e0 with e1 e2 e3;subst e1 e3;have HBE:=Lib.hid λ(i t:Nat) (g fo:Nat) (hA:A=some ⟨g,fo,none⟩) (h1:i<t) (h2:t<=n) W (hW:Below w.heap.size w W)=>show Calls Tryz.prog 19 #[.agg #[.int .i64 u.op, .slice u.a1 u.n1 u.c1, .slice u.a2 u.n2 u.c2, .int .i64 u.mn, .int .i64 u.mx], .slice (some ⟨g,fo+i,none⟩) (t-i) (c-i)] W λe w'=>e = .returned (.bool (acF m ((bs.drop i).take (t-i)) 0))/\Below W.heap.size W w' from by
  have hlen:((bs.drop i).take (t-i)).length=t-i:=by rw[List.length_take,List.length_drop];omega
  refine zFy nd m u.pat _ _ _ _ W (hu.later hW) hv hm ?_ hlen (by omega) λb hb'=>hby b (List.mem_of_mem_drop (List.mem_of_mem_take hb'))
  rcases hor with h | ⟨g2,f2,h3,h4,h5⟩
  .rw[h]at hl;simp at hl;omega
  .rw[hA]at h3;injection h3 with h3;injection h3 with h3 h6 _;subst h3 h6;refine ⟨_,c-i,by rw[hlen],⟨by omega,by omega⟩, .inr ⟨g,fo+i,rfl,Nat.lt_of_lt_of_le h4 hW.size,λj hj=>?_⟩⟩
   have hj2:j<t-i:=by rw[<-hlen];exact hj
   rw[Nat.add_assoc,(hW.cell (p:=⟨g,fo+(i+j),none⟩) h4).trans (h5 (i+j) (by omega))]
   simp
 have hA:0<n->∃g fo,A=some ⟨g,fo,none⟩:=λh=>by
  rcases hor with h3 | ⟨g2,f2,h3,-⟩
  .rw[h3]at hl;simp at hl;omega
  .exact ⟨g2,f2,h3⟩
 have HA:=Lib.hid hA;have HST:=Lib.hid (And.intro hf (And.intro hlt (And.intro hst (And.intro hL hl))));have hcn:c<=9223372036854775807:=hc.2;have hnc:n<=c:=by omega
 clear hu hm hb hby hor hc hf hlt hst hL hl hA hch hv e2
 go_enter Tryz.func15,Tryz.ntmps15
 go_wp2_with fail;refine zBl λW0 hW0=>?_;have hb0:Below w.heap.size w W0:=by rw[hW0];exact (Below.refl _ _).alloc (Nat.le_refl _) _
 have hK0:bxU u w.heap.size W0:=by rw[hW0];exact heap_alloc_new w _
 have H0:=Lib.hid (And.intro hb0 hK0);clear hW0 hb0 hK0
 go_loopw [6,5] (λiv ov wr=>∃(i:Nat) (o:List (Nat×Nat)) (xv:Value),i<=n/\iv = .int .i64 (i:Int)/\xv=ov/\o.length<=i/\Hid (o++chsF f n n i=L)/\Hid (OR 80 3 rnC W0.heap.size xv o wr/\Below W0.heap.size W0 wr)) (λiv _ _=>n - (intOf iv).toNat)
 case atStart=>exact ⟨0,[],_,Nat.zero_le _,rfl,rfl,Nat.le_refl _,HST.out.2.2.2.1,OR.nil_ _ _ _,Below.refl _ _⟩
 case round=>
  obtain ⟨i,o,ov,hi,rfl,rfl,hol,HO,HR⟩:=hrel;by_cases hin:i<n
  .have hd:decide ((i:Int)<(n:Int))=true:=decide_eq_true (by omega)
   have hdn:decide (i<n)=true:=decide_eq_true hin;obtain ⟨g,fo,rfl⟩:=HA.out (by omega)
   obtain ⟨W2,rfl⟩:∃W2:World,W2=wr:=⟨_,rfl⟩;have hi63:(i:Int)<(n:Int):=by omega
   go_wp2_with fail
   go_loopw [8,7] (λtv bv wr=>∃(t:Nat) (B:Option Nat),i+1<=t/\t<=n+1/\tv = .int .i64 (t:Int)/\bv = .int .i64 (bI B)/\Hid (BstI m u.wh bs i t B)/\Hid (Below W2.heap.size W2 wr)) (λtv _ _=>n+1 - (intOf tv).toNat)
   case atStart=>exact ⟨i+1,none,Nat.le_refl _,by omega,by go_num,rfl,BstI.start _ _ _ _,Below.refl _ _⟩
   case round=>
    obtain ⟨t,B,ht1,ht2,rfl,rfl,HB,HW⟩:=hrel;have hb02:Below W0.heap.size W0 wr:=HR.out.2.trans (HW.out.mono HR.out.2.size);have hbw:Below w.heap.size w wr:=H0.out.1.trans (hb02.mono H0.out.1.size);have hK:bxU u w.heap.size wr:=H0.out.2.later hb02;by_cases htn:t<=n
    .have e1:decide ((t:Int)<=(n:Int))=true:=decide_eq_true (by omega)
     have e1n:decide (t<=n)=true:=decide_eq_true htn;have e2:decide ((t:Int)<=(i:Int)+256)=true:=decide_eq_true (by omega)
     have hdc:=λd:BelT wr.heap.size wr=>(hK.later d.property).cells;have x0:∀d:BelT wr.heap.size wr,d.val.cell? ⟨w.heap.size,0,none⟩=some (.string u.nm):=λd=>(hdc d).1.1;have x1:∀d:BelT wr.heap.size wr,d.val.cell? ⟨w.heap.size,1,none⟩=some (.int .i64 u.op):=λd=>(hdc d).1.2.1;have x2:∀d:BelT wr.heap.size wr,d.val.cell? ⟨w.heap.size,2,none⟩=some (.slice u.a1 u.n1 u.c1):=λd=>(hdc d).1.2.2.1;have x3:∀d:BelT wr.heap.size wr,d.val.cell? ⟨w.heap.size,3,none⟩=some (.slice u.a2 u.n2 u.c2):=λd=>(hdc d).1.2.2.2.1;have x4:∀d:BelT wr.heap.size wr,d.val.cell? ⟨w.heap.size,4,none⟩=some (.int .i64 u.mn):=λd=>(hdc d).1.2.2.2.2.1;have x5:∀d:BelT wr.heap.size wr,d.val.cell? ⟨w.heap.size,5,none⟩=some (.int .i64 u.mx):=λd=>(hdc d).1.2.2.2.2.2;have x6:∀d:BelT wr.heap.size wr,d.val.cell? ⟨w.heap.size,6,none⟩=some (.bool u.wh):=λd=>(hdc d).2.1.1;have x7:∀d:BelT wr.heap.size wr,d.val.cell? ⟨w.heap.size,7,none⟩=some (.int .i64 u.ck):=λd=>(hdc d).2.1.2.1;have x8:∀d:BelT wr.heap.size wr,d.val.cell? ⟨w.heap.size,8,none⟩=some (.int .i64 u.en):=λd=>(hdc d).2.1.2.2.1;have x9:∀d:BelT wr.heap.size wr,d.val.cell? ⟨w.heap.size,9,none⟩=some (.slice u.a3 u.n3 u.c3):=λd=>(hdc d).2.1.2.2.2.1;have x10:∀d:BelT wr.heap.size wr,d.val.cell? ⟨w.heap.size,10,none⟩=some (.int .i64 u.nr):=λd=>(hdc d).2.1.2.2.2.2;have x11:∀d:BelT wr.heap.size wr,w.heap.size<d.val.heap.size:=λd=>(hdc d).2.2;have HC1:=Lib.hid λd:BelT wr.heap.size wr=>HCL.out i t (by omega) htn d.val (hbw.trans (d.property.mono hbw.size))
     have HC2:=Lib.hid λd:BelT wr.heap.size wr=>HBE.out i t g fo rfl (by omega) htn d.val (hbw.trans (d.property.mono hbw.size))
     obtain ⟨cl,hcl⟩:∃b,clrF u.wh bs i t=b:=⟨_,rfl⟩;obtain ⟨ac,hac⟩:∃b,acF m ((bs.drop i).take (t-i)) 0=b:=⟨_,rfl⟩;rw[hcl]at HC1;rw[hac]at HC2;have HAC:=Lib.hid (show AccT m u.wh bs i t↔(cl=true/\ac=true) by
      unfold AccT;rw[hcl,hac,HST.out.2.2.2.2];exact ⟨λh=>⟨h.2.2.2,h.2.2.1⟩,λh=>⟨by omega,htn,h.2,h.1⟩⟩)
     have y1:(i:Int)<=(t:Int):=by omega
     have y2:(t:Int)<=(c:Int):=by omega
     have y3:¬c-i=0:=by omega
     have hb02':=Lib.hid hb02;clear hcl hac hdc hK hbw hb02
     go_upto_region 8 with fail
     cases cl with
     | false=>
      refine zAH (Below.refl wr.heap.size wr) (by kernel_rfl) (by kernel_rfl) ?_
      repeat (go_big_quiet_step (fail))
      go_big_quiet_step ((go_at_call 20;exact Calls.below_of (Nat.le_refl _) (HC1.out _)))
      repeat (go_big_quiet_step (fail))
      refine wpQuiet_nil ?_;intro w9 hw';have hw9:Below wr.heap.size wr w9:=by obtain ⟨d9,rfl⟩:=hw';exact d9.property
      have HW9:=Lib.hid (HW.out.trans (hw9.mono HW.out.size));have HB9:=Lib.hid (HB.out.no (λh=>by have:=(HAC.out.1 h).1;cases this))
      clear hw' hw9 x0 x1 x2 x3 x4 x5 x6 x7 x8 x9 x10 x11;go_wp2_with fail;go_roundw
      case rel=>exact ⟨t+1,B,by omega,by omega,by go_num,rfl,HB9,HW9⟩
      case measure=>simp[intOf];omega
     | true=>
      cases ac with
      | false=>
       refine zAH (Below.refl wr.heap.size wr) (by kernel_rfl) (by kernel_rfl) ?_
       repeat (go_big_quiet_step (fail))
       go_big_quiet_step ((go_at_call 20;exact Calls.below_of (Nat.le_refl _) (HC1.out _)))
       repeat (go_big_quiet_step (fail))
       go_big_quiet_step ((go_at_call 19;exact Calls.below_of (Nat.le_refl _) (HC2.out _)))
       repeat (go_big_quiet_step (fail))
       refine wpQuiet_nil ?_;intro w9 hw';have hw9:Below wr.heap.size wr w9:=by obtain ⟨d9,rfl⟩:=hw';exact d9.property
       have HW9:=Lib.hid (HW.out.trans (hw9.mono HW.out.size));have HB9:=Lib.hid (HB.out.no (λh=>by have:=(HAC.out.1 h).2;cases this))
       clear hw' hw9 x0 x1 x2 x3 x4 x5 x6 x7 x8 x9 x10 x11;go_wp2_with fail;go_roundw
       case rel=>exact ⟨t+1,B,by omega,by omega,by go_num,rfl,HB9,HW9⟩
       case measure=>simp[intOf];omega
      | true=>
       refine zAH (Below.refl wr.heap.size wr) (by kernel_rfl) (by kernel_rfl) ?_
       repeat (go_big_quiet_step (fail))
       go_big_quiet_step ((go_at_call 20;exact Calls.below_of (Nat.le_refl _) (HC1.out _)))
       repeat (go_big_quiet_step (fail))
       go_big_quiet_step ((go_at_call 19;exact Calls.below_of (Nat.le_refl _) (HC2.out _)))
       repeat (go_big_quiet_step (fail))
       refine wpQuiet_nil ?_;intro w9 hw';have hw9:Below wr.heap.size wr w9:=by obtain ⟨d9,rfl⟩:=hw';exact d9.property
       have HW9:=Lib.hid (HW.out.trans (hw9.mono HW.out.size));have HB9:=Lib.hid (HB.out.yes (HAC.out.2 ⟨rfl,rfl⟩));clear hw' hw9 x0 x1 x2 x3 x4 x5 x6 x7 x8 x9 x10 x11;go_wp2_with fail;go_roundw
       case rel=>exact ⟨t+1,some t,by omega,by omega,by go_num,rfl,HB9,HW9⟩
       case measure=>simp[intOf];omega
    .obtain rfl:t=n+1:=by omega
     have e1:decide (((n+1:Nat):Int)<=(n:Int))=false:=decide_eq_false (by omega)
     have e1i:decide ((n:Int)+1<=(n:Int))=false:=decide_eq_false (by omega)
     have e1n:decide (n+1<=n)=false:=decide_eq_false (by omega)
     have HB9:=Lib.hid (show f i=B by
      have h1:=HB.out;rw[<-HST.out.2.2.2.2]at h1;rw[<-HST.out.1];exact h1.done (by rw[HST.out.2.2.2.2];omega))
     have hown:=HR.out.1.later HW.out;have HB2:=Lib.hid hb02;have hsz:W0.heap.size<=wr.heap.size:=hb02.size;clear hb02 hbw hK
     cases B with
     | none=>
      have HO2:=Lib.hid (show o++chsF f n n (i+1)=L by
       have h1:=HST.out.2.2.1 i hin;rw[HB9.out]at h1;rw[<-HO.out,h1])
      have HOW:=Lib.hid hown;clear hown;go_wp2_with fail;go_roundw
      case rel=>exact ⟨i+1,o,_,by omega,by go_num,rfl,by omega,HO2,HOW.out,HB2.out⟩
      case measure=>simp[intOf];omega
     | some t=>
      have htt:=HST.out.2.1 i t hin HB9.out;have HO2:=Lib.hid (show (o++[(i,t)])++chsF f n n t=L by
       have h1:=HST.out.2.2.1 i hin;rw[HB9.out]at h1;rw[<-HO.out,h1,List.append_assoc];rfl)
      have hneg:decide ((t:Int)<0)=false:=decide_eq_false (by omega)
      go_wp2_with (at_builtin;refine zFk zLb Tryz.underlying36 hie hk0 hk1 hk2 rfl (by decide) _ _ _ _ o (i,t) _ W0.heap.size rfl rfl rfl rfl rfl hown (by omega) hsz ?_;intro v1 w1 hown1 hb1)
      have HR1:=Lib.hid (And.intro hown1 (HB2.out.trans hb1));clear hown1 hb1 hown;go_wp2_with fail;go_roundw
      case rel=>exact ⟨t,o++[(i,t)],_,by omega,rfl,rfl,by rw[List.length_append];simp;omega,HO2,HR1.out⟩
      case measure=>simp[intOf,bI];omega
  .obtain rfl:i=n:=by omega
   have hd:decide ((i:Int)<(i:Int))=false:=decide_eq_false (by omega)
   have hdn:decide (i<i)=false:=decide_eq_false (by omega)
   go_wp2_with fail;go_ret;have h1:=HO.out;rw[zJX (Nat.le_refl _),List.append_nil]at h1;rw[<-h1];exact ⟨_,rfl,HR.out.1.mono H0.out.1.size,H0.out.1.trans (HR.out.2.mono H0.out.1.size)⟩
set_option maxHeartbeats 8000000 in
theorem zJP (v1 v2:Value) (B1 B2:Nat) (l:List (Nat×Nat)) (w:World) (h1:OR 80 3 rnC B1 v1 l w) (h2:OR 80 3 rnC B2 v2 l w) (hl:l.length<=1000) (hb:∀p∈l,p.1<=1000/\p.2<=1000) :
  Calls Tryz.prog 14 #[v1,v2] w λe w'=>e = .returned (.bool true)/\Below w.heap.size w w':=by
 obtain ⟨A1,c1,e1,hc1,hor1⟩:=h1.cells zLb;obtain ⟨A2,c2,e2,hc2,hor2⟩:=h2.cells zLb;subst e1 e2;obtain ⟨n,hn⟩:∃n,l.length=n:=⟨_,rfl⟩;have HO:=Lib.hid (And.intro hor1 (And.intro hor2 (And.intro hn hb)));rw[hn]at hc1 hc2 hl|-;have t0:((n:Int) != (n:Int))=false:=by simp
 clear h1 h2 hor1 hor2 hn hb
 go_enter Tryz.func14,Tryz.ntmps14
 go_wp2_with fail
 go_loopw [5] (λiv wr=>∃i:Nat,i<=n/\iv = .int .i64 (i:Int)/\Hid (Below w.heap.size w wr)) (λiv _=>n - (intOf iv).toNat)
 case atStart=>exact ⟨0,Nat.zero_le _,rfl,Below.refl _ _⟩
 case round=>
  obtain ⟨i,hi,rfl,HB⟩:=hrel;by_cases hlt:i<n
  .have hd:decide ((i:Int)<(n:Int))=true:=decide_eq_true (by omega)
   have hdn:decide (i<n)=true:=decide_eq_true hlt;have hil:i<l.length:=by rw[HO.out.2.2.1];exact hlt
   have hne:l≠[]:=by rintro rfl;cases hil
   obtain ⟨gx,rfl,-,hgx,hx⟩:=HO.out.1.resolve_left hne;obtain ⟨gy,rfl,-,hgy,hy⟩:=HO.out.2.1.resolve_left hne;obtain ⟨p,hp⟩:∃p,l[i]=p:=⟨_,rfl⟩;obtain ⟨a,ha⟩:∃a,p.1=a:=⟨_,rfl⟩;obtain ⟨z,hz⟩:∃z,p.2=z:=⟨_,rfl⟩;have hpz:rnC l[i]=[.int .i64 0, .int .i64 (a:Int), .int .i64 (z:Int)]:=by rw[hp,<-ha,<-hz];rfl
   have hbd:=HO.out.2.2.2 _ (List.getElem_mem hil);rw[hp,ha,hz]at hbd;have hx':∀d:BelT wr.heap.size wr,∀j,j<3->d.val.cell? ⟨gx,i*3+j,none⟩=([.int .i64 0, .int .i64 (a:Int), .int .i64 (z:Int)]:List Value)[j]?:=λd j hj=>((HB.out.trans (d.property.mono HB.out.size)).cell (p:=⟨gx,i*3+j,none⟩) hgx).trans (by rw[(hx i hil j hj).1,hpz])
   have hy':∀d:BelT wr.heap.size wr,∀j,j<3->d.val.cell? ⟨gy,i*3+j,none⟩=([.int .i64 0, .int .i64 (a:Int), .int .i64 (z:Int)]:List Value)[j]?:=λd j hj=>((HB.out.trans (d.property.mono HB.out.size)).cell (p:=⟨gy,i*3+j,none⟩) hgy).trans (by rw[(hy i hil j hj).1,hpz])
   have x0:∀d:BelT wr.heap.size wr,d.val.cell? ⟨gx,i*3,none⟩=some (.int .i64 0):=λd=>hx' d 0 (by decide)
   have x1:∀d:BelT wr.heap.size wr,d.val.cell? ⟨gx,i*3+1,none⟩=some (.int .i64 (a:Int)):=λd=>hx' d 1 (by decide)
   have x2:∀d:BelT wr.heap.size wr,d.val.cell? ⟨gx,i*3+2,none⟩=some (.int .i64 (z:Int)):=λd=>hx' d 2 (by decide)
   have y0:∀d:BelT wr.heap.size wr,d.val.cell? ⟨gy,i*3,none⟩=some (.int .i64 0):=λd=>hy' d 0 (by decide)
   have y1:∀d:BelT wr.heap.size wr,d.val.cell? ⟨gy,i*3+1,none⟩=some (.int .i64 (a:Int)):=λd=>hy' d 1 (by decide)
   have y2:∀d:BelT wr.heap.size wr,d.val.cell? ⟨gy,i*3+2,none⟩=some (.int .i64 (z:Int)):=λd=>hy' d 2 (by decide)
   have gx0:∀d:BelT wr.heap.size wr,gx<d.val.heap.size:=λd=>Nat.lt_of_lt_of_le hgx (HB.out.trans (d.property.mono HB.out.size)).size;have gy0:∀d:BelT wr.heap.size wr,gy<d.val.heap.size:=λd=>Nat.lt_of_lt_of_le hgy (HB.out.trans (d.property.mono HB.out.size)).size;have hi63:(i:Int)<(n:Int):=by omega
   clear hx' hy' hx hy hp ha hz hpz hne hgx hgy;go_wp2_with fail;refine zAH (Below.refl wr.heap.size wr) (by kernel_rfl) (by kernel_rfl) ?_
   repeat (go_big_quiet_step (fail))
   refine wpQuiet_nil ?_;intro wz hw';have hwz:Below wr.heap.size wr wz:=by obtain ⟨d9,rfl⟩:=hw';exact d9.property
   have HBZ:=Lib.hid (HB.out.trans (hwz.mono HB.out.size));clear hw' x0 x1 x2 y0 y1 y2 gx0 gy0 hwz;go_wp2_with fail;go_roundw
   case rel=>exact ⟨i+1,by omega,by go_num,HBZ.out⟩
   case measure=>simp[intOf];omega
  .obtain rfl:i=n:=by omega
   have hd:decide ((i:Int)<(i:Int))=false:=decide_eq_false (by omega)
   have hdn:decide (i<i)=false:=decide_eq_false (by omega)
   go_wp2_with fail;go_ret;exact ⟨rfl,HB.out⟩
end Go.Proofs.YtadjdkickjjieaaGreatDoor
