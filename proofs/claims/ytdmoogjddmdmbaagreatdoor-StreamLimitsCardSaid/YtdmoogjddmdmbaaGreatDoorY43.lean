/- An append of rows that are read to a row of the call's own; what the kinds of a library ask of advance. · stream.Feed: the walk. · stream.Finish: the walk. · stream.New; a piece beyond the limit. · Plain: the token's kind of chapter 09; what its scanner does with zeros and with the token. · Calls of StreamLimits: the chapter's kind in memory; Feed and Finish at zeros and at the token. · law09.awake answers true. · The law StreamLimits: the call returns true, for every number. -/
import Derived.Test.YtdmoogjddmdmbaaGreatDoorY39
import Derived.Test.YtdmoogjddmdmbaaGreatDoorY42
import Derived.Test.YtdmoogjddmdmbaaGreatDoorY29
import Derived.Laws.ResultCell
import Derived.Test.YtdmoogjddmdmbaaGreatDoorY38
import Derived.Test.YtdmoogjddmdmbaaGreatDoorY06
import Derived.Test.YtdmoogjddmdmbaaGreatDoorY05
namespace Go.Proofs.YtdmoogjddmdmbaaGreatDoor
set_option linter.unusedVariables false
set_option linter.unusedSimpArgs false
set_option maxRecDepth 100000
open Go.RowKit
theorem appRI_at {α:Type} {enc:α->List Value} {n:Nat} (E:EncS enc n) {w:World} {ops:Array Oper} {rest:List Oper} {o:Oper} {a:Act} {Q:Exit->Act->World->Prop} (hgd:o.guard=none) (s x:Operand) (t:TypeId)
  (ho:o.op = .call { callee:=.builtin .append,args:=#[s,x],argTypes:=#[t,t] }) (e:TypeId) (i:TypeInfo) (z:Value) (bytes:Nat) (ht:Tryz.prog.underlying t=some (.slice e)) (hi:Tryz.prog.info? e=some i) (hz:i.zero=some z) (hsize:i.size=n) (hby:i.bytes=bytes) (hzs:z.cells.size=n) (hbl:bytes<=1000)
  (B:Nat) (v X:Value) (ss ws:List α) (hs:a.eval s=v) (hx:a.eval x=X) (hown:OR e n enc B v ss w) (hst:RIn enc n w X ws) (hl:ss.length+ws.length<=1000000) (hB:B<=w.heap.size)
  (h:∀v' w',OR e n enc B v' (ss++ws) w'->w.grownBy w' v.ownBlock->wpList Tryz.prog ops Q rest (a.put o.dst v') w'):wpList Tryz.prog ops Q (o::rest) a w:=by
 obtain ⟨A,c,rfl,hc,hor⟩:=hst;refine wpList_plain hgd λK hK=>?_;have hb:(ss.length+ws.length)*bytes<=140737488355328:=Nat.le_trans (Nat.mul_le_mul hl hbl) (by decide)
 have hOS:∀{v' w'},w'.ownsRow B e n v' (ss.length+ws.length) (rowF enc ss++rowF enc ws)->OR e n enc B v' (ss++ws) w':=λh=>by
  show World.ownsRow _ _ _ _ _ _ _;rw[List.length_append,rowF_app];exact h
 have go:∀ad,A=some ad->(∀(j:Nat) u,(rowF enc ws)[j]?=some u->w.cell? (ad.add j)=some u)->Oper.wp Tryz.prog o a w K Q:=by
  rintro ad rfl hnews;obtain ⟨v',w',hr,h2,h3,h4⟩:=run_append_own (P:=Tryz.prog) w B t o.type e i z n bytes ht hi hz hsize hby hzs E.pos v ss.length _ hown ad ws.length c (rowF enc ws) (rowF_len E ws) hnews (rowF_one E ws) (by unfold maxLen;omega) hb hB
  unfold Oper.wp execOp;simp only[ho,resolve,invoke,builtin,Sem.run_bind,Sem.run_pure,Result.andThen_ok,List.map_toArray,List.map_cons,List.map_nil,hs,hx,hr];exact hK _ _ (h v' w' (hOS h2) h3)
 rcases hor with rfl | ⟨g,f,rfl,hg,hcl⟩
 .cases A with
  | some ad=>exact go ad rfl (λj u hj=>by simp[rowF]at hj)
  | none=>
   have hr:=run_append_zero (P:=Tryz.prog) B t o.type e i n ht hi c v _ _ hown;rw[List.length_nil]at hx;unfold Oper.wp execOp;simp only[ho,resolve,invoke,builtin,Sem.run_bind,Sem.run_pure,Result.andThen_ok,List.map_toArray,List.map_cons,List.map_nil,hs,hx,hr];exact hK _ _ (h v w (hOS (by simpa [rowF] using (show w.ownsRow _ _ _ _ _ _ from hown))) ⟨rfl,rfl,rfl,Nat.le_refl _,λ_ _ _=>rfl⟩)
 .refine go _ rfl λj u hj=>?_;have hlt:j<ws.length*n:=by rw[<-rowF_len E ws];exact (List.getElem?_eq_some_iff.1 hj).1
  have hd:j / n<ws.length:=(Nat.div_lt_iff_lt_mul E.pos).2 hlt;have hm:j % n<n:=Nat.mod_lt _ E.pos;have hdm:=Nat.div_add_mod j n;rw[Nat.mul_comm]at hdm;have h9:=hcl (j / n) hd (j % n) hm;rw[Addr.add_lit,show f+j=f+j / n*n+j % n by omega,h9,<-rowF_get E ws (j / n) (j % n) hd hm,hdm]
  exact hj
theorem ob_or {B:Nat} {v:Value} {l:List UInt8} {w:World}:OB 5 B v l w↔OR 5 1 u8C B v l w:=by
 show w.ownsRow _ _ _ _ _ _↔w.ownsRow _ _ _ _ _ _;rw[rowF_u8]
theorem txI_of {B:Nat} {A:Option Addr} {n c:Nat} {l:List UInt8} {w:World} (h:OB 5 B (.slice A n c) l w) (hl:l.length<=900000):TxI w A n c (l.map UInt8.toNat):=by
 have hby:=OBs.reads h;have hn:l.length=n:=by obtain ⟨A',c',e,-⟩:=hby;injection e with _ e _;rw[e,List.length_map]
 refine ⟨hby,?_,by rw[List.length_map,hn],by omega,λb hb=>?_⟩
 .rcases h.2 with ⟨h1,-⟩ | ⟨g,cap,cur,h1,-⟩
  .injection h1 with e1 _ e3;exact .inl ⟨e1,e3⟩
  .injection h1 with e1 _ _;exact .inr ⟨g,0,e1⟩
 .obtain ⟨y,-,rfl⟩:=List.mem_map.1 hb;exact y.toNat_lt
def askOf (k:Kn) (nr:Nat):Ask:=⟨k.ck,k.en,k.ws,nr⟩
structure KnSm (k:Kn) (nr:Nat):Prop where
 nre:k.nr=(nr:Int)
 n64:nr<=64
 wl:∀s∈k.ws,s.size<=1000000
 vd:validF k.pat=0
 lg:longF k.pat<=1024
theorem KnIn.psK {w:World} {u:KC} {k:Kn} {nr:Nat} (h:KnIn w u k) (hs:KnSm k nr):PsK w u (askOf k nr):=⟨h.ck,h.en,h.ws,h.nr.trans hs.nre,hs.n64,hs.wl⟩
theorem adH_of {B:Nat} {x:KC×M2} {m:Mc} {k:Kn} {nr:Nat} {A:Option Addr} {c:Nat} {K:List UInt8} {w0:World} (hB:w0.heap.size<=B) (hm:McIn w0 x.2.val m) (hg:McGo m) (hk:KnIn w0 x.1 k) (hs:KnSm k nr) (hv:VrOK w0) (hK:K.length<=900000) (w:World) (hw:Below w0.heap.size w0 w):AdH B x m k.pat (psF (K.map UInt8.toNat) (askOf k nr)) (.slice A K.length c) K w where
 mc W hW:=hm.later (hw.trans (hW.mono hB))
 go:=hg
 ndi W hW:=hk.pat.later (hw.trans (hW.mono hB))
 vd:=hs.vd
 lg:=hs.lg
 ps W hW ho:=λW' a z hb h1 h2=>by
  have hBW:w0.heap.size<=W.heap.size:=(hw.trans (hW.mono hB)).size;have hbw:=(hw.trans (hW.mono hB)).trans (hb.mono hBW);exact passesK x.1 (askOf k nr) A K.length c a z (K.map UInt8.toNat) W' ((txI_of ho hK).later hb) (by omega) h2 ((hk.later hbw).psK hs) (hv.later hbw)
theorem results_cell_row2 {P:Program} {fn:Func} {p u:Tmp} {ty:TypeId} (h:fn.results=#[.cell p ty, .tmp u]) (tmps:Array Value) (w:World) (g:Nat) (t:TypeId) (cs:Array Value) (fr:Nat×Nat) (d:TypeDesc)
  (hp:tmps.getD p undef = .pointer (some ⟨g,0,none⟩)) (hg:w.heap[g]?=some (.cells cs t fr))
  (hu:P.underlying ty=some d) (hd:(match d with | .struct _ | .array _ _=>true | _=>false)=true) (hi:(P.info? ty).map (·.size)=some cs.size) :
  (results fn tmps).run P w = .ok (.tuple #[.agg cs,tmps.getD u undef]) w:=by
 rw[results_cell_tmp h,hp];simp[asAddr,run_loadVar_row w g t ty cs fr d hg hu hd hi]
structure KdD where
 wait:Nat
 mg:Nat
 cho:Nat->Option Nat
 p:Nat->Nat->Bool
def dOf (m:Mc) (k:Kn) (nr:Nat) (K:List UInt8):KdD:=⟨longF k.pat+max nr 1,max nr 1,chF m k.wh (K.map UInt8.toNat),psF (K.map UInt8.toNat) (askOf k nr)⟩
def advR (en:Bool) (D:KdD) (n ba q:Nat):List (Nat×Nat)×Nat:=advL n D.wait en D.cho D.p (n+1) (q-ba)
def stN (en:Bool) (D:Nat->KdD) (n ba:Nat) (nx:List Nat):Nat->List Nat
 | 0=>nx
 | k+1=>(stN en D n ba nx k).set k (ba+(advR en (D k) n ba ((nx[k]?).getD 0)).2)
def stM (en:Bool) (D:Nat->KdD) (n ba:Nat) (nx:List Nat) (ms:List Mt):Nat->List Mt
 | 0=>ms
 | k+1=>stM en D n ba nx ms k++mtB k ba (advR en (D k) n ba ((nx[k]?).getD 0)).1
def stK (en:Bool) (D:Nat->KdD) (n ba:Nat) (nx:List Nat) (tt:Int):Nat->Int
 | 0=>tt
 | k+1=>min (stK en D n ba nx tt k) (((ba+(advR en (D k) n ba ((nx[k]?).getD 0)).2:Nat):Int) - ((D k).mg:Int))
theorem stN_len (en:Bool) (D:Nat->KdD) (n ba:Nat) (nx:List Nat):∀k,(stN en D n ba nx k).length=nx.length
 | 0=>rfl
 | k+1=>by rw[stN,List.length_set,stN_len en D n ba nx k]
theorem stN_get (en:Bool) (D:Nat->KdD) (n ba:Nat) (nx:List Nat):∀k i,k<=i->(stN en D n ba nx k)[i]?=nx[i]?
 | 0,i,_=>rfl
 | k+1,i,h=>by rw[stN,List.getElem?_set_ne (by omega),stN_get en D n ba nx k i (by omega)]
theorem advL_le {m wait:Nat} {en:Bool} {cho:Nat->Option Nat} {p:Nat->Nat->Bool} (hc:∀i t,cho i=some t->t<=m):∀f a,a<=m->(advL m wait en cho p f a).2<=m/\(advL m wait en cho p f a).1.length<=f
 | 0,a,h=>⟨h,Nat.le_refl _⟩
 | f+1,a,h=>by
  rw[advL]
  split
  .exact ⟨h,Nat.zero_le _⟩
  .rename_i hn
   cases hca:cho a with
   | none=>
    have h1:=advL_le (wait:=wait) (en:=en) (p:=p) hc f (a+1) (by omega)
    exact ⟨h1.1,by have:=h1.2;simp only;omega⟩
   | some t=>
    have h1:=advL_le (wait:=wait) (en:=en) (p:=p) hc f t (hc a t hca);refine ⟨h1.1,?_⟩
    dsimp only
    split
    .rw[List.length_cons];omega
    .omega
def KdD.ok (D:KdD) (n:Nat):Prop:=(∀i t,D.cho i=some t->t<=n)/\D.mg<=64
theorem dOf_ok {m:Mc} {k:Kn} {nr:Nat} {K:List UInt8} (h:nr<=64):(dOf m k nr K).ok K.length:=⟨λi t h=>by have:=chF_bd h;rw[List.length_map]at this;exact this.2,by show max nr 1<=64;omega⟩
theorem advR_le {en:Bool} {D:KdD} {n ba q:Nat} (h:D.ok n) (hq:q<=ba+n):(advR en D n ba q).2<=n/\(advR en D n ba q).1.length<=n+1:=advL_le h.1 _ _ (by omega)
theorem stM_len {en:Bool} {D:Nat->KdD} {n ba:Nat} {nx:List Nat} {ms:List Mt} (hD:∀k,(D k).ok n) (hn:∀k:Nat,(nx[k]?).getD 0<=ba+n):∀k:Nat,(stM en D n ba nx ms k).length<=ms.length+k*(n+1)
 | 0=>by simp[stM]
 | k+1=>by
  have h1:=stM_len (en:=en) (ms:=ms) hD hn k;have h2:=(advR_le (en:=en) (hD k) (hn k)).2;rw[stM,List.length_append,mtB,List.length_map,Nat.succ_mul];omega
theorem stK_bd {en:Bool} {D:Nat->KdD} {n ba:Nat} {nx:List Nat} {tt:Nat} (hD:∀k,(D k).ok n):∀k,stK en D n ba nx tt k<=tt/\-64<=stK en D n ba nx tt k
 | 0=>⟨Int.le_refl _,by show -64<=(tt:Int);omega⟩
 | k+1=>by
  have h1:=stK_bd (en:=en) (ba:=ba) (nx:=nx) (tt:=tt) hD k;have h2:=(hD k).2;rw[stK];omega
structure FdI (B b tt ba:Nat) (K:List UInt8) (nx:List Nat) (ms:List Mt) (kv nv mv:Value) (w wr:World):Prop where
 s:ScS B b tt ba K nx ms kv nv mv wr
 bl:Below B w wr
theorem FdI.later {B b tt ba:Nat} {K:List UInt8} {nx:List Nat} {ms:List Mt} {kv nv mv:Value} {w wr w':World} (h:FdI B b tt ba K nx ms kv nv mv w wr) (hb:Below wr.heap.size wr w'):FdI B b tt ba K nx ms kv nv mv w w':=
 ⟨h.s.later hb,h.bl.trans (hb.mono (Nat.le_trans h.s.hb (Nat.le_of_lt h.s.lt)))⟩
theorem fns_cell {w:World} {v:Value} {fs:List (KC×M2)} {ms:List Mc} (h:FnsIn w v fs ms) (hn:0<fs.length):∃g f c,v = .slice (some ⟨g,f,none⟩) fs.length c/\g<w.heap.size/\∀i (h:i<fs.length),∀j,j<13->w.cell? ⟨g,f+i*13+j,none⟩=(encFd fs[i])[j]?:=by
 obtain ⟨-,A,c,rfl,-,hor,-⟩:=h;obtain ⟨g,f,rfl,hg,hc⟩:=hor.resolve_left (by rintro rfl;simp at hn)
 exact ⟨g,f,c,rfl,hg,hc⟩
theorem kns_cell {w:World} {v:Value} {us:List KC} {ks:List Kn} (h:KnsIn w v us ks) (hn:0<us.length):∃g f c,v = .slice (some ⟨g,f,none⟩) us.length c/\g<w.heap.size/\∀i (h:i<us.length),∀j,j<11->w.cell? ⟨g,f+i*11+j,none⟩=us[i].cs[j]?:=by
 obtain ⟨-,A,c,rfl,-,hor,-⟩:=h;obtain ⟨g,f,rfl,hg,hc⟩:=hor.resolve_left (by rintro rfl;simp at hn)
 exact ⟨g,f,c,rfl,hg,hc⟩
theorem setk_other {K k j:Nat} {v:Value} {w:World} (h:k≠K):(w.setCell ⟨K,j,none⟩ v).heap[k]?=w.heap[k]?:=Below.heap_setCell _ _ _ _ (by dsimp only;omega)
theorem ScS.mk' {B b tt ba:Nat} {K:List UInt8} {nx:List Nat} {ms:List Mt} {kv nv mv:Value} {cs:Array Value} {w w':World} (hbox:w'.heap[b]?=some (.cells #[.int .i64 (tt:Int), .int .i64 (ba:Int),kv,nv,mv] 51 (0,0))) (hb:B<=b) (hk:OB 5 B kv K w) (hn:OR 3 1 inC B nv nx w) (hm:OR 36 3 encT B mv ms w) (hbs:w.heap[b]?=some (.cells cs 51 (0,0))) (hne:∀k,k≠b->w'.heap[k]?=w.heap[k]?):ScS B b tt ba K nx ms kv nv mv w':=by
 have ty:∀(k:Nat) (T:TypeId) (cs':Array Value) (mm:Nat×Nat),T≠51->w.heap[k]?=some (.cells cs' T mm)->k≠b:=λk T cs' mm hT hk e=>by
  subst e;rw[hbs]at hk;injection hk with hk;injection hk with _ hk _;exact hT hk.symm
 refine ⟨hbox,hb,own_same hk λq hq=>?_,own_same hn λq hq=>?_,own_same hm λq hq=>?_⟩
 .obtain ⟨cs',mm,h⟩:=own_type hk q hq;exact hne q (ty _ _ _ _ (by decide) h)
 .obtain ⟨cs',mm,h⟩:=own_type hn q hq;exact hne q (ty _ _ _ _ (by decide) h)
 .obtain ⟨cs',mm,h⟩:=own_type hm q hq;exact hne q (ty _ _ _ _ (by decide) h)
def dsOf (mcs:List Mc) (ks:List Kn) (nrs:Nat->Nat) (K:List UInt8) (k:Nat):KdD:=match mcs[k]?,ks[k]? with
 | some m,some kn=>dOf m kn (nrs k) K
 | _,_=>⟨0,0,λ_=>none,λ_ _=>false⟩
theorem dsOf_ok {mcs:List Mc} {ks:List Kn} {nrs:Nat->Nat} {K:List UInt8} (h:∀i (h:i<ks.length),nrs i<=64) (k:Nat):(dsOf mcs ks nrs K k).ok K.length:=by
 unfold dsOf
 split
 .rename_i m kn h1 h2
  exact dOf_ok (h k (List.getElem?_eq_some_iff.1 h2).1)
 .exact ⟨λi t h=>(by cases h),by decide⟩
theorem dsOf_eq {mcs:List Mc} {ks:List Kn} {nrs:Nat->Nat} {K:List UInt8} {k:Nat} (h1:k<mcs.length) (h2:k<ks.length):dsOf mcs ks nrs K k=dOf mcs[k] ks[k] (nrs k) K:=by
 unfold dsOf;rw[List.getElem?_eq_getElem h1,List.getElem?_eq_getElem h2]
def keepF (ba sk:Int) (K:List UInt8):List UInt8:=if ba<sk then K.drop (sk-ba).toNat else K
def baseF (ba sk:Int):Int:=if ba<sk then sk else ba
structure ScOK (n tt ba:Nat) (K:List UInt8) (nx:List Nat):Prop where
 h1:tt<=65536
 h2:K.length+ba=tt
 h3:nx.length=n
 h4:∀x∈nx,x<=tt
structure ScO (B:Nat) (w:World) (K:List UInt8) (nx:List Nat) (ms:List Mt) (kv nv mv:Value):Prop where
 k:OB 5 B kv K w
 n:OR 3 1 inC B nv nx w
 m:OR 36 3 encT B mv ms w
theorem ScO.v {B:Nat} {w:World} {K:List UInt8} {nx:List Nat} {ms:List Mt} {kv nv mv:Value} (h:ScO B w K nx ms kv nv mv):ScV w K nx ms kv nv mv:=⟨RIn.of_OR u8C_E (ob_or.1 h.k),RIn.of_OR inC_E h.n,RIn.of_OR encT_E h.m⟩
theorem ScO.keep {B:Nat} {w w':World} {K:List UInt8} {nx:List Nat} {ms:List Mt} {kv nv mv:Value} (h:ScO B w K nx ms kv nv mv) (hk:∀q,B<=q->q<w.heap.size->w'.heap[q]?=w.heap[q]?):ScO B w' K nx ms kv nv mv:=
 ⟨own_same h.k λq hq=>hk q (World.ownsRow.lt h.k q hq).1 (World.ownsRow.lt h.k q hq).2,own_same h.n λq hq=>hk q (World.ownsRow.lt h.n q hq).1 (World.ownsRow.lt h.n q hq).2,own_same h.m λq hq=>hk q (World.ownsRow.lt h.m q hq).1 (World.ownsRow.lt h.m q hq).2⟩
def FeedP (ks:List Kn) (nrs:Nat->Nat) (tt ba:Nat) (K P:List UInt8) (nx:List Nat) (ms:List Mt) (w:World) (e:Ending) (w':World):Prop:=
 Below w.heap.size w w'/\∃mcs,LaA ks 0 mcs/\∃kv nv mv,e = .returned (.tuple #[.agg #[.int .i64 ((tt+P.length:Nat):Int), .int .i64 (baseF (ba:Int) (stK false (dsOf mcs ks nrs (K++P)) (K++P).length ba nx ((tt+P.length:Nat):Int) ks.length)),kv,nv,mv], .int .i64 0])/\
  ScO w.heap.size w' (keepF (ba:Int) (stK false (dsOf mcs ks nrs (K++P)) (K++P).length ba nx ((tt+P.length:Nat):Int) ks.length) (K++P)) (stN false (dsOf mcs ks nrs (K++P)) (K++P).length ba nx ks.length) (stM false (dsOf mcs ks nrs (K++P)) (K++P).length ba nx ms ks.length) kv nv mv
theorem fd9_cells {w:World} {g f i:Nat} {x:KC×M2} (h:∀j,j<13->w.cell? ⟨g,f+i*13+j,none⟩=(encFd x)[j]?):w.cell? ⟨g,f+i*13,none⟩=some (.string x.1.nm)/\w.cell? ⟨g,f+i*13+1,none⟩=some (.int .i64 x.1.op)/\w.cell? ⟨g,f+i*13+2,none⟩=some (.slice x.1.a1 x.1.n1 x.1.c1)/\w.cell? ⟨g,f+i*13+3,none⟩=some (.slice x.1.a2 x.1.n2 x.1.c2)/\w.cell? ⟨g,f+i*13+4,none⟩=some (.int .i64 x.1.mn)/\w.cell? ⟨g,f+i*13+5,none⟩=some (.int .i64 x.1.mx)/\w.cell? ⟨g,f+i*13+6,none⟩=some (.bool x.1.wh)/\w.cell? ⟨g,f+i*13+7,none⟩=some (.int .i64 x.1.ck)/\w.cell? ⟨g,f+i*13+8,none⟩=some (.int .i64 x.1.en)/\w.cell? ⟨g,f+i*13+9,none⟩=some (.slice x.1.a3 x.1.n3 x.1.c3)/\w.cell? ⟨g,f+i*13+10,none⟩=some (.int .i64 x.1.nr)/\w.cell? ⟨g,f+i*13+11,none⟩=some (.slice x.2.a1 x.2.n1 x.2.c1)/\w.cell? ⟨g,f+i*13+12,none⟩=some (.slice x.2.a2 x.2.n2 x.2.c2):=
 ⟨h 0 (by decide),h 1 (by decide),h 2 (by decide),h 3 (by decide),h 4 (by decide),h 5 (by decide),h 6 (by decide),h 7 (by decide),h 8 (by decide),h 9 (by decide),h 10 (by decide),h 11 (by decide),h 12 (by decide)⟩
def factF (xf:KC×M2) (gK fK n c k:Nat):Nat->Nat->Value->World->Prop
 | _,0,x,_=>x = .agg #[.string xf.1.nm, .int .i64 xf.1.op, .slice xf.1.a1 xf.1.n1 xf.1.c1, .slice xf.1.a2 xf.1.n2 xf.1.c2, .int .i64 xf.1.mn, .int .i64 xf.1.mx, .bool xf.1.wh, .int .i64 xf.1.ck, .int .i64 xf.1.en, .slice xf.1.a3 xf.1.n3 xf.1.c3, .int .i64 xf.1.nr, .slice xf.2.a1 xf.2.n1 xf.2.c1, .slice xf.2.a2 xf.2.n2 xf.2.c2]
 | _,1,x,_=>x = .slice (some ⟨gK,fK,none⟩) n c
 | _,2,x,_=>x = .int .i64 (k:Int)
 | _,3,x,_=>x = .pointer (some ⟨gK,fK+k*11,none⟩)
 | _,4,x,_=>x = .agg #[.string xf.1.nm, .int .i64 xf.1.op, .slice xf.1.a1 xf.1.n1 xf.1.c1, .slice xf.1.a2 xf.1.n2 xf.1.c2, .int .i64 xf.1.mn, .int .i64 xf.1.mx, .bool xf.1.wh, .int .i64 xf.1.ck, .int .i64 xf.1.en, .slice xf.1.a3 xf.1.n3 xf.1.c3, .int .i64 xf.1.nr]
 | _,5,x,_=>x = .int .i64 (k:Int)
 | _,_,_,_=>True
set_option maxHeartbeats 16000000 in
theorem feed_any (A:Option Addr) (n c tt ba:Nat) (us:List KC) (ks:List Kn) (nrs:Nat->Nat) (K P:List UInt8) (nx:List Nat) (ms:List Mt) (kv nv mv pv:Value) (w:World) (h:KnsIn w (.slice A n c) us ks) (hv:VrOK w) (hnm:∀k∈ks,k.nm.size<=140737488355328) (hgd:∀er msc,LaA ks er msc->er=0) (hsm:∀i (h:i<ks.length),KnSm ks[i] (nrs i))
  (hs:ScV w K nx ms kv nv mv) (hok:ScOK n tt ba K nx) (hp:RIn u8C 1 w pv P) (h5:1<=n/\n<=3) (h6:tt+P.length<=65536) (h7:ms.length<=3000) :
  Calls Tryz.prog 17 #[.slice A n c, .agg #[.int .i64 (tt:Int), .int .i64 (ba:Int),kv,nv,mv],pv] w (FeedP ks nrs tt ba K P nx ms w):=by
 obtain ⟨Ak,ck,rfl,-⟩:=id hs.k;obtain ⟨An,cn,rfl,-⟩:=id hs.n;obtain ⟨Am,cm,rfl,-⟩:=id hs.m;obtain ⟨Ap,cp,rfl,-⟩:=id hp;have hl:=h.1;have hun:us.length=n:=by obtain ⟨-,A',c',e,-⟩:=id h;injection e with _ e _;exact e.symm
 have hkn:ks.length=n:=by omega
 have HF:=Lib.hid (λ(W:World) (hb:Below w.heap.size w W)=>finders_any A n c us ks W (h.later hb) (hv.later hb) hnm);have HVA:=Lib.hid (λ(W:World) (hb:Below w.heap.size w W)=>validS_any A n c tt ba K nx ms _ _ _ W (hs.later hb) hok.h1 hok.h2 hok.h3 hok.h4 (by omega))
 have HCP:=Lib.hid (λ(W:World) (hb:Below w.heap.size w W)=>copied_any (tt:Int) (ba:Int) K nx ms _ _ _ W (hs.later hb) (by have:=hok.h2;omega) (by have:=hok.h3;omega) (by omega))
 have HH:=Lib.hid (And.intro h (And.intro hv (And.intro hgd (And.intro hsm (And.intro hs (And.intro hok (And.intro hp (And.intro hun hkn))))))));obtain ⟨pl,hpl⟩:∃z,P.length=z:=⟨_,rfl⟩;have hok1:=hok.h1;have HPL:=Lib.hid hpl;unfold FeedP;rw[hkn];clear h hv hnm hgd hsm hs hok hp hl hun hkn;rw[hpl]at h6|-;obtain ⟨K1,hK1⟩:∃z,K++P=z:=⟨_,rfl⟩;obtain ⟨n1,hn1⟩:∃z,K1.length=z:=⟨_,rfl⟩;obtain ⟨t1,ht1⟩:∃z,tt+pl=z:=⟨_,rfl⟩;have hn1t:n1+ba=t1:=by have:=HH.out.2.2.2.2.2.1.h2;rw[<-hn1,<-hK1,List.length_append];omega
 rw[hK1,hn1,ht1];have HN1:=Lib.hid (And.intro hK1 (And.intro hn1 ht1));clear hpl hK1 hn1 ht1;have hwl:IntKind.i64.wrap (65536 - (tt:Int))=65536 - (tt:Int):=IntWalk.i64_in _ (by omega)
 have hdl:decide (65536 - (tt:Int)<(pl:Int))=false:=decide_eq_false (by omega)
 go_enter Tryz.func17,Tryz.ntmps17
 go_upto_region 1 with fail
 refine wp_nm λW hW=>?_;obtain ⟨hbW,hB0,hB1⟩:=two_bx hW;have HB:=Lib.hid (And.intro hbW (And.intro hB0 hB1));clear hW hbW hB0 hB1;go_wp2_with fail;refine (HF.out W HB.out.1).mono ?_;rintro e w1 ⟨hb1,er,mcs,hla,hpost⟩;obtain rfl:=HH.out.2.2.1 er mcs hla;obtain ⟨v,fs,rfl,hfs,hfu⟩:∃v fs,e = .returned (.tuple #[v, .int .i64 0])/\FnsIn w1 v fs mcs/\fs.map Prod.fst=us:=by
  rcases hpost with ⟨h,-⟩ | ⟨-,h⟩
  .exact absurd rfl h
  .exact h
 clear hpost;have hfl:fs.length=n:=by have h1:=HH.out.2.2.2.2.2.2.2.1;rw[<-hfu,List.length_map]at h1;exact h1
 obtain ⟨gF,fF,cF,rfl,hgF,hcF⟩:=fns_cell hfs (by omega)
 obtain ⟨gK,fK,cK,eK,hgK,hcK⟩:=kns_cell HH.out.1 (by have:=HH.out.2.2.2.2.2.2.2.1;omega)
 injection eK with eK eK2 eK3;subst eK eK3;clear eK2;have hbw1:=HB.out.1.trans (hb1.mono HB.out.1.size);have HB1:=Lib.hid (And.intro hb1 hbw1);have hb0:=(hb1.block _ (Array.getElem?_eq_some_iff.1 HB.out.2.1).1).trans HB.out.2.1;obtain ⟨c0,c1,c2,c3,c4⟩:=cells5 hb0;have lb:w.heap.size<w1.heap.size:=(Array.getElem?_eq_some_iff.1 hb0).1;have HF1:=Lib.hid (And.intro hla (And.intro hfs (And.intro hfu (And.intro hgF (And.intro hcF (And.intro hgK hcK))))));have HV1:=Lib.hid (HVA.out w1 hbw1);rw[hfl];have HFL:=Lib.hid hfl;clear hb1 hla hfs hfu hgF hcF hgK hcK hb0 hfl;go_wp2_with fail;refine HV1.out.mono ?_;rintro e w2 ⟨rfl,hb2⟩;have hbw2:=hbw1.trans (hb2.mono hbw1.size);have HB2:=Lib.hid (And.intro hb2 hbw2);have hW2:Below W.heap.size W w2:=HB1.out.1.trans (hb2.mono HB1.out.1.size);have hb0:=(hW2.block _ (Array.getElem?_eq_some_iff.1 HB.out.2.1).1).trans HB.out.2.1;have hbr:=(hW2.block _ (Array.getElem?_eq_some_iff.1 HB.out.2.2).1).trans HB.out.2.2;clear c0 c1 c2 c3 c4 lb hb2;obtain ⟨c0,c1,c2,c3,c4⟩:=cells5 hb0;have lb:w.heap.size<w2.heap.size:=(Array.getElem?_eq_some_iff.1 hb0).1;have HBR:=Lib.hid (And.intro hb0 hbr);have HC2:=Lib.hid (HCP.out w2 hbw2);clear hb0 hbr hW2 hbw2 hbw1;go_wp2_with fail;refine HC2.out.mono ?_;rintro e w3 ⟨A1,d1,A2,d2,A3,d3,rfl,hk3,hn3,hm3,hb3⟩;clear c0 c1 c2 c3 c4 lb;obtain ⟨i0,hi,hz0,hz1,hz2⟩:=info_parts info_u8;have hwW:Below w2.heap.size w2 (w3.alloc (.cells #[.int .i64 (tt:Int), .int .i64 (ba:Int), .slice A1 K.length d1, .slice A2 nx.length d2, .slice A3 ms.length d3] 51)):=hb3.alloc hb3.size _;have hs4:ScS w2.heap.size w3.heap.size tt ba K nx ms (.slice A1 K.length d1) (.slice A2 nx.length d2) (.slice A3 ms.length d3) (w3.alloc (.cells #[.int .i64 (tt:Int), .int .i64 (ba:Int), .slice A1 K.length d1, .slice A2 nx.length d2, .slice A3 ms.length d3] 51)):=
  ⟨heap_alloc_new w3 _,hb3.size,World.ownsRow.alloc hk3 _,World.ownsRow.alloc hn3 _,World.ownsRow.alloc hm3 _⟩
 have hp4:RIn u8C 1 (w3.alloc (.cells #[.int .i64 (tt:Int), .int .i64 (ba:Int), .slice A1 K.length d1, .slice A2 nx.length d2, .slice A3 ms.length d3] 51)) (.slice Ap P.length cp) P:=HH.out.2.2.2.2.2.2.1.later (HB2.out.2.trans (hwW.mono HB2.out.2.size));rw[HPL.out]at hp4;have hk4:=ob_or.1 hs4.k;have HS4:=Lib.hid (And.intro hs4 (And.intro hp4 (And.intro hwW hk4)));have hsz4:w2.heap.size<=(w3.alloc (.cells #[.int .i64 (tt:Int), .int .i64 (ba:Int), .slice A1 K.length d1, .slice A2 nx.length d2, .slice A3 ms.length d3] 51)).heap.size:=hwW.size;have hKl:K.length<=65536:=by have:=HH.out.2.2.2.2.2.1.h2;omega
 clear hk3 hn3 hm3 hb3 hs4 hp4 hwW hk4;go_wp2_with (at_builtin;refine appRI_at u8C_E rfl _ _ 28 rfl 5 i0 (.int .u8 0) 1 Tryz.underlying28 hi hz0 hz1 hz2 rfl (by decide) w2.heap.size _ _ K P rfl rfl HS4.out.2.2.2 HS4.out.2.1 (by have:=HPL.out;omega) hsz4 ?_)
 intro v5 w5 hown5 hg5;rw[HN1.out.1]at hown5;obtain ⟨A5,d5,e5,-,-⟩:=own_form (show w5.ownsRow _ _ _ _ _ _ from hown5);rw[HN1.out.2.1]at e5;subst e5;have hk5:=ob_or.2 hown5;have hn5:=own_same HS4.out.1.n λq hq=>hg5.block q (World.ownsRow.lt HS4.out.1.n q hq).2 (λe=>own_apart HS4.out.1.n HS4.out.1.k (by decide) q hq e.symm)
 have hm5:=own_same HS4.out.1.m λq hq=>hg5.block q (World.ownsRow.lt HS4.out.1.m q hq).2 (λe=>own_apart HS4.out.1.m HS4.out.1.k (by decide) q hq e.symm)
 have hb5:=(hg5.block w3.heap.size HS4.out.1.lt (λe=>by
  obtain ⟨cs',mm,h⟩:=own_type HS4.out.1.k w3.heap.size e.symm;rw[HS4.out.1.box]at h;injection h with h;injection h with _ h _;exact absurd h (by decide))).trans HS4.out.1.box
 have hbl5:Below w2.heap.size w2 w5:=HS4.out.2.2.1.grown hg5 HS4.out.2.2.1.size (λq hq=>(World.ownsRow.lt HS4.out.1.k q hq).1);have ht1:=HN1.out.2.2;have hwt:IntKind.i64.wrap ((tt:Int)+(pl:Int))=(t1:Int):=by rw[IntWalk.i64_in _ (by omega)];omega
 obtain ⟨c0,c1,c2,c3,c4⟩:=cells5 hb5;have f2:w5.frozen? ⟨w3.heap.size,2,none⟩=false:=by simp[World.frozen?,hb5]
 have f0:w5.frozen? ⟨w3.heap.size,0,none⟩=false:=by simp[World.frozen?,hb5]
 have lb:w3.heap.size<w5.heap.size:=(Array.getElem?_eq_some_iff.1 hb5).1;have H5:=Lib.hid (And.intro hk5 (And.intro hn5 (And.intro hm5 (And.intro hb5 hbl5))));have hB23:w2.heap.size<=w3.heap.size:=HS4.out.1.hb;clear hk5 hn5 hm5 hb5 hbl5 hown5 hg5 ht1 hsz4
 go_upto_region 11 with fail
 refine wp_nm λW6 hW6=>?_;have hs6:ScS w2.heap.size w3.heap.size t1 ba K1 nx ms (.slice A5 n1 d5) (.slice A2 nx.length d2) (.slice A3 ms.length d3) W6/\Below w2.heap.size w2 W6:=by
  rw[hW6];refine ⟨ScS.mk' ?_ hB23 H5.out.1 H5.out.2.1 H5.out.2.2.1 H5.out.2.2.2.1 (λk hk=>?_),(H5.out.2.2.2.2.setCell (p:=⟨w3.heap.size,2,none⟩) hB23 _).setCell (p:=⟨w3.heap.size,0,none⟩) hB23 _⟩
  .have:=set_row3 (set_row3 H5.out.2.2.2.1 2 (.slice A5 n1 d5)) 0 (.int .i64 (t1:Int));simpa using this
  .rw[setk_other hk,setk_other hk]
 have HS6:=Lib.hid hs6;clear hW6 hs6 c0 c1 c2 c3 c4 f2 f0 lb hwt;have hD:∀k,(dsOf mcs ks nrs K1 k).ok n1:=λk=>HN1.out.2.1▸dsOf_ok (λi hi=>(HH.out.2.2.2.1 i hi).n64) k;obtain ⟨D,hDe⟩:∃D,dsOf mcs ks nrs K1=D:=⟨_,rfl⟩;rw[hDe]at hD;have hnxb:∀k:Nat,(nx[k]?).getD 0<=ba+n1:=λk=>by
  cases hk:nx[k]? with
  | none=>exact Nat.zero_le _
  | some q=>
   have:=HH.out.2.2.2.2.2.1.h4 q (List.mem_of_getElem? hk);have h9:=HN1.out.2.2;show q<=_;omega
 have HD:=Lib.hid (And.intro hD (And.intro hDe hnxb));have HFB:=Lib.hid (show FdI w2.heap.size w3.heap.size t1 ba K1 nx ms (.slice A5 n1 d5) (.slice A2 nx.length d2) (.slice A3 ms.length d3) w2 W6 from ⟨HS6.out.1,HS6.out.2⟩);have hnxl:=HH.out.2.2.2.2.2.1.h3;obtain ⟨gN,rfl⟩:∃gN,A2=some ⟨gN,0,none⟩:=by
  rcases HFB.out.s.n.2 with ⟨-,h0⟩ | ⟨g',cap,cur,e,-⟩
  .omega
  .injection e with e _ _;exact ⟨g',e⟩
 rw[hnxl]at HFB;obtain ⟨nv6,hnv6⟩:∃z,Value.slice (some ⟨gN,0,none⟩) n d2=z:=⟨_,rfl⟩;rw[hnv6]at HFB;have HNV:=Lib.hid hnv6;have HNL:=Lib.hid hnxl;clear hnxl;clear hD hDe hnxb HS6 hnv6;obtain ⟨x0,x1,x2,x3,x4⟩:=HFB.out.s.cells;have lx:=HFB.out.s.lt
 go_upto_region 12 with fail
 clear x0 x1 x2 x3 x4 lx;go_wp2_with fail
 go_loopw [11,56] (λkp iv wr=>∃(k:Nat) (mv1:Value),k<=n/\iv = .int .i64 (k:Int)/\kp = .int .i64 (stK false D n1 ba nx (t1:Int) k)/\Hid (FdI w2.heap.size w3.heap.size t1 ba K1 (stN false D n1 ba nx k) (stM false D n1 ba nx ms k) (.slice A5 n1 d5) nv6 mv1 w2 wr)) (λ_ iv _=>(n-intOf iv).toNat)
 case atStart=>exact ⟨0,_,Nat.zero_le _,rfl,rfl,HFB.out⟩
 case round=>
  obtain ⟨k,mv1,hk,rfl,rfl,HI⟩:=hrel;by_cases hlt:k<n
  .have hd:decide ((k:Int)<(n:Int))=true:=decide_eq_true (by omega)
   have hd2:decide (k<n)=true:=decide_eq_true hlt;have hW1r:Below w1.heap.size w1 wr:=HB2.out.1.trans (HI.out.bl.mono HB2.out.1.size);have hkf:k<fs.length:=by rw[HFL.out];exact hlt
   have hku:k<us.length:=by have:=HH.out.2.2.2.2.2.2.2.1;omega
   have hkk:k<ks.length:=by have:=HH.out.2.2.2.2.2.2.2.2;omega
   have hkm:k<mcs.length:=by have:=HF1.out.2.1.1;omega
   have hcf:=λj hj=>(hW1r.cell (p:=⟨gF,fF+k*13+j,none⟩) HF1.out.2.2.2.1).trans (HF1.out.2.2.2.2.1 k hkf j hj);have hxu:fs[k].1=us[k]:=by
    have h1:=HF1.out.2.2.1;have h2:us[k]=(fs.map Prod.fst)[k]'(by simpa using hkf):=by congr 1;exact h1.symm
    rw[h2];simp
   obtain ⟨x,hx⟩:∃x,fs[k]=x:=⟨_,rfl⟩;rw[hx]at hcf hxu;obtain ⟨q0,q1,q2,q3,q4,q5,q6,q7,q8,q9,q10,q11,q12⟩:=fd9_cells hcf;have lgF:gF<wr.heap.size:=Nat.lt_of_lt_of_le HF1.out.2.2.2.1 hW1r.size;have HX:=Lib.hid (And.intro hx hxu);have HDK:=Lib.hid (And.intro hd hd2);clear hcf hx hxu hW1r
   go_upto_region 15 with fail
   refine wp_nm λW hW=>?_;have hbW:Below wr.heap.size wr W:=by rw[hW];exact (Below.refl _ _).alloc (Nat.le_refl _) _
   have hbx:bxF x wr.heap.size W:=by rw[hW];exact heap_alloc_new wr _
   have hIW:=HI.out.later hbW;have hwW:Below w.heap.size w W:=HB2.out.2.trans (hIW.bl.mono HB2.out.2.size);have hck:∀wz,Below W.heap.size W wz->∀j,j<11->wz.cell? ⟨gK,fK+k*11+j,none⟩=x.1.cs[j]?:=λwz hz j hj=>by
    rw[HX.out.2];exact ((hwW.trans (hz.mono hwW.size)).cell (p:=⟨gK,fK+k*11+j,none⟩) HF1.out.2.2.2.2.2.1).trans (HF1.out.2.2.2.2.2.2 k hku j hj)
   have HWW:=Lib.hid (And.intro hbx (λwz hz=>kc_cells (hck wz hz)));have HIW:=Lib.hid (And.intro hIW hwW);have hS0:Below W.heap.size W W.drew:=(Below.refl _ _).drew;clear hW hbW hbx hck hIW hwW q0 q1 q2 q3 q4 q5 q6 q7 q8 q9 q10 q11 q12 lgF;refine wp_region_chain 6 [] (factF x gK fK n c k) (λ_ w'=>Below W.heap.size W w') (by kernel_rfl) (by kernel_rfl) (by kernel_rfl) (by kernel_rfl) (by kernel_rfl) (by kernel_rfl) (by decide) hS0 ?_ ?_
   .simp only[pq4,pq5];refine HSteps.pure (by decide) ?_ (HSteps.pure (by decide) ?_ (HSteps.pure (by decide) ?_ (HSteps.pure (by decide) ?_ (HSteps.pure (by decide) ?_ (HSteps.pure (by decide) ?_ (HSteps.nil))))))
    all_goals first | (with_reducible intro v wz c hlo hS hE K hK;simp only[putAll,Act.put,pq1,pq2,pq3,Nat.zero_add,Nat.reduceAdd,pq4,pq5]at hK|-) | (intro v wz hS hE K hK;simp only[putAll,Act.put,pq1,pq2,pq3,Nat.zero_add,Nat.reduceAdd,pq4,pq5]at hK|-)
    .have hz:=HWW.out.1.later hS;obtain ⟨⟨b0,b1,b2,b3,b4,b5⟩,⟨b6,b7,b8,b9,b10⟩,⟨b11,b12⟩,lbz⟩:=hz.cells;clear hz;have HX:=Lib.hid hS;clear hS hE hlo;go_wp2_with fail;exact hK.out _ rfl
    .have HX:=Lib.hid hS;clear hS hE hlo;go_wp2_with fail;exact hK.out _ rfl
    .have HX:=Lib.hid hS;clear hS hE hlo;go_wp2_with fail;exact hK.out _ rfl
    .have e1:v 1=_:=hE.1 rfl;have e2:v 2=_:=hE.2.1 rfl;rw[e1,e2]at hK|-;have hlt9:=hlt;have hd9:=HDK.out.1;have hd8:=HDK.out.2;have HX:=Lib.hid hS;clear hS hE hlo;go_wp2_with fail;exact hK.out _ rfl
    .have e3:v 3=_:=hE.1 rfl;rw[e3]at hK|-;obtain ⟨⟨b0,b1,b2,b3,b4,b5⟩,b6,b7,b8,b9,b10⟩:=HWW.out.2 wz hS;have HX:=Lib.hid hS;clear hS hE hlo;go_wp2_with fail;exact hK.out _ rfl
    .have HX:=Lib.hid hS;clear hS hE hlo;go_wp2_with fail;exact hK.out _ rfl
   .intro v wz hS hF;have e0:v 0=_:=hF 0 (by decide)
    have e4:v 4=_:=hF 4 (by decide)
    have e5:v 5=_:=hF 5 (by decide)
    simp only[putAll,Act.put,pq1,pq2,pq3,Nat.zero_add,Nat.reduceAdd,pq4,pq5,List.drop_succ_cons,List.drop_zero,e0,e4,e5];have hIz:=HIW.out.1.later hS;have hm2:McIn w2 x.2.val mcs[k]:=by have h:=HF1.out.2.1.2;obtain ⟨A9,c9,-,-,-,h⟩:=h;have h:=h k hkf hkm;rw[HX.out.1]at h;exact h.later HB2.out.1
    have hk2:KnIn w2 x.1 ks[k]:=by
     obtain ⟨-,A9,c9,-,-,-,h⟩:=HH.out.1;rw[HX.out.2];exact (h k hku hkk).later HB2.out.2
    have hsm2:=HH.out.2.2.2.1 k hkk;have hAD:=adH_of (B:=w2.heap.size) (K:=K1) (A:=A5) (c:=d5) (Nat.le_refl _) hm2 ((HF1.out.1.all.2.2 k hkk hkm).good.1.go) hk2 hsm2 (HH.out.2.1.later HB2.out.2) (by have:=HN1.out.2.1;have:=HN1.out.2.2;omega) wz hIz.bl
    have hkd:k<(stN false D n1 ba nx k).length:=by rw[stN_len,HNL.out];exact hlt
    obtain ⟨q,hq⟩:∃q,(nx[k]?).getD 0=q:=⟨_,rfl⟩;have hqk:(stN false D n1 ba nx k)[k]=q:=by
     have h1:=stN_get false D n1 ba nx k k (Nat.le_refl _);rw[List.getElem?_eq_getElem hkd]at h1;rw[<-hq,<-h1];rfl
    have hqb:q<=ba+n1:=hq▸HD.out.2.2 k;have hml:=stM_len (en:=false) (ms:=ms) HD.out.1 HD.out.2.2 k;have hkn1:k*(n1+1)<=2*(n1+1):=Nat.mul_le_mul_right _ (by omega)
    have hDk:D k=dOf mcs[k] ks[k] (nrs k) K1:=by rw[<-HD.out.2.1];exact dsOf_eq hkm hkk
    have hKn:K1.length=n1:=HN1.out.2.1;have hnr:=hk2.nr.trans hsm2.nre;have h91:=HN1.out.2.2;have hadv:=advance_any w2.heap.size w3.heap.size t1 ba k (nrs k) K1 (stN false D n1 ba nx k) (stM false D n1 ba nx ms k) (.slice A5 n1 d5) nv6 mv1 x mcs[k] ks[k].pat _ false wz hnr hIz.s (by rw[<-hKn];exact hAD) hkd (by omega) (by omega) (by rw[hqk,hKn];exact hqb) (by rw[stN_len,HNL.out];omega) (by omega) hsm2.n64
    rw[hqk]at hadv;have hstep:advL K1.length (longF ks[k].pat+max (nrs k) 1) false (chF mcs[k] x.1.wh (K1.map UInt8.toNat)) (psF (K1.map UInt8.toNat) (askOf ks[k] (nrs k))) (K1.length+1) (q-ba)=advR false (D k) n1 ba q:=by
     rw[advR,hDk,hKn,hk2.wh];rfl
    rw[hstep]at hadv;have hadv2:=hadv.mono (R':=λe w'=>(∃v,e = .returned v)/\∃mv',FdI w2.heap.size w3.heap.size t1 ba K1 (stN false D n1 ba nx (k+1)) (stM false D n1 ba nx ms (k+1)) (.slice A5 n1 d5) nv6 mv' w2 w') (λe w' h=>⟨h.1,by
     obtain ⟨mv',h1,h2⟩:=h.2;refine ⟨mv',?_,hIz.bl.trans h2⟩;rw[stN,stM,hq];exact h1⟩)
    have HAV:=Lib.hid hadv2;have HQ:=Lib.hid (And.intro hq (And.intro hqb (And.intro hnr (And.intro hDk hIz.bl))));clear hIz hm2 hk2 hAD hadv hstep hadv2 hml hkn1 hDk hKn hqk hnr e0 e4 e5 hF hS hS0;go_wp2_with fail;refine HAV.out.mono ?_;rintro e w7 ⟨⟨rv,rfl⟩,mv2,hI7⟩;have HI7:=Lib.hid hI7;clear hI7
    go_upto_region 16 with fail
    have hkd7:k<(stN false D n1 ba nx (k+1)).length:=by rw[stN_len,HNL.out];exact hlt
    obtain ⟨r2,hr2⟩:∃r,ba+(advR false (D k) n1 ba q).2=r:=⟨_,rfl⟩;have hrb:=(advR_le (en:=false) (HD.out.1 k) HQ.out.2.1).1;have hv7:(stN false D n1 ba nx (k+1))[k]=r2:=by
     simp only[stN,HQ.out.1,List.getElem_set_self];exact hr2
    have hJ7:FdI w2.heap.size w3.heap.size t1 ba K1 (stN false D n1 ba nx (k+1)) (stM false D n1 ba nx ms (k+1)) (.slice A5 n1 d5) (.slice (some ⟨gN,0,none⟩) n d2) mv2 w2 w7:=by have h:=HI7.out;rw[<-HNV.out]at h;exact h
    obtain ⟨mg,hmg⟩:∃z,max (nrs k) 1=z:=⟨_,rfl⟩;have hm64:mg<=64:=by have:=(HH.out.2.2.2.1 k (by have:=HH.out.2.2.2.2.2.2.2.2;omega)).n64;omega
    have hw9:IntKind.i64.wrap ((r2:Int) - (mg:Int))=(r2:Int) - (mg:Int):=IntWalk.i64_in _ (by omega)
    have hnext:stK false D n1 ba nx (t1:Int) (k+1)=min (stK false D n1 ba nx (t1:Int) k) ((r2:Int) - (mg:Int)):=by
     rw[stK,HQ.out.1,hr2,HQ.out.2.2.2.1];show min _ ((r2:Int) - ((max (nrs k) 1:Nat):Int))=_;rw[hmg]
    have HNX:=Lib.hid hnext;have hh1:=λd:BelT w7.heap.size w7=>(hJ7.later d.property).s.cells.2.2.2.1;have hh2:∀d:BelT w7.heap.size w7,d.val.cell? ⟨gN,k,none⟩=some (.int .i64 (r2:Int)):=λd=>by
     have h:=((hJ7.later d.property).s.nxc k hkd7).1;rw[hv7]at h;exact h
    have hh3:=λd:BelT w7.heap.size w7=>((hJ7.later d.property).s.nxc k hkd7).2.2;have hh4:=λd:BelT w7.heap.size w7=>(hJ7.later d.property).s.lt;have hwW7:Below w.heap.size w w7:=HB2.out.2.trans (hJ7.bl.mono HB2.out.2.size);have hku:k<us.length:=by have:=HH.out.2.2.2.2.2.2.2.1;omega
    have hkc:=λd:BelT w7.heap.size w7=>kc_cells (u:=x.1) (w:=d.val) (g:=gK) (f:=fK) (i:=k) (λj hj=>by
     rw[HX.out.2];exact ((hwW7.trans (d.property.mono hwW7.size)).cell (p:=⟨gK,fK+k*11+j,none⟩) HF1.out.2.2.2.2.2.1).trans (HF1.out.2.2.2.2.2.2 k hku j hj))
    have hg0:=λd:BelT w7.heap.size w7=>(hkc d).1.1;have hg1:=λd:BelT w7.heap.size w7=>(hkc d).1.2.1;have hg2:=λd:BelT w7.heap.size w7=>(hkc d).1.2.2.1;have hg3:=λd:BelT w7.heap.size w7=>(hkc d).1.2.2.2.1;have hg4:=λd:BelT w7.heap.size w7=>(hkc d).1.2.2.2.2.1;have hg5:=λd:BelT w7.heap.size w7=>(hkc d).1.2.2.2.2.2;have hg6:=λd:BelT w7.heap.size w7=>(hkc d).2.1;have hg7:=λd:BelT w7.heap.size w7=>(hkc d).2.2.1;have hg8:=λd:BelT w7.heap.size w7=>(hkc d).2.2.2.1;have hg9:=λd:BelT w7.heap.size w7=>(hkc d).2.2.2.2.1;have hga:=λd:BelT w7.heap.size w7=>(hkc d).2.2.2.2.2;have hgl:∀d:BelT w7.heap.size w7,gK<d.val.heap.size:=λd=>Nat.lt_of_lt_of_le HF1.out.2.2.2.2.2.1 (hwW7.trans (d.property.mono hwW7.size)).size;have HM:=Lib.hid λd:BelT w7.heap.size w7=>(by
     have h:=margin_any x.1 (nrs k) d.val HQ.out.2.2.1;rwa [hmg]at h)
    have HJ7:=Lib.hid HI7.out;clear hkc hJ7 hwW7 hku hv7 hr2 hmg hnext;refine wp_region_below (Below.refl w7.heap.size w7) (by kernel_rfl) (by kernel_rfl) ?_
    repeat (go_big_quiet_step (fail))
    go_big_quiet_step ((go_at_call 43;exact Calls.below_of (Nat.le_refl _) (HM.out _)))
    repeat (go_big_quiet_step (fail))
    refine wpQuiet_nil ?_;intro w8 hw';have hI8:=(show FdI w2.heap.size w3.heap.size t1 ba K1 (stN false D n1 ba nx (k+1)) (stM false D n1 ba nx ms (k+1)) (.slice A5 n1 d5) nv6 mv2 w2 w8 by obtain ⟨d9,rfl⟩:=hw';exact HJ7.out.later d9.property)
    have HI8:=Lib.hid hI8;have hwk:IntKind.i64.wrap ((k:Int)+1)=((k+1:Nat):Int):=by rw[IntWalk.i64_in _ (by omega)];omega
    clear hw' hh1 hh2 hh3 hh4 hg0 hg1 hg2 hg3 hg4 hg5 hg6 hg7 hg8 hg9 hga hgl hI8 HM;go_wp2_with fail;refine ⟨⟨k+1,mv2,by omega,rfl,by rw[HNX.out],HI8.out⟩,by simp[intOf];omega⟩
  .obtain rfl:k=n:=by omega
   have hd:decide ((k:Int)<(k:Int))=false:=decide_eq_false (by omega)
   have hd2:decide (k<k)=false:=decide_eq_false (by omega)
   have hskb:=stK_bd (en:=false) (ba:=ba) (nx:=nx) (tt:=t1) HD.out.1 k;have h91:=HN1.out.2.2;have hHI:=HI.out;rw[<-HNV.out]at hHI;obtain ⟨Am1,dm1,em,-,-⟩:=own_form (show wr.ownsRow _ _ _ _ _ _ from hHI.s.m);obtain ⟨lm1,hlm⟩:∃z,(stM false D n1 ba nx ms k).length=z:=⟨_,rfl⟩;rw[hlm]at em;subst em;have hbx:=hHI.s.box;obtain ⟨c0,c1,c2,c3,c4⟩:=hHI.s.cells;have lb:=hHI.s.lt;have hrb:=(hHI.bl.block _ (Array.getElem?_eq_some_iff.1 HBR.out.2).1).trans HBR.out.2;obtain ⟨y0,y1,y2,y3,y4⟩:=cells5 hrb;have fr1:∀j,wr.frozen? ⟨w.heap.size+1,j,none⟩=false:=λj=>by simp[World.frozen?,hrb]
   have g0:=fr1 0;have g1:=fr1 1;have g2:=fr1 2;have g3:=fr1 3;have g4:=fr1 4;have ly:=(Array.getElem?_eq_some_iff.1 hrb).1;have hb3w:w.heap.size+1<w3.heap.size:=by have h1:=(Array.getElem?_eq_some_iff.1 HBR.out.2).1;omega
   have hne3:¬w3.heap.size=w.heap.size+1:=by omega
   have hne4:¬w.heap.size+1=w3.heap.size:=by omega
   have h2w:w.heap.size+1<w2.heap.size:=(Array.getElem?_eq_some_iff.1 HBR.out.2).1;have HB3:=Lib.hid (And.intro hb3w h2w);have HHI:=Lib.hid hHI;have HRB0:=Lib.hid (And.intro hrb hbx);clear hHI hrb hbx fr1 hlm;obtain ⟨dp,hdp⟩:∃z,stK false D n1 ba nx (t1:Int) k - (ba:Int)=z:=⟨_,rfl⟩;have hws:IntKind.i64.wrap (stK false D n1 ba nx (t1:Int) k - (ba:Int))=dp:=by rw[<-hdp];exact IntWalk.i64_in _ (by omega)
   have HDP:=Lib.hid hdp;by_cases hpos:0<dp
   .obtain ⟨dn,rfl⟩:∃dn:Nat,dp=(dn:Int):=⟨dp.toNat,by omega⟩
    have hdn1:dn<=n1:=by omega
    have hd01:decide ((0:Int)<(dn:Int))=true:=decide_eq_true hpos;have hd02:decide (0<dn)=true:=decide_eq_true (by omega)
    have hn0:0<n1:=by omega
    have HPO:=Lib.hid hpos;have HRB:=Lib.hid HRB0.out.1;have hKn:K1.length=n1:=HN1.out.2.1;obtain ⟨Af,df,ef,hcap,hof⟩:=OBs.form HHI.out.s.k;obtain ⟨g5,eg5,-,hg5,hc5⟩:=hof (by omega)
    injection ef with ef1 ef2 ef3;clear ef2;subst ef1 ef3 eg5;rw[hKn]at hcap;have hcap1:n1<=d5:=hcap.1;have hR:RIn u8C 1 wr (.slice (suA (some ⟨g5,0,none⟩) d5 dn) (n1-dn) (d5-dn)) (K1.drop dn):=by
     refine ⟨_,d5-dn,by rw[List.length_drop,hKn],by rw[List.length_drop,hKn];omega,?_⟩
     by_cases hz:n1-dn=0
     .exact .inl (List.length_eq_zero_iff.1 (by rw[List.length_drop];omega))
     .refine .inr ⟨g5,dn,by simp only[suA];rw[if_neg (by omega),Nat.zero_add],hg5,λi hi j hj=>?_⟩
      rw[List.length_drop]at hi;obtain rfl:j=0:=by omega
      rw[Nat.mul_one,Nat.add_zero,(hc5 (dn+i) (by omega)).1]
      simp[u8C]
    have HCL:=Lib.hid (cloneY_any _ (K1.drop dn) wr hR (by rw[List.length_drop];omega))
    have hlk:(K1.drop dn).length=n1-dn:=by rw[List.length_drop,hKn]
    have HLK:=Lib.hid hlk;have fb2:wr.frozen? ⟨w3.heap.size,2,none⟩=false:=by have h:=HRB0.out.2;simp[World.frozen?,h]
    clear hpos hR hof hc5 hlk hKn y0 y1 y2 y3 y4 g0 g1 g2 g3 g4 ly;have hi1:(dn:Int)<=(n1:Int):=by omega
    have hi2:(n1:Int)<=(d5:Int):=by omega
    by_cases hz:d5-dn=0
    all_goals
     simp only[suA,hz,if_true,if_false,Nat.zero_add]at HCL;go_wp2_with fail;refine HCL.out.mono ?_;rintro e w8 ⟨rv,rfl,hrv,hb8⟩;obtain ⟨Ar,cr,er,-,-⟩:=own_form (show w8.ownsRow _ _ _ _ _ _ from hrv);rw[HLK.out]at er;subst er;have hbx8:=(hb8.block _ (Array.getElem?_eq_some_iff.1 HRB0.out.2).1).trans HRB0.out.2;have hrb8:=(hb8.block _ (Array.getElem?_eq_some_iff.1 HRB0.out.1).1).trans HRB0.out.1;have H8:=Lib.hid (And.intro hrv (And.intro hb8 (And.intro hbx8 (HHI.out.later hb8))));have HRB8:=Lib.hid hrb8;clear c0 c1 c2 c3 c4 lb fb2 hrv hb8;obtain ⟨c0,c1,c2,c3,c4⟩:=cells5 hbx8;obtain ⟨y0,y1,y2,y3,y4⟩:=cells5 hrb8;have fr1:∀j,w8.frozen? ⟨w.heap.size+1,j,none⟩=false:=λj=>by simp[World.frozen?,hrb8]
     have g0:=fr1 0;have g1:=fr1 1;have g2:=fr1 2;have g3:=fr1 3;have g4:=fr1 4;have fb1:w8.frozen? ⟨w3.heap.size,1,none⟩=false:=by simp[World.frozen?,hbx8]
     have fb2:w8.frozen? ⟨w3.heap.size,2,none⟩=false:=by simp[World.frozen?,hbx8]
     have lb:w3.heap.size<w8.heap.size:=(Array.getElem?_eq_some_iff.1 hbx8).1;have ly:=(Array.getElem?_eq_some_iff.1 hrb8).1;clear hbx8 hrb8 fr1;go_wp2_with fail;refine post_named λWf hWf=>?_;have hrow:Wf.heap[w.heap.size+1]?=some (.cells #[.int .i64 (t1:Int), .int .i64 (stK false D n1 ba nx (t1:Int) k), .slice Ar (n1-dn) cr, .slice (some ⟨gN,0,none⟩) k d2, .slice Am1 lm1 dm1] 51 (0,0)):=by
      rw[hWf];simp[World.setCell,Array.getElem?_modify,HRB8.out,hne3]
     have hbf:Below w.heap.size w Wf/\∀q,q≠w.heap.size+1->q≠w3.heap.size->Wf.heap[q]?=w8.heap[q]?:=by
      refine ⟨?_,λq h1 h2=>?_⟩
      .have h:=HB2.out.2.trans (H8.out.2.2.2.bl.mono HB2.out.2.size);have hb3w:=HB3.out.1;rw[hWf]
       iterate 7 (refine Below.setCell ?_ (by dsimp only;omega) _)
       exact h
      .rw[hWf]
       iterate 7 (rw[setk_other (by first | exact h1 | exact h2)])
     clear hWf;refine bodyPost_ret (v:=.tuple #[.agg #[.int .i64 (t1:Int), .int .i64 (stK false D n1 ba nx (t1:Int) k), .slice Ar (n1-dn) cr, .slice (some ⟨gN,0,none⟩) k d2, .slice Am1 lm1 dm1], .int .i64 0]) (results_cell_row2 (p:=6) (u:=7) rfl _ _ (w.heap.size+1) 51 _ (0,0) _ rfl hrow Tryz.underlying51 rfl info_scanner) rfl ?_;have keep:∀{e:TypeId} {z:Nat} {v:Value} {m:Nat} {xs:List Value},e≠51->w8.ownsRow w2.heap.size e z v m xs->Wf.ownsRow w2.heap.size e z v m xs:=λhe ho=>own_same ho λq hq=>hbf.2 q (by have h1:=(World.ownsRow.lt ho q hq).1;have h2:=HB3.out.2;omega) (λe=>by
      obtain ⟨cs',mm,h⟩:=own_type ho q hq;rw[e,H8.out.2.2.1]at h;injection h with h;injection h with _ h _;exact he h.symm)
     have hrv2:=own_mono H8.out.1 (HHI.out.bl.size);refine ⟨hbf.1,mcs,HF1.out.1, .slice Ar (n1-dn) cr, .slice (some ⟨gN,0,none⟩) k d2, .slice Am1 lm1 dm1,?_,?_⟩
     .rw[HD.out.2.1,baseF,if_pos (by have h1:=HDP.out;have h2:=HPO.out;omega)]
     .rw[HD.out.2.1,keepF,if_pos (by have h1:=HDP.out;have h2:=HPO.out;omega),show (stK false D n1 ba nx (t1:Int) k - (ba:Int)).toNat=dn by rw[HDP.out];rfl]
      exact ⟨own_mono (ob_or.2 (keep (by decide) hrv2)) HB2.out.2.size,own_mono (keep (by decide) H8.out.2.2.2.s.n) HB2.out.2.size,own_mono (keep (by decide) H8.out.2.2.2.s.m) HB2.out.2.size⟩
   .have hdp0:decide (0<dp)=false:=decide_eq_false hpos;have HPO:=Lib.hid hpos;have HRB:=Lib.hid HRB0.out.1;clear hpos hdp;go_wp2_with fail;refine post_named λWf hWf=>?_;have hrow:Wf.heap[w.heap.size+1]?=some (.cells #[.int .i64 (t1:Int), .int .i64 (ba:Int), .slice A5 n1 d5, .slice (some ⟨gN,0,none⟩) k d2, .slice Am1 lm1 dm1] 51 (0,0)):=by
     rw[hWf];simp[World.setCell,Array.getElem?_modify,HRB.out]
    have hbf:Below w.heap.size w Wf/\∀q,q≠w.heap.size+1->q≠w3.heap.size->Wf.heap[q]?=wr.heap[q]?:=by
     refine ⟨?_,λq h1 h2=>?_⟩
     .have h:=HB2.out.2.trans (HHI.out.bl.mono HB2.out.2.size);have hb3w:=HB3.out.1;rw[hWf]
      iterate 5 (refine Below.setCell ?_ (by dsimp only;omega) _)
      exact h
     .rw[hWf]
      iterate 5 (rw[setk_other (by first | exact h1 | exact h2)])
    clear hWf;refine bodyPost_ret (v:=.tuple #[.agg #[.int .i64 (t1:Int), .int .i64 (ba:Int), .slice A5 n1 d5, .slice (some ⟨gN,0,none⟩) k d2, .slice Am1 lm1 dm1], .int .i64 0]) (results_cell_row2 (p:=6) (u:=7) rfl _ _ (w.heap.size+1) 51 _ (0,0) _ rfl hrow Tryz.underlying51 rfl info_scanner) rfl ?_;have keep:∀{e:TypeId} {z:Nat} {v:Value} {m:Nat} {xs:List Value},e≠51->wr.ownsRow w2.heap.size e z v m xs->Wf.ownsRow w2.heap.size e z v m xs:=λhe ho=>own_same ho λq hq=>hbf.2 q (by have h1:=(World.ownsRow.lt ho q hq).1;have h2:=HB3.out.2;omega) (λe=>by
     obtain ⟨cs',mm,h⟩:=own_type ho q hq;rw[e,HRB0.out.2]at h;injection h with h;injection h with _ h _;exact he h.symm)
    refine ⟨hbf.1,mcs,HF1.out.1, .slice A5 n1 d5, .slice (some ⟨gN,0,none⟩) k d2, .slice Am1 lm1 dm1,?_,?_⟩
    .rw[HD.out.2.1,baseF,if_neg (by have h1:=HDP.out;have h2:=HPO.out;omega)]
    .rw[HD.out.2.1,keepF,if_neg (by have h1:=HDP.out;have h2:=HPO.out;omega)]
     exact ⟨own_mono (keep (by decide) HHI.out.s.k) HB2.out.2.size,own_mono (keep (by decide) HHI.out.s.n) HB2.out.2.size,own_mono (keep (by decide) HHI.out.s.m) HB2.out.2.size⟩
def FinP (ks:List Kn) (nrs:Nat->Nat) (ba:Nat) (K:List UInt8) (nx:List Nat) (ms:List Mt) (w:World) (e:Ending) (w':World):Prop:=
 Below w.heap.size w w'/\∃mcs,LaA ks 0 mcs/\∃v o,e = .returned (.tuple #[v, .int .i64 0])/\o.Perm (stM true (dsOf mcs ks nrs K) K.length ba nx ms ks.length)/\o.Pairwise LeMt/\MtIn w' v o
def factG (xf:KC×M2) (gK fK n c k:Nat):Nat->Nat->Value->World->Prop
 | _,0,x,_=>x = .agg #[.string xf.1.nm, .int .i64 xf.1.op, .slice xf.1.a1 xf.1.n1 xf.1.c1, .slice xf.1.a2 xf.1.n2 xf.1.c2, .int .i64 xf.1.mn, .int .i64 xf.1.mx, .bool xf.1.wh, .int .i64 xf.1.ck, .int .i64 xf.1.en, .slice xf.1.a3 xf.1.n3 xf.1.c3, .int .i64 xf.1.nr, .slice xf.2.a1 xf.2.n1 xf.2.c1, .slice xf.2.a2 xf.2.n2 xf.2.c2]
 | _,1,x,_=>x = .slice (some ⟨gK,fK,none⟩) n c
 | _,2,x,_=>x = .int .i64 (k:Int)
 | _,3,x,_=>x = .pointer (some ⟨gK,fK+k*11,none⟩)
 | _,4,x,_=>x = .agg #[.string xf.1.nm, .int .i64 xf.1.op, .slice xf.1.a1 xf.1.n1 xf.1.c1, .slice xf.1.a2 xf.1.n2 xf.1.c2, .int .i64 xf.1.mn, .int .i64 xf.1.mx, .bool xf.1.wh, .int .i64 xf.1.ck, .int .i64 xf.1.en, .slice xf.1.a3 xf.1.n3 xf.1.c3, .int .i64 xf.1.nr]
 | _,5,x,_=>x = .int .i64 (k:Int)
 | _,_,_,_=>True
set_option maxHeartbeats 16000000 in
theorem finish_any (A:Option Addr) (n c tt ba:Nat) (us:List KC) (ks:List Kn) (nrs:Nat->Nat) (K:List UInt8) (nx:List Nat) (ms:List Mt) (kv nv mv:Value) (w:World) (h:KnsIn w (.slice A n c) us ks) (hv:VrOK w) (hnm:∀k∈ks,k.nm.size<=140737488355328) (hgd:∀er msc,LaA ks er msc->er=0) (hsm:∀i (h:i<ks.length),KnSm ks[i] (nrs i))
  (hs:ScV w K nx ms kv nv mv) (hok:ScOK n tt ba K nx) (h5:1<=n/\n<=3) (h7:ms.length<=3000) :
  Calls Tryz.prog 18 #[.slice A n c, .agg #[.int .i64 (tt:Int), .int .i64 (ba:Int),kv,nv,mv]] w (FinP ks nrs ba K nx ms w):=by
 obtain ⟨Ak,ck,rfl,-⟩:=id hs.k;obtain ⟨An,cn,rfl,-⟩:=id hs.n;obtain ⟨Am,cm,rfl,-⟩:=id hs.m;have h6:=hok.h1;have hl:=h.1;have hun:us.length=n:=by obtain ⟨-,A',c',e,-⟩:=id h;injection e with _ e _;exact e.symm
 have hkn:ks.length=n:=by omega
 have HF:=Lib.hid (λ(W:World) (hb:Below w.heap.size w W)=>finders_any A n c us ks W (h.later hb) (hv.later hb) hnm);have HVA:=Lib.hid (λ(W:World) (hb:Below w.heap.size w W)=>validS_any A n c tt ba K nx ms _ _ _ W (hs.later hb) hok.h1 hok.h2 hok.h3 hok.h4 (by omega))
 have HCP:=Lib.hid (λ(W:World) (hb:Below w.heap.size w W)=>copied_any (tt:Int) (ba:Int) K nx ms _ _ _ W (hs.later hb) (by have:=hok.h2;omega) (by have:=hok.h3;omega) (by omega))
 have HH:=Lib.hid (And.intro h (And.intro hv (And.intro hgd (And.intro hsm (And.intro hs (And.intro hok (And.intro trivial (And.intro hun hkn))))))));obtain ⟨K1,hK1⟩:∃z,K=z:=⟨_,rfl⟩;rw[show FinP ks nrs ba K nx ms w=FinP ks nrs ba K1 nx ms w by rw[hK1]]
 unfold FinP;rw[hkn];obtain ⟨n1,hn1⟩:∃z,K1.length=z:=⟨_,rfl⟩;have hn1t:n1+ba=tt:=by have:=hok.h2;rw[<-hn1,<-hK1];omega
 rw[hn1];have HN1:=Lib.hid (And.intro hK1 (And.intro hn1 (show tt+0=tt by omega)))
 clear h hv hnm hgd hsm hs hok hl hun hkn hn1 hK1
 go_enter Tryz.func18,Tryz.ntmps18
 go_upto_region 1 with fail
 refine wp_nm λW hW=>?_;have hbW:Below w.heap.size w W:=by rw[hW];exact (Below.refl _ _).alloc (Nat.le_refl _) _
 have hB0:W.heap[w.heap.size]?=some (.cells #[.int .i64 (tt:Int), .int .i64 (ba:Int), .slice Ak K.length ck, .slice An nx.length cn, .slice Am ms.length cm] 51 (0,0)):=by rw[hW];exact heap_alloc_new w _
 have HB:=Lib.hid (And.intro hbW (And.intro hB0 trivial));clear hW hbW hB0;go_wp2_with fail;refine (HF.out W HB.out.1).mono ?_;rintro e w1 ⟨hb1,er,mcs,hla,hpost⟩;obtain rfl:=HH.out.2.2.1 er mcs hla;obtain ⟨v,fs,rfl,hfs,hfu⟩:∃v fs,e = .returned (.tuple #[v, .int .i64 0])/\FnsIn w1 v fs mcs/\fs.map Prod.fst=us:=by
  rcases hpost with ⟨h,-⟩ | ⟨-,h⟩
  .exact absurd rfl h
  .exact h
 clear hpost;have hfl:fs.length=n:=by have h1:=HH.out.2.2.2.2.2.2.2.1;rw[<-hfu,List.length_map]at h1;exact h1
 obtain ⟨gF,fF,cF,rfl,hgF,hcF⟩:=fns_cell hfs (by omega)
 obtain ⟨gK,fK,cK,eK,hgK,hcK⟩:=kns_cell HH.out.1 (by have:=HH.out.2.2.2.2.2.2.2.1;omega)
 injection eK with eK eK2 eK3;subst eK eK3;clear eK2;have hbw1:=HB.out.1.trans (hb1.mono HB.out.1.size);have HB1:=Lib.hid (And.intro hb1 hbw1);have hb0:=(hb1.block _ (Array.getElem?_eq_some_iff.1 HB.out.2.1).1).trans HB.out.2.1;obtain ⟨c0,c1,c2,c3,c4⟩:=cells5 hb0;have lb:w.heap.size<w1.heap.size:=(Array.getElem?_eq_some_iff.1 hb0).1;have HF1:=Lib.hid (And.intro hla (And.intro hfs (And.intro hfu (And.intro hgF (And.intro hcF (And.intro hgK hcK))))));have HV1:=Lib.hid (HVA.out w1 hbw1);rw[hfl];have HFL:=Lib.hid hfl;clear hb1 hla hfs hfu hgF hcF hgK hcK hb0 hfl;go_wp2_with fail;refine HV1.out.mono ?_;rintro e w2 ⟨rfl,hb2⟩;have hbw2:=hbw1.trans (hb2.mono hbw1.size);have HB2:=Lib.hid (And.intro hb2 hbw2);have hW2:Below W.heap.size W w2:=HB1.out.1.trans (hb2.mono HB1.out.1.size);have hb0:=(hW2.block _ (Array.getElem?_eq_some_iff.1 HB.out.2.1).1).trans HB.out.2.1;clear c0 c1 c2 c3 c4 lb hb2;obtain ⟨c0,c1,c2,c3,c4⟩:=cells5 hb0;have lb:w.heap.size<w2.heap.size:=(Array.getElem?_eq_some_iff.1 hb0).1;have HC2:=Lib.hid (HCP.out w2 hbw2);clear hb0 hW2 hbw2 hbw1;go_wp2_with fail;refine HC2.out.mono ?_;rintro e w3 ⟨A1,d1,A2,d2,A3,d3,rfl,hk3,hn3,hm3,hb3⟩;clear c0 c1 c2 c3 c4 lb;have hkn1:K.length=n1:=by rw[HN1.out.1];exact HN1.out.2.1
 rw[hkn1]at hk3|-;have H3:=Lib.hid (And.intro hk3 (And.intro hn3 (And.intro hm3 hb3)));have hB23:w2.heap.size<=w3.heap.size:=hb3.size;clear hk3 hn3 hm3 hb3 hkn1
 go_upto_region 7 with fail
 refine wp_nm λW6 hW6=>?_;have hs6:ScS w2.heap.size w3.heap.size tt ba K1 nx ms (.slice A1 n1 d1) (.slice A2 nx.length d2) (.slice A3 ms.length d3) W6/\Below w2.heap.size w2 W6:=by
  rw[hW6,<-HN1.out.1];exact ⟨⟨heap_alloc_new w3 _,hB23,World.ownsRow.alloc H3.out.1 _,World.ownsRow.alloc H3.out.2.1 _,World.ownsRow.alloc H3.out.2.2.1 _⟩,H3.out.2.2.2.alloc hB23 _⟩
 have HS6:=Lib.hid hs6;clear hW6 hs6;have hD:∀k,(dsOf mcs ks nrs K1 k).ok n1:=λk=>HN1.out.2.1▸dsOf_ok (λi hi=>(HH.out.2.2.2.1 i hi).n64) k;obtain ⟨D,hDe⟩:∃D,dsOf mcs ks nrs K1=D:=⟨_,rfl⟩;rw[hDe]at hD;have hnxb:∀k:Nat,(nx[k]?).getD 0<=ba+n1:=λk=>by
  cases hk:nx[k]? with
  | none=>exact Nat.zero_le _
  | some q=>
   have:=HH.out.2.2.2.2.2.1.h4 q (List.mem_of_getElem? hk);have h9:=HN1.out.2.2;show q<=_;omega
 have HD:=Lib.hid (And.intro hD (And.intro hDe hnxb));have HFB:=Lib.hid (show FdI w2.heap.size w3.heap.size tt ba K1 nx ms (.slice A1 n1 d1) (.slice A2 nx.length d2) (.slice A3 ms.length d3) w2 W6 from ⟨HS6.out.1,HS6.out.2⟩);have hnxl:=HH.out.2.2.2.2.2.1.h3;obtain ⟨gN,rfl⟩:∃gN,A2=some ⟨gN,0,none⟩:=by
  rcases HFB.out.s.n.2 with ⟨-,h0⟩ | ⟨g',cap,cur,e,-⟩
  .omega
  .injection e with e _ _;exact ⟨g',e⟩
 rw[hnxl]at HFB;obtain ⟨nv6,hnv6⟩:∃z,Value.slice (some ⟨gN,0,none⟩) n d2=z:=⟨_,rfl⟩;rw[hnv6]at HFB;have HNV:=Lib.hid hnv6;have HNL:=Lib.hid hnxl;clear hnxl;clear hD hDe hnxb HS6 hnv6;go_wp2_with fail
 go_loopw [29] (λiv wr=>∃(k:Nat) (mv1:Value),k<=n/\iv = .int .i64 (k:Int)/\Hid (FdI w2.heap.size w3.heap.size tt ba K1 (stN true D n1 ba nx k) (stM true D n1 ba nx ms k) (.slice A1 n1 d1) nv6 mv1 w2 wr)) (λiv _=>(n-intOf iv).toNat)
 case atStart=>exact ⟨0,_,Nat.zero_le _,rfl,HFB.out⟩
 case round=>
  obtain ⟨k,mv1,hk,rfl,HI⟩:=hrel;by_cases hlt:k<n
  .have hd:decide ((k:Int)<(n:Int))=true:=decide_eq_true (by omega)
   have hd2:decide (k<n)=true:=decide_eq_true hlt;have hW1r:Below w1.heap.size w1 wr:=HB2.out.1.trans (HI.out.bl.mono HB2.out.1.size);have hkf:k<fs.length:=by rw[HFL.out];exact hlt
   have hku:k<us.length:=by have:=HH.out.2.2.2.2.2.2.2.1;omega
   have hkk:k<ks.length:=by have:=HH.out.2.2.2.2.2.2.2.2;omega
   have hkm:k<mcs.length:=by have:=HF1.out.2.1.1;omega
   have hcf:=λj hj=>(hW1r.cell (p:=⟨gF,fF+k*13+j,none⟩) HF1.out.2.2.2.1).trans (HF1.out.2.2.2.2.1 k hkf j hj);have hxu:fs[k].1=us[k]:=by
    have h1:=HF1.out.2.2.1;have h2:us[k]=(fs.map Prod.fst)[k]'(by simpa using hkf):=by congr 1;exact h1.symm
    rw[h2];simp
   obtain ⟨x,hx⟩:∃x,fs[k]=x:=⟨_,rfl⟩;rw[hx]at hcf hxu;obtain ⟨q0,q1,q2,q3,q4,q5,q6,q7,q8,q9,q10,q11,q12⟩:=fd9_cells hcf;have lgF:gF<wr.heap.size:=Nat.lt_of_lt_of_le HF1.out.2.2.2.1 hW1r.size;have HX:=Lib.hid (And.intro hx hxu);have HDK:=Lib.hid (And.intro hd hd2);clear hcf hx hxu hW1r
   go_upto_region 10 with fail
   refine wp_nm λW hW=>?_;have hbW:Below wr.heap.size wr W:=by rw[hW];exact (Below.refl _ _).alloc (Nat.le_refl _) _
   have hbx:bxF x wr.heap.size W:=by rw[hW];exact heap_alloc_new wr _
   have hIW:=HI.out.later hbW;have hwW:Below w.heap.size w W:=HB2.out.2.trans (hIW.bl.mono HB2.out.2.size);have hck:∀wz,Below W.heap.size W wz->∀j,j<11->wz.cell? ⟨gK,fK+k*11+j,none⟩=x.1.cs[j]?:=λwz hz j hj=>by
    rw[HX.out.2];exact ((hwW.trans (hz.mono hwW.size)).cell (p:=⟨gK,fK+k*11+j,none⟩) HF1.out.2.2.2.2.2.1).trans (HF1.out.2.2.2.2.2.2 k hku j hj)
   have HWW:=Lib.hid (And.intro hbx (λwz hz=>kc_cells (hck wz hz)));have HIW:=Lib.hid (And.intro hIW hwW);have hS0:Below W.heap.size W W.drew:=(Below.refl _ _).drew;clear hW hbW hbx hck hIW hwW q0 q1 q2 q3 q4 q5 q6 q7 q8 q9 q10 q11 q12 lgF;refine wp_region_chain 6 [] (factG x gK fK n c k) (λ_ w'=>Below W.heap.size W w') (by kernel_rfl) (by kernel_rfl) (by kernel_rfl) (by kernel_rfl) (by kernel_rfl) (by kernel_rfl) (by decide) hS0 ?_ ?_
   .simp only[pq4,pq5];refine HSteps.pure (by decide) ?_ (HSteps.pure (by decide) ?_ (HSteps.pure (by decide) ?_ (HSteps.pure (by decide) ?_ (HSteps.pure (by decide) ?_ (HSteps.pure (by decide) ?_ (HSteps.nil))))))
    all_goals first | (with_reducible intro v wz c hlo hS hE K hK;simp only[putAll,Act.put,pq1,pq2,pq3,Nat.zero_add,Nat.reduceAdd,pq4,pq5]at hK|-) | (intro v wz hS hE K hK;simp only[putAll,Act.put,pq1,pq2,pq3,Nat.zero_add,Nat.reduceAdd,pq4,pq5]at hK|-)
    .have hz:=HWW.out.1.later hS;obtain ⟨⟨b0,b1,b2,b3,b4,b5⟩,⟨b6,b7,b8,b9,b10⟩,⟨b11,b12⟩,lbz⟩:=hz.cells;clear hz;have HX:=Lib.hid hS;clear hS hE hlo;go_wp2_with fail;exact hK.out _ rfl
    .have HX:=Lib.hid hS;clear hS hE hlo;go_wp2_with fail;exact hK.out _ rfl
    .have HX:=Lib.hid hS;clear hS hE hlo;go_wp2_with fail;exact hK.out _ rfl
    .have e1:v 1=_:=hE.1 rfl;have e2:v 2=_:=hE.2.1 rfl;rw[e1,e2]at hK|-;have hlt9:=hlt;have hd9:=HDK.out.1;have hd8:=HDK.out.2;have HX:=Lib.hid hS;clear hS hE hlo;go_wp2_with fail;exact hK.out _ rfl
    .have e3:v 3=_:=hE.1 rfl;rw[e3]at hK|-;obtain ⟨⟨b0,b1,b2,b3,b4,b5⟩,b6,b7,b8,b9,b10⟩:=HWW.out.2 wz hS;have HX:=Lib.hid hS;clear hS hE hlo;go_wp2_with fail;exact hK.out _ rfl
    .have HX:=Lib.hid hS;clear hS hE hlo;go_wp2_with fail;exact hK.out _ rfl
   .intro v wz hS hF;have e0:v 0=_:=hF 0 (by decide)
    have e4:v 4=_:=hF 4 (by decide)
    have e5:v 5=_:=hF 5 (by decide)
    simp only[putAll,Act.put,pq1,pq2,pq3,Nat.zero_add,Nat.reduceAdd,pq4,pq5,List.drop_succ_cons,List.drop_zero,e0,e4,e5];have hIz:=HIW.out.1.later hS;have hm2:McIn w2 x.2.val mcs[k]:=by have h:=HF1.out.2.1.2;obtain ⟨A9,c9,-,-,-,h⟩:=h;have h:=h k hkf hkm;rw[HX.out.1]at h;exact h.later HB2.out.1
    have hk2:KnIn w2 x.1 ks[k]:=by
     obtain ⟨-,A9,c9,-,-,-,h⟩:=HH.out.1;rw[HX.out.2];exact (h k hku hkk).later HB2.out.2
    have hsm2:=HH.out.2.2.2.1 k hkk;have hAD:=adH_of (B:=w2.heap.size) (K:=K1) (A:=A1) (c:=d1) (Nat.le_refl _) hm2 ((HF1.out.1.all.2.2 k hkk hkm).good.1.go) hk2 hsm2 (HH.out.2.1.later HB2.out.2) (by have:=HN1.out.2.1;have:=HN1.out.2.2;omega) wz hIz.bl
    have hkd:k<(stN true D n1 ba nx k).length:=by rw[stN_len,HNL.out];exact hlt
    obtain ⟨q,hq⟩:∃q,(nx[k]?).getD 0=q:=⟨_,rfl⟩;have hqk:(stN true D n1 ba nx k)[k]=q:=by
     have h1:=stN_get true D n1 ba nx k k (Nat.le_refl _);rw[List.getElem?_eq_getElem hkd]at h1;rw[<-hq,<-h1];rfl
    have hqb:q<=ba+n1:=hq▸HD.out.2.2 k;have hml:=stM_len (en:=true) (ms:=ms) HD.out.1 HD.out.2.2 k;have hkn1:k*(n1+1)<=2*(n1+1):=Nat.mul_le_mul_right _ (by omega)
    have hDk:D k=dOf mcs[k] ks[k] (nrs k) K1:=by rw[<-HD.out.2.1];exact dsOf_eq hkm hkk
    have hKn:K1.length=n1:=HN1.out.2.1;have hnr:=hk2.nr.trans hsm2.nre;have h91:=HN1.out.2.2;have hadv:=advance_any w2.heap.size w3.heap.size tt ba k (nrs k) K1 (stN true D n1 ba nx k) (stM true D n1 ba nx ms k) (.slice A1 n1 d1) nv6 mv1 x mcs[k] ks[k].pat _ true wz hnr hIz.s (by rw[<-hKn];exact hAD) hkd (by omega) (by omega) (by rw[hqk,hKn];exact hqb) (by rw[stN_len,HNL.out];omega) (by omega) hsm2.n64
    rw[hqk]at hadv;have hstep:advL K1.length (longF ks[k].pat+max (nrs k) 1) true (chF mcs[k] x.1.wh (K1.map UInt8.toNat)) (psF (K1.map UInt8.toNat) (askOf ks[k] (nrs k))) (K1.length+1) (q-ba)=advR true (D k) n1 ba q:=by
     rw[advR,hDk,hKn,hk2.wh];rfl
    rw[hstep]at hadv;have hadv2:=hadv.mono (R':=λe w'=>(∃v,e = .returned v)/\∃mv',FdI w2.heap.size w3.heap.size tt ba K1 (stN true D n1 ba nx (k+1)) (stM true D n1 ba nx ms (k+1)) (.slice A1 n1 d1) nv6 mv' w2 w') (λe w' h=>⟨h.1,by
     obtain ⟨mv',h1,h2⟩:=h.2;refine ⟨mv',?_,hIz.bl.trans h2⟩;rw[stN,stM,hq];exact h1⟩)
    have HAV:=Lib.hid hadv2;have HQ:=Lib.hid (And.intro hq (And.intro hqb (And.intro hnr (And.intro hDk hIz.bl))));clear hIz hm2 hk2 hAD hadv hstep hadv2 hml hkn1 hDk hKn hqk hnr e0 e4 e5 hF hS hS0;go_wp2_with fail;refine HAV.out.mono ?_;rintro e w7 ⟨⟨rv,rfl⟩,mv2,hI7⟩;have HI7:=Lib.hid hI7;clear hI7;have hwk:IntKind.i64.wrap ((k:Int)+1)=((k+1:Nat):Int):=by rw[IntWalk.i64_in _ (by omega)];omega
    go_wp2_with fail;refine ⟨⟨k+1,mv2,by omega,rfl,HI7.out⟩,by simp[intOf];omega⟩
  .obtain rfl:k=n:=by omega
   have hd:decide ((k:Int)<(k:Int))=false:=decide_eq_false (by omega)
   have hd2:decide (k<k)=false:=decide_eq_false (by omega)
   have hHI:=HI.out;rw[<-HNV.out]at hHI;obtain ⟨Am1,dm1,em,-,-⟩:=own_form (show wr.ownsRow _ _ _ _ _ _ from hHI.s.m);obtain ⟨lm1,hlm⟩:∃z,(stM true D n1 ba nx ms k).length=z:=⟨_,rfl⟩;have hml:=stM_len (en:=true) (ms:=ms) HD.out.1 HD.out.2.2 k;have hkn1:k*(n1+1)<=3*(n1+1):=Nat.mul_le_mul_right _ (by omega)
   have h91:=HN1.out.2.2;have hso:=sortT_any (stM true D n1 ba nx ms k) mv1 w2.heap.size wr hHI.s.m (by omega)
   rw[hlm]at em;subst em;obtain ⟨c0,c1,c2,c3,c4⟩:=hHI.s.cells;have lb:=hHI.s.lt;have HSO:=Lib.hid hso;have HHI:=Lib.hid hHI;clear hHI hlm hml hkn1 hso;go_wp2_with fail;refine HSO.out.mono ?_;rintro e w7 ⟨rfl,o,hperm,hsort,hmt,hg⟩;have hbx7:=(hg.block w3.heap.size HHI.out.s.lt (λe=>by
    obtain ⟨cs',mm,h⟩:=own_type HHI.out.s.m w3.heap.size e.symm;rw[HHI.out.s.box]at h;injection h with h;injection h with _ h _;exact absurd h (by decide))).trans HHI.out.s.box
   have hbl7:Below w2.heap.size w2 w7:=HHI.out.bl.grown hg HHI.out.bl.size (λq hq=>(World.ownsRow.lt HHI.out.s.m q hq).1);clear c0 c1 c2 c3 c4 lb;obtain ⟨c0,c1,c2,c3,c4⟩:=cells5 hbx7;have lb:w3.heap.size<w7.heap.size:=(Array.getElem?_eq_some_iff.1 hbx7).1;have H7:=Lib.hid (And.intro hperm (And.intro hsort (And.intro hmt hbl7)));clear hperm hsort hmt hbl7 hbx7 hg;go_wp2_with fail
   go_ret2
   refine ⟨HB2.out.2.trans (H7.out.2.2.2.mono HB2.out.2.size),mcs,HF1.out.1,_,o,rfl,?_,H7.out.2.1,H7.out.2.2.1⟩;rw[HD.out.2.1];exact H7.out.1
theorem rowF_zero:∀n,rowF inC (List.replicate n 0)=List.replicate n (Value.int .i64 0)
 | 0=>rfl
 | n+1=>by
  rw[List.replicate_succ,List.replicate_succ];show inC 0++rowF inC (List.replicate n 0)=_;rw[rowF_zero n];rfl
set_option maxHeartbeats 4000000 in
theorem new_any (A:Option Addr) (n c:Nat) (us:List KC) (ks:List Kn) (w:World) (h:KnsIn w (.slice A n c) us ks) (hv:VrOK w) (hnm:∀k∈ks,k.nm.size<=140737488355328) (hgd:∀er msc,LaA ks er msc->er=0) (h5:1<=n/\n<=3) :
  Calls Tryz.prog 16 #[.slice A n c] w λe w'=>Below w.heap.size w w'/\∃nv,e = .returned (.tuple #[.agg #[.int .i64 0, .int .i64 0, .slice none 0 0,nv, .slice none 0 0], .int .i64 0])/\ScO w.heap.size w' [] (List.replicate n 0) [] (.slice none 0 0) nv (.slice none 0 0):=by
 have HV:=Lib.hid (λ(W:World) (hb:Below w.heap.size w W)=>lvalid_any A n c us ks W (h.later hb) (hv.later hb) hnm);have HG:=Lib.hid hgd;clear h hv hnm hgd;have hmk:=λw=>mk_zeros n (by omega) w
 go_enter Tryz.func16,Tryz.ntmps16
 go_upto_region 1 with fail
 refine wp_nm λW hW=>?_;have hbW:Below w.heap.size w W:=by rw[hW];exact (Below.refl _ _).alloc (Nat.le_refl _) _
 have hB0:W.heap[w.heap.size]?=some (.cells #[.int .i64 0, .int .i64 0, .slice none 0 0, .slice none 0 0, .slice none 0 0] 51 (0,0)):=by rw[hW];exact heap_alloc_new w _
 have HB:=Lib.hid (And.intro hbW hB0);clear hW hbW hB0;go_wp2_with fail;refine (HV.out W HB.out.1).mono ?_;rintro e w1 ⟨hb1,er,msc,hla,rfl⟩;obtain rfl:=HG.out er msc hla;have hbx:=(hb1.block _ (Array.getElem?_eq_some_iff.1 HB.out.2).1).trans HB.out.2;obtain ⟨c0,c1,c2,c3,c4⟩:=cells5 hbx;have fr:∀j,w1.frozen? ⟨w.heap.size,j,none⟩=false:=λj=>by simp[World.frozen?,hbx]
 have f0:=fr 0;have f1:=fr 1;have f2:=fr 2;have f3:=fr 3;have f4:=fr 4;have lb:w.heap.size<w1.heap.size:=(Array.getElem?_eq_some_iff.1 hbx).1;have H1:=Lib.hid (And.intro (HB.out.1.trans (hb1.mono HB.out.1.size)) hbx);clear hb1 hla hbx fr;go_wp2_with fail;refine post_named λWf hWf=>?_;obtain ⟨X,hX⟩:∃X,((((w1.setCell ⟨w.heap.size,0,none⟩ (.int .i64 0)).setCell ⟨w.heap.size,1,none⟩ (.int .i64 0)).setCell ⟨w.heap.size,2,none⟩ (.slice none 0 0)).setCell ⟨w.heap.size,3,none⟩ (.slice (some ⟨w1.heap.size,0,none⟩) n n)).setCell ⟨w.heap.size,4,none⟩ (.slice none 0 0)=X:=⟨_,rfl⟩;rw[hX]at hWf;have hXs:X.heap.size=w1.heap.size:=by rw[<-hX];simp[World.setCell]
 have hXr:X.heap[w.heap.size]?=some (.cells #[.int .i64 0, .int .i64 0, .slice none 0 0, .slice (some ⟨w1.heap.size,0,none⟩) n n, .slice none 0 0] 51 (0,0)):=by
  rw[<-hX];simp[World.setCell,Array.getElem?_modify,H1.out.2]
 have hXb:Below w.heap.size w X:=by
  rw[<-hX]
  iterate 5 (refine Below.setCell ?_ (by dsimp only;omega) _)
  exact H1.out.1
 have hrow:Wf.heap[w.heap.size]?=some (.cells #[.int .i64 0, .int .i64 0, .slice none 0 0, .slice (some ⟨w1.heap.size,0,none⟩) n n, .slice none 0 0] 51 (0,0)):=by
  rw[hWf];exact (old_alloc X _ w.heap.size (by omega)).trans hXr
 have hnew:OR 3 1 inC w.heap.size (.slice (some ⟨w1.heap.size,0,none⟩) n n) (List.replicate n 0) Wf:=by
  have h:=World.ownsRow_lit (base:=w.heap.size) (e:=3) (size:=1) X (Array.replicate n (.int .i64 0)) n hXb.size (by unfold maxLen;omega) (by simp)
  rw[hWf];show World.ownsRow _ _ _ _ _ _ _;rw[List.length_replicate,rowF_zero,<-hXs];simpa using h
 have hbf:Below w.heap.size w Wf:=by rw[hWf];exact hXb.alloc hXb.size _
 clear hWf hX hXs hXr hXb;refine bodyPost_ret (v:=.tuple #[.agg #[.int .i64 0, .int .i64 0, .slice none 0 0, .slice (some ⟨w1.heap.size,0,none⟩) n n, .slice none 0 0], .int .i64 0]) (results_cell_row2 (p:=2) (u:=3) rfl _ _ w.heap.size 51 _ (0,0) _ rfl hrow Tryz.underlying51 rfl info_scanner) rfl ?_;exact ⟨hbf,_,rfl,OB.nil_ _ _ _,hnew,OR.nil_ _ _ _⟩
set_option maxHeartbeats 8000000 in
theorem feed_limit (A:Option Addr) (n c tt ba:Nat) (us:List KC) (ks:List Kn) (K:List UInt8) (nx:List Nat) (ms:List Mt) (kv nv mv:Value) (Ap:Option Addr) (pl cp:Nat) (w:World) (h:KnsIn w (.slice A n c) us ks) (hv:VrOK w) (hnm:∀k∈ks,k.nm.size<=140737488355328) (hgd:∀er msc,LaA ks er msc->er=0)
  (hs:ScV w K nx ms kv nv mv) (hok:ScOK n tt ba K nx) (h5:1<=n/\n<=3) (h6:65536<tt+pl) (h8:pl<=70000) :
  Calls Tryz.prog 17 #[.slice A n c, .agg #[.int .i64 (tt:Int), .int .i64 (ba:Int),kv,nv,mv], .slice Ap pl cp] w λe w'=>Below w.heap.size w w'/\e = .returned (.tuple #[.agg #[.int .i64 0, .int .i64 0, .slice none 0 0, .slice none 0 0, .slice none 0 0], .int .i64 3]):=by
 obtain ⟨Ak,ck,rfl,-⟩:=id hs.k;obtain ⟨An,cn,rfl,-⟩:=id hs.n;obtain ⟨Am,cm,rfl,-⟩:=id hs.m;have hok1:=hok.h1;have HF:=Lib.hid (λ(W:World) (hb:Below w.heap.size w W)=>finders_any A n c us ks W (h.later hb) (hv.later hb) hnm);have HVA:=Lib.hid (λ(W:World) (hb:Below w.heap.size w W)=>validS_any A n c tt ba K nx ms _ _ _ W (hs.later hb) hok.h1 hok.h2 hok.h3 hok.h4 (by omega))
 have HG:=Lib.hid hgd;clear h hv hnm hgd hs hok;have hwl:IntKind.i64.wrap (65536 - (tt:Int))=65536 - (tt:Int):=IntWalk.i64_in _ (by omega)
 have hdl:decide (65536 - (tt:Int)<(pl:Int))=true:=decide_eq_true (by omega)
 go_enter Tryz.func17,Tryz.ntmps17
 go_upto_region 1 with fail
 refine wp_nm λW hW=>?_;obtain ⟨hbW,hB0,hB1⟩:=two_bx hW;have HB:=Lib.hid (And.intro hbW (And.intro hB0 hB1));clear hW hbW hB0 hB1;go_wp2_with fail;refine (HF.out W HB.out.1).mono ?_;rintro e w1 ⟨hb1,er,mcs,hla,hpost⟩;obtain rfl:=HG.out er mcs hla;obtain ⟨v,fs,rfl,hfs⟩:∃v fs,e = .returned (.tuple #[v, .int .i64 0])/\FnsIn w1 v fs mcs:=by
  rcases hpost with ⟨h,-⟩ | ⟨-,v,fs,h1,h2,-⟩
  .exact absurd rfl h
  .exact ⟨v,fs,h1,h2⟩
 obtain ⟨-,Af,cf,rfl,-⟩:=hfs;have hb0:=(hb1.block _ (Array.getElem?_eq_some_iff.1 HB.out.2.1).1).trans HB.out.2.1;obtain ⟨c0,c1,c2,c3,c4⟩:=cells5 hb0;have lb:w.heap.size<w1.heap.size:=(Array.getElem?_eq_some_iff.1 hb0).1;have hbw1:=HB.out.1.trans (hb1.mono HB.out.1.size);have HV1:=Lib.hid (HVA.out w1 hbw1);have HB1:=Lib.hid (And.intro hb1 hbw1);clear hb1 hla hpost hb0 hbw1;go_wp2_with fail;refine HV1.out.mono ?_;rintro e w2 ⟨rfl,hb2⟩;have hW2:Below W.heap.size W w2:=HB1.out.1.trans (hb2.mono HB1.out.1.size);have hb0:=(hW2.block _ (Array.getElem?_eq_some_iff.1 HB.out.2.1).1).trans HB.out.2.1;have hbr:=(hW2.block _ (Array.getElem?_eq_some_iff.1 HB.out.2.2).1).trans HB.out.2.2;clear c0 c1 c2 c3 c4 lb;obtain ⟨c0,c1,c2,c3,c4⟩:=cells5 hb0;have lb:w.heap.size<w2.heap.size:=(Array.getElem?_eq_some_iff.1 hb0).1;obtain ⟨y0,y1,y2,y3,y4⟩:=cells5 hbr;have fr:∀j,w2.frozen? ⟨w.heap.size+1,j,none⟩=false:=λj=>by simp[World.frozen?,hbr]
 have f0:=fr 0;have f1:=fr 1;have f2:=fr 2;have f3:=fr 3;have f4:=fr 4;have ly:=(Array.getElem?_eq_some_iff.1 hbr).1;have H2:=Lib.hid (And.intro (HB1.out.2.trans (hb2.mono HB1.out.2.size)) hbr);clear hb2 hW2 hb0 hbr fr;go_wp2_with fail;refine post_named λWf hWf=>?_;have hrow:Wf.heap[w.heap.size+1]?=some (.cells #[.int .i64 0, .int .i64 0, .slice none 0 0, .slice none 0 0, .slice none 0 0] 51 (0,0)):=by
  rw[hWf];simp[World.setCell,Array.getElem?_modify,H2.out.2]
 have hbf:Below w.heap.size w Wf:=by
  rw[hWf]
  iterate 5 (refine Below.setCell ?_ (by dsimp only;omega) _)
  exact H2.out.1
 clear hWf;refine bodyPost_ret (v:=.tuple #[.agg #[.int .i64 0, .int .i64 0, .slice none 0 0, .slice none 0 0, .slice none 0 0], .int .i64 3]) (results_cell_row2 (p:=6) (u:=7) rfl _ _ (w.heap.size+1) 51 _ (0,0) _ rfl hrow Tryz.underlying51 rfl info_scanner) rfl ?_;exact ⟨hbf,rfl⟩
def xK:Kn:=⟨⟨#[120]⟩,shN 0,false,0,0,[],0⟩
theorem xK_good:GoodK xK:=by
 refine ⟨?_,?_,?_,?_⟩
 .rw[show bl xK.nm=[120] by kernel_rfl];decide
 .decide
 .decide
 .decide
theorem xK_la {er:Int} {ms:List Mc} (h:LaA [xK] er ms):er=0:=h.ok (by decide) (by decide) (λk hk=>by rw[List.mem_singleton]at hk;rw[hk];exact xK_good) (by decide)
theorem xK_sm:KnSm xK 0:=⟨rfl,by decide,(λs hs=>absurd hs (by simp[xK])),by decide,by decide⟩
theorem xK_mc {ms:List Mc} (h:LaA [xK] 0 ms):∃m,ms=[m]/\∀u,acF m u 0=true↔langN (shN 0) u:=by
 obtain ⟨-,h1,h2⟩:=h.all
 match ms,h1 with
 | [m],_=>exact ⟨m,rfl,(h2 0 (by decide) (by simp)).good.1.vld.2.2.2.2⟩
theorem advL_all {n wait:Nat} {p:Nat->Nat->Bool} {cho:Nat->Option Nat} (hc:∀i,i<n->cho i=none) (hw:1<=wait):∀f a,n+1<=a+f->a+wait<=n+1->advL n wait false cho p f a=([],n+1-wait)
 | 0,a,h1,h2=>by omega
 | f+1,a,h1,h2=>by
  rw[advL];by_cases h:n<a+wait
  .rw[if_pos (.inr ⟨rfl,h⟩),show a=n+1-wait by omega]
  .rw[if_neg (by rintro (h3 | ⟨-,h3⟩) <;> omega),hc a (by omega)]
   exact advL_all hc hw f (a+1) (by omega) (by omega)
theorem advL_end {n wait:Nat} {p:Nat->Nat->Bool} {cho:Nat->Option Nat} (hc:∀i,i<n->cho i=none):∀f a,n+1<=a+f->a<=n->advL n wait true cho p f a=([],n)
 | 0,a,h1,h2=>by omega
 | f+1,a,h1,h2=>by
  rw[advL];by_cases h:n<=a
  .rw[if_pos (.inl h),show a=n by omega]
  .rw[if_neg (λh3=>h3.elim (λh3=>by omega) (λh3=>by cases h3.1)),hc a (by omega)]
   exact advL_end hc f (a+1) (by omega) (by omega)
theorem zero_none {m:Mc} (h:∀u,acF m u 0=true↔langN (shN 0) u) (n i:Nat) (hi:i<=n):chF m false (List.replicate n 0) i=none:=by
 cases hc:chF m false (List.replicate n 0) i with
 | none=>rfl
 | some t=>
  have h1:=((chF_is m false (List.replicate n 0) i t (by rw[List.length_replicate];exact hi)).1 hc).1
  obtain ⟨h2,h3,h4,-⟩:=h1;rw[List.length_replicate]at h3;rw[List.drop_replicate,List.take_replicate,h]at h4;have h5:=no_byte (c:=0) (nd:=shN 0) (by decide) h4
  exact absurd (List.mem_replicate.2 ⟨by omega,rfl⟩) h5
theorem map_zero (n:Nat):(List.replicate n (0:UInt8)).map UInt8.toNat=List.replicate n 0:=by rw[List.map_replicate];rfl
theorem tk_lang:langN (shN 0) [116,107,49,50]:=by
 refine (?_:langS [byN 116,byN 107,tiN [(48,57)] 2 4] [116,107,49,50]);refine ⟨[116],[107,49,50],rfl,?_,[107],[49,50],rfl,?_,[49,50],[],rfl,?_,rfl⟩
 .exact ⟨116,rfl,by decide⟩
 .exact ⟨107,rfl,by decide⟩
 .refine ⟨2,by decide,by decide,?_⟩
  refine ⟨[49],[50],rfl,⟨[],[49],rfl,rfl,?_⟩,?_⟩
  .exact ⟨49,rfl,by decide⟩
  .exact ⟨50,rfl,by decide⟩
theorem tk_cho {m:Mc} (h:∀u,acF m u 0=true↔langN (shN 0) u):chF m false [116,107,49,50] 0=some 4:=by
 refine (chF_is m false _ 0 4 (by decide)).2 ⟨⟨by decide,by decide,(h _).2 tk_lang,by decide⟩,λx hx=>hx.2.1⟩
theorem tk_pass (l:List Nat) (a z:Nat):psF l (askOf xK 0) a z=true:=by
 unfold psF pasF askOf xK;simp[hldP]
theorem zeros_feed {ms:List Mc} (h:LaA [xK] 0 ms):stN false (dsOf ms [xK] (λ_=>0) (List.replicate 65536 0)) 65536 0 [0] 1=[65530]/\stM false (dsOf ms [xK] (λ_=>0) (List.replicate 65536 0)) 65536 0 [0] [] 1=[]/\stK false (dsOf ms [xK] (λ_=>0) (List.replicate 65536 0)) 65536 0 [0] 65536 1=65529:=by
 obtain ⟨m,rfl,hm⟩:=xK_mc h;have hD:dsOf [m] [xK] (λ_=>0) (List.replicate 65536 0) 0=dOf m xK 0 (List.replicate 65536 0):=rfl;have hR:advR false (dOf m xK 0 (List.replicate 65536 0)) 65536 0 0=([],65530):=by
  show advL 65536 7 false (chF m false ((List.replicate 65536 (0:UInt8)).map UInt8.toNat)) _ (65536+1) (0 - 0)=_;rw[map_zero];exact advL_all (λi hi=>zero_none hm _ i (by omega)) (by decide) _ _ (by decide) (by decide)
 refine ⟨?_,?_,?_⟩
 .rw[stN,stN,hD];show [0].set 0 (0+(advR false _ 65536 0 0).2)=_;rw[hR];rfl
 .rw[stM,stM,hD];show []++mtB 0 0 (advR false _ 65536 0 0).1=_;rw[hR];rfl
 .rw[stK,stK,hD];show min (65536:Int) (((0+(advR false _ 65536 0 0).2:Nat):Int) - 1)=_;rw[hR];rfl
theorem zeros_fin {ms:List Mc} (h:LaA [xK] 0 ms):stM true (dsOf ms [xK] (λ_=>0) (List.replicate 7 0)) 7 65529 [65530] [] 1=[]:=by
 obtain ⟨m,rfl,hm⟩:=xK_mc h;have hD:dsOf [m] [xK] (λ_=>0) (List.replicate 7 0) 0=dOf m xK 0 (List.replicate 7 0):=rfl;have hR:advR true (dOf m xK 0 (List.replicate 7 0)) 7 65529 65530=([],7):=by
  show advL 7 7 true (chF m false ((List.replicate 7 (0:UInt8)).map UInt8.toNat)) _ (7+1) (65530 - 65529)=_;rw[map_zero];exact advL_end (λi hi=>zero_none hm _ i (by omega)) _ _ (by decide) (by decide)
 rw[stM,stM,hD];show []++mtB 0 65529 (advR true _ 7 65529 65530).1=_;rw[hR];rfl
theorem tok_feed {ms:List Mc} (h:LaA [xK] 0 ms) (K:List UInt8) (n:Nat) (h1:n<=4):stN false (dsOf ms [xK] (λ_=>0) K) n 0 [0] 1=[0]/\stM false (dsOf ms [xK] (λ_=>0) K) n 0 [0] [] 1=[]/\stK false (dsOf ms [xK] (λ_=>0) K) n 0 [0] n 1=-1:=by
 obtain ⟨m,rfl,hm⟩:=xK_mc h;have hD:dsOf [m] [xK] (λ_=>0) K 0=dOf m xK 0 K:=rfl;have hR:advR false (dOf m xK 0 K) n 0 0=([],0):=by
  show advL n 7 false _ _ (n+1) (0 - 0)=_;rw[advL,if_pos (.inr ⟨rfl,by omega⟩)]
 refine ⟨?_,?_,?_⟩
 .rw[stN,stN,hD];show [0].set 0 (0+(advR false _ n 0 0).2)=_;rw[hR];rfl
 .rw[stM,stM,hD];show []++mtB 0 0 (advR false _ n 0 0).1=_;rw[hR];rfl
 .rw[stK,stK,hD];show min (n:Int) (((0+(advR false _ n 0 0).2:Nat):Int) - 1)=_;rw[hR];show min (n:Int) (0 - 1)=-1;omega
theorem tok_fin {ms:List Mc} (h:LaA [xK] 0 ms):stM true (dsOf ms [xK] (λ_=>0) [116,107,49,50]) 4 0 [0] [] 1=[⟨0,0,4⟩]:=by
 obtain ⟨m,rfl,hm⟩:=xK_mc h;have hD:dsOf [m] [xK] (λ_=>0) [116,107,49,50] 0=dOf m xK 0 [116,107,49,50]:=rfl;have hR:advR true (dOf m xK 0 [116,107,49,50]) 4 0 0=([(0,4)],4):=by
  have hp:∀a z,psF (([116,107,49,50]:List UInt8).map UInt8.toNat) (askOf xK 0) a z=true:=tk_pass _;have hc:chF m false (([116,107,49,50]:List UInt8).map UInt8.toNat) 0=some 4:=tk_cho hm;show advL 4 7 true (chF m false (([116,107,49,50]:List UInt8).map UInt8.toNat)) (psF (([116,107,49,50]:List UInt8).map UInt8.toNat) (askOf xK 0)) (4+1) (0 - 0)=_;rw[advL,if_neg (λh3=>h3.elim (λh3=>by omega) (λh3=>by cases h3.1)),show (0 - 0:Nat)=0 from rfl,hc]
  simp only[hp,if_true];rw[advL,if_pos (.inl (Nat.le_refl _))]
 rw[stM,stM,hD];show []++mtB 0 0 (advR true _ 4 0 0).1=_;rw[hR];rfl
def xU (A1:Option Addr) (c1:Nat) (A2:Option Addr) (c2:Nat):KC:=⟨⟨#[120]⟩,2,A1,0,c1,A2,3,c2,0,0,false,0,0,none,0,0,0⟩
def xRow (A1:Option Addr) (c1:Nat) (A2:Option Addr) (c2:Nat):Array Value:=#[.string ⟨#[120]⟩, .int .i64 2, .slice A1 0 c1, .slice A2 3 c2, .int .i64 0, .int .i64 0, .bool false, .int .i64 0, .int .i64 0, .slice none 0 0, .int .i64 0]
theorem x_kns {g:Nat} {A1:Option Addr} {c1:Nat} {A2:Option Addr} {c2:Nat} {w:World} (hn:NdIn w (shN 0) [.int .i64 2, .slice A1 0 c1, .slice A2 3 c2, .int .i64 0, .int .i64 0]) (hg:w.heap[g]?=some (.cells (xRow A1 c1 A2 c2) 44 (0,0))):KnsIn w (.slice (some ⟨g,0,none⟩) 1 1) [xU A1 c1 A2 c2] [xK]:=by
 refine ⟨rfl,some ⟨g,0,none⟩,1,rfl,⟨Nat.le_refl _,by decide⟩, .inr ⟨g,0,rfl,(Array.getElem?_eq_some_iff.1 hg).1,λi hi j hj=>?_⟩,λi h1 h2=>?_⟩
 .have hi0:i=0:=by simp at hi;omega
  subst hi0;rw[cell_of_row _ _ _ _ _ _ hg]
  first | rfl | simp[xRow,KC.cs,xU]
 .have hi0:i=0:=by simp at h1;omega
  subst hi0;exact ⟨rfl,hn,rfl,rfl,rfl,⟨none,0,rfl,⟨Nat.le_refl _,by decide⟩, .inl rfl⟩,rfl⟩
theorem x_nm:∀k∈[xK],k.nm.size<=140737488355328:=λk hk=>by rw[List.mem_singleton]at hk;rw[hk];decide
theorem x_sm:∀i (h:i<[xK].length),KnSm [xK][i] ((λ_=>0) i):=λi h=>by
 have hi0:i=0:=by simp at h;omega
 subst hi0;exact xK_sm
theorem feed_tok (A:Option Addr) (c:Nat) (us:List KC) (K P:List UInt8) (kv nv mv pv:Value) (w:World) (h:KnsIn w (.slice A 1 c) us [xK]) (hv:VrOK w) (hs:ScV w K [0] [] kv nv mv) (hp:RIn u8C 1 w pv P) (hl:(K++P).length<=4) :
  Calls Tryz.prog 17 #[.slice A 1 c, .agg #[.int .i64 (K.length:Int), .int .i64 0,kv,nv,mv],pv] w λe w'=>Below w.heap.size w w'/\∃kv' nv' mv',e = .returned (.tuple #[.agg #[.int .i64 ((K++P).length:Int), .int .i64 0,kv',nv',mv'], .int .i64 0])/\ScO w.heap.size w' (K++P) [0] [] kv' nv' mv':=by
 have hlp:K.length+P.length=(K++P).length:=by rw[List.length_append]
 refine (feed_any A 1 c K.length 0 us [xK] (λ_=>0) K P [0] [] kv nv mv pv w h hv x_nm (λer msc h=>xK_la h) x_sm hs ⟨by omega,rfl,rfl,λx hx=>by rw[List.mem_singleton]at hx;omega⟩ hp ⟨Nat.le_refl _,by decide⟩ (by omega) (by decide)).mono ?_
 rintro e w' ⟨hb,mcs,hla,kv',nv',mv',rfl,hsc⟩;obtain ⟨t1,t2,t3⟩:=tok_feed hla (K++P) (K++P).length hl;rw[hlp]at hsc|-;rw[show [xK].length=1 from rfl,t1,t2,t3]at hsc;rw[show [xK].length=1 from rfl,t3];exact ⟨hb,kv',nv',mv',rfl,hsc⟩
theorem fin_tok (A:Option Addr) (c:Nat) (us:List KC) (kv nv mv:Value) (w:World) (h:KnsIn w (.slice A 1 c) us [xK]) (hv:VrOK w) (hs:ScV w [116,107,49,50] [0] [] kv nv mv) :
  Calls Tryz.prog 18 #[.slice A 1 c, .agg #[.int .i64 4, .int .i64 0,kv,nv,mv]] w λe w'=>Below w.heap.size w w'/\∃v,e = .returned (.tuple #[v, .int .i64 0])/\MtIn w' v [⟨0,0,4⟩]:=by
 refine (finish_any A 1 c 4 0 us [xK] (λ_=>0) [116,107,49,50] [0] [] kv nv mv w h hv x_nm (λer msc h=>xK_la h) x_sm hs ⟨by decide,rfl,rfl,λx hx=>by rw[List.mem_singleton]at hx;omega⟩ ⟨Nat.le_refl _,by decide⟩ (by decide)).mono ?_
 rintro e w' ⟨hb,mcs,hla,v,o,rfl,hp,-,hm⟩;have h1:=tok_fin hla;have h2:o.Perm [⟨0,0,4⟩]:=by rw[<-h1];exact hp
 rw[List.perm_singleton.1 h2]at hm;exact ⟨hb,v,rfl,hm⟩
theorem feed_zero (A:Option Addr) (c:Nat) (us:List KC) (nv pv:Value) (w:World) (h:KnsIn w (.slice A 1 c) us [xK]) (hv:VrOK w) (hs:ScV w [] [0] [] (.slice none 0 0) nv (.slice none 0 0)) (hp:RIn u8C 1 w pv (List.replicate 65536 0)) :
  Calls Tryz.prog 17 #[.slice A 1 c, .agg #[.int .i64 0, .int .i64 0, .slice none 0 0,nv, .slice none 0 0],pv] w λe w'=>Below w.heap.size w w'/\∃kv' nv' mv',e = .returned (.tuple #[.agg #[.int .i64 65536, .int .i64 65529,kv',nv',mv'], .int .i64 0])/\ScO w.heap.size w' (List.replicate 7 0) [65530] [] kv' nv' mv':=by
 obtain ⟨Z,hZ⟩:∃Z:List UInt8,List.replicate 65536 0=Z:=⟨_,rfl⟩;have hZl:Z.length=65536:=by rw[<-hZ,List.length_replicate]
 have hZd:Z.drop 65529=List.replicate 7 0:=by rw[<-hZ,List.drop_replicate]
 rw[hZ]at hp;refine (feed_any A 1 c 0 0 us [xK] (λ_=>0) [] Z [0] [] _ nv _ pv w h hv x_nm (λer msc h=>xK_la h) x_sm hs ⟨by decide,rfl,rfl,λx hx=>by rw[List.mem_singleton]at hx;omega⟩ hp ⟨Nat.le_refl _,by decide⟩ (by omega) (by decide)).mono ?_
 rintro e w' ⟨hb,mcs,hla,kv',nv',mv',rfl,hsc⟩;obtain ⟨t1,t2,t3⟩:=zeros_feed hla;rw[hZ]at t1 t2 t3;rw[List.nil_append,hZl,show [xK].length=1 from rfl,Nat.zero_add]at hsc|-;rw[show (((65536:Nat):Int))=65536 from rfl]at hsc|-;rw[t1,t2,t3]at hsc;rw[t3];have hk:keepF ((0:Nat):Int) 65529 Z=List.replicate 7 0:=by
  rw[keepF,if_pos (by decide)]
  exact hZd
 rw[hk]at hsc;exact ⟨hb,kv',nv',mv',rfl,hsc⟩
theorem fin_zero (A:Option Addr) (c:Nat) (us:List KC) (kv nv mv:Value) (w:World) (h:KnsIn w (.slice A 1 c) us [xK]) (hv:VrOK w) (hs:ScV w (List.replicate 7 0) [65530] [] kv nv mv) :
  Calls Tryz.prog 18 #[.slice A 1 c, .agg #[.int .i64 65536, .int .i64 65529,kv,nv,mv]] w λe w'=>Below w.heap.size w w'/\∃v,e = .returned (.tuple #[v, .int .i64 0])/\MtIn w' v []:=by
 refine (finish_any A 1 c 65536 65529 us [xK] (λ_=>0) (List.replicate 7 0) [65530] [] kv nv mv w h hv x_nm (λer msc h=>xK_la h) x_sm hs ⟨by decide,rfl,rfl,λx hx=>by rw[List.mem_singleton]at hx;omega⟩ ⟨Nat.le_refl _,by decide⟩ (by decide)).mono ?_
 rintro e w' ⟨hb,mcs,hla,v,o,rfl,hp,-,hm⟩;have h1:=zeros_fin hla;have h2:o.Perm []:=by rw[<-h1];exact hp
 rw[List.perm_nil.1 h2]at hm;exact ⟨hb,v,rfl,hm⟩
theorem zero_rin {W:World} {g n:Nat} (h:W.heap[g]?=some (.cells (Array.replicate n (.int .u8 0)) 5 (0,0))) (hn:n<=1000000):RIn u8C 1 W (.slice (some ⟨g,0,none⟩) n n) (List.replicate n 0):=by
 refine ⟨some ⟨g,0,none⟩,n,by rw[List.length_replicate],by rw[List.length_replicate];omega, .inr ⟨g,0,rfl,(Array.getElem?_eq_some_iff.1 h).1,λi hi j hj=>?_⟩⟩
 rw[List.length_replicate]at hi;obtain rfl:j=0:=by omega
 rw[cell_of_row _ _ _ _ _ _ h];simp[u8C,hi]
theorem mk_bytes0 (n:Nat) (hn:n<=1000000) (w:World):(Instr.makeSlice 28 (.int .i64 (n:Int)) (.int .i64 (n:Int))).run Tryz.prog w = .ok (.slice (some ⟨w.heap.size,0,none⟩) n n) (w.alloc (.cells (Array.replicate n (.int .u8 0)) 5)):=by
 obtain ⟨i0,hi,hz0,hz1,hz2⟩:=info_parts info_u8;have h:=run_makeSlice (P:=Tryz.prog) (w:=w) 28 5 i0 (.int .u8 0) Tryz.underlying28 hi hz0 .i64 .i64 (n:Int) (n:Int) (by omega) (Int.le_refl _) (by rw[hz1];omega) (by rw[hz2];omega) (by omega)
 rw[hz1,Int.toNat_natCast]at h;rw[show madeCells (Value.int IntKind.u8 0).cells (n*1)=Array.replicate n (.int .u8 0) from Array.toList_inj.1 (by
  simp only[madeCells,Value.cells,Nat.mul_one,Array.toList_map,Array.toList_range,Array.toList_replicate];rw[List.eq_replicate_iff];refine ⟨by simp,λx hx=>?_⟩
  obtain ⟨i,-,rfl⟩:=List.mem_map.1 hx;simp[Nat.mod_one])]at h
 exact h
theorem x_shape {w1:World} {b g:Nat} (h:KN b w1 4 18 [shN 0,shN 1,shN 2,shN 3,shN 4,shN 5] 6 (.slice (some ⟨g,0,none⟩) 6 6)):∃A1 c1 A2 c2,g<w1.heap.size/\w1.cell? ⟨g,0,none⟩=some (.int .i64 2)/\w1.cell? ⟨g,1,none⟩=some (.slice A1 0 c1)/\w1.cell? ⟨g,2,none⟩=some (.slice A2 3 c2)/\w1.cell? ⟨g,3,none⟩=some (.int .i64 0)/\w1.cell? ⟨g,4,none⟩=some (.int .i64 0)/\NdIn w1 (shN 0) [.int .i64 2, .slice A1 0 c1, .slice A2 3 c2, .int .i64 0, .int .i64 0]:=by
 obtain ⟨-,-,g',c',hv',-,-,hg,hS⟩:=h;injection hv' with hv' _ _;injection hv' with hv';injection hv' with hv' _ _;subst hv';obtain ⟨⟨vs,hc,hn⟩,-⟩:=hS w1 (Stay.refl _ _);obtain ⟨A1,c1,A2,c2,hvs,-⟩:=hn.form;have hvs:vs=[.int .i64 2, .slice A1 0 c1, .slice A2 3 c2, .int .i64 0, .int .i64 0]:=hvs;subst hvs;exact ⟨A1,c1,A2,c2,hg,hc 0 (by decide),hc 1 (by decide),hc 2 (by decide),hc 3 (by decide),hc 4 (by decide),hn⟩
theorem byte_rin {W:World} {g:Nat} {l:List UInt8} {cs:Array Value} {m:Nat×Nat} (h:W.heap[g]?=some (.cells cs 5 m)) (hc:∀i (h:i<l.length),cs[i]?=some (.int .u8 (l[i].toNat:Int))) (hl:l.length<=1000000):RIn u8C 1 W (.slice (some ⟨g,0,none⟩) l.length l.length) l:=by
 refine ⟨some ⟨g,0,none⟩,l.length,rfl,⟨Nat.le_refl _,by omega⟩, .inr ⟨g,0,rfl,(Array.getElem?_eq_some_iff.1 h).1,λi hi j hj=>?_⟩⟩
 obtain rfl:j=0:=by omega
 rw[Nat.zero_add,Nat.mul_one,Nat.add_zero,cell_of_row _ _ _ _ _ _ h,hc i hi]
 rfl
theorem box_put {b:Nat} {w W:World} {a0 a1 a2 a3 a4 x0 x1 x2 x3 x4:Value} {T:TypeId} (h:w.heap[b]?=some (.cells #[a0,a1,a2,a3,a4] T (0,0))) (hW:W=((((w.setCell ⟨b,0,none⟩ x0).setCell ⟨b,1,none⟩ x1).setCell ⟨b,2,none⟩ x2).setCell ⟨b,3,none⟩ x3).setCell ⟨b,4,none⟩ x4):W.heap[b]?=some (.cells #[x0,x1,x2,x3,x4] T (0,0))/\(∀q,q≠b->W.heap[q]?=w.heap[q]?)/\∀B v,B<=b->Below B v w->Below B v W:=by
 subst hW;refine ⟨by simp[World.setCell,Array.getElem?_modify,h],λq hq=>?_,λB v hB hb=>?_⟩
 .iterate 5 (rw[setk_other hq])
 .iterate 5 (refine Below.setCell ?_ hB _)
  exact hb
theorem box_frz {b:Nat} {w:World} {cs:Array Value} {T:TypeId} (h:w.heap[b]?=some (.cells cs T (0,0))):w.frozen? ⟨b,0,none⟩=false/\w.frozen? ⟨b,1,none⟩=false/\w.frozen? ⟨b,2,none⟩=false/\w.frozen? ⟨b,3,none⟩=false/\w.frozen? ⟨b,4,none⟩=false/\b<w.heap.size:=by
 refine ⟨?_,?_,?_,?_,?_,(Array.getElem?_eq_some_iff.1 h).1⟩ <;> simp[World.frozen?,h]
theorem ScO.forms {B:Nat} {w:World} {K:List UInt8} {nx:List Nat} {ms:List Mt} {kv nv mv:Value} (h:ScO B w K nx ms kv nv mv):∃A1 c1 A2 c2 A3 c3,kv = .slice A1 K.length c1/\nv = .slice A2 nx.length c2/\mv = .slice A3 ms.length c3:=by
 obtain ⟨A1,c1,e1,-⟩:=own_form (show w.ownsRow _ _ _ _ _ _ from h.k);obtain ⟨A2,c2,e2,-⟩:=own_form (show w.ownsRow _ _ _ _ _ _ from h.n);obtain ⟨A3,c3,e3,-⟩:=own_form (show w.ownsRow _ _ _ _ _ _ from h.m);exact ⟨A1,c1,A2,c2,A3,c3,e1,e2,e3⟩
set_option maxHeartbeats 8000000 in
theorem awake09_any (w:World) (hv:VrOK w):Calls Tryz.prog 19 #[] w λe w'=>e = .returned (.bool true)/\Below w.heap.size w w':=by
 have hw0:0<w.heap.size:=Nat.lt_of_lt_of_le (Nat.lt_of_le_of_lt (Nat.zero_le _) mlen_lt) hv.low;have HV:=Lib.hid hv;clear hv
 go_enter Tryz.func19,Tryz.ntmps19
 go_wp2_with fail;refine (shapesN_any 0 w hw0).mono ?_;rintro e w1 ⟨g,rfl,hkn,hb1⟩;obtain ⟨A1,c1,A2,c2,hg,q0,q1,q2,q3,q4,hn⟩:=x_shape hkn;have HB1:=Lib.hid (And.intro hb1 hn);clear hkn hb1 hn hw0
 go_upto_region 2 with fail
 refine wp_nm λW hW=>?_;have hrow:W.heap[w1.heap.size]?=some (.cells (xRow A1 c1 A2 c2) 44 (0,0)):=by rw[hW];exact heap_alloc_new w1 _
 have hbW:Below w1.heap.size w1 W:=by rw[hW];exact (Below.refl _ _).alloc (Nat.le_refl _) _
 have hwW:Below w.heap.size w W:=HB1.out.1.trans (hbW.mono HB1.out.1.size);have HK:=Lib.hid (λ(W':World) (hb:Below W.heap.size W W')=>(x_kns (HB1.out.2.later hbW) hrow).later hb);have HVW:=Lib.hid (λ(W':World) (hb:Below W.heap.size W W')=>HV.out.later (hwW.trans (hb.mono hwW.size)));have HW:=Lib.hid hwW;have HNW:=Lib.hid (new_any (some ⟨w1.heap.size,0,none⟩) 1 1 _ [xK] W (HK.out W (Below.refl _ _)) (HVW.out W (Below.refl _ _)) x_nm (λer msc h=>xK_la h) ⟨Nat.le_refl _,by decide⟩)
 clear hW hrow hbW hwW q0 q1 q2 q3 q4 hg;go_wp2_with fail;refine HNW.out.mono ?_;rintro e w2 ⟨hb2,nv,rfl,hsc⟩;obtain ⟨_,_,An,cn,_,_,-,rfl,-⟩:=hsc.forms;rw[show (List.replicate 1 0).length=1 from rfl]at hsc|-;rw[show List.replicate 1 0=[0] from rfl]at hsc;have H2:=Lib.hid (And.intro hb2 hsc);clear hb2 hsc
 go_upto_region 3 with fail
 refine wp_nm λV0 hV0=>?_;have hbx0:V0.heap[w2.heap.size]?=some (.cells #[.int .i64 0, .int .i64 0, .slice none 0 0, .slice An 1 cn, .slice none 0 0] 51 (0,0)):=by rw[hV0];exact heap_alloc_new w2 _
 have hbV0:Below w2.heap.size w2 V0:=by rw[hV0];exact (Below.refl _ _).alloc (Nat.le_refl _) _
 have hWV0:Below W.heap.size W V0:=H2.out.1.trans (hbV0.mono H2.out.1.size);have hWb:W.heap.size<=w2.heap.size:=H2.out.1.size;have HV0:=Lib.hid (And.intro hbx0 (And.intro hbV0 (And.intro hWV0 hWb)));obtain ⟨c0,c1,c2,c3,c4⟩:=cells5 hbx0;have lb:=(Array.getElem?_eq_some_iff.1 hbx0).1;clear hV0 hbx0 hbV0 hWV0 hWb;have hcv1:=Go.Joins.run_convert_bytes_const_at (P:=Tryz.prog) V0 28 5 #[.int .u8 116] 1 1 V0.heap.size rfl Tryz.underlying28 Tryz.underlying5;go_wp2_with fail;refine calls_nm λV1 hV1=>?_;have hr1:V1.heap[V0.heap.size]?=some (.cells #[.int .u8 116] 5 (1,2)):=by rw[hV1];exact heap_alloc_new V0 _
 have hb1:Below V0.heap.size V0 V1:=by rw[hV1];exact (Below.refl _ _).alloc (Nat.le_refl _) _
 have hWV1:=HV0.out.2.2.1.trans (hb1.mono HV0.out.2.2.1.size);have hF1:=feed_tok (some ⟨w1.heap.size,0,none⟩) 1 _ [] [116] (.slice none 0 0) (.slice An 1 cn) (.slice none 0 0) _ V1 (HK.out V1 hWV1) (HVW.out V1 hWV1) ((H2.out.2.v.later HV0.out.2.1).later hb1) (byte_rin (l:=[116]) hr1 (λi hi=>by obtain rfl:i=0:=(by simp at hi;omega);rfl) (by decide)) (by decide)
 have HF1:=Lib.hid (And.intro hF1 (And.intro hb1 hWV1));clear hV1 hr1 hb1 hWV1 hF1 hcv1 c0 c1 c2 c3 c4 lb;refine HF1.out.1.mono ?_;rintro e w3 ⟨hb3,kv3,nv3,mv3,rfl,hsc3⟩;obtain ⟨B1,d1,B2,d2,B3,d3,rfl,rfl,rfl⟩:=hsc3.forms;have hV03:Below V0.heap.size V0 w3:=HF1.out.2.1.trans (hb3.mono HF1.out.2.1.size);have hbx3:=(hV03.block _ (Array.getElem?_eq_some_iff.1 HV0.out.1).1).trans HV0.out.1;obtain ⟨c0,c1,c2,c3,c4⟩:=cells5 hbx3;obtain ⟨f0,f1,f2,f3,f4,lb⟩:=box_frz hbx3;have hW3:=HF1.out.2.2.trans (hb3.mono HF1.out.2.2.size);have hV1b:w2.heap.size<V1.heap.size:=Nat.lt_of_lt_of_le (Array.getElem?_eq_some_iff.1 HV0.out.1).1 HF1.out.2.1.size;have H3:=Lib.hid (And.intro hsc3 (And.intro hbx3 (And.intro hW3 hV1b)));clear hb3 hsc3 hV03 hbx3 hW3 hV1b;simp only[List.length_append,List.length_cons,List.length_nil,Nat.zero_add,Nat.reduceAdd]at *
 go_upto_region 4 with fail
 refine wp_nm λV4 hV4=>?_;obtain ⟨hbx4,hoth4,hbl4⟩:=box_put H3.out.2.1 hV4;have hsc4:=H3.out.1.keep (w':=V4) λq h1 h2=>hoth4 q (by have:=H3.out.2.2.2;omega)
 have hW4:=hbl4 _ _ HV0.out.2.2.2 H3.out.2.2.1;have H4:=Lib.hid (And.intro hsc4 (And.intro hbx4 hW4));clear hV4 hoth4 hbl4 c0 c1 c2 c3 c4 f0 f1 f2 f3 f4 lb;obtain ⟨c0,c1,c2,c3,c4⟩:=cells5 hbx4;have lb:=(Array.getElem?_eq_some_iff.1 hbx4).1;clear hsc4 hbx4 hW4;have hcv5:=Go.Joins.run_convert_bytes_const_at (P:=Tryz.prog) V4 28 5 #[.int .u8 107, .int .u8 49, .int .u8 50] 3 3 V4.heap.size rfl Tryz.underlying28 Tryz.underlying5;go_wp2_with fail;refine calls_nm λV5 hV5=>?_;have hr5:V5.heap[V4.heap.size]?=some (.cells #[.int .u8 107, .int .u8 49, .int .u8 50] 5 (3,4)):=by rw[hV5];exact heap_alloc_new V4 _
 have hb5:Below V4.heap.size V4 V5:=by rw[hV5];exact (Below.refl _ _).alloc (Nat.le_refl _) _
 have hWV5:=H4.out.2.2.trans (hb5.mono H4.out.2.2.size);have hF5:=feed_tok (some ⟨w1.heap.size,0,none⟩) 1 _ ([]++[116]) [107,49,50] (.slice B1 1 d1) (.slice B2 1 d2) (.slice B3 0 d3) _ V5 (HK.out V5 hWV5) (HVW.out V5 hWV5) (H4.out.1.v.later hb5) (byte_rin (l:=[107,49,50]) hr5 (λi hi=>by
  match i,hi with
  | 0,_=>rfl
  | 1,_=>rfl
  | 2,_=>rfl) (by decide)) (by decide)
 have HF5:=Lib.hid (And.intro hF5 (And.intro hb5 hWV5));clear hV5 hr5 hb5 hWV5 hF5 hcv5 c0 c1 c2 c3 c4 lb;refine HF5.out.1.mono ?_;rintro e w6 ⟨hb6,kv6,nv6,mv6,rfl,hsc6⟩;obtain ⟨D1,k1,D2,k2,D3,k3,rfl,rfl,rfl⟩:=hsc6.forms;have hV46:Below V4.heap.size V4 w6:=HF5.out.2.1.trans (hb6.mono HF5.out.2.1.size);have hbx6:=(hV46.block _ (Array.getElem?_eq_some_iff.1 H4.out.2.1).1).trans H4.out.2.1;obtain ⟨c0,c1,c2,c3,c4⟩:=cells5 hbx6;obtain ⟨f0,f1,f2,f3,f4,lb⟩:=box_frz hbx6;have hW6:=HF5.out.2.2.trans (hb6.mono HF5.out.2.2.size);have hV5b:w2.heap.size<V5.heap.size:=Nat.lt_of_lt_of_le (Array.getElem?_eq_some_iff.1 H4.out.2.1).1 HF5.out.2.1.size;have H6:=Lib.hid (And.intro hsc6 (And.intro hbx6 (And.intro hW6 hV5b)));clear hb6 hsc6 hV46 hbx6 hW6 hV5b;simp only[List.length_append,List.length_cons,List.length_nil,Nat.zero_add,Nat.reduceAdd]at *
 go_upto_region 5 with fail
 refine wp_nm λV7 hV7=>?_;obtain ⟨hbx7,hoth7,hbl7⟩:=box_put H6.out.2.1 hV7;have hsc7:=H6.out.1.keep (w':=V7) λq h1 h2=>hoth7 q (by have:=H6.out.2.2.2;omega)
 have hW7:=hbl7 _ _ HV0.out.2.2.2 H6.out.2.2.1;have HFI:=Lib.hid (fin_tok (some ⟨w1.heap.size,0,none⟩) 1 _ (.slice D1 4 k1) (.slice D2 1 k2) (.slice D3 0 k3) V7 (HK.out V7 hW7) (HVW.out V7 hW7) hsc7.v);have HW7:=Lib.hid hW7;clear hV7 hoth7 hbl7 c0 c1 c2 c3 c4 f0 f1 f2 f3 f4 lb;obtain ⟨c0,c1,c2,c3,c4⟩:=cells5 hbx7;have lb:=(Array.getElem?_eq_some_iff.1 hbx7).1;clear hsc7 hbx7 hW7;go_wp2_with fail;refine HFI.out.mono ?_;rintro e w8 ⟨hb8,v,rfl,hm8⟩;obtain ⟨A8,k8,rfl,hk8,hor⟩:=hm8;obtain ⟨g8,f8,rfl,hg8,hc8⟩:=hor.resolve_left (by simp)
 have r0:=hc8 0 (by decide) 0 (by decide)
 have r1:=hc8 0 (by decide) 1 (by decide)
 have r2:=hc8 0 (by decide) 2 (by decide)
 rw[show ([⟨0,0,4⟩]:List Mt).length=1 from rfl];have HB8:=Lib.hid (HW.out.trans ((HW7.out.trans (hb8.mono HW7.out.size)).mono HW.out.size));clear hb8 hc8 hor hk8 c0 c1 c2 c3 c4 lb;simp only[Nat.zero_mul,Nat.add_zero,encT,List.getElem_cons_zero,List.getElem?_cons_zero,List.getElem?_cons_succ]at r0 r1 r2;go_wp2_with fail;go_ret;exact ⟨rfl,HB8.out⟩
def factS (n:Int) (q q1:Nat) (gk gz:Nat) (D1 D2 D3:Option Addr) (k1 k2 k3:Nat) (W:World):Nat->Nat->Value->World->Prop
 | _,0,x,_=>x = .slice (some ⟨gk,0,none⟩) 1 1
 | _,1,x,_=>x = .agg #[.int .i64 65536, .int .i64 65529, .slice D1 7 k1, .slice D2 1 k2, .slice D3 0 k3]
 | _,2,x,_=>x = .slice (some ⟨gz,0,none⟩) 65536 65536
 | _,3,x,_=>x = .int .i64 n
 | _,4,x,_=>x = .int .i64 (q:Int)
 | _,5,x,_=>x = .int .i64 (q1:Int)
 | _,6,x,_=>x = .slice (some ⟨gz,0,none⟩) q1 65536
 | _,7,x,_=>x = .tuple #[.agg #[.int .i64 0, .int .i64 0, .slice none 0 0, .slice none 0 0, .slice none 0 0], .int .i64 3]
 | _,8,x,_=>x = .tuple #[.agg #[.int .i64 0, .int .i64 0, .slice none 0 0, .slice none 0 0, .slice none 0 0], .int .i64 3]
 | _,9,x,_=>x = .agg #[.int .i64 0, .int .i64 0, .slice none 0 0, .slice none 0 0, .slice none 0 0]
 | _,10,x,_=>x = .int .i64 3
 | c,11,x,w=>c<=1->∃g,x = .pointer (some ⟨g,0,none⟩)/\W.heap.size<=g/\w.heap[g]?=some (.cells #[.int .i64 0, .int .i64 0, .slice none 0 0, .slice none 0 0, .slice none 0 0] 51 (0,0))
 | c,12,x,w=>True
 | _,_,_,_=>True
theorem factS_next {n:Int} {q q1 gk gz:Nat} {D1 D2 D3:Option Addr} {k1 k2 k3:Nat} {W:World} {c j:Nat} {x:Value} {w w':World} (hb:Below w.heap.size w w') (h:factS n q q1 gk gz D1 D2 D3 k1 k2 k3 W 0 j x w):factS n q q1 gk gz D1 D2 D3 k1 k2 k3 W 1 j x w':=by
 unfold factS at h|-
 split at h
 all_goals first
  | exact h
  | (intro hc
     obtain ⟨g,h1,hg,hh⟩:=h (by decide)
     exact ⟨g,h1,hg,(hb.block g (Array.getElem?_eq_some_iff.1 hh).1).trans hh⟩)
theorem factS_free {n:Int} {q q1 gk gz:Nat} {D1 D2 D3:Option Addr} {k1 k2 k3:Nat} {W:World} {c j:Nat} {x:Value} {w w':World} (hb:Below w.heap.size w w') (h:factS n q q1 gk gz D1 D2 D3 k1 k2 k3 W c j x w):factS n q q1 gk gz D1 D2 D3 k1 k2 k3 W c j x w':=by
 unfold factS at h|-
 split at h
 all_goals first
  | exact h
  | (intro hc
     obtain ⟨g,h1,hg,hh⟩:=h hc;exact ⟨g,h1,hg,(hb.block g (Array.getElem?_eq_some_iff.1 hh).1).trans hh⟩)
theorem factS_last {n:Int} {q q1 gk gz:Nat} {D1 D2 D3:Option Addr} {k1 k2 k3:Nat} {W:World} {c j:Nat} {x:Value} {w w':World} (h:factS n q q1 gk gz D1 D2 D3 k1 k2 k3 W 1 j x w):factS n q q1 gk gz D1 D2 D3 k1 k2 k3 W 2 j x w':=by
 unfold factS at h|-
 split at h
 all_goals first
  | exact h
  | (intro hc;exact absurd hc (by decide))
set_option maxHeartbeats 8000000 in
theorem limits_law (n:Int) (w:World) (hv:VrOK w):Calls Tryz.prog 4 #[.int .i64 n] w λe w'=>e = .returned (.bool true)/\Below w.heap.size w w':=by
 have hw0:0<w.heap.size:=Nat.lt_of_lt_of_le (Nat.lt_of_le_of_lt (Nat.zero_le _) mlen_lt) hv.low;have HV:=Lib.hid hv;clear hv;obtain ⟨Z,hZ⟩:∃Z:Array Value,Array.replicate 65536 (.int .u8 0)=Z:=⟨_,rfl⟩;have hmk:∀w,(Instr.makeSlice 28 (.int .i64 65536) (.int .i64 65536)).run Tryz.prog w = .ok (.slice (some ⟨w.heap.size,0,none⟩) 65536 65536) (w.alloc (.cells Z 5)):=λw=>by rw[<-hZ];exact mk_bytes0 65536 (by decide) w
 have HZ:=Lib.hid hZ;clear hZ
 go_enter Tryz.func4,Tryz.ntmps4
 go_wp2_with fail;refine (shapesN_any 0 w hw0).mono ?_;rintro e w1 ⟨g,rfl,hkn,hb1⟩;obtain ⟨A1,c1,A2,c2,hg,q0,q1,q2,q3,q4,hn⟩:=x_shape hkn;have HB1:=Lib.hid (And.intro hb1 hn);clear hkn hb1 hn hw0
 go_upto_region 2 with fail
 refine wp_nm λW hW=>?_;have hrow:W.heap[w1.heap.size]?=some (.cells (xRow A1 c1 A2 c2) 44 (0,0)):=by rw[hW];exact heap_alloc_new w1 _
 have hbW:Below w1.heap.size w1 W:=by rw[hW];exact (Below.refl _ _).alloc (Nat.le_refl _) _
 have hwW:Below w.heap.size w W:=HB1.out.1.trans (hbW.mono HB1.out.1.size);have HK:=Lib.hid (λ(W':World) (hb:Below W.heap.size W W')=>(x_kns (HB1.out.2.later hbW) hrow).later hb);have HVW:=Lib.hid (λ(W':World) (hb:Below W.heap.size W W')=>HV.out.later (hwW.trans (hb.mono hwW.size)));have HW:=Lib.hid hwW;have HNW:=Lib.hid (new_any (some ⟨w1.heap.size,0,none⟩) 1 1 _ [xK] W (HK.out W (Below.refl _ _)) (HVW.out W (Below.refl _ _)) x_nm (λer msc h=>xK_la h) ⟨Nat.le_refl _,by decide⟩)
 clear hW hrow hbW hwW q0 q1 q2 q3 q4 hg;go_wp2_with fail;refine HNW.out.mono ?_;rintro e w2 ⟨hb2,nv,rfl,hsc⟩;obtain ⟨_,_,An,cn,_,_,-,rfl,-⟩:=hsc.forms;rw[show (List.replicate 1 0).length=1 from rfl]at hsc|-;rw[show List.replicate 1 0=[0] from rfl]at hsc;have H2:=Lib.hid (And.intro hb2 hsc);clear hb2 hsc
 go_upto_region 3 with fail
 refine wp_nm λV2 hV2=>?_;have hbx2:V2.heap[w2.heap.size]?=some (.cells #[.int .i64 0, .int .i64 0, .slice none 0 0, .slice An 1 cn, .slice none 0 0] 51 (0,0)):=by rw[hV2];exact heap_alloc_new w2 _
 have hbV2:Below w2.heap.size w2 V2:=by rw[hV2];exact (Below.refl _ _).alloc (Nat.le_refl _) _
 have hWV2:Below W.heap.size W V2:=H2.out.1.trans (hbV2.mono H2.out.1.size);have hWb:W.heap.size<=w2.heap.size:=H2.out.1.size;have HV2:=Lib.hid (And.intro hbx2 (And.intro hbV2 (And.intro hWV2 hWb)));clear hV2 hbx2 hbV2 hWV2 hWb
 go_upto_region 4 with fail
 refine wp_nm λV3 hV3=>?_;have hz3:V3.heap[V2.heap.size]?=some (.cells Z 5 (0,0)):=by rw[hV3];exact heap_alloc_new V2 _
 have hb23:Below V2.heap.size V2 V3:=by rw[hV3];exact (Below.refl _ _).alloc (Nat.le_refl _) _
 have hWV3:=HV2.out.2.2.1.trans (hb23.mono HV2.out.2.2.1.size);have hbx3:=(hb23.block _ (Array.getElem?_eq_some_iff.1 HV2.out.1).1).trans HV2.out.1;have HF:=Lib.hid (feed_zero (some ⟨w1.heap.size,0,none⟩) 1 _ (.slice An 1 cn) (.slice (some ⟨V2.heap.size,0,none⟩) 65536 65536) V3 (HK.out V3 hWV3) (HVW.out V3 hWV3) ((H2.out.2.v.later HV2.out.2.1).later hb23) (zero_rin (by rw[HZ.out];exact hz3) (by decide)))
 have H3:=Lib.hid (And.intro hbx3 (And.intro hWV3 hz3));obtain ⟨c0,c1',c2',c3,c4⟩:=cells5 hbx3;have lb:=(Array.getElem?_eq_some_iff.1 hbx3).1;clear hV3 hz3 hb23 hWV3 hbx3 hmk;go_wp2_with fail;refine HF.out.mono ?_;rintro e w3 ⟨hb3,kv3,nv3,mv3,rfl,hsc3⟩;obtain ⟨D1,k1,D2,k2,D3,k3,rfl,rfl,rfl⟩:=hsc3.forms;clear c0 c1' c2' c3 c4 lb;have hbx4:=(hb3.block _ (Array.getElem?_eq_some_iff.1 H3.out.1).1).trans H3.out.1;obtain ⟨c0,c1',c2',c3,c4⟩:=cells5 hbx4;obtain ⟨f0,f1,f2,f3,f4,lb⟩:=box_frz hbx4;have hW3:=H3.out.2.1.trans (hb3.mono H3.out.2.1.size);have hV3b:w2.heap.size<V3.heap.size:=(Array.getElem?_eq_some_iff.1 H3.out.1).1;have H4:=Lib.hid (And.intro hsc3 (And.intro hbx4 (And.intro hW3 hV3b)));clear hb3 hsc3 hbx4 hW3 hV3b;simp only[List.length_replicate,List.length_cons,List.length_nil,Nat.zero_add,Nat.reduceAdd]at *
 go_upto_region 5 with fail
 refine wp_nm λV4 hV4=>?_;obtain ⟨hbx5,hoth5,hbl5⟩:=box_put H4.out.2.1 hV4;have hsc5:=H4.out.1.keep (w':=V4) λq h1 h2=>hoth5 q (by have:=H4.out.2.2.2;omega)
 have hW5:=hbl5 _ _ HV2.out.2.2.2 H4.out.2.2.1;obtain ⟨m1,m2⟩:0<=bits .and .i64 n 63/\bits .and .i64 n 63<=63:=mask_nat n 63 (by decide)
 obtain ⟨q,hq⟩:∃q:Nat,bits .and .i64 n 63=(q:Int):=⟨(bits .and .i64 n 63).toNat,by omega⟩
 obtain ⟨q1,hq1⟩:∃z,1+q=z:=⟨_,rfl⟩;have hqw:IntKind.i64.wrap (1+(q:Int))=(q1:Int):=by rw[IntWalk.i64_in _ (by omega)];omega
 have hqb:1<=q1/\q1<=64:=by omega
 have HQQ:=Lib.hid (And.intro hq (And.intro hqw hqb));have HBX:=Lib.hid (λ(wz:World) (hS:Below V4.heap.size V4 wz)=>(hS.block _ (Array.getElem?_eq_some_iff.1 hbx5).1).trans hbx5);have HLM:=Lib.hid (λ(wz:World) (hS:Below V4.heap.size V4 wz)=>feed_limit (some ⟨w1.heap.size,0,none⟩) 1 1 65536 65529 _ [xK] (List.replicate 7 0) [65530] [] (.slice D1 7 k1) (.slice D2 1 k2) (.slice D3 0 k3) (some ⟨V2.heap.size,0,none⟩) q1 65536 wz (HK.out wz (hW5.trans (hS.mono hW5.size))) (HVW.out wz (hW5.trans (hS.mono hW5.size))) x_nm (λer msc h=>xK_la h) (hsc5.v.later hS) ⟨by decide,rfl,rfl,λx hx=>by rw[List.mem_singleton]at hx;omega⟩ ⟨Nat.le_refl _,by decide⟩ (by omega) (by omega))
 have H5:=Lib.hid (And.intro hsc5 hW5);have hS0:Below V4.heap.size V4 V4.drew:=(Below.refl _ _).drew;clear hV4 hoth5 hbl5 hbx5 hsc5 hW5 m1 m2 hq hq1 hqw hqb c0 c1' c2' c3 c4 f0 f1 f2 f3 f4 lb;refine wp_region_chain 13 [7,12] (factS n q q1 w1.heap.size V2.heap.size D1 D2 D3 k1 k2 k3 V4) (λ_ w'=>Below V4.heap.size V4 w') (by kernel_rfl) (by kernel_rfl) (by kernel_rfl) (by kernel_rfl) (by kernel_rfl) (by kernel_rfl) (by decide) hS0 ?_ ?_
 .simp only[pq4,pq5];refine HSteps.pure (by decide) ?_ (HSteps.pure (by decide) ?_ (HSteps.pure (by decide) ?_ (HSteps.pure (by decide) ?_ (HSteps.pure (by decide) ?_ (HSteps.pure (by decide) ?_ (HSteps.pure (by decide) ?_ (HSteps.eff 0 rfl ?_ (HSteps.pure (by decide) ?_ (HSteps.pure (by decide) ?_ (HSteps.pure (by decide) ?_ (HSteps.free (by decide) ?_ (HSteps.eff 1 rfl ?_ (HSteps.nil)))))))))))))
  all_goals first | (with_reducible intro v wz c hlo hS hE K hK;simp only[putAll,Act.put,pq1,pq2,pq3,Nat.zero_add,Nat.reduceAdd,pq4,pq5]at hK|-) | (intro v wz hS hE K hK;simp only[putAll,Act.put,pq1,pq2,pq3,Nat.zero_add,Nat.reduceAdd,pq4,pq5]at hK|-)
  .have HX:=Lib.hid hS;clear hS hE hlo;go_wp2_with fail;exact hK.out _ rfl
  .have hz:=HBX.out wz hS;obtain ⟨c0,c1,c2,c3,c4⟩:=cells5 hz;have lbz:=(Array.getElem?_eq_some_iff.1 hz).1;clear hz;have HX:=Lib.hid hS;clear hS hE hlo;go_wp2_with fail;exact hK.out _ rfl
  .have HX:=Lib.hid hS;clear hS hE hlo;go_wp2_with fail;exact hK.out _ rfl
  .have HX:=Lib.hid hS;clear hS hE hlo;go_wp2_with fail;exact hK.out _ rfl
  .have e3:v 3=_:=hE.1 rfl;rw[e3]at hK|-;have hq1:=HQQ.out.1;have HX:=Lib.hid hS;clear hS hE hlo;go_wp2_with fail;exact hK.out _ rfl
  .have e4:v 4=_:=hE.1 rfl;rw[e4]at hK|-;have hq1:=HQQ.out.2.1;have HX:=Lib.hid hS;clear hS hE hlo;go_wp2_with fail;exact hK.out _ rfl
  .have e2:v 2=_:=hE.1 rfl;have e5:v 5=_:=hE.2.1 rfl;rw[e2,e5]at hK|-;have hq1:(q1:Int)<=65536:=by have:=HQQ.out.2.2;omega
   have hq2:q1<=65536:=by have:=HQQ.out.2.2;omega
   have HX:=Lib.hid hS;clear hS hE hlo;go_wp2_with fail;exact hK.out _ rfl
  .have e0:v 0=_:=hE.1 rfl;have e1:v 1=_:=hE.2.1 rfl;have e6:v 6=_:=hE.2.2.1 rfl;rw[e0,e1,e6]at hK|-;have HC:=Lib.hid (HLM.out wz hS);have HX:=Lib.hid hS;clear hS hE;go_wp2_with fail;refine HC.out.mono ?_;rintro e wy ⟨hy,rfl⟩;have HP:=Lib.hid hy;clear hy;go_wp2_with fail;refine hK.out _ _ (λj z hj h=>factS_next (c:=0) HP.out h) (HX.out.trans (HP.out.mono HX.out.size)) rfl
  .have e7:v 7=_:=hE.1 rfl;rw[e7]at hK|-;have HX:=Lib.hid hS;clear hS hE hlo;go_wp2_with fail;exact hK.out _ rfl
  .have e8:v 8=_:=hE.1 rfl;rw[e8]at hK|-;have HX:=Lib.hid hS;clear hS hE hlo;go_wp2_with fail;exact hK.out _ rfl
  .have e8:v 8=_:=hE.1 rfl;rw[e8]at hK|-;have HX:=Lib.hid hS;clear hS hE hlo;go_wp2_with fail;exact hK.out _ rfl
  .have hzW:=hS.size;have hbz:Below wz.heap.size wz (wz.alloc (.cells #[.int .i64 0, .int .i64 0, .slice none 0 0, .slice none 0 0, .slice none 0 0] 51)):=(Below.refl _ _).alloc (Nat.le_refl _) _;have HX:=Lib.hid (And.intro (hS.trans (hbz.mono hzW)) hbz);clear hS hE hlo hbz;go_wp2_with fail;exact hK.out _ _ (λj z hj h=>factS_free HX.out.2 h) HX.out.1 (λ_=>⟨wz.heap.size,rfl,hzW,heap_alloc_new wz _⟩)
  .have e9:v 9=_:=hE.2.1 rfl;rw[e9]at hK|-;have E11:=hE.1 rfl;obtain ⟨g,e11,hg,hh⟩:=E11 (Nat.le_refl _);rw[e11]at hK|-;obtain ⟨c0,c1,c2,c3,c4⟩:=cells5 hh;obtain ⟨f0,f1,f2,f3,f4,lb⟩:=box_frz hh;have HX:=Lib.hid (And.intro hS hg);clear hS hE hh E11;go_wp2_with fail;refine hK.out (.int .i64 0) _ (λj z hj h=>factS_last (c:=0) h) ?_ trivial
   iterate 5 (refine Below.setCell ?_ (by dsimp only;exact HX.out.2) _)
   exact HX.out.1
 .intro v wz hS hF;have e10:v 10=_:=hF 10 (by decide)
  simp only[putAll,Act.put,pq1,pq2,pq3,Nat.zero_add,Nat.reduceAdd,pq4,pq5,List.drop_succ_cons,List.drop_zero,e10];have HS:=Lib.hid hS;obtain ⟨c0,c1',c2',c3,c4⟩:=cells5 (HBX.out wz hS);have lb:=(Array.getElem?_eq_some_iff.1 (HBX.out wz hS)).1;have hWz:=H5.out.2.trans (hS.mono H5.out.2.size);have HFI:=Lib.hid (fin_zero (some ⟨w1.heap.size,0,none⟩) 1 _ (.slice D1 7 k1) (.slice D2 1 k2) (.slice D3 0 k3) wz (HK.out wz hWz) (HVW.out wz hWz) (H5.out.1.v.later hS));have HWZ:=Lib.hid hWz;clear hS hF hS0 e10 hWz;go_wp2_with fail;refine HFI.out.mono ?_;rintro e w7 ⟨hb7,v,rfl,hm⟩;obtain ⟨A8,k8,rfl,-,-⟩:=hm;rw[show ([]:List Mt).length=0 from rfl];have hS7:=HS.out.trans (hb7.mono HS.out.size);clear c0 c1' c2' c3 c4 lb;obtain ⟨c0,c1',c2',c3,c4⟩:=cells5 (HBX.out w7 hS7);have lb:=(Array.getElem?_eq_some_iff.1 (HBX.out w7 hS7)).1;have hw7:=HW.out.trans ((HWZ.out.trans (hb7.mono HWZ.out.size)).mono HW.out.size);have HAW:=Lib.hid (awake09_any w7 (HV.out.later hw7));have H7:=Lib.hid hw7;clear hb7 hS7 hw7;go_wp2_with fail;refine HAW.out.mono ?_;rintro e w8 ⟨rfl,hb8⟩;have H8:=Lib.hid (H7.out.trans (hb8.mono H7.out.size));clear hb8 c0 c1' c2' c3 c4 lb;go_wp2_with fail;go_ret;exact ⟨rfl,H8.out⟩
end Go.Proofs.YtdmoogjddmdmbaaGreatDoor
