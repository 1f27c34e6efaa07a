/- Walks. -/
import Derived.Test.YtdmoogjddmdmbaaGreatDoorV39
import Derived.Test.YtdmoogjddmdmbaaGreatDoorV42
import Derived.Test.YtdmoogjddmdmbaaGreatDoorV29
import Derived.Laws.ResultCell
import Derived.Test.YtdmoogjddmdmbaaGreatDoorV05
import Derived.Test.YtdmoogjddmdmbaaGreatDoorV38
import Derived.Test.YtdmoogjddmdmbaaGreatDoorV06
set_option maxRecDepth 100000
set_option maxHeartbeats 16000000
set_option linter.unusedVariables false
set_option linter.unusedSimpArgs false
namespace Go.Proofs.YtdmoogjddmdmbaaGreatDoor
open Go.RowKit
section
set_option linter.unusedVariables false
set_option linter.unusedSimpArgs false
open Go.RowKit
theorem OI {α:Type} {enc:α->List Value} {n:Nat} (E:jg enc n) {w:World} {ops:Array Oper} {rest:List Oper} {o:Oper} {a:Act} {Q:Exit->Act->World->Prop} (gV:o.guard=none) (s x:Operand) (t:TypeId)
  (ho:o.op = .call { callee:=.builtin .append,args:=#[s,x],argTypes:=#[t,t] }) (e:TypeId) (i:TypeInfo) (z:Value) (bytes:Nat) (ht:Tryz.prog.underlying t=some (.slice e)) (hi:Tryz.prog.info? e=some i) (hz:i.zero=some z) (xC:i.size=n) (fO:i.bytes=bytes) (IJ:z.cells.size=n) (oc:bytes<=1000)
  (B:Nat) (v X:Value) (ss ws:List α) (hs:a.eval s=v) (hx:a.eval x=X) (hown:OR e n enc B v ss w) (bT:rH enc n w X ws) (hl:ss.length+ws.length<=1000000) (hB:B<=w.heap.size)
  (h:∀v' w',OR e n enc B v' (ss++ws) w'->w.grownBy w' v.ownBlock->wpList Tryz.prog ops Q rest (a.put o.dst v') w'):wpList Tryz.prog ops Q (o::rest) a w:=by
 obtain ⟨A,c,rfl,hc,eA⟩:=bT;refine wpList_plain gV λK hK=>?_;have hb:(ss.length+ws.length)*bytes<=140737488355328:=Nat.le_trans (Nat.mul_le_mul hl oc) (by decide)
 have hOS:∀{v' w'},w'.ownsRow B e n v' (ss.length+ws.length) (aY enc ss++aY enc ws)->OR e n enc B v' (ss++ws) w':=λh=>by
  show World.ownsRow _ _ _ _ _ _ _;rw[List.length_append,bA];exact h
 have go:∀ad,A=some ad->(∀(j:Nat) u,(aY enc ws)[j]?=some u->w.cell? (ad.add j)=some u)->Oper.wp Tryz.prog o a w K Q:=by
  rintro ad rfl rN;obtain ⟨v',w',hr,h2,h3,h4⟩:=run_append_own (P:=Tryz.prog) w B t o.type e i z n bytes ht hi hz xC fO IJ E.pos v ss.length _ hown ad ws.length c (aY enc ws) (fD E ws) rN (vt E ws) (by unfold maxLen;omega) hb hB
  unfold Oper.wp execOp;simp only[ho,resolve,invoke,builtin,Sem.run_bind,Sem.run_pure,Result.andThen_ok,List.map_toArray,List.map_cons,List.map_nil,hs,hx,hr];exact hK _ _ (h v' w' (hOS h2) h3)
 rcases eA with rfl | ⟨g,f,rfl,hg,bD⟩
 .cases A with
  | some ad=>exact go ad rfl (λj u hj=>by simp[aY]at hj)
  | none=>
   have hr:=sa (P:=Tryz.prog) B t o.type e i n ht hi c v _ _ hown;rw[List.length_nil]at hx;unfold Oper.wp execOp;simp only[ho,resolve,invoke,builtin,Sem.run_bind,Sem.run_pure,Result.andThen_ok,List.map_toArray,List.map_cons,List.map_nil,hs,hx,hr];exact hK _ _ (h v w (hOS (by simpa [aY] using (show w.ownsRow _ _ _ _ _ _ from hown))) ⟨rfl,rfl,rfl,Nat.le_refl _,λ_ _ _=>rfl⟩)
 .refine go _ rfl λj u hj=>?_;have hlt:j<ws.length*n:=by rw[<-fD E ws];exact (List.getElem?_eq_some_iff.1 hj).1
  have hd:j / n<ws.length:=(Nat.div_lt_iff_lt_mul E.pos).2 hlt;have hm:j % n<n:=Nat.mod_lt _ E.pos;have hdm:=Nat.div_add_mod j n;rw[Nat.mul_comm]at hdm;have h9:=bD (j / n) hd (j % n) hm;rw[Addr.add_lit,show f+j=f+j / n*n+j % n by omega,h9,<-mI E ws (j / n) (j % n) hd hm,hdm]
  exact hj
theorem Ib {B:Nat} {v:Value} {l:List UInt8} {w:World}:OB 5 B v l w↔OR 5 1 tz B v l w:=by
 show w.ownsRow _ _ _ _ _ _↔w.ownsRow _ _ _ _ _ _;rw[Al]
theorem X6 {B:Nat} {A:Option Addr} {n c:Nat} {l:List UInt8} {w:World} (h:OB 5 B (.slice A n c) l w) (hl:l.length<=900000):Th w A n c (l.map UInt8.toNat):=by
 have fO:=Z1.reads h;have hn:l.length=n:=by obtain ⟨A',c',e,-⟩:=fO;injection e with _ e _;rw[e,List.length_map]
 refine ⟨fO,?_,by rw[List.length_map,hn],by omega,λb hb=>?_⟩
 .rcases h.2 with ⟨h1,-⟩ | ⟨g,cap,cur,h1,-⟩
  .injection h1 with e1 _ e3;exact .inl ⟨e1,e3⟩
  .injection h1 with e1 _ _;exact .inr ⟨g,0,e1⟩
 .obtain ⟨y,-,rfl⟩:=List.mem_map.1 hb;exact y.toNat_lt
def hZ (k:Kn) (nr:Nat):Ask:=⟨k.ck,k.en,k.ws,nr⟩
structure qG (k:Kn) (nr:Nat):Prop where
 nre:k.nr=(nr:Int)
 Qe:nr<=64
 wl:∀s∈k.ws,s.size<=1000000
 vd:bk k.pat=0
 lg:aN k.pat<=1024
theorem sG.psK {w:World} {u:KC} {k:Kn} {nr:Nat} (h:sG w u k) (hs:qG k nr):PsK w u (hZ k nr):=⟨h.ck,h.en,h.ws,h.nr.trans hs.nre,hs.Qe,hs.wl⟩
theorem OJ {B:Nat} {x:KC×M2} {m:Mc} {k:Kn} {nr:Nat} {A:Option Addr} {c:Nat} {K:List UInt8} {w0:World} (hB:w0.heap.size<=B) (hm:ia w0 x.2.val m) (hg:BQ m) (hk:sG w0 x.1 k) (hs:qG k nr) (hv:cd w0) (hK:K.length<=900000) (w:World) (hw:Below w0.heap.size w0 w):AdH B x m k.pat (Bt (K.map UInt8.toNat) (hZ k nr)) (.slice A K.length c) K w where
 mc W hW:=hm.later (hw.trans (hW.mono hB))
 go:=hg
 ndi W hW:=hk.pat.later (hw.trans (hW.mono hB))
 vd:=hs.vd
 lg:=hs.lg
 ps W hW ho:=λW' a z hb h1 h2=>by
  have X3:w0.heap.size<=W.heap.size:=(hw.trans (hW.mono hB)).size;have aP:=(hw.trans (hW.mono hB)).trans (hb.mono X3);exact Gd x.1 (hZ k nr) A K.length c a z (K.map UInt8.toNat) W' ((X6 ho hK).later hb) (by omega) h2 ((hk.later aP).psK hs) (hv.later aP)
end
section
set_option linter.unusedVariables false
set_option linter.unusedSimpArgs false
open Go.RowKit
theorem fL {P:Program} {fn:Func} {p u:Tmp} {ty:TypeId} (h:fn.results=#[.cell p ty, .tmp u]) (tmps:Array Value) (w:World) (g:Nat) (t:TypeId) (cs:Array Value) (fr:Nat×Nat) (d:TypeDesc)
  (hp:tmps.getD p undef = .pointer (some ⟨g,0,none⟩)) (hg:w.heap[g]?=some (.cells cs t fr))
  (hu:P.underlying ty=some d) (hd:(match d with | .struct _ | .array _ _=>true | _=>false)=true) (hi:(P.info? ty).map (·.size)=some cs.size) :
  (results fn tmps).run P w = .ok (.tuple #[.agg cs,tmps.getD u undef]) w:=by
 rw[results_cell_tmp h,hp];simp[asAddr,run_loadVar_row w g t ty cs fr d hg hu hd hi]
structure DC where
 wait:Nat
 mg:Nat
 jl:Nat->Option Nat
 p:Nat->Nat->Bool
def wj (m:Mc) (k:Kn) (nr:Nat) (K:List UInt8):DC:=⟨aN k.pat+max nr 1,max nr 1,mR m k.wh (K.map UInt8.toNat),Bt (K.map UInt8.toNat) (hZ k nr)⟩
def ja (en:Bool) (D:DC) (n ba q:Nat):List (Nat×Nat)×Nat:=bq n D.wait en D.jl D.p (n+1) (q-ba)
def pI (en:Bool) (D:Nat->DC) (n ba:Nat) (nx:List Nat):Nat->List Nat
 | 0=>nx
 | k+1=>(pI en D n ba nx k).set k (ba+(ja en (D k) n ba ((nx[k]?).getD 0)).2)
def stM (en:Bool) (D:Nat->DC) (n ba:Nat) (nx:List Nat) (ms:List Mt):Nat->List Mt
 | 0=>ms
 | k+1=>stM en D n ba nx ms k++yE k ba (ja en (D k) n ba ((nx[k]?).getD 0)).1
def tB (en:Bool) (D:Nat->DC) (n ba:Nat) (nx:List Nat) (tt:Int):Nat->Int
 | 0=>tt
 | k+1=>min (tB en D n ba nx tt k) (((ba+(ja en (D k) n ba ((nx[k]?).getD 0)).2:Nat):Int) - ((D k).mg:Int))
theorem iB (en:Bool) (D:Nat->DC) (n ba:Nat) (nx:List Nat):∀k,(pI en D n ba nx k).length=nx.length
 | 0=>rfl
 | k+1=>by rw[pI,List.length_set,iB en D n ba nx k]
theorem Aq (en:Bool) (D:Nat->DC) (n ba:Nat) (nx:List Nat):∀k i,k<=i->(pI en D n ba nx k)[i]?=nx[i]?
 | 0,i,_=>rfl
 | k+1,i,h=>by rw[pI,List.getElem?_set_ne (by omega),Aq en D n ba nx k i (by omega)]
theorem Aw {m wait:Nat} {en:Bool} {jl:Nat->Option Nat} {p:Nat->Nat->Bool} (hc:∀i t,jl i=some t->t<=m):∀f a,a<=m->(bq m wait en jl p f a).2<=m/\(bq m wait en jl p f a).1.length<=f
 | 0,a,h=>⟨h,Nat.le_refl _⟩
 | f+1,a,h=>by
  rw[bq]
  split
  .exact ⟨h,Nat.zero_le _⟩
  .rename_i hn
   cases vX:jl a with
   | none=>
    have h1:=Aw (wait:=wait) (en:=en) (p:=p) hc f (a+1) (by omega)
    exact ⟨h1.1,by have:=h1.2;simp only;omega⟩
   | some t=>
    have h1:=Aw (wait:=wait) (en:=en) (p:=p) hc f t (hc a t vX);refine ⟨h1.1,?_⟩
    dsimp only
    split
    .rw[List.length_cons];omega
    .omega
def DC.ok (D:DC) (n:Nat):Prop:=(∀i t,D.jl i=some t->t<=n)/\D.mg<=64
theorem X7 {m:Mc} {k:Kn} {nr:Nat} {K:List UInt8} (h:nr<=64):(wj m k nr K).ok K.length:=⟨λi t h=>by have:=mL h;rw[List.length_map]at this;exact this.2,by show max nr 1<=64;omega⟩
theorem Ax {en:Bool} {D:DC} {n ba q:Nat} (h:D.ok n) (hq:q<=ba+n):(ja en D n ba q).2<=n/\(ja en D n ba q).1.length<=n+1:=Aw h.1 _ _ (by omega)
theorem tC {en:Bool} {D:Nat->DC} {n ba:Nat} {nx:List Nat} {ms:List Mt} (hD:∀k,(D k).ok n) (hn:∀k:Nat,(nx[k]?).getD 0<=ba+n):∀k:Nat,(stM en D n ba nx ms k).length<=ms.length+k*(n+1)
 | 0=>by simp[stM]
 | k+1=>by
  have h1:=tC (en:=en) (ms:=ms) hD hn k;have h2:=(Ax (en:=en) (hD k) (hn k)).2;rw[stM,List.length_append,yE,List.length_map,Nat.succ_mul];omega
theorem OL {en:Bool} {D:Nat->DC} {n ba:Nat} {nx:List Nat} {tt:Nat} (hD:∀k,(D k).ok n):∀k,tB en D n ba nx tt k<=tt/\-64<=tB en D n ba nx tt k
 | 0=>⟨Int.le_refl _,by show -64<=(tt:Int);omega⟩
 | k+1=>by
  have h1:=OL (en:=en) (ba:=ba) (nx:=nx) (tt:=tt) hD k;have h2:=(hD k).2;rw[tB];omega
structure OM (B b tt ba:Nat) (K:List UInt8) (nx:List Nat) (ms:List Mt) (kv nv mv:Value) (w wr:World):Prop where
 s:r8 B b tt ba K nx ms kv nv mv wr
 bl:Below B w wr
theorem OM.later {B b tt ba:Nat} {K:List UInt8} {nx:List Nat} {ms:List Mt} {kv nv mv:Value} {w wr w':World} (h:OM B b tt ba K nx ms kv nv mv w wr) (hb:Below wr.heap.size wr w'):OM B b tt ba K nx ms kv nv mv w w':=
 ⟨h.s.later hb,h.bl.trans (hb.mono (Nat.le_trans h.s.hb (Nat.le_of_lt h.s.lt)))⟩
theorem DD {w:World} {v:Value} {fs:List (KC×M2)} {ms:List Mc} (h:CB w v fs ms) (hn:0<fs.length):∃g f c,v = .slice (some ⟨g,f,none⟩) fs.length c/\g<w.heap.size/\∀i (h:i<fs.length),∀j,j<13->w.cell? ⟨g,f+i*13+j,none⟩=(mz fs[i])[j]?:=by
 obtain ⟨-,A,c,rfl,-,eA,-⟩:=h;obtain ⟨g,f,rfl,hg,hc⟩:=eA.resolve_left (by rintro rfl;simp at hn)
 exact ⟨g,f,c,rfl,hg,hc⟩
theorem DF {w:World} {v:Value} {us:List KC} {ks:List Kn} (h:fu w v us ks) (hn:0<us.length):∃g f c,v = .slice (some ⟨g,f,none⟩) us.length c/\g<w.heap.size/\∀i (h:i<us.length),∀j,j<11->w.cell? ⟨g,f+i*11+j,none⟩=us[i].cs[j]?:=by
 obtain ⟨-,A,c,rfl,-,eA,-⟩:=h;obtain ⟨g,f,rfl,hg,hc⟩:=eA.resolve_left (by rintro rfl;simp at hn)
 exact ⟨g,f,c,rfl,hg,hc⟩
theorem jb {K k j:Nat} {v:Value} {w:World} (h:k≠K):(w.setCell ⟨K,j,none⟩ v).heap[k]?=w.heap[k]?:=Below.heap_setCell _ _ _ _ (by dsimp only;omega)
theorem r8.mk' {B b tt ba:Nat} {K:List UInt8} {nx:List Nat} {ms:List Mt} {kv nv mv:Value} {cs:Array Value} {w w':World} (wY:w'.heap[b]?=some (.cells #[.int .i64 (tt:Int), .int .i64 (ba:Int),kv,nv,mv] 51 (0,0))) (hb:B<=b) (hk:OB 5 B kv K w) (hn:OR 3 1 yA B nv nx w) (hm:OR 36 3 cV B mv ms w) (dK:w.heap[b]?=some (.cells cs 51 (0,0))) (hne:∀k,k≠b->w'.heap[k]?=w.heap[k]?):r8 B b tt ba K nx ms kv nv mv w':=by
 have ty:∀(k:Nat) (T:TypeId) (cs':Array Value) (mm:Nat×Nat),T≠51->w.heap[k]?=some (.cells cs' T mm)->k≠b:=λk T cs' mm hT hk e=>by
  subst e;rw[dK]at hk;injection hk with hk;injection hk with _ hk _;exact hT hk.symm
 refine ⟨wY,hb,ak hk λq hq=>?_,ak hn λq hq=>?_,ak hm λq hq=>?_⟩
 .obtain ⟨cs',mm,h⟩:=aT hk q hq;exact hne q (ty _ _ _ _ (by decide) h)
 .obtain ⟨cs',mm,h⟩:=aT hn q hq;exact hne q (ty _ _ _ _ (by decide) h)
 .obtain ⟨cs',mm,h⟩:=aT hm q hq;exact hne q (ty _ _ _ _ (by decide) h)
def du (mcs:List Mc) (ks:List Kn) (nrs:Nat->Nat) (K:List UInt8) (k:Nat):DC:=match mcs[k]?,ks[k]? with
 | some m,some kn=>wj m kn (nrs k) K
 | _,_=>⟨0,0,λ_=>none,λ_ _=>false⟩
theorem Ay {mcs:List Mc} {ks:List Kn} {nrs:Nat->Nat} {K:List UInt8} (h:∀i (h:i<ks.length),nrs i<=64) (k:Nat):(du mcs ks nrs K k).ok K.length:=by
 unfold du
 split
 .rename_i m kn h1 h2
  exact X7 (h k (List.getElem?_eq_some_iff.1 h2).1)
 .exact ⟨λi t h=>(by cases h),by decide⟩
theorem gp {mcs:List Mc} {ks:List Kn} {nrs:Nat->Nat} {K:List UInt8} {k:Nat} (h1:k<mcs.length) (h2:k<ks.length):du mcs ks nrs K k=wj mcs[k] ks[k] (nrs k) K:=by
 unfold du;rw[List.getElem?_eq_getElem h1,List.getElem?_eq_getElem h2]
def yF (ba sk:Int) (K:List UInt8):List UInt8:=if ba<sk then K.drop (sk-ba).toNat else K
def yG (ba sk:Int):Int:=if ba<sk then sk else ba
structure X8 (n tt ba:Nat) (K:List UInt8) (nx:List Nat):Prop where
 h1:tt<=65536
 h2:K.length+ba=tt
 h3:nx.length=n
 h4:∀x∈nx,x<=tt
structure DG (B:Nat) (w:World) (K:List UInt8) (nx:List Nat) (ms:List Mt) (kv nv mv:Value):Prop where
 k:OB 5 B kv K w
 n:OR 3 1 yA B nv nx w
 m:OR 36 3 cV B mv ms w
theorem DG.v {B:Nat} {w:World} {K:List UInt8} {nx:List Nat} {ms:List Mt} {kv nv mv:Value} (h:DG B w K nx ms kv nv mv):Lt w K nx ms kv nv mv:=⟨rH.gW OH (Ib.1 h.k),rH.gW tZ h.n,rH.gW uM h.m⟩
theorem DG.keep {B:Nat} {w w':World} {K:List UInt8} {nx:List Nat} {ms:List Mt} {kv nv mv:Value} (h:DG B w K nx ms kv nv mv) (hk:∀q,B<=q->q<w.heap.size->w'.heap[q]?=w.heap[q]?):DG B w' K nx ms kv nv mv:=
 ⟨ak h.k λq hq=>hk q (World.ownsRow.lt h.k q hq).1 (World.ownsRow.lt h.k q hq).2,ak h.n λq hq=>hk q (World.ownsRow.lt h.n q hq).1 (World.ownsRow.lt h.n q hq).2,ak h.m λq hq=>hk q (World.ownsRow.lt h.m q hq).1 (World.ownsRow.lt h.m q hq).2⟩
def Uv (ks:List Kn) (nrs:Nat->Nat) (tt ba:Nat) (K P:List UInt8) (nx:List Nat) (ms:List Mt) (w:World) (e:Ending) (w':World):Prop:=
 Below w.heap.size w w'/\∃mcs,lT ks 0 mcs/\∃kv nv mv,e = .returned (.tuple #[.agg #[.int .i64 ((tt+P.length:Nat):Int), .int .i64 (yG (ba:Int) (tB false (du mcs ks nrs (K++P)) (K++P).length ba nx ((tt+P.length:Nat):Int) ks.length)),kv,nv,mv], .int .i64 0])/\
  DG w.heap.size w' (yF (ba:Int) (tB false (du mcs ks nrs (K++P)) (K++P).length ba nx ((tt+P.length:Nat):Int) ks.length) (K++P)) (pI false (du mcs ks nrs (K++P)) (K++P).length ba nx ks.length) (stM false (du mcs ks nrs (K++P)) (K++P).length ba nx ms ks.length) kv nv mv
theorem yH {w:World} {g f i:Nat} {x:KC×M2} (h:∀j,j<13->w.cell? ⟨g,f+i*13+j,none⟩=(mz x)[j]?):w.cell? ⟨g,f+i*13,none⟩=some (.string x.1.nm)/\w.cell? ⟨g,f+i*13+1,none⟩=some (.int .i64 x.1.op)/\w.cell? ⟨g,f+i*13+2,none⟩=some (.slice x.1.a1 x.1.n1 x.1.c1)/\w.cell? ⟨g,f+i*13+3,none⟩=some (.slice x.1.a2 x.1.n2 x.1.c2)/\w.cell? ⟨g,f+i*13+4,none⟩=some (.int .i64 x.1.mn)/\w.cell? ⟨g,f+i*13+5,none⟩=some (.int .i64 x.1.mx)/\w.cell? ⟨g,f+i*13+6,none⟩=some (.bool x.1.wh)/\w.cell? ⟨g,f+i*13+7,none⟩=some (.int .i64 x.1.ck)/\w.cell? ⟨g,f+i*13+8,none⟩=some (.int .i64 x.1.en)/\w.cell? ⟨g,f+i*13+9,none⟩=some (.slice x.1.a3 x.1.n3 x.1.c3)/\w.cell? ⟨g,f+i*13+10,none⟩=some (.int .i64 x.1.nr)/\w.cell? ⟨g,f+i*13+11,none⟩=some (.slice x.2.a1 x.2.n1 x.2.c1)/\w.cell? ⟨g,f+i*13+12,none⟩=some (.slice x.2.a2 x.2.n2 x.2.c2):=
 ⟨h 0 (by decide),h 1 (by decide),h 2 (by decide),h 3 (by decide),h 4 (by decide),h 5 (by decide),h 6 (by decide),h 7 (by decide),h 8 (by decide),h 9 (by decide),h 10 (by decide),h 11 (by decide),h 12 (by decide)⟩
def aem (xf:KC×M2) (gK fK n c k:Nat):Nat->Nat->Value->World->Prop
 | _,0,x,_=>x = .agg #[.string xf.1.nm, .int .i64 xf.1.op, .slice xf.1.a1 xf.1.n1 xf.1.c1, .slice xf.1.a2 xf.1.n2 xf.1.c2, .int .i64 xf.1.mn, .int .i64 xf.1.mx, .bool xf.1.wh, .int .i64 xf.1.ck, .int .i64 xf.1.en, .slice xf.1.a3 xf.1.n3 xf.1.c3, .int .i64 xf.1.nr, .slice xf.2.a1 xf.2.n1 xf.2.c1, .slice xf.2.a2 xf.2.n2 xf.2.c2]
 | _,1,x,_=>x = .slice (some ⟨gK,fK,none⟩) n c
 | _,2,x,_=>x = .int .i64 (k:Int)
 | _,3,x,_=>x = .pointer (some ⟨gK,fK+k*11,none⟩)
 | _,4,x,_=>x = .agg #[.string xf.1.nm, .int .i64 xf.1.op, .slice xf.1.a1 xf.1.n1 xf.1.c1, .slice xf.1.a2 xf.1.n2 xf.1.c2, .int .i64 xf.1.mn, .int .i64 xf.1.mx, .bool xf.1.wh, .int .i64 xf.1.ck, .int .i64 xf.1.en, .slice xf.1.a3 xf.1.n3 xf.1.c3, .int .i64 xf.1.nr]
 | _,5,x,_=>x = .int .i64 (k:Int)
 | _,_,_,_=>True
set_option maxHeartbeats 16000000 in
theorem DH (A:Option Addr) (n c tt ba:Nat) (us:List KC) (ks:List Kn) (nrs:Nat->Nat) (K P:List UInt8) (nx:List Nat) (ms:List Mt) (kv nv mv pv:Value) (w:World) (h:fu w (.slice A n c) us ks) (hv:cd w) (iO:∀k∈ks,k.nm.size<=140737488355328) (gV:∀er wo,lT ks er wo->er=0) (eQ:∀i (h:i<ks.length),qG ks[i] (nrs i))
  (hs:Lt w K nx ms kv nv mv) (hok:X8 n tt ba K nx) (hp:rH tz 1 w pv P) (h5:1<=n/\n<=3) (h6:tt+P.length<=65536) (h7:ms.length<=3000) :
  Calls Tryz.prog 17 #[.slice A n c, .agg #[.int .i64 (tt:Int), .int .i64 (ba:Int),kv,nv,mv],pv] w (Uv ks nrs tt ba K P nx ms w):=by
 obtain ⟨Ak,ck,rfl,-⟩:=id hs.k;obtain ⟨An,cn,rfl,-⟩:=id hs.n;obtain ⟨Am,cm,rfl,-⟩:=id hs.m;obtain ⟨Ap,cp,rfl,-⟩:=id hp;have hl:=h.1;have FK:us.length=n:=by obtain ⟨-,A',c',e,-⟩:=id h;injection e with _ e _;exact e.symm
 have hkn:ks.length=n:=by omega
 have HF:=Lib.hid (λ(W:World) (hb:Below w.heap.size w W)=>mB A n c us ks W (h.later hb) (hv.later hb) iO);have Ra:=Lib.hid (λ(W:World) (hb:Below w.heap.size w W)=>vL A n c tt ba K nx ms _ _ _ W (hs.later hb) hok.h1 hok.h2 hok.h3 hok.h4 (by omega))
 have MI:=Lib.hid (λ(W:World) (hb:Below w.heap.size w W)=>vJ (tt:Int) (ba:Int) K nx ms _ _ _ W (hs.later hb) (by have:=hok.h2;omega) (by have:=hok.h3;omega) (by omega))
 have HH:=Lib.hid (And.intro h (And.intro hv (And.intro gV (And.intro eQ (And.intro hs (And.intro hok (And.intro hp (And.intro FK hkn))))))));obtain ⟨pl,zA⟩:∃z,P.length=z:=⟨_,rfl⟩;have Xp:=hok.h1;have HPL:=Lib.hid zA;unfold Uv;rw[hkn];clear h hv iO gV eQ hs hok hp hl FK hkn;rw[zA]at h6|-;obtain ⟨K1,Fw⟩:∃z,K++P=z:=⟨_,rfl⟩;obtain ⟨n1,pE⟩:∃z,K1.length=z:=⟨_,rfl⟩;obtain ⟨t1,kr⟩:∃z,tt+pl=z:=⟨_,rfl⟩;have alU:n1+ba=t1:=by have:=HH.out.2.2.2.2.2.1.h2;rw[<-pE,<-Fw,List.length_append];omega
 rw[Fw,pE,kr];have mN:=Lib.hid (And.intro Fw (And.intro pE kr));clear zA Fw pE kr;have Uh:IntKind.i64.wrap (65536 - (tt:Int))=65536 - (tt:Int):=IntWalk.i64_in _ (by omega)
 have QD:decide (65536 - (tt:Int)<(pl:Int))=false:=decide_eq_false (by omega)
 go_enter Tryz.func17,Tryz.ntmps17
 go_upto_region 1 with fail
 refine dN λW hW=>?_;obtain ⟨cJ,pj,PQ⟩:=FR hW;have HB:=Lib.hid (And.intro cJ (And.intro pj PQ));clear hW cJ pj PQ;go_wp2_with fail;refine (HF.out W HB.out.1).mono ?_;rintro e w1 ⟨hb1,er,mcs,gu,eR⟩;obtain rfl:=HH.out.2.2.1 er mcs gu;obtain ⟨v,fs,rfl,DU,Lp⟩:∃v fs,e = .returned (.tuple #[v, .int .i64 0])/\CB w1 v fs mcs/\fs.map Prod.fst=us:=by
  rcases eR with ⟨h,-⟩ | ⟨-,h⟩
  .exact absurd rfl h
  .exact h
 clear eR;have kF:fs.length=n:=by have h1:=HH.out.2.2.2.2.2.2.2.1;rw[<-Lp,List.length_map]at h1;exact h1
 obtain ⟨gF,fF,cF,rfl,QN,MF⟩:=DD DU (by omega)
 obtain ⟨gK,fK,cK,eK,hgK,hcK⟩:=DF HH.out.1 (by have:=HH.out.2.2.2.2.2.2.2.1;omega)
 injection eK with eK eK2 eK3;subst eK eK3;clear eK2;have mo:=HB.out.1.trans (hb1.mono HB.out.1.size);have bH:=Lib.hid (And.intro hb1 mo);have hb0:=(hb1.block _ (Array.getElem?_eq_some_iff.1 HB.out.2.1).1).trans HB.out.2.1;obtain ⟨c0,c1,c2,c3,c4⟩:=aJ hb0;have lb:w.heap.size<w1.heap.size:=(Array.getElem?_eq_some_iff.1 hb0).1;have lI:=Lib.hid (And.intro gu (And.intro DU (And.intro Lp (And.intro QN (And.intro MF (And.intro hgK hcK))))));have T8:=Lib.hid (Ra.out w1 mo);rw[kF];have Pv:=Lib.hid kF;clear hb1 gu DU Lp QN MF hgK hcK hb0 kF;go_wp2_with fail;refine T8.out.mono ?_;rintro e w2 ⟨rfl,aL⟩;have oG:=mo.trans (aL.mono mo.size);have eO:=Lib.hid (And.intro aL oG);have iU:Below W.heap.size W w2:=bH.out.1.trans (aL.mono bH.out.1.size);have hb0:=(iU.block _ (Array.getElem?_eq_some_iff.1 HB.out.2.1).1).trans HB.out.2.1;have hbr:=(iU.block _ (Array.getElem?_eq_some_iff.1 HB.out.2.2).1).trans HB.out.2.2;clear c0 c1 c2 c3 c4 lb aL;obtain ⟨c0,c1,c2,c3,c4⟩:=aJ hb0;have lb:w.heap.size<w2.heap.size:=(Array.getElem?_eq_some_iff.1 hb0).1;have HBR:=Lib.hid (And.intro hb0 hbr);have Ex:=Lib.hid (MI.out w2 oG);clear hb0 hbr iU oG mo;go_wp2_with fail;refine Ex.out.mono ?_;rintro e w3 ⟨A1,d1,A2,d2,A3,d3,rfl,Gs,K8,hm3,dc⟩;clear c0 c1 c2 c3 c4 lb;obtain ⟨i0,hi,hz0,hz1,hz2⟩:=info_parts ij;have vK:Below w2.heap.size w2 (w3.alloc (.cells #[.int .i64 (tt:Int), .int .i64 (ba:Int), .slice A1 K.length d1, .slice A2 nx.length d2, .slice A3 ms.length d3] 51)):=dc.alloc dc.size _;have hs4:r8 w2.heap.size w3.heap.size tt ba K nx ms (.slice A1 K.length d1) (.slice A2 nx.length d2) (.slice A3 ms.length d3) (w3.alloc (.cells #[.int .i64 (tt:Int), .int .i64 (ba:Int), .slice A1 K.length d1, .slice A2 nx.length d2, .slice A3 ms.length d3] 51)):=
  ⟨heap_alloc_new w3 _,dc.size,World.ownsRow.alloc Gs _,World.ownsRow.alloc K8 _,World.ownsRow.alloc hm3 _⟩
 have hp4:rH tz 1 (w3.alloc (.cells #[.int .i64 (tt:Int), .int .i64 (ba:Int), .slice A1 K.length d1, .slice A2 nx.length d2, .slice A3 ms.length d3] 51)) (.slice Ap P.length cp) P:=HH.out.2.2.2.2.2.2.1.later (eO.out.2.trans (vK.mono eO.out.2.size));rw[HPL.out]at hp4;have hk4:=Ib.1 hs4.k;have Br:=Lib.hid (And.intro hs4 (And.intro hp4 (And.intro vK hk4)));have aep:w2.heap.size<=(w3.alloc (.cells #[.int .i64 (tt:Int), .int .i64 (ba:Int), .slice A1 K.length d1, .slice A2 nx.length d2, .slice A3 ms.length d3] 51)).heap.size:=vK.size;have hKl:K.length<=65536:=by have:=HH.out.2.2.2.2.2.1.h2;omega
 clear Gs K8 hm3 dc hs4 hp4 vK hk4;go_wp2_with (at_builtin;refine OI OH rfl _ _ 28 rfl 5 i0 (.int .u8 0) 1 Tryz.underlying28 hi hz0 hz1 hz2 rfl (by decide) w2.heap.size _ _ K P rfl rfl Br.out.2.2.2 Br.out.2.1 (by have:=HPL.out;omega) aep ?_)
 intro v5 w5 lD OE;rw[mN.out.1]at lD;obtain ⟨A5,d5,e5,-,-⟩:=ag (show w5.ownsRow _ _ _ _ _ _ from lD);rw[mN.out.2.1]at e5;subst e5;have Xw:=Ib.2 lD;have Zj:=ak Br.out.1.n λq hq=>OE.block q (World.ownsRow.lt Br.out.1.n q hq).2 (λe=>j8 Br.out.1.n Br.out.1.k (by decide) q hq e.symm)
 have hm5:=ak Br.out.1.m λq hq=>OE.block q (World.ownsRow.lt Br.out.1.m q hq).2 (λe=>j8 Br.out.1.m Br.out.1.k (by decide) q hq e.symm)
 have gH:=(OE.block w3.heap.size Br.out.1.lt (λe=>by
  obtain ⟨cs',mm,h⟩:=aT Br.out.1.k w3.heap.size e.symm;rw[Br.out.1.box]at h;injection h with h;injection h with _ h _;exact absurd h (by decide))).trans Br.out.1.box
 have aeq:Below w2.heap.size w2 w5:=Br.out.2.2.1.grown OE Br.out.2.2.1.size (λq hq=>(World.ownsRow.lt Br.out.1.k q hq).1);have kr:=mN.out.2.2;have hwt:IntKind.i64.wrap ((tt:Int)+(pl:Int))=(t1:Int):=by rw[IntWalk.i64_in _ (by omega)];omega
 obtain ⟨c0,c1,c2,c3,c4⟩:=aJ gH;have f2:w5.frozen? ⟨w3.heap.size,2,none⟩=false:=by simp[World.frozen?,gH]
 have f0:w5.frozen? ⟨w3.heap.size,0,none⟩=false:=by simp[World.frozen?,gH]
 have lb:w3.heap.size<w5.heap.size:=(Array.getElem?_eq_some_iff.1 gH).1;have H5:=Lib.hid (And.intro Xw (And.intro Zj (And.intro hm5 (And.intro gH aeq))));have Kr:w2.heap.size<=w3.heap.size:=Br.out.1.hb;clear Xw Zj hm5 gH aeq lD OE kr aep
 go_upto_region 11 with fail
 refine dN λW6 sA=>?_;have XL:r8 w2.heap.size w3.heap.size t1 ba K1 nx ms (.slice A5 n1 d5) (.slice A2 nx.length d2) (.slice A3 ms.length d3) W6/\Below w2.heap.size w2 W6:=by
  rw[sA];refine ⟨r8.mk' ?_ Kr H5.out.1 H5.out.2.1 H5.out.2.2.1 H5.out.2.2.2.1 (λk hk=>?_),(H5.out.2.2.2.2.setCell (p:=⟨w3.heap.size,2,none⟩) Kr _).setCell (p:=⟨w3.heap.size,0,none⟩) Kr _⟩
  .have:=bh (bh H5.out.2.2.2.1 2 (.slice A5 n1 d5)) 0 (.int .i64 (t1:Int));simpa using this
  .rw[jb hk,jb hk]
 have M9:=Lib.hid XL;clear sA XL c0 c1 c2 c3 c4 f2 f0 lb hwt;have hD:∀k,(du mcs ks nrs K1 k).ok n1:=λk=>mN.out.2.1▸Ay (λi hi=>(HH.out.2.2.2.1 i hi).Qe) k;obtain ⟨D,X9⟩:∃D,du mcs ks nrs K1=D:=⟨_,rfl⟩;rw[X9]at hD;have OO:∀k:Nat,(nx[k]?).getD 0<=ba+n1:=λk=>by
  cases hk:nx[k]? with
  | none=>exact Nat.zero_le _
  | some q=>
   have:=HH.out.2.2.2.2.2.1.h4 q (List.mem_of_getElem? hk);have h9:=mN.out.2.2;show q<=_;omega
 have HD:=Lib.hid (And.intro hD (And.intro X9 OO));have Jt:=Lib.hid (show OM w2.heap.size w3.heap.size t1 ba K1 nx ms (.slice A5 n1 d5) (.slice A2 nx.length d2) (.slice A3 ms.length d3) w2 W6 from ⟨M9.out.1,M9.out.2⟩);have FY:=HH.out.2.2.2.2.2.1.h3;obtain ⟨gN,rfl⟩:∃gN,A2=some ⟨gN,0,none⟩:=by
  rcases Jt.out.s.n.2 with ⟨-,h0⟩ | ⟨g',cap,cur,e,-⟩
  .omega
  .injection e with e _ _;exact ⟨g',e⟩
 rw[FY]at Jt;obtain ⟨SJ,FZ⟩:∃z,Value.slice (some ⟨gN,0,none⟩) n d2=z:=⟨_,rfl⟩;rw[FZ]at Jt;have HNV:=Lib.hid FZ;have Bo:=Lib.hid FY;clear FY;clear hD X9 OO M9 FZ;obtain ⟨x0,x1,x2,x3,x4⟩:=Jt.out.s.cells;have lx:=Jt.out.s.lt
 go_upto_region 12 with fail
 clear x0 x1 x2 x3 x4 lx;go_wp2_with fail
 go_loopw [11,56] (λkp iv wr=>∃(k:Nat) (Ai:Value),k<=n/\iv = .int .i64 (k:Int)/\kp = .int .i64 (tB false D n1 ba nx (t1:Int) k)/\Hid (OM w2.heap.size w3.heap.size t1 ba K1 (pI false D n1 ba nx k) (stM false D n1 ba nx ms k) (.slice A5 n1 d5) SJ Ai w2 wr)) (λ_ iv _=>(n-intOf iv).toNat)
 case atStart=>exact ⟨0,_,Nat.zero_le _,rfl,rfl,Jt.out⟩
 case round=>
  obtain ⟨k,Ai,hk,rfl,rfl,HI⟩:=hrel;by_cases hlt:k<n
  .have hd:decide ((k:Int)<(n:Int))=true:=decide_eq_true (by omega)
   have jO:decide (k<n)=true:=decide_eq_true hlt;have F4:Below w1.heap.size w1 wr:=eO.out.1.trans (HI.out.bl.mono eO.out.1.size);have km:k<fs.length:=by rw[Pv.out];exact hlt
   have zE:k<us.length:=by have:=HH.out.2.2.2.2.2.2.2.1;omega
   have hkk:k<ks.length:=by have:=HH.out.2.2.2.2.2.2.2.2;omega
   have tN:k<mcs.length:=by have:=lI.out.2.1.1;omega
   have xr:=λj hj=>(F4.cell (p:=⟨gF,fF+k*13+j,none⟩) lI.out.2.2.2.1).trans (lI.out.2.2.2.2.1 k km j hj);have Ya:fs[k].1=us[k]:=by
    have h1:=lI.out.2.2.1;have h2:us[k]=(fs.map Prod.fst)[k]'(by simpa using km):=by congr 1;exact h1.symm
    rw[h2];simp
   obtain ⟨x,hx⟩:∃x,fs[k]=x:=⟨_,rfl⟩;rw[hx]at xr Ya;obtain ⟨q0,q1,q2,q3,q4,q5,q6,q7,q8,q9,CE,q11,q12⟩:=yH xr;have lgF:gF<wr.heap.size:=Nat.lt_of_lt_of_le lI.out.2.2.2.1 F4.size;have HX:=Lib.hid (And.intro hx Ya);have HDK:=Lib.hid (And.intro hd jO);clear xr hx Ya F4
   go_upto_region 15 with fail
   refine dN λW hW=>?_;have cJ:Below wr.heap.size wr W:=by rw[hW];exact (Below.refl _ _).alloc (Nat.le_refl _) _
   have gU:KV x wr.heap.size W:=by rw[hW];exact heap_alloc_new wr _
   have Yb:=HI.out.later cJ;have vK:Below w.heap.size w W:=eO.out.2.trans (Yb.bl.mono eO.out.2.size);have Bp:∀wz,Below W.heap.size W wz->∀j,j<11->wz.cell? ⟨gK,fK+k*11+j,none⟩=x.1.cs[j]?:=λwz hz j hj=>by
    rw[HX.out.2];exact ((vK.trans (hz.mono vK.size)).cell (p:=⟨gK,fK+k*11+j,none⟩) lI.out.2.2.2.2.2.1).trans (lI.out.2.2.2.2.2.2 k zE j hj)
   have HWW:=Lib.hid (And.intro gU (λwz hz=>gA (Bp wz hz)));have ZC:=Lib.hid (And.intro Yb vK);have eU:Below W.heap.size W W.drew:=(Below.refl _ _).drew;clear hW cJ gU Bp Yb vK q0 q1 q2 q3 q4 q5 q6 q7 q8 q9 CE q11 q12 lgF;refine aq 6 [] (aem x gK fK n c k) (λ_ w'=>Below W.heap.size W w') (by kernel_rfl) (by kernel_rfl) (by kernel_rfl) (by kernel_rfl) (by kernel_rfl) (by kernel_rfl) (by decide) eU ?_ ?_
   .simp only[cP,cQ];refine ae.pure (by decide) ?_ (ae.pure (by decide) ?_ (ae.pure (by decide) ?_ (ae.pure (by decide) ?_ (ae.pure (by decide) ?_ (ae.pure (by decide) ?_ (ae.nil))))))
    all_goals first | (with_reducible intro v wz c aD hS hE K hK;simp only[ai,Act.put,eh,ek,ep,Nat.zero_add,Nat.reduceAdd,cP,cQ]at hK|-) | (intro v wz hS hE K hK;simp only[ai,Act.put,eh,ek,ep,Nat.zero_add,Nat.reduceAdd,cP,cQ]at hK|-)
    .have hz:=HWW.out.1.later hS;obtain ⟨⟨b0,b1,b2,b3,b4,b5⟩,⟨b6,b7,b8,b9,b10⟩,⟨b11,b12⟩,Ls⟩:=hz.cells;clear hz;have HX:=Lib.hid hS;clear hS hE aD;go_wp2_with fail;exact hK.out _ rfl
    .have HX:=Lib.hid hS;clear hS hE aD;go_wp2_with fail;exact hK.out _ rfl
    .have HX:=Lib.hid hS;clear hS hE aD;go_wp2_with fail;exact hK.out _ rfl
    .have e1:v 1=_:=hE.1 rfl;have e2:v 2=_:=hE.2.1 rfl;rw[e1,e2]at hK|-;have al0:=hlt;have hd9:=HDK.out.1;have hd8:=HDK.out.2;have HX:=Lib.hid hS;clear hS hE aD;go_wp2_with fail;exact hK.out _ rfl
    .have e3:v 3=_:=hE.1 rfl;rw[e3]at hK|-;obtain ⟨⟨b0,b1,b2,b3,b4,b5⟩,b6,b7,b8,b9,b10⟩:=HWW.out.2 wz hS;have HX:=Lib.hid hS;clear hS hE aD;go_wp2_with fail;exact hK.out _ rfl
    .have HX:=Lib.hid hS;clear hS hE aD;go_wp2_with fail;exact hK.out _ rfl
   .intro v wz hS hF;have e0:v 0=_:=hF 0 (by decide)
    have e4:v 4=_:=hF 4 (by decide)
    have e5:v 5=_:=hF 5 (by decide)
    simp only[ai,Act.put,eh,ek,ep,Nat.zero_add,Nat.reduceAdd,cP,cQ,List.drop_succ_cons,List.drop_zero,e0,e4,e5];have OP:=ZC.out.1.later hS;have zu:ia w2 x.2.val mcs[k]:=by have h:=lI.out.2.1.2;obtain ⟨A9,c9,-,-,-,h⟩:=h;have h:=h k km tN;rw[HX.out.1]at h;exact h.later eO.out.1
    have bM:sG w2 x.1 ks[k]:=by
     obtain ⟨-,A9,c9,-,-,-,h⟩:=HH.out.1;rw[HX.out.2];exact (h k zE hkk).later eO.out.2
    have F5:=HH.out.2.2.2.1 k hkk;have hAD:=OJ (B:=w2.heap.size) (K:=K1) (A:=A5) (c:=d5) (Nat.le_refl _) zu ((lI.out.1.all.2.2 k hkk tN).good.1.go) bM F5 (HH.out.2.1.later eO.out.2) (by have:=mN.out.2.1;have:=mN.out.2.2;omega) wz OP.bl
    have cR:k<(pI false D n1 ba nx k).length:=by rw[iB,Bo.out];exact hlt
    obtain ⟨q,hq⟩:∃q,(nx[k]?).getD 0=q:=⟨_,rfl⟩;have SK:(pI false D n1 ba nx k)[k]=q:=by
     have h1:=Aq false D n1 ba nx k k (Nat.le_refl _);rw[List.getElem?_eq_getElem cR]at h1;rw[<-hq,<-h1];rfl
    have WW:q<=ba+n1:=hq▸HD.out.2.2 k;have yU:=tC (en:=false) (ms:=ms) HD.out.1 HD.out.2.2 k;have zU:k*(n1+1)<=2*(n1+1):=Nat.mul_le_mul_right _ (by omega)
    have Yc:D k=wj mcs[k] ks[k] (nrs k) K1:=by rw[<-HD.out.2.1];exact gp tN hkk
    have F6:K1.length=n1:=mN.out.2.1;have nZ:=bM.nr.trans F5.nre;have h91:=mN.out.2.2;have Az:=r9 w2.heap.size w3.heap.size t1 ba k (nrs k) K1 (pI false D n1 ba nx k) (stM false D n1 ba nx ms k) (.slice A5 n1 d5) SJ Ai x mcs[k] ks[k].pat _ false wz nZ OP.s (by rw[<-F6];exact hAD) cR (by omega) (by omega) (by rw[SK,F6];exact WW) (by rw[iB,Bo.out];omega) (by omega) F5.Qe
    rw[SK]at Az;have eb:bq K1.length (aN ks[k].pat+max (nrs k) 1) false (mR mcs[k] x.1.wh (K1.map UInt8.toNat)) (Bt (K1.map UInt8.toNat) (hZ ks[k] (nrs k))) (K1.length+1) (q-ba)=ja false (D k) n1 ba q:=by
     rw[ja,Yc,F6,bM.wh];rfl
    rw[eb]at Az;have DI:=Az.mono (R':=λe w'=>(∃v,e = .returned v)/\∃oY,OM w2.heap.size w3.heap.size t1 ba K1 (pI false D n1 ba nx (k+1)) (stM false D n1 ba nx ms (k+1)) (.slice A5 n1 d5) SJ oY w2 w') (λe w' h=>⟨h.1,by
     obtain ⟨oY,h1,h2⟩:=h.2;refine ⟨oY,?_,OP.bl.trans h2⟩;rw[pI,stM,hq];exact h1⟩)
    have XA:=Lib.hid DI;have HQ:=Lib.hid (And.intro hq (And.intro WW (And.intro nZ (And.intro Yc OP.bl))));clear OP zu bM hAD Az eb DI yU zU Yc F6 SK nZ e0 e4 e5 hF hS eU;go_wp2_with fail;refine XA.out.mono ?_;rintro e w7 ⟨⟨rv,rfl⟩,Yd,hI7⟩;have HI7:=Lib.hid hI7;clear hI7
    go_upto_region 16 with fail
    have aev:k<(pI false D n1 ba nx (k+1)).length:=by rw[iB,Bo.out];exact hlt
    obtain ⟨r2,lu⟩:∃r,ba+(ja false (D k) n1 ba q).2=r:=⟨_,rfl⟩;have Ck:=(Ax (en:=false) (HD.out.1 k) HQ.out.2.1).1;have hv7:(pI false D n1 ba nx (k+1))[k]=r2:=by
     simp only[pI,HQ.out.1,List.getElem_set_self];exact lu
    have hJ7:OM w2.heap.size w3.heap.size t1 ba K1 (pI false D n1 ba nx (k+1)) (stM false D n1 ba nx ms (k+1)) (.slice A5 n1 d5) (.slice (some ⟨gN,0,none⟩) n d2) Yd w2 w7:=by have h:=HI7.out;rw[<-HNV.out]at h;exact h
    obtain ⟨mg,OS⟩:∃z,max (nrs k) 1=z:=⟨_,rfl⟩;have auA:mg<=64:=by have:=(HH.out.2.2.2.1 k (by have:=HH.out.2.2.2.2.2.2.2.2;omega)).Qe;omega
    have FM:IntKind.i64.wrap ((r2:Int) - (mg:Int))=(r2:Int) - (mg:Int):=IntWalk.i64_in _ (by omega)
    have oz:tB false D n1 ba nx (t1:Int) (k+1)=min (tB false D n1 ba nx (t1:Int) k) ((r2:Int) - (mg:Int)):=by
     rw[tB,HQ.out.1,lu,HQ.out.2.2.2.1];show min _ ((r2:Int) - ((max (nrs k) 1:Nat):Int))=_;rw[OS]
    have Zd:=Lib.hid oz;have hh1:=λd:aM w7.heap.size w7=>(hJ7.later d.ay).s.cells.2.2.2.1;have hh2:∀d:aM w7.heap.size w7,d.val.cell? ⟨gN,k,none⟩=some (.int .i64 (r2:Int)):=λd=>by
     have h:=((hJ7.later d.ay).s.nxc k aev).1;rw[hv7]at h;exact h
    have hh3:=λd:aM w7.heap.size w7=>((hJ7.later d.ay).s.nxc k aev).2.2;have hh4:=λd:aM w7.heap.size w7=>(hJ7.later d.ay).s.lt;have OT:Below w.heap.size w w7:=eO.out.2.trans (hJ7.bl.mono eO.out.2.size);have zE:k<us.length:=by have:=HH.out.2.2.2.2.2.2.2.1;omega
    have lC:=λd:aM w7.heap.size w7=>gA (u:=x.1) (w:=d.val) (g:=gK) (f:=fK) (i:=k) (λj hj=>by
     rw[HX.out.2];exact ((OT.trans (d.ay.mono OT.size)).cell (p:=⟨gK,fK+k*11+j,none⟩) lI.out.2.2.2.2.2.1).trans (lI.out.2.2.2.2.2.2 k zE j hj))
    have ur:=λd:aM w7.heap.size w7=>(lC d).1.1;have et:=λd:aM w7.heap.size w7=>(lC d).1.2.1;have jC:=λd:aM w7.heap.size w7=>(lC d).1.2.2.1;have rQ:=λd:aM w7.heap.size w7=>(lC d).1.2.2.2.1;have Fe:=λd:aM w7.heap.size w7=>(lC d).1.2.2.2.2.1;have OE:=λd:aM w7.heap.size w7=>(lC d).1.2.2.2.2.2;have hg6:=λd:aM w7.heap.size w7=>(lC d).2.1;have QT:=λd:aM w7.heap.size w7=>(lC d).2.2.1;have TJ:=λd:aM w7.heap.size w7=>(lC d).2.2.2.1;have we:=λd:aM w7.heap.size w7=>(lC d).2.2.2.2.1;have KU:=λd:aM w7.heap.size w7=>(lC d).2.2.2.2.2;have dV:∀d:aM w7.heap.size w7,gK<d.val.heap.size:=λd=>Nat.lt_of_lt_of_le lI.out.2.2.2.2.2.1 (OT.trans (d.ay.mono OT.size)).size;have HM:=Lib.hid λd:aM w7.heap.size w7=>(by
     have h:=vG x.1 (nrs k) d.val HQ.out.2.2.1;rwa [OS]at h)
    have HJ7:=Lib.hid HI7.out;clear lC hJ7 OT zE hv7 lu OS oz;refine aO (Below.refl w7.heap.size w7) (by kernel_rfl) (by kernel_rfl) ?_
    repeat (go_big_quiet_step (fail))
    go_big_quiet_step ((go_at_call 43;exact Calls.cM (Nat.le_refl _) (HM.out _)))
    repeat (go_big_quiet_step (fail))
    refine wpQuiet_nil ?_;intro w8 hw';have hI8:=(show OM w2.heap.size w3.heap.size t1 ba K1 (pI false D n1 ba nx (k+1)) (stM false D n1 ba nx ms (k+1)) (.slice A5 n1 d5) SJ Yd w2 w8 by obtain ⟨d9,rfl⟩:=hw';exact HJ7.out.later d9.ay)
    have HI8:=Lib.hid hI8;have hwk:IntKind.i64.wrap ((k:Int)+1)=((k+1:Nat):Int):=by rw[IntWalk.i64_in _ (by omega)];omega
    clear hw' hh1 hh2 hh3 hh4 ur et jC rQ Fe OE hg6 QT TJ we KU dV hI8 HM;go_wp2_with fail;refine ⟨⟨k+1,Yd,by omega,rfl,by rw[Zd.out],HI8.out⟩,by simp[intOf];omega⟩
  .obtain rfl:k=n:=by omega
   have hd:decide ((k:Int)<(k:Int))=false:=decide_eq_false (by omega)
   have jO:decide (k<k)=false:=decide_eq_false (by omega)
   have auI:=OL (en:=false) (ba:=ba) (nx:=nx) (tt:=t1) HD.out.1 k;have h91:=mN.out.2.2;have Eh:=HI.out;rw[<-HNV.out]at Eh;obtain ⟨Ye,Yf,em,-,-⟩:=ag (show wr.ownsRow _ _ _ _ _ _ from Eh.s.m);obtain ⟨Yg,QH⟩:∃z,(stM false D n1 ba nx ms k).length=z:=⟨_,rfl⟩;rw[QH]at em;subst em;have gU:=Eh.s.box;obtain ⟨c0,c1,c2,c3,c4⟩:=Eh.s.cells;have lb:=Eh.s.lt;have Ck:=(Eh.bl.block _ (Array.getElem?_eq_some_iff.1 HBR.out.2).1).trans HBR.out.2;obtain ⟨y0,y1,y2,y3,y4⟩:=aJ Ck;have sI:∀j,wr.frozen? ⟨w.heap.size+1,j,none⟩=false:=λj=>by simp[World.frozen?,Ck]
   have g0:=sI 0;have g1:=sI 1;have g2:=sI 2;have g3:=sI 3;have g4:=sI 4;have ly:=(Array.getElem?_eq_some_iff.1 Ck).1;have Yh:w.heap.size+1<w3.heap.size:=by have h1:=(Array.getElem?_eq_some_iff.1 HBR.out.2).1;omega
   have adm:¬w3.heap.size=w.heap.size+1:=by omega
   have auJ:¬w.heap.size+1=w3.heap.size:=by omega
   have h2w:w.heap.size+1<w2.heap.size:=(Array.getElem?_eq_some_iff.1 HBR.out.2).1;have y7:=Lib.hid (And.intro Yh h2w);have xb:=Lib.hid Eh;have DJ:=Lib.hid (And.intro Ck gU);clear Eh Ck gU sI QH;obtain ⟨dp,QJ⟩:∃z,tB false D n1 ba nx (t1:Int) k - (ba:Int)=z:=⟨_,rfl⟩;have hws:IntKind.i64.wrap (tB false D n1 ba nx (t1:Int) k - (ba:Int))=dp:=by rw[<-QJ];exact IntWalk.i64_in _ (by omega)
   have HDP:=Lib.hid QJ;by_cases hpos:0<dp
   .obtain ⟨dn,rfl⟩:∃dn:Nat,dp=(dn:Int):=⟨dp.toNat,by omega⟩
    have auL:dn<=n1:=by omega
    have auM:decide ((0:Int)<(dn:Int))=true:=decide_eq_true hpos;have auN:decide (0<dn)=true:=decide_eq_true (by omega)
    have XF:0<n1:=by omega
    have V6:=Lib.hid hpos;have HRB:=Lib.hid DJ.out.1;have F6:K1.length=n1:=mN.out.2.1;obtain ⟨Af,df,ef,oM,hof⟩:=Z1.form xb.out.s.k;obtain ⟨g5,eg5,-,OE,hc5⟩:=hof (by omega)
    injection ef with ef1 ef2 ef3;clear ef2;subst ef1 ef3 eg5;rw[F6]at oM;have ap3:n1<=d5:=oM.1;have hR:rH tz 1 wr (.slice (Ef (some ⟨g5,0,none⟩) d5 dn) (n1-dn) (d5-dn)) (K1.drop dn):=by
     refine ⟨_,d5-dn,by rw[List.length_drop,F6],by rw[List.length_drop,F6];omega,?_⟩
     by_cases hz:n1-dn=0
     .exact .inl (List.length_eq_zero_iff.1 (by rw[List.length_drop];omega))
     .refine .inr ⟨g5,dn,by simp only[Ef];rw[if_neg (by omega),Nat.zero_add],OE,λi hi j hj=>?_⟩
      rw[List.length_drop]at hi;obtain rfl:j=0:=by omega
      rw[Nat.mul_one,Nat.add_zero,(hc5 (dn+i) (by omega)).1]
      simp[tz]
    have lL:=Lib.hid (vI _ (K1.drop dn) wr hR (by rw[List.length_drop];omega))
    have hlk:(K1.drop dn).length=n1-dn:=by rw[List.length_drop,F6]
    have HLK:=Lib.hid hlk;have fb2:wr.frozen? ⟨w3.heap.size,2,none⟩=false:=by have h:=DJ.out.2;simp[World.frozen?,h]
    clear hpos hR hof hc5 hlk F6 y0 y1 y2 y3 y4 g0 g1 g2 g3 g4 ly;have iD:(dn:Int)<=(n1:Int):=by omega
    have ez:(n1:Int)<=(d5:Int):=by omega
    by_cases hz:d5-dn=0
    all_goals
     simp only[Ef,hz,if_true,if_false,Nat.zero_add]at lL;go_wp2_with fail;refine lL.out.mono ?_;rintro e w8 ⟨rv,rfl,Lu,Bq⟩;obtain ⟨Ar,cr,er,-,-⟩:=ag (show w8.ownsRow _ _ _ _ _ _ from Lu);rw[HLK.out]at er;subst er;have Ks:=(Bq.block _ (Array.getElem?_eq_some_iff.1 DJ.out.2).1).trans DJ.out.2;have OU:=(Bq.block _ (Array.getElem?_eq_some_iff.1 DJ.out.1).1).trans DJ.out.1;have H8:=Lib.hid (And.intro Lu (And.intro Bq (And.intro Ks (xb.out.later Bq))));have al2:=Lib.hid OU;clear c0 c1 c2 c3 c4 lb fb2 Lu Bq;obtain ⟨c0,c1,c2,c3,c4⟩:=aJ Ks;obtain ⟨y0,y1,y2,y3,y4⟩:=aJ OU;have sI:∀j,w8.frozen? ⟨w.heap.size+1,j,none⟩=false:=λj=>by simp[World.frozen?,OU]
     have g0:=sI 0;have g1:=sI 1;have g2:=sI 2;have g3:=sI 3;have g4:=sI 4;have fb1:w8.frozen? ⟨w3.heap.size,1,none⟩=false:=by simp[World.frozen?,Ks]
     have fb2:w8.frozen? ⟨w3.heap.size,2,none⟩=false:=by simp[World.frozen?,Ks]
     have lb:w3.heap.size<w8.heap.size:=(Array.getElem?_eq_some_iff.1 Ks).1;have ly:=(Array.getElem?_eq_some_iff.1 OU).1;clear Ks OU sI;go_wp2_with fail;refine ar λWf cH=>?_;have hrow:Wf.heap[w.heap.size+1]?=some (.cells #[.int .i64 (t1:Int), .int .i64 (tB false D n1 ba nx (t1:Int) k), .slice Ar (n1-dn) cr, .slice (some ⟨gN,0,none⟩) k d2, .slice Ye Yg Yf] 51 (0,0)):=by
      rw[cH];simp[World.setCell,Array.getElem?_modify,al2.out,adm]
     have oH:Below w.heap.size w Wf/\∀q,q≠w.heap.size+1->q≠w3.heap.size->Wf.heap[q]?=w8.heap[q]?:=by
      refine ⟨?_,λq h1 h2=>?_⟩
      .have h:=eO.out.2.trans (H8.out.2.2.2.bl.mono eO.out.2.size);have Yh:=y7.out.1;rw[cH]
       iterate 7 (refine Below.setCell ?_ (by dsimp only;omega) _)
       exact h
      .rw[cH]
       iterate 7 (rw[jb (by first | exact h1 | exact h2)])
     clear cH;refine bodyPost_ret (v:=.tuple #[.agg #[.int .i64 (t1:Int), .int .i64 (tB false D n1 ba nx (t1:Int) k), .slice Ar (n1-dn) cr, .slice (some ⟨gN,0,none⟩) k d2, .slice Ye Yg Yf], .int .i64 0]) (fL (p:=6) (u:=7) rfl _ _ (w.heap.size+1) 51 _ (0,0) _ rfl hrow Tryz.underlying51 rfl iA) rfl ?_;have keep:∀{e:TypeId} {z:Nat} {v:Value} {m:Nat} {xs:List Value},e≠51->w8.ownsRow w2.heap.size e z v m xs->Wf.ownsRow w2.heap.size e z v m xs:=λhe ho=>ak ho λq hq=>oH.2 q (by have h1:=(World.ownsRow.lt ho q hq).1;have h2:=y7.out.2;omega) (λe=>by
      obtain ⟨cs',mm,h⟩:=aT ho q hq;rw[e,H8.out.2.2.1]at h;injection h with h;injection h with _ h _;exact he h.symm)
     have al3:=aS H8.out.1 (xb.out.bl.size);refine ⟨oH.1,mcs,lI.out.1, .slice Ar (n1-dn) cr, .slice (some ⟨gN,0,none⟩) k d2, .slice Ye Yg Yf,?_,?_⟩
     .rw[HD.out.2.1,yG,if_pos (by have h1:=HDP.out;have h2:=V6.out;omega)]
     .rw[HD.out.2.1,yF,if_pos (by have h1:=HDP.out;have h2:=V6.out;omega),show (tB false D n1 ba nx (t1:Int) k - (ba:Int)).toNat=dn by rw[HDP.out];rfl]
      exact ⟨aS (Ib.2 (keep (by decide) al3)) eO.out.2.size,aS (keep (by decide) H8.out.2.2.2.s.n) eO.out.2.size,aS (keep (by decide) H8.out.2.2.2.s.m) eO.out.2.size⟩
   .have auS:decide (0<dp)=false:=decide_eq_false hpos;have V6:=Lib.hid hpos;have HRB:=Lib.hid DJ.out.1;clear hpos QJ;go_wp2_with fail;refine ar λWf cH=>?_;have hrow:Wf.heap[w.heap.size+1]?=some (.cells #[.int .i64 (t1:Int), .int .i64 (ba:Int), .slice A5 n1 d5, .slice (some ⟨gN,0,none⟩) k d2, .slice Ye Yg Yf] 51 (0,0)):=by
     rw[cH];simp[World.setCell,Array.getElem?_modify,HRB.out]
    have oH:Below w.heap.size w Wf/\∀q,q≠w.heap.size+1->q≠w3.heap.size->Wf.heap[q]?=wr.heap[q]?:=by
     refine ⟨?_,λq h1 h2=>?_⟩
     .have h:=eO.out.2.trans (xb.out.bl.mono eO.out.2.size);have Yh:=y7.out.1;rw[cH]
      iterate 5 (refine Below.setCell ?_ (by dsimp only;omega) _)
      exact h
     .rw[cH]
      iterate 5 (rw[jb (by first | exact h1 | exact h2)])
    clear cH;refine bodyPost_ret (v:=.tuple #[.agg #[.int .i64 (t1:Int), .int .i64 (ba:Int), .slice A5 n1 d5, .slice (some ⟨gN,0,none⟩) k d2, .slice Ye Yg Yf], .int .i64 0]) (fL (p:=6) (u:=7) rfl _ _ (w.heap.size+1) 51 _ (0,0) _ rfl hrow Tryz.underlying51 rfl iA) rfl ?_;have keep:∀{e:TypeId} {z:Nat} {v:Value} {m:Nat} {xs:List Value},e≠51->wr.ownsRow w2.heap.size e z v m xs->Wf.ownsRow w2.heap.size e z v m xs:=λhe ho=>ak ho λq hq=>oH.2 q (by have h1:=(World.ownsRow.lt ho q hq).1;have h2:=y7.out.2;omega) (λe=>by
     obtain ⟨cs',mm,h⟩:=aT ho q hq;rw[e,DJ.out.2]at h;injection h with h;injection h with _ h _;exact he h.symm)
    refine ⟨oH.1,mcs,lI.out.1, .slice A5 n1 d5, .slice (some ⟨gN,0,none⟩) k d2, .slice Ye Yg Yf,?_,?_⟩
    .rw[HD.out.2.1,yG,if_neg (by have h1:=HDP.out;have h2:=V6.out;omega)]
    .rw[HD.out.2.1,yF,if_neg (by have h1:=HDP.out;have h2:=V6.out;omega)]
     exact ⟨aS (keep (by decide) xb.out.s.k) eO.out.2.size,aS (keep (by decide) xb.out.s.n) eO.out.2.size,aS (keep (by decide) xb.out.s.m) eO.out.2.size⟩
end
section
set_option linter.unusedVariables false
set_option linter.unusedSimpArgs false
open Go.RowKit
theorem Ig {L:List Nat->Prop} {m:Nat} (h:∀w,L w->w.length<=m):∀(j:Nat) (w:List Nat),zw L j w->w.length<=j*m
 | 0,w,hw=>by have hw:w=[]:=hw;subst hw;simp
 | j+1,w,hw=>by
  obtain ⟨u,v,rfl,h1,h2⟩:=hw;have a1:=Ig h j u h1;have a2:=h v h2;rw[List.length_append,Nat.succ_mul];omega
theorem Kv:∀(n:Nat),(∀(nd:Nd) (w:List Nat),aC nd<=n->aN nd<=1024->cI nd w->w.length<=aN nd):=by
 intro n
 induction n with
 | zero=>intro nd w h;cases nd;rw[aC]at h;omega
 | succ n ih=>
  rintro ⟨op,rs,kids,mn,mx⟩ w h hb hw;rw[aC]at h;have hS:∀(l:List Nd),bF l<=n->(fI l<=1024->∀w,mE l w->w.length<=fI l)/\(gD l<=1024->∀w,j9 l w->w.length<=gD l)/\(mD l<=1024->∀w,MY l w->w.length<=mD l):=by
   intro l
   induction l with
   | nil=>
    intro _;exact ⟨λ_ w hw=>by have hw:w=[]:=hw;subst hw;simp,λ_ w hw=>hw.elim,λ_ w hw=>hw.elim⟩
   | cons k r ihl=>
    intro hl;rw[bF]at hl;obtain ⟨i1,i2,-⟩:=ihl (by omega)
    have hk:aN k<=1024->∀w,cI k w->w.length<=aN k:=λhk w hw=>ih k w (by omega) hk hw
    refine ⟨?_,?_,hk⟩
    .intro hb w hw;rw[fI]at hb|-;obtain ⟨u,v,rfl,h1,h2⟩:=hw;have a1:=hk (by omega) u h1
     have a2:=i1 (by omega) v h2
     rw[List.length_append];omega
    .intro hb w hw;rw[gD]at hb|-;rcases hw with hw | hw
     .have a1:=hk (by omega) w hw;omega
     .have a2:=i2 (by omega) w hw;omega
  obtain ⟨i1,i2,i3⟩:=hS kids (by omega)
  rw[aN]at hb|-;rw[cI]at hw
  split at hw
  .rename_i h1
   obtain ⟨d,rfl,-⟩:=hw;rw[if_pos h1];show 1<=min 1 1025
   decide
  .rename_i h1
   rw[if_neg h1]at hb|-
   split at hw
   .rename_i h2
    rw[if_pos h2]at hb|-;have:=i1 (by omega) w hw
    omega
   .rename_i h2
    rw[if_neg h2]at hb|-
    split at hw
    .rename_i h3
     rw[if_pos h3]at hb|-;have:=i2 (by omega) w hw
     omega
    .rename_i h3
     rw[if_neg h3]at hb|-;obtain ⟨j,-,hj,hw⟩:=hw;by_cases hm:mx.toNat=0
     .obtain rfl:j=0:=by omega
      have hw:w=[]:=hw;subst hw;exact Nat.zero_le _
     .have hle:mD kids<=mx.toNat*mD kids:=Nat.le_mul_of_pos_left _ (by omega)
      have hl:=Ig (i3 (by omega)) j w hw
      have hjm:j*mD kids<=mx.toNat*mD kids:=Nat.mul_le_mul_right _ (by omega)
      omega
theorem OZ {nd:Nd} {w:List Nat} (h:aN nd<=1024) (hw:cI nd w):w.length<=aN nd:=Kv _ nd w (Nat.le_refl _) h hw
def pc (b:List Nat) (ba t:Nat):List Nat:=(b.drop ba).take (t-ba)
theorem ke {b:List Nat} {ba t:Nat} (h:t<=b.length):(pc b ba t).length=t-ba:=by
 unfold pc;rw[List.length_take,List.length_drop];omega
theorem qH {b:List Nat} {ba t i:Nat} (h:ba+i<t):(pc b ba t)[i]?=b[ba+i]?:=by
 unfold pc;rw[List.getElem?_take,if_pos (by omega),List.getElem?_drop]
theorem kg {b:List Nat} {ba t a x:Nat} (h:ba+x<=t):((pc b ba t).drop a).take (x-a)=(b.drop (ba+a)).take (x-a):=by
 unfold pc;rw[List.drop_take,List.drop_drop,List.take_take]
 congr 1
 omega
theorem tD {m:Mc} {wh:Bool} {b:List Nat} {ba t a x L mg:Nat} (ht:t<=b.length) (hL:∀u,jn m u 0=true->u.length<=L) (hl:ba=0\/1<=a) (hr:t=b.length\/ba+a+L+1<=t) (hx:ba<=t) (OS:1<=mg) :
  xg m wh (pc b ba t) a x↔xg m wh b (ba+a) (ba+x):=by
 unfold xg;rw[ke ht];constructor
 .rintro ⟨h1,h2,h3,h4⟩;rw[kg (by omega)]at h3
  have hlen:=hL _ h3;rw[List.length_take,List.length_drop]at hlen;refine ⟨by omega,by omega,by rw[show ba+x - (ba+a)=x-a by omega];exact h3,?_⟩
  unfold tW at h4|-;rw[ke ht]at h4;rw[Bool.and_eq_true,Bool.and_eq_true,Bool.or_eq_true,Bool.and_eq_true,Bool.or_eq_true,Bool.or_eq_true]at h4|-;obtain ⟨-,h5⟩:=h4;refine ⟨⟨decide_eq_true (by omega),decide_eq_true (by omega)⟩,h5.imp id ?_⟩
  rintro ⟨h6,h7⟩;constructor
  .by_cases ha:a=0
   .exact .inl (decide_eq_true (by omega))
   .rcases h6 with h6 | h6
    .exact absurd (of_decide_eq_true h6) ha
    .rw[qH (by omega)]at h6
     right
     rw[show ba+a - 1=ba+(a - 1) by omega];exact h6
  .rcases h7 with h7 | h7
   .have h7:=of_decide_eq_true h7;rcases hr with hr | hr
    .exact .inl (decide_eq_true (by omega))
    .omega
   .by_cases Z3:ba+x=b.length
    .exact .inl (decide_eq_true Z3)
    .by_cases hxt:ba+x<t
     .rw[qH hxt]at h7;exact .inr h7
     .omega
 .rintro ⟨h1,h2,h3,h4⟩;rw[show ba+x - (ba+a)=x-a by omega]at h3
  have hlen:=hL _ h3;rw[List.length_take,List.length_drop]at hlen;have hxt:ba+x<=t:=by omega
  refine ⟨by omega,by omega,by rw[kg hxt];exact h3,?_⟩
  unfold tW at h4|-;rw[ke ht];rw[Bool.and_eq_true,Bool.and_eq_true,Bool.or_eq_true,Bool.and_eq_true,Bool.or_eq_true,Bool.or_eq_true]at h4|-;obtain ⟨-,h5⟩:=h4;refine ⟨⟨decide_eq_true (by omega),decide_eq_true (by omega)⟩,h5.imp id ?_⟩
  rintro ⟨h6,h7⟩;constructor
  .by_cases ha:a=0
   .exact .inl (decide_eq_true ha)
   .right
    rw[qH (by omega)]
    rcases h6 with h6 | h6
    .have:=of_decide_eq_true h6;omega
    .rw[show ba+a - 1=ba+(a - 1) by omega]at h6;exact h6
  .by_cases Z3:x=t-ba
   .exact .inl (decide_eq_true Z3)
   .right
    rw[qH (by omega)]
    rcases h7 with h7 | h7
    .have:=of_decide_eq_true h7;omega
    .exact h7
theorem S3 {m:Mc} {wh:Bool} {b:List Nat} {ba t a L mg:Nat} (ht:t<=b.length) (hL:∀u,jn m u 0=true->u.length<=L) (hl:ba=0\/1<=a) (hr:t=b.length\/ba+a+L+1<=t) (hx:ba+a<=t) (OS:1<=mg) :
  mR m wh b (ba+a)=(mR m wh (pc b ba t) a).map (ba+·):=by
 have Uh:=ke (ba:=ba) ht;refine Option.ext λy=>?_;rw[mJ m wh b (ba+a) y (by omega),Option.map_eq_some_iff]
 constructor
 .rintro ⟨h1,h2⟩;have hy:ba+a<y:=h1.1;refine ⟨y-ba,(mJ m wh _ a (y-ba) (by omega)).2 ⟨(tD ht hL hl hr (by omega) OS).2 (by rw[show ba+(y-ba)=y by omega];exact h1),λx iK=>?_⟩,by omega⟩
  have:=h2 _ ((tD ht hL hl hr (by omega) OS).1 iK)
  omega
 .rintro ⟨x,h1,rfl⟩;obtain ⟨h2,h3⟩:=(mJ m wh _ a x (by omega)).1 h1
  refine ⟨(tD ht hL hl hr (by omega) OS).1 h2,λy hy=>?_⟩
  have KS:ba+a<y:=hy.1;have:=h3 (y-ba) ((tD ht hL hl hr (by omega) OS).2 (by rw[show ba+(y-ba)=y by omega];exact hy))
  omega
theorem Yo {b:List Nat} {ba t a z nr:Nat} (s:ByteArray) (ht:t<=b.length) (ha:ba+a<=t) (hz:ba+z<=t) (hl:ba=0\/nr<=a) (hr:t=b.length\/ba+z+nr<=t):XN (pc b ba t) a z nr s=XN b (ba+a) (ba+z) nr s:=by
 have Uh:=ke (ba:=ba) ht;unfold XN;rw[Uh];have e1:((pc b ba t).drop (a-min nr (t-ba))).take (min a (min nr (t-ba)))=(b.drop (ba+a-min nr b.length)).take (min (ba+a) (min nr b.length)):=by
  have h0:min a (min nr (t-ba))=min (ba+a) (min nr b.length):=by omega
  have h1:ba+(a-min nr (t-ba))=ba+a-min nr b.length:=by omega
  have h2:=kg (b:=b) (ba:=ba) (t:=t) (a:=a-min nr (t-ba)) (x:=a) (by omega)
  rw[show a - (a-min nr (t-ba))=min a (min nr (t-ba)) by omega,h1]at h2
  rw[h2,h0]
 have e2:((pc b ba t).drop z).take (min (t-ba-z) (min nr (t-ba)))=(b.drop (ba+z)).take (min (b.length - (ba+z)) (min nr b.length)):=by
  have h2:=kg (b:=b) (ba:=ba) (t:=t) (a:=z) (x:=z+min (t-ba-z) (min nr (t-ba))) (by omega)
  rw[Nat.add_sub_cancel_left]at h2;rw[h2];rcases hr with hr | hr
  .by_cases hn:nr<=b.length - (ba+z)
   .congr 1;omega
   .rw[List.take_of_length_le (by rw[List.length_drop];omega),List.take_of_length_le (by rw[List.length_drop];omega)]
  .congr 1;omega
 rw[e1,e2]
theorem Yp {b:List Nat} {ba t a z:Nat} {k:Ask} (ht:t<=b.length) (haz:a<=z) (hz:ba+z<=t) (hl:ba=0\/k.nr<=a) (hr:t=b.length\/ba+z+k.nr<=t):Bt (pc b ba t) k a z=Bt b k (ba+a) (ba+z):=by
 have e1:((pc b ba t).drop a).take (z-a)=(b.drop (ba+a)).take (ba+z - (ba+a)):=by
  rw[kg hz];congr 1;omega
 unfold Bt Lz tE;rw[e1]
 congr 2
 congr 1
 refine congrArg (λf=>k.ws.any f) (funext λs=>?_);exact Yo s ht (by omega) hz hl hr
structure KwD where
 L:Nat
 mg:Nat
 jl:Nat->Option Nat
 p:Nat->Nat->Bool
theorem AB {n wait ba t:Nat} {en:Bool} {c1 c2:Nat->Option Nat} {p1 p2:Nat->Nat->Bool} (hb:ba<=t)
  (hc:∀a,ba+a<t->¬(en=false/\t<ba+a+wait)->(ba=0\/n<=a)->c2 (ba+a)=(c1 a).map (ba+·))
  (hp:∀a z,ba+a<t->¬(en=false/\t<ba+a+wait)->(ba=0\/n<=a)->c1 a=some z->p2 (ba+a) (ba+z)=p1 a z) (hlt:∀a z,c1 a=some z->a<z) :
  ∀f a,(ba=0\/n<=a)->bq t wait en c2 p2 f (ba+a)=((bq (t-ba) wait en c1 p1 f a).1.map (λq=>(ba+q.1,ba+q.2)),ba+(bq (t-ba) wait en c1 p1 f a).2)
 | 0,a,_=>by rw[bq,bq];rfl
 | f+1,a,ha=>by
  rw[bq,bq];by_cases h:t<=ba+a\/(en=false/\t<ba+a+wait)
  .rw[if_pos h,if_pos (h.imp (λh=>by omega) (λh=>⟨h.1,by omega⟩))];rfl
  .have h1:ba+a<t:=Nat.lt_of_not_le λe=>h (.inl e);have h2:¬(en=false/\t<ba+a+wait):=λe=>h (.inr e);rw[if_neg h,if_neg (λe=>h (e.imp (λh=>by omega) (λh=>⟨h.1,by omega⟩))),hc a h1 h2 ha]
   cases vX:c1 a with
   | none=>exact AB hb hc hp hlt f (a+1) (ha.imp id (λh=>by omega))
   | some z=>
    have hz:=hlt a z vX;have ih:=AB hb hc hp hlt f z (ha.imp id (λh=>by omega))
    show (if p2 (ba+a) (ba+z)=true then _ else _,_)=_;rw[ih,hp a z h1 h2 ha vX]
    dsimp only
    by_cases Kq:p1 a z=true
    .rw[if_pos Kq,if_pos Kq];rfl
    .rw[if_neg Kq,if_neg Kq]
theorem mM {wait t:Nat} {en:Bool} {c:Nat->Option Nat} {p:Nat->Nat->Bool} (hlt:∀a z,c a=some z->a<z) :
  ∀f g a,t+1<=a+f->t+1<=a+g->bq t wait en c p f a=bq t wait en c p g a
 | 0,0,a,_,_=>rfl
 | 0,g+1,a,h1,_=>by rw[bq,bq,if_pos (.inl (by omega))]
 | f+1,0,a,_,h2=>by rw[bq,bq,if_pos (.inl (by omega))]
 | f+1,g+1,a,h1,h2=>by
  rw[bq,bq];by_cases h:t<=a\/(en=false/\t<a+wait)
  .rw[if_pos h,if_pos h]
  .rw[if_neg h,if_neg h]
   cases vX:c a with
   | none=>exact mM hlt f g (a+1) (by omega) (by omega)
   | some z=>
    have hz:=hlt a z vX
    dsimp only
    rw[mM (t:=t) (wait:=wait) (en:=en) (p:=p) hlt f g z (by omega) (by omega)]
theorem vN {wait t1 t2:Nat} {en:Bool} {c:Nat->Option Nat} {p:Nat->Nat->Bool} (yV:t1<=t2) (hw:1<=wait) (hlt:∀a z,c a=some z->a<z) :
  ∀f a g,t2+1<=a+g->t1+1<=a+f->bq t2 wait en c p g a=((bq t1 wait false c p f a).1++(bq t2 wait en c p g (bq t1 wait false c p f a).2).1,(bq t2 wait en c p g (bq t1 wait false c p f a).2).2)
 | 0,a,g,_,_=>by rw[show bq t1 wait false c p 0 a=([],a) from rfl];rfl
 | f+1,a,g,hg,hf=>by
  rw[show bq t1 wait false c p (f+1) a=(if t1<=a\/(false=false/\t1<a+wait) then ([],a) else match c a with
   | none=>bq t1 wait false c p f (a+1)
   | some t=>(if p a t then (a,t)::(bq t1 wait false c p f t).1 else (bq t1 wait false c p f t).1,(bq t1 wait false c p f t).2)) from rfl]
  by_cases h:t1<=a\/(false=false/\t1<a+wait)
  .rw[if_pos h];rfl
  .rw[if_neg h];have h1:¬t1<=a:=λe=>h (.inl e);have h2:¬t1<a+wait:=λe=>h (.inr ⟨rfl,e⟩)
   cases g with
   | zero=>omega
   | succ g=>
    have hn:¬(t2<=a\/(en=false/\t2<a+wait)):=by rintro (h3 | ⟨-,h3⟩) <;> omega
    cases vX:c a with
    | none=>
     have ih:=vN (en:=en) (p:=p) yV hw hlt f (a+1) (g+1) (by omega) (by omega)
     have st:=mM (wait:=wait) (t:=t2) (en:=en) (c:=c) (p:=p) hlt g (g+1) (a+1) (by omega) (by omega)
     rw[bq,if_neg hn,vX]
     dsimp only
     rw[st];exact ih
    | some z=>
     have hz:=hlt a z vX;have ih:=vN (en:=en) (p:=p) yV hw hlt f z (g+1) (by omega) (by omega)
     have st:=mM (wait:=wait) (t:=t2) (en:=en) (c:=c) (p:=p) hlt g (g+1) z (by omega) (by omega)
     rw[bq,if_neg hn,vX]
     dsimp only
     rw[st,ih]
     dsimp only
     by_cases Kq:p a z=true
     .rw[if_pos Kq,if_pos Kq];rfl
     .rw[if_neg Kq,if_neg Kq]
end
section
set_option linter.unusedVariables false
set_option linter.unusedSimpArgs false
open Go.RowKit
theorem Ih {m:Mc} {wh:Bool} {bs:List Nat} {i:Nat} (h:bs.length<i):mR m wh bs i=none:=by
 cases hc:mR m wh bs i with
 | none=>rfl
 | some t=>
  have:=mL hc;omega
theorem O0 {m1 m2:Mc} (h:∀u,jn m1 u 0=jn m2 u 0) (wh:Bool) (bs:List Nat) (i:Nat):mR m1 wh bs i=mR m2 wh bs i:=by
 by_cases hi:i<=bs.length
 .refine Option.ext λt=>?_;have e:∀x,xg m1 wh bs i x↔xg m2 wh bs i x:=λx=>by unfold xg;rw[h]
  rw[mJ m1 wh bs i t hi,mJ m2 wh bs i t hi,e];constructor
  .rintro ⟨h1,h2⟩;exact ⟨h1,λx hx=>h2 x ((e x).2 hx)⟩
  .rintro ⟨h1,h2⟩;exact ⟨h1,λx hx=>h2 x ((e x).1 hx)⟩
 .rw[Ih (by omega),Ih (by omega)]
theorem rI {ks:List Kn} {m1 m2:List Mc} (h1:lT ks 0 m1) (h2:lT ks 0 m2) (nrs:Nat->Nat) (K:List UInt8):du m1 ks nrs K=du m2 ks nrs K:=by
 obtain ⟨-,a1,b1⟩:=h1.all;obtain ⟨-,a2,b2⟩:=h2.all
 funext k
 by_cases hk:k<ks.length
 .rw[gp (by omega) hk,gp (by omega) hk]
  have e:mR m1[k] ks[k].wh (K.map UInt8.toNat)=mR m2[k] ks[k].wh (K.map UInt8.toNat):=funext λi=>O0 (λu=>by
   have q1:=(b1 k hk (by omega)).good.1.wR.2.2.2.2 u
   have q2:=(b2 k hk (by omega)).good.1.wR.2.2.2.2 u
   rw[Bool.eq_iff_iff,q1,q2]) _ _ _
  unfold wj;rw[e]
 .unfold du;rw[List.getElem?_eq_none (show ks.length<=k by omega)]
  cases m1[k]? <;> cases m2[k]? <;> rfl
theorem vO {wait t:Nat} {en:Bool} {c:Nat->Option Nat} {p:Nat->Nat->Bool} (hlt:∀a z,c a=some z->a<z):∀f a,a<=(bq t wait en c p f a).2
 | 0,a=>Nat.le_refl _
 | f+1,a=>by
  rw[bq]
  split
  .exact Nat.le_refl _
  .cases vX:c a with
   | none=>have:=vO (wait:=wait) (t:=t) (en:=en) (p:=p) hlt f (a+1);dsimp only;omega
   | some z=>have:=vO (wait:=wait) (t:=t) (en:=en) (p:=p) hlt f z;have:=hlt a z vX;dsimp only;omega
theorem pd {wait t:Nat} {c:Nat->Option Nat} {p:Nat->Nat->Bool}:∀f a,(bq t wait true c p f a).1=(dL c t f a).filter λq=>p q.1 q.2
 | 0,a=>rfl
 | f+1,a=>by
  rw[bq,dL];by_cases h:t<=a
  .rw[if_pos (.inl h),if_neg (by omega)];rfl
  .rw[if_neg (λe=>e.elim h (λe=>by cases e.1)),if_pos (by omega)]
   cases vX:c a with
   | none=>exact pd f (a+1)
   | some z=>
    have ih:=pd (wait:=wait) (t:=t) (c:=c) (p:=p) f z
    dsimp only
    rw[List.filter_cons];by_cases hp:p a z=true
    .rw[if_pos hp,if_pos hp,ih]
    .rw[if_neg hp,if_neg hp,ih]
theorem yJ (f:Nat->List (Nat×Nat)):∀n i,bY f (n+1) i=bY f n i++wP (i+n) (f (i+n))
 | 0,i=>by simp[bY]
 | n+1,i=>by
  rw[bY,yJ f n (i+1),bY,show i+1+n=i+(n+1) by omega,List.append_assoc]
def dB (mr:List Mc) (ks:List Kn) (nrs:Nat->Nat) (b:List UInt8) (k:Nat):DC:=du mr ks nrs b k
def rB (mr:List Mc) (ks:List Kn) (nrs:Nat->Nat) (b:List UInt8) (t:Nat) (k:Nat):List (Nat×Nat)×Nat:=bq t (dB mr ks nrs b k).wait false (dB mr ks nrs b k).jl (dB mr ks nrs b k).p (t+1) 0
def aZ (b:List UInt8) (ba t:Nat):List UInt8:=(b.drop ba).take (t-ba)
theorem qI (b:List UInt8) (ba t:Nat):(aZ b ba t).map UInt8.toNat=pc (b.map UInt8.toNat) ba t:=by
 unfold aZ pc;rw[List.map_take,List.map_drop]
theorem jc {b:List UInt8} {ba t:Nat} (h:t<=b.length):(aZ b ba t).length=t-ba:=by
 unfold aZ;rw[List.length_take,List.length_drop];omega
theorem O2 {b:List UInt8} {ba t t2:Nat} (h1:ba<=t) (h2:t<=t2):aZ b ba t++aZ b t t2=aZ b ba t2:=by
 unfold aZ;rw[show t2-ba=(t-ba)+(t2-t) by omega,List.take_add,List.drop_drop,show ba+(t-ba)=t by omega]
theorem Kw {b:List UInt8} {ba s t:Nat} (h1:ba<=s):(aZ b ba t).drop (s-ba)=aZ b s t:=by
 unfold aZ;rw[List.drop_take,List.drop_drop,show ba+(s-ba)=s by omega,show t-ba - (s-ba)=t-s by omega]
theorem O3 {mr:List Mc} {ks:List Kn} {nrs:Nat->Nat} {b:List UInt8} {ba t q k:Nat} {en:Bool} (gu:lT ks 0 mr) (eQ:∀i (h:i<ks.length),qG ks[i] (nrs i)) (hk:k<ks.length) (ht:t<=b.length) (hb:ba<=t) (hbq:ba<=q) (hm:ba=0\/ba+(dB mr ks nrs b k).mg<=q) (hen:en=true->t=b.length) :
  bq t (dB mr ks nrs b k).wait en (dB mr ks nrs b k).jl (dB mr ks nrs b k).p (t+1) q=((ja en (du mr ks nrs (aZ b ba t) k) (t-ba) ba q).1.map (λx=>(ba+x.1,ba+x.2)),ba+(ja en (du mr ks nrs (aZ b ba t) k) (t-ba) ba q).2):=by
 obtain ⟨-,a1,b1⟩:=gu.all;have tN:k<mr.length:=by omega
 have hs:=eQ k hk;have hL:∀u,jn mr[k] u 0=true->u.length<=aN ks[k].pat:=λu hu=>OZ hs.lg (((b1 k hk tN).good.1.wR.2.2.2.2 u).1 hu);have eB:dB mr ks nrs b k=wj mr[k] ks[k] (nrs k) b:=gp tN hk;have eW:du mr ks nrs (aZ b ba t) k=wj mr[k] ks[k] (nrs k) (aZ b ba t):=gp tN hk;rw[eB]at hm;rw[eB,eW];have yU:(b.map UInt8.toNat).length=b.length:=List.length_map _;have OS:(wj mr[k] ks[k] (nrs k) b).mg=max (nrs k) 1:=rfl;rw[OS]at hm;have hlt:∀a z,(wj mr[k] ks[k] (nrs k) b).jl a=some z->a<z:=λa z h=>(mL h).1;have uu:∀a z,(wj mr[k] ks[k] (nrs k) (aZ b ba t)).jl a=some z->a<z:=λa z h=>(mL h).1;have Uz:(wj mr[k] ks[k] (nrs k) b).wait=aN ks[k].pat+max (nrs k) 1:=rfl;have hW:=AB (n:=max (nrs k) 1) (wait:=(wj mr[k] ks[k] (nrs k) b).wait) (ba:=ba) (t:=t) (en:=en) (c1:=(wj mr[k] ks[k] (nrs k) (aZ b ba t)).jl) (c2:=(wj mr[k] ks[k] (nrs k) b).jl) (p1:=(wj mr[k] ks[k] (nrs k) (aZ b ba t)).p) (p2:=(wj mr[k] ks[k] (nrs k) b).p) hb
  (λa h1 h2 h3=>by
   show mR mr[k] ks[k].wh (b.map UInt8.toNat) (ba+a)=(mR mr[k] ks[k].wh ((aZ b ba t).map UInt8.toNat) a).map (ba+·);rw[qI];refine S3 (L:=aN ks[k].pat) (mg:=1) (by omega) hL (h3.imp id (λh=>by omega)) ?_ (by omega) (Nat.le_refl _)
   cases en with
   | true=>exact .inl (by rw[yU];exact hen rfl)
   | false=>rw[Uz]at h2;exact .inr (by have:=Nat.le_of_not_lt (λe=>h2 ⟨rfl,e⟩);omega))
  (λa z h1 h2 h3 h4=>by
   show Bt (b.map UInt8.toNat) (hZ ks[k] (nrs k)) (ba+a) (ba+z)=Bt ((aZ b ba t).map UInt8.toNat) (hZ ks[k] (nrs k)) a z;rw[qI];have h4:mR mr[k] ks[k].wh ((aZ b ba t).map UInt8.toNat) a=some z:=h4;rw[qI]at h4;have Uh:=ke (b:=b.map UInt8.toNat) (ba:=ba) (t:=t) (by omega)
   have hz:=mL h4;have hacc:=((mJ mr[k] ks[k].wh _ a z (by omega)).1 h4).1
   have hlen:=hL _ hacc.2.2.1;rw[List.length_take,List.length_drop,Uh]at hlen;refine (Yp (k:=hZ ks[k] (nrs k)) (by omega) (by omega) (by omega) (h3.imp id (λh=>?_)) ?_).symm
   .show nrs k<=a;omega
   .cases en with
    | true=>exact .inl (by rw[yU];exact hen rfl)
    | false=>
     rw[Uz]at h2
     right
     show ba+z+nrs k<=t;have:=Nat.le_of_not_lt (λe=>h2 ⟨rfl,e⟩);omega)
  uu (t-ba+1) (q-ba) (hm.imp id (λh=>by omega))
 rw[show ba+(q-ba)=q by omega]at hW
 rw[mM hlt (t+1) (t-ba+1) q (by omega) (by omega),hW]
 rfl
end
section
set_option linter.unusedVariables false
set_option linter.unusedSimpArgs false
open Go.RowKit
structure jL (b:List UInt8) (ks:List Kn) (mr:List Mc) (nrs:Nat->Nat) (t ba:Nat) (nx:List Nat) (ms:List Mt):Prop where
 amb:t<=b.length
 Ii:ba<=t
 DQ:nx.length=ks.length
 pos:∀k,k<ks.length->nx[k]?=some (rB mr ks nrs b t k).2
 ms:ms.Perm (bY (λk=>(rB mr ks nrs b t k).1) ks.length 0)
 mar:ba=0\/∀k,k<ks.length->ba+(dB mr ks nrs b k).mg<=(rB mr ks nrs b t k).2
 nb:∀k,k<ks.length->(rB mr ks nrs b t k).2<=t
theorem UA {mr:List Mc} {ks:List Kn} {nrs:Nat->Nat} {b:List UInt8} {k a z:Nat} (h:(dB mr ks nrs b k).jl a=some z):a<z/\z<=b.length:=by
 unfold dB du at h
 split at h
 .have:=mL h;rw[List.length_map]at this;exact this
 .cases h
theorem S4 {mr:List Mc} {ks:List Kn} {nrs:Nat->Nat} {b:List UInt8} {k:Nat} (h1:k<mr.length) (h2:k<ks.length):1<=(dB mr ks nrs b k).wait/\1<=(dB mr ks nrs b k).mg:=by
 unfold dB;rw[gp h1 h2];exact ⟨by show 1<=aN ks[k].pat+max (nrs k) 1;omega,by show 1<=max (nrs k) 1;omega⟩
theorem jL.start (b:List UInt8) (ks:List Kn) (mr:List Mc) (nrs:Nat->Nat):jL b ks mr nrs 0 0 (List.replicate ks.length 0) []:=by
 have h0:∀k,rB mr ks nrs b 0 k=([],0):=λk=>by
  unfold rB;rw[bq,if_pos (.inl (Nat.le_refl _))]
 refine ⟨Nat.zero_le _,Nat.le_refl _,List.length_replicate,λk hk=>by rw[h0,List.getElem?_replicate,if_pos hk],?_, .inl rfl,λk hk=>by rw[h0];exact Nat.le_refl _⟩
 have:∀n i,bY (λk=>(rB mr ks nrs b 0 k).1) n i=[]:=by
  intro n
  induction n with
  | zero=>intro i;rfl
  | succ n ih=>intro i;rw[bY,h0,ih];rfl
 rw[this]
def xB (mr:List Mc) (ks:List Kn) (nrs:Nat->Nat) (b:List UInt8) (en:Bool) (t t2 k:Nat):List (Nat×Nat)×Nat:=bq t2 (dB mr ks nrs b k).wait en (dB mr ks nrs b k).jl (dB mr ks nrs b k).p (t2+1) (rB mr ks nrs b t k).2
theorem Ij {mr:List Mc} {ks:List Kn} {nrs:Nat->Nat} {b:List UInt8} {en:Bool} {t t2 k:Nat} (h1:k<mr.length) (h2:k<ks.length) (yV:t<=t2):bq t2 (dB mr ks nrs b k).wait en (dB mr ks nrs b k).jl (dB mr ks nrs b k).p (t2+1) 0=((rB mr ks nrs b t k).1++(xB mr ks nrs b en t t2 k).1,(xB mr ks nrs b en t t2 k).2):=
 vN yV (S4 h1 h2).1 (λa z h=>(UA h).1) (t+1) 0 (t2+1) (by omega) (by omega)
theorem jL.adv {b:List UInt8} {ks:List Kn} {mr pJ:List Mc} {nrs:Nat->Nat} {t ba t2:Nat} {nx:List Nat} {ms:List Mt} {en:Bool} (h:jL b ks mr nrs t ba nx ms) (gu:lT ks 0 mr) (kA:lT ks 0 pJ) (eQ:∀i (h:i<ks.length),qG ks[i] (nrs i)) (yV:t<=t2) (h2:t2<=b.length) (hen:en=true->t2=b.length) {k:Nat} (hk:k<ks.length) :
  ba+(ja en (du pJ ks nrs (aZ b ba t2) k) (t2-ba) ba ((nx[k]?).getD 0)).2=(xB mr ks nrs b en t t2 k).2/\yE k ba (ja en (du pJ ks nrs (aZ b ba t2) k) (t2-ba) ba ((nx[k]?).getD 0)).1=wP k (xB mr ks nrs b en t t2 k).1:=by
 obtain ⟨-,a1,b1⟩:=gu.all;have tN:k<mr.length:=by omega
 have hq:(nx[k]?).getD 0=(rB mr ks nrs b t k).2:=by rw[h.pos k hk];rfl
 rw[hq,rI kA gu];have oc:=h.Ii;have hm:ba=0\/ba+(dB mr ks nrs b k).mg<=(rB mr ks nrs b t k).2:=h.mar.imp id (λh=>h k hk);have hW:=O3 (q:=(rB mr ks nrs b t k).2) (en:=en) gu eQ hk h2 (by omega) (by rcases hm with hm | hm <;> omega) hm hen
 have hx:xB mr ks nrs b en t t2 k=_:=hW;rw[hx];refine ⟨rfl,?_⟩;unfold yE wP;rw[List.map_map]
 rfl
theorem O4 {en:Bool} {D:Nat->DC} {n ba:Nat} {nx:List Nat}:∀k i,k<=nx.length->i<k->(pI en D n ba nx k)[i]?=some (ba+(ja en (D i) n ba ((nx[i]?).getD 0)).2)
 | 0,i,_,h=>by omega
 | k+1,i,hk,hi=>by
  rw[pI];by_cases h:i=k
  .subst h;rw[List.getElem?_set_self (by rw[iB];omega)]
  .rw[List.getElem?_set_ne (by omega)]
   exact O4 k i (by omega) (by omega)
theorem AG {en:Bool} {D:Nat->DC} {n ba:Nat} {nx:List Nat} {ms:List Mt} {f:Nat->List (Nat×Nat)}:∀k,(∀i,i<k->yE i ba (ja en (D i) n ba ((nx[i]?).getD 0)).1=wP i (f i))->stM en D n ba nx ms k=ms++bY f k 0
 | 0,_=>by simp[stM,bY]
 | k+1,h=>by
  rw[stM,AG k (λi hi=>h i (by omega)),yJ,h k (by omega),List.append_assoc,Nat.zero_add]
theorem O5 {en:Bool} {D:Nat->DC} {n ba:Nat} {nx:List Nat} {tt:Int}:∀k,tB en D n ba nx tt k<=tt/\∀i,i<k->tB en D n ba nx tt k<=((ba+(ja en (D i) n ba ((nx[i]?).getD 0)).2:Nat):Int) - ((D i).mg:Int)
 | 0=>⟨Int.le_refl _,λi h=>by omega⟩
 | k+1=>by
  obtain ⟨h1,h2⟩:=O5 (en:=en) (D:=D) (n:=n) (ba:=ba) (nx:=nx) (tt:=tt) k;rw[tB];refine ⟨by omega,λi hi=>?_⟩
  by_cases h:i=k
  .subst h;omega
  .have:=h2 i (by omega);omega
theorem yK {f g h:Nat->List (Nat×Nat)} {n:Nat} {ms:List Mt} (hp:ms.Perm (bY f n 0)) (hh:∀j,j<n->h j=f j++g j):(ms++bY g n 0).Perm (bY h n 0):=by
 have h1:=yD (f:=f) (g:=g) (h:=h) (d:=0) (n:=n) (i:=0) (λj _ hj=>by rw[Du];exact hh j (by omega))
 have h2:SD 0 (bY g n 0)=bY g n 0:=by unfold SD;simp
 rw[h2]at h1;exact (List.Perm.append_right _ hp).trans h1.symm
theorem jL.feed {b:List UInt8} {ks:List Kn} {mr pJ:List Mc} {nrs:Nat->Nat} {t ba t2:Nat} {nx:List Nat} {ms:List Mt} (h:jL b ks mr nrs t ba nx ms) (gu:lT ks 0 mr) (kA:lT ks 0 pJ) (eQ:∀i (h:i<ks.length),qG ks[i] (nrs i)) (yV:t<=t2) (h2:t2<=b.length) :
  ∃S7:Nat,yG (ba:Int) (tB false (du pJ ks nrs (aZ b ba t2)) (t2-ba) ba nx (t2:Int) ks.length)=(S7:Int)/\yF (ba:Int) (tB false (du pJ ks nrs (aZ b ba t2)) (t2-ba) ba nx (t2:Int) ks.length) (aZ b ba t2)=aZ b S7 t2/\jL b ks mr nrs t2 S7 (pI false (du pJ ks nrs (aZ b ba t2)) (t2-ba) ba nx ks.length) (stM false (du pJ ks nrs (aZ b ba t2)) (t2-ba) ba nx ms ks.length):=by
 obtain ⟨-,a1,b1⟩:=gu.all;have hA:=λk (hk:k<ks.length)=>h.adv (en:=false) gu kA eQ yV h2 (λe=>by cases e) hk
 have hC:=λk (hk:k<ks.length)=>Ij (en:=false) (mr:=mr) (nrs:=nrs) (b:=b) (by omega:k<mr.length) hk yV
 have uh:∀k,k<ks.length->(rB mr ks nrs b t2 k).2=(xB mr ks nrs b false t t2 k).2:=λk hk=>by
  have:=congrArg Prod.snd (hC k hk);exact this
 have PL:∀k,k<ks.length->(rB mr ks nrs b t2 k).1=(rB mr ks nrs b t k).1++(xB mr ks nrs b false t t2 k).1:=λk hk=>by
  have:=congrArg Prod.fst (hC k hk);exact this
 have xX:∀k,(rB mr ks nrs b t k).2<=(xB mr ks nrs b false t t2 k).2:=λk=>vO (λa z h=>(UA h).1) _ _;have amc:∀k,k<ks.length->(du pJ ks nrs (aZ b ba t2) k).mg=(dB mr ks nrs b k).mg:=λk hk=>by
  rw[rI kA gu,dB,gp (by omega) hk,gp (by omega) hk];rfl
 obtain ⟨sk,hsk⟩:∃s,tB false (du pJ ks nrs (aZ b ba t2)) (t2-ba) ba nx (t2:Int) ks.length=s:=⟨_,rfl⟩;have hK:=O5 (en:=false) (D:=du pJ ks nrs (aZ b ba t2)) (n:=t2-ba) (ba:=ba) (nx:=nx) (tt:=(t2:Int)) ks.length;rw[hsk]at hK|-;have oc:=h.Ii;have hpos:∀k,k<ks.length->(pI false (du pJ ks nrs (aZ b ba t2)) (t2-ba) ba nx ks.length)[k]?=some (rB mr ks nrs b t2 k).2:=λk hk=>by
  rw[O4 ks.length k (by rw[h.DQ];exact Nat.le_refl _) hk,(hA k hk).1,uh k hk]
 have IU:(stM false (du pJ ks nrs (aZ b ba t2)) (t2-ba) ba nx ms ks.length).Perm (bY (λk=>(rB mr ks nrs b t2 k).1) ks.length 0):=by
  rw[AG (f:=λk=>(xB mr ks nrs b false t t2 k).1) ks.length (λi hi=>(hA i hi).2)];exact yK h.ms (λj hj=>PL j hj)
 have hnb:∀k,k<ks.length->(rB mr ks nrs b t2 k).2<=t2:=λk hk=>by
  have hok:=Ay (mcs:=pJ) (K:=aZ b ba t2) (λi hi=>(eQ i hi).Qe) k;rw[jc h2]at hok;have h8:=h.nb k hk;have hq:(nx[k]?).getD 0=(rB mr ks nrs b t k).2:=by rw[h.pos k hk];rfl
  have h9:=(Ax (en:=false) (ba:=ba) (q:=(nx[k]?).getD 0) hok (by rw[hq];omega)).1
  rw[uh k hk,<-(hA k hk).1];omega
 by_cases hc:(ba:Int)<sk
 .obtain ⟨s,rfl⟩:∃s:Nat,sk=(s:Int):=⟨sk.toNat,by omega⟩
  refine ⟨s,by rw[yG,if_pos hc],?_,h2,by have:=hK.1;omega,by rw[iB,h.DQ],hpos,IU, .inr λk hk=>?_,hnb⟩
  .rw[yF,if_pos hc,show ((s:Int) - (ba:Int)).toNat=s-ba by omega]
   exact Kw (by omega)
  .have h9:=hK.2 k hk;rw[(hA k hk).1,amc k hk]at h9;rw[uh k hk];omega
 .refine ⟨ba,by rw[yG,if_neg hc],by rw[yF,if_neg hc],h2,by omega,by rw[iB,h.DQ],hpos,IU,h.mar.imp id λhm k hk=>?_,hnb⟩
  have h8:=hm k hk;have h9:=xX k;rw[uh k hk];omega
theorem yL {f:Nat->List (Nat×Nat)} {m:Nat}:∀n i,(∀j,i<=j->j<i+n->(f j).length<=m)->(bY f n i).length<=n*m
 | 0,i,_=>by simp[bY]
 | n+1,i,h=>by
  have h1:=yL n (i+1) (λj h1 h2=>h j (by omega) (by omega))
  have h2:=h i (by omega) (by omega)
  rw[bY,List.length_append,wP,List.length_map,Nat.succ_mul];omega
theorem AH {wait t:Nat} {en:Bool} {c:Nat->Option Nat} {p:Nat->Nat->Bool}:∀f a,(bq t wait en c p f a).1.length<=f
 | 0,a=>Nat.le_refl _
 | f+1,a=>by
  rw[bq]
  split
  .exact Nat.zero_le _
  .cases vX:c a with
   | none=>have:=AH (wait:=wait) (t:=t) (en:=en) (c:=c) (p:=p) f (a+1);dsimp only;omega
   | some z=>
    have:=AH (wait:=wait) (t:=t) (en:=en) (c:=c) (p:=p) f z
    dsimp only
    split
    .rw[List.length_cons];omega
    .omega
theorem jL.Sh {b:List UInt8} {ks:List Kn} {mr:List Mc} {nrs:Nat->Nat} {t ba:Nat} {nx:List Nat} {ms:List Mt} (h:jL b ks mr nrs t ba nx ms):ms.length<=ks.length*(t+1):=by
 rw[h.ms.length_eq];exact yL ks.length 0 (λj _ _=>AH (t+1) 0)
theorem jL.ok {b:List UInt8} {ks:List Kn} {mr:List Mc} {nrs:Nat->Nat} {t ba:Nat} {nx:List Nat} {ms:List Mt} (h:jL b ks mr nrs t ba nx ms) (ht:t<=65536):X8 ks.length t ba (aZ b ba t) nx:=by
 refine ⟨ht,by rw[jc h.amb];have:=h.Ii;omega,h.DQ,λx hx=>?_⟩
 obtain ⟨k,hk,rfl⟩:=List.mem_iff_getElem.1 hx;have bM:k<ks.length:=by have:=h.DQ;omega
 have h1:=h.pos k bM;rw[List.getElem?_eq_getElem hk]at h1;injection h1 with h1;rw[h1];exact h.nb k bM
def eB (mr:List Mc) (ks:List Kn) (nrs:Nat->Nat) (b:List UInt8) (k:Nat):List (Nat×Nat):=(dL (dB mr ks nrs b k).jl b.length (b.length+1) 0).filter λq=>(dB mr ks nrs b k).p q.1 q.2
theorem jL.fin {b:List UInt8} {ks:List Kn} {mr pJ:List Mc} {nrs:Nat->Nat} {ba:Nat} {nx:List Nat} {ms:List Mt} (h:jL b ks mr nrs b.length ba nx ms) (gu:lT ks 0 mr) (kA:lT ks 0 pJ) (eQ:∀i (h:i<ks.length),qG ks[i] (nrs i)) :
  (stM true (du pJ ks nrs (aZ b ba b.length)) (b.length-ba) ba nx ms ks.length).Perm (bY (eB mr ks nrs b) ks.length 0):=by
 obtain ⟨-,a1,b1⟩:=gu.all;have hA:=λk (hk:k<ks.length)=>h.adv (en:=true) gu kA eQ (Nat.le_refl _) (Nat.le_refl _) (λ_=>rfl) hk;rw[AG (f:=λk=>(xB mr ks nrs b true b.length b.length k).1) ks.length (λi hi=>(hA i hi).2)];refine yK h.ms (λj hj=>?_);have hC:=Ij (en:=true) (mr:=mr) (nrs:=nrs) (b:=b) (by omega:j<mr.length) hj (Nat.le_refl b.length)
 have h1:=congrArg Prod.fst hC;rw[pd]at h1;exact h1
end
section
set_option linter.unusedVariables false
set_option linter.unusedSimpArgs false
open Go.RowKit
def SM (ks:List Kn) (nrs:Nat->Nat) (ba:Nat) (K:List UInt8) (nx:List Nat) (ms:List Mt) (w:World) (e:Ending) (w':World):Prop:=
 Below w.heap.size w w'/\∃mcs,lT ks 0 mcs/\∃v o,e = .returned (.tuple #[v, .int .i64 0])/\o.Perm (stM true (du mcs ks nrs K) K.length ba nx ms ks.length)/\o.Pairwise mA/\sC w' v o
def aex (xf:KC×M2) (gK fK n c k:Nat):Nat->Nat->Value->World->Prop
 | _,0,x,_=>x = .agg #[.string xf.1.nm, .int .i64 xf.1.op, .slice xf.1.a1 xf.1.n1 xf.1.c1, .slice xf.1.a2 xf.1.n2 xf.1.c2, .int .i64 xf.1.mn, .int .i64 xf.1.mx, .bool xf.1.wh, .int .i64 xf.1.ck, .int .i64 xf.1.en, .slice xf.1.a3 xf.1.n3 xf.1.c3, .int .i64 xf.1.nr, .slice xf.2.a1 xf.2.n1 xf.2.c1, .slice xf.2.a2 xf.2.n2 xf.2.c2]
 | _,1,x,_=>x = .slice (some ⟨gK,fK,none⟩) n c
 | _,2,x,_=>x = .int .i64 (k:Int)
 | _,3,x,_=>x = .pointer (some ⟨gK,fK+k*11,none⟩)
 | _,4,x,_=>x = .agg #[.string xf.1.nm, .int .i64 xf.1.op, .slice xf.1.a1 xf.1.n1 xf.1.c1, .slice xf.1.a2 xf.1.n2 xf.1.c2, .int .i64 xf.1.mn, .int .i64 xf.1.mx, .bool xf.1.wh, .int .i64 xf.1.ck, .int .i64 xf.1.en, .slice xf.1.a3 xf.1.n3 xf.1.c3, .int .i64 xf.1.nr]
 | _,5,x,_=>x = .int .i64 (k:Int)
 | _,_,_,_=>True
set_option maxHeartbeats 16000000 in
theorem vM (A:Option Addr) (n c tt ba:Nat) (us:List KC) (ks:List Kn) (nrs:Nat->Nat) (K:List UInt8) (nx:List Nat) (ms:List Mt) (kv nv mv:Value) (w:World) (h:fu w (.slice A n c) us ks) (hv:cd w) (iO:∀k∈ks,k.nm.size<=140737488355328) (gV:∀er wo,lT ks er wo->er=0) (eQ:∀i (h:i<ks.length),qG ks[i] (nrs i))
  (hs:Lt w K nx ms kv nv mv) (hok:X8 n tt ba K nx) (h5:1<=n/\n<=3) (h7:ms.length<=3000) :
  Calls Tryz.prog 18 #[.slice A n c, .agg #[.int .i64 (tt:Int), .int .i64 (ba:Int),kv,nv,mv]] w (SM ks nrs ba K nx ms w):=by
 obtain ⟨Ak,ck,rfl,-⟩:=id hs.k;obtain ⟨An,cn,rfl,-⟩:=id hs.n;obtain ⟨Am,cm,rfl,-⟩:=id hs.m;have h6:=hok.h1;have hl:=h.1;have FK:us.length=n:=by obtain ⟨-,A',c',e,-⟩:=id h;injection e with _ e _;exact e.symm
 have hkn:ks.length=n:=by omega
 have HF:=Lib.hid (λ(W:World) (hb:Below w.heap.size w W)=>mB A n c us ks W (h.later hb) (hv.later hb) iO);have Ra:=Lib.hid (λ(W:World) (hb:Below w.heap.size w W)=>vL A n c tt ba K nx ms _ _ _ W (hs.later hb) hok.h1 hok.h2 hok.h3 hok.h4 (by omega))
 have MI:=Lib.hid (λ(W:World) (hb:Below w.heap.size w W)=>vJ (tt:Int) (ba:Int) K nx ms _ _ _ W (hs.later hb) (by have:=hok.h2;omega) (by have:=hok.h3;omega) (by omega))
 have HH:=Lib.hid (And.intro h (And.intro hv (And.intro gV (And.intro eQ (And.intro hs (And.intro hok (And.intro trivial (And.intro FK hkn))))))));obtain ⟨K1,Fw⟩:∃z,K=z:=⟨_,rfl⟩;rw[show SM ks nrs ba K nx ms w=SM ks nrs ba K1 nx ms w by rw[Fw]]
 unfold SM;rw[hkn];obtain ⟨n1,pE⟩:∃z,K1.length=z:=⟨_,rfl⟩;have alU:n1+ba=tt:=by have:=hok.h2;rw[<-pE,<-Fw];omega
 rw[pE];have mN:=Lib.hid (And.intro Fw (And.intro pE (show tt+0=tt by omega)))
 clear h hv iO gV eQ hs hok hl FK hkn pE Fw
 go_enter Tryz.func18,Tryz.ntmps18
 go_upto_region 1 with fail
 refine dN λW hW=>?_;have cJ:Below w.heap.size w W:=by rw[hW];exact (Below.refl _ _).alloc (Nat.le_refl _) _
 have pj:W.heap[w.heap.size]?=some (.cells #[.int .i64 (tt:Int), .int .i64 (ba:Int), .slice Ak K.length ck, .slice An nx.length cn, .slice Am ms.length cm] 51 (0,0)):=by rw[hW];exact heap_alloc_new w _
 have HB:=Lib.hid (And.intro cJ (And.intro pj trivial));clear hW cJ pj;go_wp2_with fail;refine (HF.out W HB.out.1).mono ?_;rintro e w1 ⟨hb1,er,mcs,gu,eR⟩;obtain rfl:=HH.out.2.2.1 er mcs gu;obtain ⟨v,fs,rfl,DU,Lp⟩:∃v fs,e = .returned (.tuple #[v, .int .i64 0])/\CB w1 v fs mcs/\fs.map Prod.fst=us:=by
  rcases eR with ⟨h,-⟩ | ⟨-,h⟩
  .exact absurd rfl h
  .exact h
 clear eR;have kF:fs.length=n:=by have h1:=HH.out.2.2.2.2.2.2.2.1;rw[<-Lp,List.length_map]at h1;exact h1
 obtain ⟨gF,fF,cF,rfl,QN,MF⟩:=DD DU (by omega)
 obtain ⟨gK,fK,cK,eK,hgK,hcK⟩:=DF HH.out.1 (by have:=HH.out.2.2.2.2.2.2.2.1;omega)
 injection eK with eK eK2 eK3;subst eK eK3;clear eK2;have mo:=HB.out.1.trans (hb1.mono HB.out.1.size);have bH:=Lib.hid (And.intro hb1 mo);have hb0:=(hb1.block _ (Array.getElem?_eq_some_iff.1 HB.out.2.1).1).trans HB.out.2.1;obtain ⟨c0,c1,c2,c3,c4⟩:=aJ hb0;have lb:w.heap.size<w1.heap.size:=(Array.getElem?_eq_some_iff.1 hb0).1;have lI:=Lib.hid (And.intro gu (And.intro DU (And.intro Lp (And.intro QN (And.intro MF (And.intro hgK hcK))))));have T8:=Lib.hid (Ra.out w1 mo);rw[kF];have Pv:=Lib.hid kF;clear hb1 gu DU Lp QN MF hgK hcK hb0 kF;go_wp2_with fail;refine T8.out.mono ?_;rintro e w2 ⟨rfl,aL⟩;have oG:=mo.trans (aL.mono mo.size);have eO:=Lib.hid (And.intro aL oG);have iU:Below W.heap.size W w2:=bH.out.1.trans (aL.mono bH.out.1.size);have hb0:=(iU.block _ (Array.getElem?_eq_some_iff.1 HB.out.2.1).1).trans HB.out.2.1;clear c0 c1 c2 c3 c4 lb aL;obtain ⟨c0,c1,c2,c3,c4⟩:=aJ hb0;have lb:w.heap.size<w2.heap.size:=(Array.getElem?_eq_some_iff.1 hb0).1;have Ex:=Lib.hid (MI.out w2 oG);clear hb0 iU oG mo;go_wp2_with fail;refine Ex.out.mono ?_;rintro e w3 ⟨A1,d1,A2,d2,A3,d3,rfl,Gs,K8,hm3,dc⟩;clear c0 c1 c2 c3 c4 lb;have zU:K.length=n1:=by rw[mN.out.1];exact mN.out.2.1
 rw[zU]at Gs|-;have H3:=Lib.hid (And.intro Gs (And.intro K8 (And.intro hm3 dc)));have Kr:w2.heap.size<=w3.heap.size:=dc.size;clear Gs K8 hm3 dc zU
 go_upto_region 7 with fail
 refine dN λW6 sA=>?_;have XL:r8 w2.heap.size w3.heap.size tt ba K1 nx ms (.slice A1 n1 d1) (.slice A2 nx.length d2) (.slice A3 ms.length d3) W6/\Below w2.heap.size w2 W6:=by
  rw[sA,<-mN.out.1];exact ⟨⟨heap_alloc_new w3 _,Kr,World.ownsRow.alloc H3.out.1 _,World.ownsRow.alloc H3.out.2.1 _,World.ownsRow.alloc H3.out.2.2.1 _⟩,H3.out.2.2.2.alloc Kr _⟩
 have M9:=Lib.hid XL;clear sA XL;have hD:∀k,(du mcs ks nrs K1 k).ok n1:=λk=>mN.out.2.1▸Ay (λi hi=>(HH.out.2.2.2.1 i hi).Qe) k;obtain ⟨D,X9⟩:∃D,du mcs ks nrs K1=D:=⟨_,rfl⟩;rw[X9]at hD;have OO:∀k:Nat,(nx[k]?).getD 0<=ba+n1:=λk=>by
  cases hk:nx[k]? with
  | none=>exact Nat.zero_le _
  | some q=>
   have:=HH.out.2.2.2.2.2.1.h4 q (List.mem_of_getElem? hk);have h9:=mN.out.2.2;show q<=_;omega
 have HD:=Lib.hid (And.intro hD (And.intro X9 OO));have Jt:=Lib.hid (show OM w2.heap.size w3.heap.size tt ba K1 nx ms (.slice A1 n1 d1) (.slice A2 nx.length d2) (.slice A3 ms.length d3) w2 W6 from ⟨M9.out.1,M9.out.2⟩);have FY:=HH.out.2.2.2.2.2.1.h3;obtain ⟨gN,rfl⟩:∃gN,A2=some ⟨gN,0,none⟩:=by
  rcases Jt.out.s.n.2 with ⟨-,h0⟩ | ⟨g',cap,cur,e,-⟩
  .omega
  .injection e with e _ _;exact ⟨g',e⟩
 rw[FY]at Jt;obtain ⟨SJ,FZ⟩:∃z,Value.slice (some ⟨gN,0,none⟩) n d2=z:=⟨_,rfl⟩;rw[FZ]at Jt;have HNV:=Lib.hid FZ;have Bo:=Lib.hid FY;clear FY;clear hD X9 OO M9 FZ;go_wp2_with fail
 go_loopw [29] (λiv wr=>∃(k:Nat) (Ai:Value),k<=n/\iv = .int .i64 (k:Int)/\Hid (OM w2.heap.size w3.heap.size tt ba K1 (pI true D n1 ba nx k) (stM true D n1 ba nx ms k) (.slice A1 n1 d1) SJ Ai w2 wr)) (λiv _=>(n-intOf iv).toNat)
 case atStart=>exact ⟨0,_,Nat.zero_le _,rfl,Jt.out⟩
 case round=>
  obtain ⟨k,Ai,hk,rfl,HI⟩:=hrel;by_cases hlt:k<n
  .have hd:decide ((k:Int)<(n:Int))=true:=decide_eq_true (by omega)
   have jO:decide (k<n)=true:=decide_eq_true hlt;have F4:Below w1.heap.size w1 wr:=eO.out.1.trans (HI.out.bl.mono eO.out.1.size);have km:k<fs.length:=by rw[Pv.out];exact hlt
   have zE:k<us.length:=by have:=HH.out.2.2.2.2.2.2.2.1;omega
   have hkk:k<ks.length:=by have:=HH.out.2.2.2.2.2.2.2.2;omega
   have tN:k<mcs.length:=by have:=lI.out.2.1.1;omega
   have xr:=λj hj=>(F4.cell (p:=⟨gF,fF+k*13+j,none⟩) lI.out.2.2.2.1).trans (lI.out.2.2.2.2.1 k km j hj);have Ya:fs[k].1=us[k]:=by
    have h1:=lI.out.2.2.1;have h2:us[k]=(fs.map Prod.fst)[k]'(by simpa using km):=by congr 1;exact h1.symm
    rw[h2];simp
   obtain ⟨x,hx⟩:∃x,fs[k]=x:=⟨_,rfl⟩;rw[hx]at xr Ya;obtain ⟨q0,q1,q2,q3,q4,q5,q6,q7,q8,q9,CE,q11,q12⟩:=yH xr;have lgF:gF<wr.heap.size:=Nat.lt_of_lt_of_le lI.out.2.2.2.1 F4.size;have HX:=Lib.hid (And.intro hx Ya);have HDK:=Lib.hid (And.intro hd jO);clear xr hx Ya F4
   go_upto_region 10 with fail
   refine dN λW hW=>?_;have cJ:Below wr.heap.size wr W:=by rw[hW];exact (Below.refl _ _).alloc (Nat.le_refl _) _
   have gU:KV x wr.heap.size W:=by rw[hW];exact heap_alloc_new wr _
   have Yb:=HI.out.later cJ;have vK:Below w.heap.size w W:=eO.out.2.trans (Yb.bl.mono eO.out.2.size);have Bp:∀wz,Below W.heap.size W wz->∀j,j<11->wz.cell? ⟨gK,fK+k*11+j,none⟩=x.1.cs[j]?:=λwz hz j hj=>by
    rw[HX.out.2];exact ((vK.trans (hz.mono vK.size)).cell (p:=⟨gK,fK+k*11+j,none⟩) lI.out.2.2.2.2.2.1).trans (lI.out.2.2.2.2.2.2 k zE j hj)
   have HWW:=Lib.hid (And.intro gU (λwz hz=>gA (Bp wz hz)));have ZC:=Lib.hid (And.intro Yb vK);have eU:Below W.heap.size W W.drew:=(Below.refl _ _).drew;clear hW cJ gU Bp Yb vK q0 q1 q2 q3 q4 q5 q6 q7 q8 q9 CE q11 q12 lgF;refine aq 6 [] (aex x gK fK n c k) (λ_ w'=>Below W.heap.size W w') (by kernel_rfl) (by kernel_rfl) (by kernel_rfl) (by kernel_rfl) (by kernel_rfl) (by kernel_rfl) (by decide) eU ?_ ?_
   .simp only[cP,cQ];refine ae.pure (by decide) ?_ (ae.pure (by decide) ?_ (ae.pure (by decide) ?_ (ae.pure (by decide) ?_ (ae.pure (by decide) ?_ (ae.pure (by decide) ?_ (ae.nil))))))
    all_goals first | (with_reducible intro v wz c aD hS hE K hK;simp only[ai,Act.put,eh,ek,ep,Nat.zero_add,Nat.reduceAdd,cP,cQ]at hK|-) | (intro v wz hS hE K hK;simp only[ai,Act.put,eh,ek,ep,Nat.zero_add,Nat.reduceAdd,cP,cQ]at hK|-)
    .have hz:=HWW.out.1.later hS;obtain ⟨⟨b0,b1,b2,b3,b4,b5⟩,⟨b6,b7,b8,b9,b10⟩,⟨b11,b12⟩,Ls⟩:=hz.cells;clear hz;have HX:=Lib.hid hS;clear hS hE aD;go_wp2_with fail;exact hK.out _ rfl
    .have HX:=Lib.hid hS;clear hS hE aD;go_wp2_with fail;exact hK.out _ rfl
    .have HX:=Lib.hid hS;clear hS hE aD;go_wp2_with fail;exact hK.out _ rfl
    .have e1:v 1=_:=hE.1 rfl;have e2:v 2=_:=hE.2.1 rfl;rw[e1,e2]at hK|-;have al0:=hlt;have hd9:=HDK.out.1;have hd8:=HDK.out.2;have HX:=Lib.hid hS;clear hS hE aD;go_wp2_with fail;exact hK.out _ rfl
    .have e3:v 3=_:=hE.1 rfl;rw[e3]at hK|-;obtain ⟨⟨b0,b1,b2,b3,b4,b5⟩,b6,b7,b8,b9,b10⟩:=HWW.out.2 wz hS;have HX:=Lib.hid hS;clear hS hE aD;go_wp2_with fail;exact hK.out _ rfl
    .have HX:=Lib.hid hS;clear hS hE aD;go_wp2_with fail;exact hK.out _ rfl
   .intro v wz hS hF;have e0:v 0=_:=hF 0 (by decide)
    have e4:v 4=_:=hF 4 (by decide)
    have e5:v 5=_:=hF 5 (by decide)
    simp only[ai,Act.put,eh,ek,ep,Nat.zero_add,Nat.reduceAdd,cP,cQ,List.drop_succ_cons,List.drop_zero,e0,e4,e5];have OP:=ZC.out.1.later hS;have zu:ia w2 x.2.val mcs[k]:=by have h:=lI.out.2.1.2;obtain ⟨A9,c9,-,-,-,h⟩:=h;have h:=h k km tN;rw[HX.out.1]at h;exact h.later eO.out.1
    have bM:sG w2 x.1 ks[k]:=by
     obtain ⟨-,A9,c9,-,-,-,h⟩:=HH.out.1;rw[HX.out.2];exact (h k zE hkk).later eO.out.2
    have F5:=HH.out.2.2.2.1 k hkk;have hAD:=OJ (B:=w2.heap.size) (K:=K1) (A:=A1) (c:=d1) (Nat.le_refl _) zu ((lI.out.1.all.2.2 k hkk tN).good.1.go) bM F5 (HH.out.2.1.later eO.out.2) (by have:=mN.out.2.1;have:=mN.out.2.2;omega) wz OP.bl
    have cR:k<(pI true D n1 ba nx k).length:=by rw[iB,Bo.out];exact hlt
    obtain ⟨q,hq⟩:∃q,(nx[k]?).getD 0=q:=⟨_,rfl⟩;have SK:(pI true D n1 ba nx k)[k]=q:=by
     have h1:=Aq true D n1 ba nx k k (Nat.le_refl _);rw[List.getElem?_eq_getElem cR]at h1;rw[<-hq,<-h1];rfl
    have WW:q<=ba+n1:=hq▸HD.out.2.2 k;have yU:=tC (en:=true) (ms:=ms) HD.out.1 HD.out.2.2 k;have zU:k*(n1+1)<=2*(n1+1):=Nat.mul_le_mul_right _ (by omega)
    have Yc:D k=wj mcs[k] ks[k] (nrs k) K1:=by rw[<-HD.out.2.1];exact gp tN hkk
    have F6:K1.length=n1:=mN.out.2.1;have nZ:=bM.nr.trans F5.nre;have h91:=mN.out.2.2;have Az:=r9 w2.heap.size w3.heap.size tt ba k (nrs k) K1 (pI true D n1 ba nx k) (stM true D n1 ba nx ms k) (.slice A1 n1 d1) SJ Ai x mcs[k] ks[k].pat _ true wz nZ OP.s (by rw[<-F6];exact hAD) cR (by omega) (by omega) (by rw[SK,F6];exact WW) (by rw[iB,Bo.out];omega) (by omega) F5.Qe
    rw[SK]at Az;have eb:bq K1.length (aN ks[k].pat+max (nrs k) 1) true (mR mcs[k] x.1.wh (K1.map UInt8.toNat)) (Bt (K1.map UInt8.toNat) (hZ ks[k] (nrs k))) (K1.length+1) (q-ba)=ja true (D k) n1 ba q:=by
     rw[ja,Yc,F6,bM.wh];rfl
    rw[eb]at Az;have DI:=Az.mono (R':=λe w'=>(∃v,e = .returned v)/\∃oY,OM w2.heap.size w3.heap.size tt ba K1 (pI true D n1 ba nx (k+1)) (stM true D n1 ba nx ms (k+1)) (.slice A1 n1 d1) SJ oY w2 w') (λe w' h=>⟨h.1,by
     obtain ⟨oY,h1,h2⟩:=h.2;refine ⟨oY,?_,OP.bl.trans h2⟩;rw[pI,stM,hq];exact h1⟩)
    have XA:=Lib.hid DI;have HQ:=Lib.hid (And.intro hq (And.intro WW (And.intro nZ (And.intro Yc OP.bl))));clear OP zu bM hAD Az eb DI yU zU Yc F6 SK nZ e0 e4 e5 hF hS eU;go_wp2_with fail;refine XA.out.mono ?_;rintro e w7 ⟨⟨rv,rfl⟩,Yd,hI7⟩;have HI7:=Lib.hid hI7;clear hI7;have hwk:IntKind.i64.wrap ((k:Int)+1)=((k+1:Nat):Int):=by rw[IntWalk.i64_in _ (by omega)];omega
    go_wp2_with fail;refine ⟨⟨k+1,Yd,by omega,rfl,HI7.out⟩,by simp[intOf];omega⟩
  .obtain rfl:k=n:=by omega
   have hd:decide ((k:Int)<(k:Int))=false:=decide_eq_false (by omega)
   have jO:decide (k<k)=false:=decide_eq_false (by omega)
   have Eh:=HI.out;rw[<-HNV.out]at Eh;obtain ⟨Ye,Yf,em,-,-⟩:=ag (show wr.ownsRow _ _ _ _ _ _ from Eh.s.m);obtain ⟨Yg,QH⟩:∃z,(stM true D n1 ba nx ms k).length=z:=⟨_,rfl⟩;have yU:=tC (en:=true) (ms:=ms) HD.out.1 HD.out.2.2 k;have zU:k*(n1+1)<=3*(n1+1):=Nat.mul_le_mul_right _ (by omega)
   have h91:=mN.out.2.2;have pC:=xY (stM true D n1 ba nx ms k) Ai w2.heap.size wr Eh.s.m (by omega)
   rw[QH]at em;subst em;obtain ⟨c0,c1,c2,c3,c4⟩:=Eh.s.cells;have lb:=Eh.s.lt;have HSO:=Lib.hid pC;have xb:=Lib.hid Eh;clear Eh QH yU zU pC;go_wp2_with fail;refine HSO.out.mono ?_;rintro e w7 ⟨rfl,o,jS,CF,hmt,hg⟩;have sQ:=(hg.block w3.heap.size xb.out.s.lt (λe=>by
    obtain ⟨cs',mm,h⟩:=aT xb.out.s.m w3.heap.size e.symm;rw[xb.out.s.box]at h;injection h with h;injection h with _ h _;exact absurd h (by decide))).trans xb.out.s.box
   have DK:Below w2.heap.size w2 w7:=xb.out.bl.grown hg xb.out.bl.size (λq hq=>(World.ownsRow.lt xb.out.s.m q hq).1);clear c0 c1 c2 c3 c4 lb;obtain ⟨c0,c1,c2,c3,c4⟩:=aJ sQ;have lb:w3.heap.size<w7.heap.size:=(Array.getElem?_eq_some_iff.1 sQ).1;have H7:=Lib.hid (And.intro jS (And.intro CF (And.intro hmt DK)));clear jS CF hmt DK sQ hg;go_wp2_with fail
   go_ret2
   refine ⟨eO.out.2.trans (H7.out.2.2.2.mono eO.out.2.size),mcs,lI.out.1,_,o,rfl,?_,H7.out.2.1,H7.out.2.2.1⟩;rw[HD.out.2.1];exact H7.out.1
end
section
set_option linter.unusedVariables false
set_option linter.unusedSimpArgs false
open Go.RowKit
theorem yI:∀n,aY yA (List.replicate n 0)=List.replicate n (Value.int .i64 0)
 | 0=>rfl
 | n+1=>by
  rw[List.replicate_succ,List.replicate_succ];show yA 0++aY yA (List.replicate n 0)=_;rw[yI n];rfl
set_option maxHeartbeats 4000000 in
theorem Ic (A:Option Addr) (n c:Nat) (us:List KC) (ks:List Kn) (w:World) (h:fu w (.slice A n c) us ks) (hv:cd w) (iO:∀k∈ks,k.nm.size<=140737488355328) (gV:∀er wo,lT ks er wo->er=0) (h5:1<=n/\n<=3) :
  Calls Tryz.prog 16 #[.slice A n c] w λe w'=>Below w.heap.size w w'/\∃nv mr,lT ks 0 mr/\e = .returned (.tuple #[.agg #[.int .i64 0, .int .i64 0, .slice none 0 0,nv, .slice none 0 0], .int .i64 0])/\DG w.heap.size w' [] (List.replicate n 0) [] (.slice none 0 0) nv (.slice none 0 0):=by
 have HV:=Lib.hid (λ(W:World) (hb:Below w.heap.size w W)=>FA A n c us ks W (h.later hb) (hv.later hb) iO);have HG:=Lib.hid gV;clear h hv iO gV;have hmk:=λw=>Ca n (by omega) w
 go_enter Tryz.func16,Tryz.ntmps16
 go_upto_region 1 with fail
 refine dN λW hW=>?_;have cJ:Below w.heap.size w W:=by rw[hW];exact (Below.refl _ _).alloc (Nat.le_refl _) _
 have pj:W.heap[w.heap.size]?=some (.cells #[.int .i64 0, .int .i64 0, .slice none 0 0, .slice none 0 0, .slice none 0 0] 51 (0,0)):=by rw[hW];exact heap_alloc_new w _
 have HB:=Lib.hid (And.intro cJ pj);clear hW cJ pj;go_wp2_with fail;refine (HV.out W HB.out.1).mono ?_;rintro e w1 ⟨hb1,er,wo,gu,rfl⟩;obtain rfl:=HG.out er wo gu;have gU:=(hb1.block _ (Array.getElem?_eq_some_iff.1 HB.out.2).1).trans HB.out.2;obtain ⟨c0,c1,c2,c3,c4⟩:=aJ gU;have fr:∀j,w1.frozen? ⟨w.heap.size,j,none⟩=false:=λj=>by simp[World.frozen?,gU]
 have f0:=fr 0;have f1:=fr 1;have f2:=fr 2;have f3:=fr 3;have f4:=fr 4;have lb:w.heap.size<w1.heap.size:=(Array.getElem?_eq_some_iff.1 gU).1;have H1:=Lib.hid (And.intro (HB.out.1.trans (hb1.mono HB.out.1.size)) gU);have HLA:=Lib.hid gu;clear hb1 gu gU fr;go_wp2_with fail;refine ar λWf cH=>?_;obtain ⟨X,hX⟩:∃X,((((w1.setCell ⟨w.heap.size,0,none⟩ (.int .i64 0)).setCell ⟨w.heap.size,1,none⟩ (.int .i64 0)).setCell ⟨w.heap.size,2,none⟩ (.slice none 0 0)).setCell ⟨w.heap.size,3,none⟩ (.slice (some ⟨w1.heap.size,0,none⟩) n n)).setCell ⟨w.heap.size,4,none⟩ (.slice none 0 0)=X:=⟨_,rfl⟩;rw[hX]at cH;have hXs:X.heap.size=w1.heap.size:=by rw[<-hX];simp[World.setCell]
 have hXr:X.heap[w.heap.size]?=some (.cells #[.int .i64 0, .int .i64 0, .slice none 0 0, .slice (some ⟨w1.heap.size,0,none⟩) n n, .slice none 0 0] 51 (0,0)):=by
  rw[<-hX];simp[World.setCell,Array.getElem?_modify,H1.out.2]
 have Tu:Below w.heap.size w X:=by
  rw[<-hX]
  iterate 5 (refine Below.setCell ?_ (by dsimp only;omega) _)
  exact H1.out.1
 have hrow:Wf.heap[w.heap.size]?=some (.cells #[.int .i64 0, .int .i64 0, .slice none 0 0, .slice (some ⟨w1.heap.size,0,none⟩) n n, .slice none 0 0] 51 (0,0)):=by
  rw[cH];exact (au X _ w.heap.size (by omega)).trans hXr
 have jU:OR 3 1 yA w.heap.size (.slice (some ⟨w1.heap.size,0,none⟩) n n) (List.replicate n 0) Wf:=by
  have h:=World.ownsRow_lit (base:=w.heap.size) (e:=3) (size:=1) X (Array.replicate n (.int .i64 0)) n Tu.size (by unfold maxLen;omega) (by simp)
  rw[cH];show World.ownsRow _ _ _ _ _ _ _;rw[List.length_replicate,yI,<-hXs];simpa using h
 have oH:Below w.heap.size w Wf:=by rw[cH];exact Tu.alloc Tu.size _
 clear cH hX hXs hXr Tu;refine bodyPost_ret (v:=.tuple #[.agg #[.int .i64 0, .int .i64 0, .slice none 0 0, .slice (some ⟨w1.heap.size,0,none⟩) n n, .slice none 0 0], .int .i64 0]) (fL (p:=2) (u:=3) rfl _ _ w.heap.size 51 _ (0,0) _ rfl hrow Tryz.underlying51 rfl iA) rfl ?_;exact ⟨oH,_,wo,HLA.out,rfl,OB.ic _ _ _,jU,OR.ic _ _ _⟩
end
section
set_option linter.unusedVariables false
set_option linter.unusedSimpArgs false
open Go.RowKit
theorem qJ (A:Option Addr) (c t t2 ba:Nat) (us:List KC) (ks:List Kn) (nrs:Nat->Nat) (b:List UInt8) (mr:List Mc) (nx:List Nat) (ms:List Mt) (kv nv mv pv:Value) (w:World) (h:fu w (.slice A ks.length c) us ks) (hv:cd w) (iO:∀k∈ks,k.nm.size<=140737488355328) (gV:∀er wo,lT ks er wo->er=0) (eQ:∀i (h:i<ks.length),qG ks[i] (nrs i)) (gu:lT ks 0 mr)
  (hs:Lt w (aZ b ba t) nx ms kv nv mv) (hI:jL b ks mr nrs t ba nx ms) (yV:t<=t2) (h2:t2<=b.length) (hp:rH tz 1 w pv (aZ b t t2)) (h5:1<=ks.length/\ks.length<=3) (hb:b.length<=900) :
  Calls Tryz.prog 17 #[.slice A ks.length c, .agg #[.int .i64 (t:Int), .int .i64 (ba:Int),kv,nv,mv],pv] w λe w'=>Below w.heap.size w w'/\∃(S7:Nat) (YL:List Nat) (ms':List Mt) (SV SX oY:Value),e = .returned (.tuple #[.agg #[.int .i64 (t2:Int), .int .i64 (S7:Int),SV,SX,oY], .int .i64 0])/\DG w.heap.size w' (aZ b S7 t2) YL ms' SV SX oY/\jL b ks mr nrs t2 S7 YL ms':=by
 have oc:=hI.Ii;have zA:(aZ b t t2).length=t2-t:=jc h2;have yU:=hI.Sh;have hmm:ks.length*(t+1)<=3*(t+1):=Nat.mul_le_mul_right _ h5.2;refine (DH A ks.length c t ba us ks nrs (aZ b ba t) (aZ b t t2) nx ms kv nv mv pv w h hv iO gV eQ hs (hI.ok (by omega)) hp h5 (by omega) (by omega)).mono ?_
 rintro e w' ⟨aP,mcs,kA,SV,SX,oY,rfl,hsc⟩;obtain ⟨S7,e1,e2,hI2⟩:=hI.feed gu kA eQ yV h2;rw[O2 oc yV,zA,show t+(t2-t)=t2 by omega,jc h2]at hsc|-
 rw[e2]at hsc;rw[e1];exact ⟨aP,S7,_,_,SV,SX,oY,rfl,hsc,hI2⟩
theorem S8 (A:Option Addr) (c ba:Nat) (us:List KC) (ks:List Kn) (nrs:Nat->Nat) (b:List UInt8) (mr:List Mc) (nx:List Nat) (ms:List Mt) (kv nv mv:Value) (w:World) (h:fu w (.slice A ks.length c) us ks) (hv:cd w) (iO:∀k∈ks,k.nm.size<=140737488355328) (gV:∀er wo,lT ks er wo->er=0) (eQ:∀i (h:i<ks.length),qG ks[i] (nrs i)) (gu:lT ks 0 mr)
  (hs:Lt w (aZ b ba b.length) nx ms kv nv mv) (hI:jL b ks mr nrs b.length ba nx ms) (h5:1<=ks.length/\ks.length<=3) (hb:b.length<=900) :
  Calls Tryz.prog 18 #[.slice A ks.length c, .agg #[.int .i64 (b.length:Int), .int .i64 (ba:Int),kv,nv,mv]] w λe w'=>Below w.heap.size w w'/\∃v o,e = .returned (.tuple #[v, .int .i64 0])/\o.Perm (bY (eB mr ks nrs b) ks.length 0)/\o.Pairwise mA/\sC w' v o:=by
 have yU:=hI.Sh;have hmm:ks.length*(b.length+1)<=3*(b.length+1):=Nat.mul_le_mul_right _ h5.2;refine (vM A ks.length c b.length ba us ks nrs (aZ b ba b.length) nx ms kv nv mv w h hv iO gV eQ hs (hI.ok (by omega)) h5 (by omega)).mono ?_
 rintro e w' ⟨aP,mcs,kA,v,o,rfl,hp,pC,hm⟩;rw[jc (Nat.le_refl _)]at hp;exact ⟨aP,v,o,rfl,hp.trans (hI.fin gu kA eQ),pC,hm⟩
theorem Yq {ks:List Kn} {mr pJ:List Mc} (gu:lT ks 0 mr) (kA:lT ks 0 pJ) (nrs:Nat->Nat) (b:List UInt8) (i:Nat) (hi:i<ks.length):evK ks pJ (b.map UInt8.toNat) (λj=>Bt (b.map UInt8.toNat) (hZ ((ks[j]?).getD ks[0]) (nrs j))) i=eB mr ks nrs b i:=by
 obtain ⟨-,a1,b1⟩:=gu.all;obtain ⟨-,a2,b2⟩:=kA.all;unfold evK eB;rw[List.getElem?_eq_getElem hi,List.getElem?_eq_getElem (show i<pJ.length by omega)]
 simp only[Option.map_some,Option.getD_some];have e:dB mr ks nrs b i=wj pJ[i] ks[i] (nrs i) b:=by unfold dB;rw[rI gu kA,gp (by omega) hi]
 rw[e];show (Gt pJ[i] ks[i].wh (b.map UInt8.toNat)).filter _=(dL (mR pJ[i] ks[i].wh (b.map UInt8.toNat)) b.length (b.length+1) 0).filter _;unfold Gt;rw[List.length_map]
 congr 1
 .rw[List.getElem?_eq_getElem hi]
  rfl
 exact jT (mR pJ[i] ks[i].wh (b.map UInt8.toNat)) b.length (λj t hj h=>(mL h).1) b.length (b.length+1) 0 (by omega) (by omega)
theorem S9 (A:Option Addr) (c:Nat) (us:List KC) (ks:List Kn) (nrs:Nat->Nat) (b:List UInt8) (mr:List Mc) (At:Option Addr) (ct:Nat) (w:World) (h:fu w (.slice A ks.length c) us ks) (hv:cd w) (iO:∀k∈ks,k.nm.size<=140737488355328) (gV:∀er wo,lT ks er wo->er=0) (eQ:∀i (h:i<ks.length),qG ks[i] (nrs i)) (gu:lT ks 0 mr) (ht:Th w At b.length ct (b.map UInt8.toNat)) (h5:1<=ks.length/\ks.length<=3) (hb:b.length<=900) :
  Calls Tryz.prog 9 #[.slice A ks.length c, .slice At b.length ct] w λe w'=>Below w.heap.size w w'/\∃v o,e = .returned (.tuple #[v, .int .i64 0])/\o.Perm (bY (eB mr ks nrs b) ks.length 0)/\o.Pairwise mA/\sC w' v o:=by
 have oM:ks.length*b.length<=900000:=Nat.le_trans (Nat.mul_le_mul h5.2 hb) (by decide)
 refine (Ow A ks.length c us ks At b.length ct (b.map UInt8.toNat) (λj=>Bt (b.map UInt8.toNat) (hZ ((ks[j]?).getD (ks[0]'(by omega))) (nrs j))) w h hv iO ht.ku ht.len ht.small oM ht.bt (λi hi=>?_)).mono ?_
 .intro W a z hW h1 h2;have ez:i<ks.length:=by have:=h.1;omega
  rw[List.getElem?_eq_getElem ez];obtain ⟨-,A',c',-,-,-,hk⟩:=id h;exact Gd us[i] (hZ ks[i] (nrs i)) At b.length ct a z (b.map UInt8.toNat) W (ht.later hW) (by omega) h2 (((hk i hi ez).later hW).psK (eQ i ez)) (hv.later hW)
 .rintro e w' ⟨aP,er,pJ,kA,eR⟩;obtain rfl:=gV er pJ kA;rcases eR with ⟨h1,-⟩ | ⟨-,h1,-⟩ | ⟨-,-,v,o,rfl,hm,hp,pC⟩
  .exact absurd rfl h1
  .rw[List.length_map]at h1;omega
  .rw[oW (λj _ hj=>Yq gu kA nrs b j (by omega))]at hp
   exact ⟨aP,v,o,rfl,hp,pC,hm⟩
set_option maxHeartbeats 4000000 in
theorem DR (v1 v2:Value) (o:List Mt) (w:World) (h1:sC w v1 o) (h2:sC w v2 o):Calls Tryz.prog 21 #[v1,v2] w λe w'=>e = .returned (.bool true)/\Below w.heap.size w w':=by
 obtain ⟨A1,c1,rfl,tG,kI⟩:=h1;obtain ⟨A2,c2,rfl,sV,lu⟩:=h2;obtain ⟨n,hn⟩:∃n,o.length=n:=⟨_,rfl⟩;have HR:=Lib.hid (And.intro kI (And.intro lu hn));rw[hn]at tG|-;have hne:((n:Int) == (n:Int))=true:=by simp
 clear kI lu hn sV
 go_enter Tryz.func21,Tryz.ntmps21
 go_wp2_with fail
 go_loopw [5] (λiv wr=>∃k:Nat,k<=n/\iv = .int .i64 (k:Int)/\Below w.heap.size w wr) (λiv _=>(n-intOf iv).toNat)
 case atStart=>exact ⟨0,Nat.zero_le _,rfl,Below.refl _ _⟩
 case round=>
  obtain ⟨k,hk,rfl,hb⟩:=hrel;by_cases hlt:k<n
  .have hd:decide ((k:Int)<(n:Int))=true:=decide_eq_true (by omega)
   have jO:decide (k<n)=true:=decide_eq_true hlt;have Bf:k<o.length:=by rw[HR.out.2.2];exact hlt
   have G8:¬o=[]:=by rintro rfl;cases Bf
   obtain ⟨g1,f1,rfl,et,hq1⟩:=HR.out.1.resolve_left G8;obtain ⟨g2,f2,rfl,jC,hq2⟩:=HR.out.2.1.resolve_left G8;obtain ⟨x,hx⟩:∃x,o[k]=x:=⟨_,rfl⟩;have a0:=(hb.cell (p:=⟨g1,f1+k*3+0,none⟩) et).trans (hq1 k Bf 0 (by decide))
   have a1:=(hb.cell (p:=⟨g1,f1+k*3+1,none⟩) et).trans (hq1 k Bf 1 (by decide))
   have a2:=(hb.cell (p:=⟨g1,f1+k*3+2,none⟩) et).trans (hq1 k Bf 2 (by decide))
   have b0:=(hb.cell (p:=⟨g2,f2+k*3+0,none⟩) jC).trans (hq2 k Bf 0 (by decide))
   have b1:=(hb.cell (p:=⟨g2,f2+k*3+1,none⟩) jC).trans (hq2 k Bf 1 (by decide))
   have b2:=(hb.cell (p:=⟨g2,f2+k*3+2,none⟩) jC).trans (hq2 k Bf 2 (by decide))
   rw[hx]at a0 a1 a2 b0 b1 b2;simp only[Nat.add_zero,cV,List.getElem?_cons_zero,List.getElem?_cons_succ]at a0 a1 a2 b0 b1 b2;have l1:g1<wr.heap.size:=Nat.lt_of_lt_of_le et hb.size;have l2:g2<wr.heap.size:=Nat.lt_of_lt_of_le jC hb.size;have hw:IntKind.i64.wrap ((k:Int)+1)=((k+1:Nat):Int):=by rw[IntWalk.i64_in _ (by omega)];omega
   have HB:=Lib.hid hb;clear hq1 hq2 hx G8 Bf hb
   go_upto_region 6 with fail
   go_region
   go_wp2_with fail;refine ⟨⟨k+1,by omega,rfl,HB.out.trans (Below.refl _ _).drew⟩,by simp[intOf];omega⟩
  .obtain rfl:k=n:=by omega
   have hd:decide ((k:Int)<(k:Int))=false:=decide_eq_false (by omega)
   have jO:decide (k<k)=false:=decide_eq_false (by omega)
   go_wp2_with fail;go_ret;exact ⟨rfl,hb⟩
end
section
set_option linter.unusedVariables false
set_option linter.unusedSimpArgs false
open Go.RowKit
def xK:Kn:=⟨⟨#[120]⟩,iG 0,false,0,0,[],0⟩
theorem SN:G3 xK:=by
 refine ⟨?_,?_,?_,?_⟩
 .rw[show bl xK.nm=[120] by kernel_rfl];decide
 .decide
 .decide
 .decide
theorem OV {er:Int} {ms:List Mc} (h:lT [xK] er ms):er=0:=h.ok (by decide) (by decide) (λk hk=>by rw[List.mem_singleton]at hk;rw[hk];exact SN) (by decide)
theorem aey:qG xK 0:=⟨rfl,by decide,(λs hs=>absurd hs (by simp[xK])),by decide,by decide⟩
theorem Uw {ms:List Mc} (h:lT [xK] 0 ms):∃m,ms=[m]/\∀u,jn m u 0=true↔cI (iG 0) u:=by
 obtain ⟨-,h1,h2⟩:=h.all
 match ms,h1 with
 | [m],_=>exact ⟨m,rfl,(h2 0 (by decide) (by simp)).good.1.wR.2.2.2.2⟩
theorem SP:cI (iG 0) [116,107,49,50]:=by
 refine (?_:mE [vw 116,vw 107,Hx [(48,57)] 2 4] [116,107,49,50]);refine ⟨[116],[107,49,50],rfl,?_,[107],[49,50],rfl,?_,[49,50],[],rfl,?_,rfl⟩
 .exact ⟨116,rfl,by decide⟩
 .exact ⟨107,rfl,by decide⟩
 .refine ⟨2,by decide,by decide,?_⟩
  refine ⟨[49],[50],rfl,⟨[],[49],rfl,rfl,?_⟩,?_⟩
  .exact ⟨49,rfl,by decide⟩
  .exact ⟨50,rfl,by decide⟩
theorem Yi {m:Mc} (h:∀u,jn m u 0=true↔cI (iG 0) u):mR m false [116,107,49,50] 0=some 4:=by
 refine (mJ m false _ 0 4 (by decide)).2 ⟨⟨by decide,by decide,(h _).2 SP,by decide⟩,λx hx=>hx.2.1⟩
theorem SQ (l:List Nat) (a z:Nat):Bt l (hZ xK 0) a z=true:=by
 unfold Bt Lz hZ xK;simp[Qd]
theorem OW {ms:List Mc} (h:lT [xK] 0 ms) (K:List UInt8) (n:Nat) (h1:n<=4):pI false (du ms [xK] (λ_=>0) K) n 0 [0] 1=[0]/\stM false (du ms [xK] (λ_=>0) K) n 0 [0] [] 1=[]/\tB false (du ms [xK] (λ_=>0) K) n 0 [0] n 1=-1:=by
 obtain ⟨m,rfl,hm⟩:=Uw h;have hD:du [m] [xK] (λ_=>0) K 0=wj m xK 0 K:=rfl;have hR:ja false (wj m xK 0 K) n 0 0=([],0):=by
  show bq n 7 false _ _ (n+1) (0 - 0)=_;rw[bq,if_pos (.inr ⟨rfl,by omega⟩)]
 refine ⟨?_,?_,?_⟩
 .rw[pI,pI,hD];show [0].set 0 (0+(ja false _ n 0 0).2)=_;rw[hR];rfl
 .rw[stM,stM,hD];show []++yE 0 0 (ja false _ n 0 0).1=_;rw[hR];rfl
 .rw[tB,tB,hD];show min (n:Int) (((0+(ja false _ n 0 0).2:Nat):Int) - 1)=_;rw[hR];show min (n:Int) (0 - 1)=-1;omega
theorem SR {ms:List Mc} (h:lT [xK] 0 ms):stM true (du ms [xK] (λ_=>0) [116,107,49,50]) 4 0 [0] [] 1=[⟨0,0,4⟩]:=by
 obtain ⟨m,rfl,hm⟩:=Uw h;have hD:du [m] [xK] (λ_=>0) [116,107,49,50] 0=wj m xK 0 [116,107,49,50]:=rfl;have hR:ja true (wj m xK 0 [116,107,49,50]) 4 0 0=([(0,4)],4):=by
  have hp:∀a z,Bt (([116,107,49,50]:List UInt8).map UInt8.toNat) (hZ xK 0) a z=true:=SQ _;have hc:mR m false (([116,107,49,50]:List UInt8).map UInt8.toNat) 0=some 4:=Yi hm;show bq 4 7 true (mR m false (([116,107,49,50]:List UInt8).map UInt8.toNat)) (Bt (([116,107,49,50]:List UInt8).map UInt8.toNat) (hZ xK 0)) (4+1) (0 - 0)=_;rw[bq,if_neg (λh3=>h3.elim (λh3=>by omega) (λh3=>by cases h3.1)),show (0 - 0:Nat)=0 from rfl,hc]
  simp only[hp,if_true];rw[bq,if_pos (.inl (Nat.le_refl _))]
 rw[stM,stM,hD];show []++yE 0 0 (ja true _ 4 0 0).1=_;rw[hR];rfl
end
section
set_option linter.unusedVariables false
set_option linter.unusedSimpArgs false
open Go.RowKit
def xU (A1:Option Addr) (c1:Nat) (A2:Option Addr) (c2:Nat):KC:=⟨⟨#[120]⟩,2,A1,0,c1,A2,3,c2,0,0,false,0,0,none,0,0,0⟩
def Yj (A1:Option Addr) (c1:Nat) (A2:Option Addr) (c2:Nat):Array Value:=#[.string ⟨#[120]⟩, .int .i64 2, .slice A1 0 c1, .slice A2 3 c2, .int .i64 0, .int .i64 0, .bool false, .int .i64 0, .int .i64 0, .slice none 0 0, .int .i64 0]
theorem aez {g:Nat} {A1:Option Addr} {c1:Nat} {A2:Option Addr} {c2:Nat} {w:World} (hn:bX w (iG 0) [.int .i64 2, .slice A1 0 c1, .slice A2 3 c2, .int .i64 0, .int .i64 0]) (hg:w.heap[g]?=some (.cells (Yj A1 c1 A2 c2) 44 (0,0))):fu w (.slice (some ⟨g,0,none⟩) 1 1) [xU A1 c1 A2 c2] [xK]:=by
 refine ⟨rfl,some ⟨g,0,none⟩,1,rfl,⟨Nat.le_refl _,by decide⟩, .inr ⟨g,0,rfl,(Array.getElem?_eq_some_iff.1 hg).1,λi hi j hj=>?_⟩,λi h1 h2=>?_⟩
 .have DZ:i=0:=by simp at hi;omega
  subst DZ;rw[cell_of_row _ _ _ _ _ _ hg]
  first | rfl | simp[Yj,KC.cs,xU]
 .have DZ:i=0:=by simp at h1;omega
  subst DZ;exact ⟨rfl,hn,rfl,rfl,rfl,⟨none,0,rfl,⟨Nat.le_refl _,by decide⟩, .inl rfl⟩,rfl⟩
theorem Yk:∀k∈[xK],k.nm.size<=140737488355328:=λk hk=>by rw[List.mem_singleton]at hk;rw[hk];decide
theorem aeA:∀i (h:i<[xK].length),qG [xK][i] ((λ_=>0) i):=λi h=>by
 have DZ:i=0:=by simp at h;omega
 subst DZ;exact aey
theorem DL (A:Option Addr) (c:Nat) (us:List KC) (K P:List UInt8) (kv nv mv pv:Value) (w:World) (h:fu w (.slice A 1 c) us [xK]) (hv:cd w) (hs:Lt w K [0] [] kv nv mv) (hp:rH tz 1 w pv P) (hl:(K++P).length<=4) :
  Calls Tryz.prog 17 #[.slice A 1 c, .agg #[.int .i64 (K.length:Int), .int .i64 0,kv,nv,mv],pv] w λe w'=>Below w.heap.size w w'/\∃SV SX oY,e = .returned (.tuple #[.agg #[.int .i64 ((K++P).length:Int), .int .i64 0,SV,SX,oY], .int .i64 0])/\DG w.heap.size w' (K++P) [0] [] SV SX oY:=by
 have hlp:K.length+P.length=(K++P).length:=by rw[List.length_append]
 refine (DH A 1 c K.length 0 us [xK] (λ_=>0) K P [0] [] kv nv mv pv w h hv Yk (λer wo h=>OV h) aeA hs ⟨by omega,rfl,rfl,λx hx=>by rw[List.mem_singleton]at hx;omega⟩ hp ⟨Nat.le_refl _,by decide⟩ (by omega) (by decide)).mono ?_
 rintro e w' ⟨hb,mcs,gu,SV,SX,oY,rfl,hsc⟩;obtain ⟨t1,t2,t3⟩:=OW gu (K++P) (K++P).length hl;rw[hlp]at hsc|-;rw[show [xK].length=1 from rfl,t1,t2,t3]at hsc;rw[show [xK].length=1 from rfl,t3];exact ⟨hb,SV,SX,oY,rfl,hsc⟩
theorem SY (A:Option Addr) (c:Nat) (us:List KC) (kv nv mv:Value) (w:World) (h:fu w (.slice A 1 c) us [xK]) (hv:cd w) (hs:Lt w [116,107,49,50] [0] [] kv nv mv) :
  Calls Tryz.prog 18 #[.slice A 1 c, .agg #[.int .i64 4, .int .i64 0,kv,nv,mv]] w λe w'=>Below w.heap.size w w'/\∃v,e = .returned (.tuple #[v, .int .i64 0])/\sC w' v [⟨0,0,4⟩]:=by
 refine (vM A 1 c 4 0 us [xK] (λ_=>0) [116,107,49,50] [0] [] kv nv mv w h hv Yk (λer wo h=>OV h) aeA hs ⟨by decide,rfl,rfl,λx hx=>by rw[List.mem_singleton]at hx;omega⟩ ⟨Nat.le_refl _,by decide⟩ (by decide)).mono ?_
 rintro e w' ⟨hb,mcs,gu,v,o,rfl,hp,-,hm⟩;have h1:=SR gu;have h2:o.Perm [⟨0,0,4⟩]:=by rw[<-h1];exact hp
 rw[List.perm_singleton.1 h2]at hm;exact ⟨hb,v,rfl,hm⟩
end
end Go.Proofs.YtdmoogjddmdmbaaGreatDoor
