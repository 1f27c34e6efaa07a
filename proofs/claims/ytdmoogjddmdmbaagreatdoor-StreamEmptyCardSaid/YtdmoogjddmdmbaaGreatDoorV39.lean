/- Walks. -/
import Derived.Test.YtdmoogjddmdmbaaGreatDoorV36
import Derived.Test.YtdmoogjddmdmbaaGreatDoorV38
import Derived.Test.YtdmoogjddmdmbaaGreatDoorV16
import Derived.Test.YtdmoogjddmdmbaaGreatDoorV26
import Derived.Test.YtdmoogjddmdmbaaGreatDoorV25
import Derived.Test.YtdmoogjddmdmbaaGreatDoorV11
import Derived.Deep.RegionHeld3
import Derived.BigRegion
import Derived.Test.YtdmoogjddmdmbaaGreatDoorV07
import Derived.Test.YtdmoogjddmdmbaaGreatDoorV27
import Derived.Test.YtdmoogjddmdmbaaGreatDoorV28
set_option maxRecDepth 100000
set_option maxHeartbeats 16000000
set_option linter.unusedVariables false
set_option linter.unusedSimpArgs false
namespace Go.Proofs.YtdmoogjddmdmbaaGreatDoor
open Go.RowKit
section
set_option linter.unusedVariables false
set_option linter.unusedSimpArgs false
open Go.RowKit
def qg (u:KC) (v:Value) (n:Nat) (p:Nat->Nat->Bool) (w:World):Prop:=∀W a z,Below w.heap.size w W->a<z->z<=n->Calls Tryz.prog 96 #[.agg #[.string u.nm, .int .i64 u.op, .slice u.a1 u.n1 u.c1, .slice u.a2 u.n2 u.c2, .int .i64 u.mn, .int .i64 u.mx, .bool u.wh, .int .i64 u.ck, .int .i64 u.en, .slice u.a3 u.n3 u.c3, .int .i64 u.nr],v, .int .i64 (a:Int), .int .i64 (z:Int)] W λe w'=>e = .returned (.bool (p a z))/\Below W.heap.size W w'
theorem qg.later {u:KC} {v:Value} {n:Nat} {p:Nat->Nat->Bool} {w w':World} (h:qg u v n p w) (hb:Below w.heap.size w w'):qg u v n p w':=λW a z hW=>h W a z (hb.trans (hW.mono hb.size))
theorem rZ (x:KC×M2) (v:Value) (n a z:Nat) (p:Nat->Nat->Bool) (w:World) (hp:qg x.1 v n p w) (h1:a<z) (h2:z<=n) :
  Calls Tryz.prog 76 #[.agg #[.string x.1.nm, .int .i64 x.1.op, .slice x.1.a1 x.1.n1 x.1.c1, .slice x.1.a2 x.1.n2 x.1.c2, .int .i64 x.1.mn, .int .i64 x.1.mx, .bool x.1.wh, .int .i64 x.1.ck, .int .i64 x.1.en, .slice x.1.a3 x.1.n3 x.1.c3, .int .i64 x.1.nr, .slice x.2.a1 x.2.n1 x.2.c1, .slice x.2.a2 x.2.n2 x.2.c2],v, .int .i64 (a:Int), .int .i64 (z:Int)] w λe w'=>e = .returned (.bool (p a z))/\Below w.heap.size w w':=by
 have HP:=Lib.hid λW (hb:Below w.heap.size w W)=>hp W a z hb h1 h2;clear hp h1 h2
 go_enter Tryz.func76,Tryz.ntmps76
 go_wp2_with fail;refine dx λW0 ik=>?_;have hb0:Below w.heap.size w W0:=by rw[ik];exact (Below.refl _ _).alloc (Nat.le_refl _) _
 have H0:=Lib.hid hb0;clear ik hb0;refine (HP.out W0 H0.out).mono ?_;rintro e w1 ⟨rfl,hb1⟩;have H1:=Lib.hid (H0.out.trans (hb1.mono H0.out.size));clear hb1;go_wp2_with fail;go_ret;exact ⟨rfl,H1.out⟩
theorem kQ:(Tryz.prog.info? 36).map (λi=>(i.zero,i.size,i.bytes))=some (some (.agg #[.int .i64 0, .int .i64 0, .int .i64 0]),3,24):=by kernel_rfl
def R4 (b:Nat) (l:List Mt) (w:World):Prop:=∃A c,w.heap[b]?=some (.cells #[.slice A l.length c] 31 (0,0))/\w.ownsRow (b+1) 36 3 (.slice A l.length c) l.length (aY cV l)
theorem R4.later {b:Nat} {l:List Mt} {w w':World} (h:R4 b l w) (hb:Below w.heap.size w w'):R4 b l w':=by
 obtain ⟨A,c,h1,h2⟩:=h;exact ⟨A,c,(hb.block b (Array.getElem?_eq_some_iff.1 h1).1).trans h1,bj h2 hb⟩
structure MaB (x:KC×M2) (v:Value) (kd N:Nat) (w:World):Prop where
 b0:KV x N w
 b1:w.heap[N+1]?=some (.cells #[v] 28 (0,0))
 b2:w.heap[N+2]?=some (.cells #[.int .i64 (kd:Int)] 3 (0,0))
theorem MaB.later {x:KC×M2} {v:Value} {kd N:Nat} {w w':World} (h:MaB x v kd N w) (hb:Below (N+3) w w'):MaB x v kd N w':=
 ⟨(hb.block _ (by omega)).trans h.b0,(hb.block _ (by omega)).trans h.b1,(hb.block _ (by omega)).trans h.b2⟩
def zC (p:Nat->Nat->Bool) (kd:Nat) (l:List (Nat×Nat)):List Mt:=wP kd (l.filter λq=>p q.1 q.2)
theorem NY (p:Nat->Nat->Bool) (kd:Nat) (l:List (Nat×Nat)) (a z:Nat):zC p kd (l++[(a,z)])=if p a z then zC p kd l++[⟨kd,a,z⟩] else zC p kd l:=by
 unfold zC wP;rw[List.filter_append,List.map_append]
 cases h:p a z
 .simp[h]
 .simp[h]
theorem R5 (p:Nat->Nat->Bool) (kd:Nat) (l:List (Nat×Nat)):(zC p kd l).length<=l.length:=by
 unfold zC wP;rw[List.length_map];exact List.length_filter_le _ _
set_option maxHeartbeats 8000000 in
theorem JU (x:KC×M2) (v:Value) (n kd N a z:Nat) (p:Nat->Nat->Bool) (l:List (Nat×Nat)) (w w0:World) (hp:qg x.1 v n p w0) (hpw:Below w0.heap.size w0 w) (hN:w0.heap.size<=N) (hB:MaB x v kd N w) (hR:R4 (N+3) (zC p kd l) w) (h1:a<z) (h2:z<=n) (hl:(zC p kd l).length<=900000) :
  Calls Tryz.prog 84 #[.int .i64 (a:Int), .int .i64 (z:Int), .pointer (some ⟨N,0,none⟩), .pointer (some ⟨N+1,0,none⟩), .pointer (some ⟨N+3,0,none⟩), .pointer (some ⟨N+2,0,none⟩)] w (Tr (N+3) 36 (λl W=>R4 (N+3) (zC p kd l) W) (l++[(a,z)]) w):=by
 have HF:=Lib.hid λW (hb:Below w.heap.size w W)=>rZ x v n a z p W (hp.later (hpw.trans (hb.mono hpw.size))) h1 h2;obtain ⟨q,hq⟩:∃q,p a z=q:=⟨_,rfl⟩;rw[hq]at HF;have sT:=NY p kd l a z;rw[hq]at sT;have HSN:=Lib.hid sT;obtain ⟨⟨c0,c1,c2,c3,c4,c5⟩,⟨c6,c7,c8,c9,tX⟩,⟨Ts,Tt⟩,lb⟩:=hB.b0.cells;have t0:w.cell? ⟨N+1,0,none⟩=some v:=by rw[cell_of_row _ _ _ _ _ _ hB.b1];rfl
 have l1:N+1<w.heap.size:=(Array.getElem?_eq_some_iff.1 hB.b1).1;have HB:=Lib.hid hB;have HR:=Lib.hid hR;obtain ⟨M,hM⟩:∃M,zC p kd l=M:=⟨_,rfl⟩;rw[hM]at HR HSN hl;have h3:N+3<w.heap.size:=by obtain ⟨A,c,h1,-⟩:=HR.out;exact (Array.getElem?_eq_some_iff.1 h1).1
 clear hp hpw hB hR sT hq hM h1 h2
 go_enter Tryz.func84,Tryz.ntmps84
 go_wp2_with fail;refine (HF.out w (Below.refl _ _)).mono ?_;rintro e w1 ⟨rfl,hb1⟩;have H1:=Lib.hid (And.intro (HB.out.later (hb1.mono (by omega))) (And.intro (HR.out.later hb1) hb1))
 clear c0 c1 c2 c3 c4 c5 c6 c7 c8 c9 tX Ts Tt lb t0 l1 hb1
 cases q with
 | false=>
  go_wp2_with fail
  go_end0
  refine ⟨⟨_,rfl⟩,?_,H1.out.2.2.mono (by omega),λq T cs m _ _ hw=>(H1.out.2.2.block q (Array.getElem?_eq_some_iff.1 hw).1).trans hw⟩
  show R4 (N+3) (zC p kd (l++[(a,z)])) w1;rw[HSN.out];exact H1.out.2.1
 | true=>
  obtain ⟨A,c,g1,g2⟩:=H1.out.2.1;obtain ⟨ie,sR,oq,gY,bM⟩:=info_parts kQ;have b0:w1.cell? ⟨N+3,0,none⟩=some (.slice A M.length c):=by rw[cell_of_row _ _ _ _ _ _ g1];rfl
  have fb:w1.frozen? ⟨N+3,0,none⟩=false:=by simp[World.frozen?,g1]
  have lb:N+3<w1.heap.size:=(Array.getElem?_eq_some_iff.1 g1).1;have b2:w1.cell? ⟨N+2,0,none⟩=some (.int .i64 (kd:Int)):=by rw[cell_of_row _ _ _ _ _ _ H1.out.1.b2];rfl
  have lb2:N+2<w1.heap.size:=by omega
  have hown:=World.ownsRow.alloc g2 (.cells #[.int .i64 (kd:Int), .int .i64 (a:Int), .int .i64 (z:Int)] 36);have mZ:∀j u,[Value.int .i64 (kd:Int), .int .i64 (a:Int), .int .i64 (z:Int)][j]?=some u->(w1.alloc (.cells #[.int .i64 (kd:Int), .int .i64 (a:Int), .int .i64 (z:Int)] 36)).cell? ((⟨w1.heap.size,0,none⟩:Addr).add j)=some u:=by
   intro j u hj;rw[Addr.add_lit,Nat.zero_add,World.cell?_alloc_mark];simpa using hj
  have dh:N+3+1<=(w1.alloc (.cells #[.int .i64 (kd:Int), .int .i64 (a:Int), .int .i64 (z:Int)] 36)).heap.size:=by simp;omega
  have H:=Lib.hid (And.intro g1 g2);clear g1 g2;go_wp2_with (at_builtin; refine cN rfl _ _ 31 rfl (N+3+1) 36 ie _ 3 24 Tryz.underlying31 sR oq gY bM rfl (by decide) _ M.length (aY cV M) rfl hown ⟨w1.heap.size,0,none⟩ 1 1 [.int .i64 (kd:Int), .int .i64 (a:Int), .int .i64 (z:Int)] rfl rfl mZ (by intro u hu; simp only[List.mem_cons,List.not_mem_nil,or_false]at hu; rcases hu with rfl | rfl | rfl <;> rfl) (by unfold maxLen; omega) (by omega) dh ?_)
  intro v9 w9 ec we xW;obtain ⟨A9,c9,rfl,-,-⟩:=ag ec;have hb1:(w1.alloc (.cells #[.int .i64 (kd:Int), .int .i64 (a:Int), .int .i64 (z:Int)] 36)).heap[N+3]?=some (.cells #[.slice A M.length c] 31 (0,0)):=(au _ _ _ lb).trans H.out.1;have xz:w9.heap[N+3]?=some (.cells #[.slice A M.length c] 31 (0,0)):=(we.block (N+3) (by simp;omega) (λe=>by have:=(hown.lt (N+3) e.symm).1;omega)).trans hb1
  have z0:w9.cell? ⟨N+3,0,none⟩=some (.slice A M.length c):=by rw[cell_of_row _ _ _ _ _ _ xz];rfl
  have z1:w9.frozen? ⟨N+3,0,none⟩=false:=by simp[World.frozen?,xz]
  have z2:N+3<w9.heap.size:=(Array.getElem?_eq_some_iff.1 xz).1;have hB9:Below (N+3) w1 w9:=((Below.refl (N+3) w1).alloc (by omega) _).grown we (by simp;omega) (λq hq=>by have:=(hown.lt q hq).1;omega)
  have hty:∀q T cs m,q≠N+3->T≠36->w1.heap[q]?=some (.cells cs T m)->w9.heap[q]?=some (.cells cs T m):=λq T cs m hq hT hw=>by
   have hl:=(Array.getElem?_eq_some_iff.1 hw).1;refine (we.block q (by simp;omega) (λe=>?_)).trans ((au _ _ _ hl).trans hw)
   obtain ⟨cs',m',h9⟩:=aT H.out.2 q e.symm;rw[hw]at h9;injection h9 with h9;injection h9 with _ h9 _;exact hT h9
  have H9:=Lib.hid (And.intro ec (And.intro xz (And.intro hB9 hty)));clear ec we xW hb1 xz hB9 hty hown mZ dh;go_wp2_with fail
  go_end0
  have xF:zC p kd (l++[(a,z)])=M++[⟨kd,a,z⟩]:=HSN.out;refine ⟨⟨_,rfl⟩,?_,(H1.out.2.2.mono (by omega)).trans (H9.out.2.2.1.setCell (p:=⟨N+3,0,none⟩) (Nat.le_refl _) _),λq T cs m hq hT hw=>(Below.heap_setCell _ ⟨N+3,0,none⟩ _ q hq).trans (H9.out.2.2.2 q T cs m hq hT ((H1.out.2.2.block q (Array.getElem?_eq_some_iff.1 hw).1).trans hw))⟩
  show R4 (N+3) (zC p kd (l++[(a,z)])) _;rw[xF];refine ⟨A9,c9,?_,?_⟩
  .have:=bh H9.out.2.1 0 (.slice A9 (M.length+1) c9);simpa using this
  .have h9:=ak H9.out.1 (w':=w9.setCell ⟨N+3,0,none⟩ (.slice A9 (M.length+1) c9)) λq hq=>Below.heap_setCell _ ⟨N+3,0,none⟩ _ q (λe=>by have:=(H9.out.1.lt q hq).1;have e':q=N+3:=e;omega)
   rw[bA,bf,List.length_append];exact h9
theorem XC (args:Array Value) (w:World):(callFunc 84 args).run Tryz.prog w = .ok (.enter 84 args) w:=by rfl
set_option maxHeartbeats 8000000 in
theorem CD (x:KC×M2) (m:Mc) (A:Option Addr) (n c kd:Nat) (bs:List Nat) (p:Nat->Nat->Bool) (w:World) (hm:ia w x.2.val m) (hv:BQ m) (hb:lU w (.slice A n c) bs) (hn:bs.length=n) (lZ:n<=900000) (fO:∀b∈bs,b<256) (hp:qg x.1 (.slice A n c) n p w) :
  Calls Tryz.prog 56 #[.agg #[.string x.1.nm, .int .i64 x.1.op, .slice x.1.a1 x.1.n1 x.1.c1, .slice x.1.a2 x.1.n2 x.1.c2, .int .i64 x.1.mn, .int .i64 x.1.mx, .bool x.1.wh, .int .i64 x.1.ck, .int .i64 x.1.en, .slice x.1.a3 x.1.n3 x.1.c3, .int .i64 x.1.nr, .slice x.2.a1 x.2.n1 x.2.c1, .slice x.2.a2 x.2.n2 x.2.c2], .slice A n c, .int .i64 (kd:Int)] w λe w'=>∃v,e = .returned v/\OR 36 3 cV w.heap.size v (zC p kd (Gt m x.1.wh bs)) w'/\Below w.heap.size w w':=by
 have HM:=Lib.hid λW (hW:Below w.heap.size w W)=>And.intro (hm.later hW) (hb.later hW);have HV:=Lib.hid (And.intro hv (And.intro hn (And.intro fO hp)));clear hm hv hb hn fO hp
 go_enter Tryz.func56,Tryz.ntmps56
 go_wp2_with fail;refine dx λW0 ik=>?_;have Mj:W0=gM w [(#[.string x.1.nm, .int .i64 x.1.op, .slice x.1.a1 x.1.n1 x.1.c1, .slice x.1.a2 x.1.n2 x.1.c2, .int .i64 x.1.mn, .int .i64 x.1.mx, .bool x.1.wh, .int .i64 x.1.ck, .int .i64 x.1.en, .slice x.1.a3 x.1.n3 x.1.c3, .int .i64 x.1.nr, .slice x.2.a1 x.2.n1 x.2.c1, .slice x.2.a2 x.2.n2 x.2.c2],95),(#[.slice A n c],28),(#[.int .i64 (kd:Int)],3),(#[.slice none 0 0],31)]:=by rw[ik];rfl
 have hMB:MaB x (.slice A n c) kd w.heap.size W0:=by rw[Mj];exact ⟨cX 0 rfl,cX 1 rfl,cX 2 rfl⟩
 have KP:R4 (w.heap.size+3) (zC p kd []) W0:=by
  rw[Mj];exact ⟨none,0,cX 3 rfl,World.ownsRow_nil _ _ _ _⟩
 have aI:Below w.heap.size w W0:=by rw[Mj];exact fg _ _
 have h3:w.heap.size+3<W0.heap.size:=by obtain ⟨A,c,h1,-⟩:=KP;exact (Array.getElem?_eq_some_iff.1 h1).1
 have H0:=Lib.hid (And.intro hMB (And.intro KP aI));clear ik Mj hMB KP aI;refine (BS x m A n c (w.heap.size+3) 36 84 #[.pointer (some ⟨w.heap.size,0,none⟩), .pointer (some ⟨w.heap.size+1,0,none⟩), .pointer (some ⟨w.heap.size+3,0,none⟩), .pointer (some ⟨w.heap.size+2,0,none⟩)] bs (λl W=>R4 (w.heap.size+3) (zC p kd l) W) W0 XC (λW hW=>HM.out W (H0.out.2.2.trans (hW.mono (by omega)))) HV.out.1 HV.out.2.1 lZ HV.out.2.2.1 h3 (by decide) H0.out.2.1 (λl W W' h hb=>h.later hb) (λl a z W hl haz cJ hI=>?_)).mono ?_
 .refine JU x (.slice A n c) n kd w.heap.size a z p l W w HV.out.2.2.2 (H0.out.2.2.trans (cJ.mono (by omega))) (Nat.le_refl _) (H0.out.1.later cJ) hI haz.1 haz.2 ?_
  have:=R5 p kd l;simp at hl;omega
 .rintro e w1 ⟨⟨v1,rfl⟩,PV,hb1⟩;obtain ⟨A9,c9,g1,g2⟩:=PV;have b0:w1.cell? ⟨w.heap.size+3,0,none⟩=some (.slice A9 (zC p kd (Gt m x.1.wh bs)).length c9):=by rw[cell_of_row _ _ _ _ _ _ g1];rfl
  have lb:w.heap.size+3<w1.heap.size:=(Array.getElem?_eq_some_iff.1 g1).1;have H1:=Lib.hid (And.intro g2 (H0.out.2.2.trans (hb1.mono (by omega))))
  clear g1 g2 hb1;go_wp2_with fail;go_ret;exact ⟨_,rfl,OR.mono (enc:=cV) (n:=3) (o:=zC p kd (Gt m x.1.wh bs)) H1.out.1 (by omega),H1.out.2⟩
end
section
set_option linter.unusedVariables false
set_option linter.unusedSimpArgs false
open Go.RowKit
def bq (m wait:Nat) (en:Bool) (jl:Nat->Option Nat) (p:Nat->Nat->Bool):Nat->Nat->List (Nat×Nat)×Nat
 | 0,a=>([],a)
 | f+1,a=>if m<=a\/(en=false/\m<a+wait) then ([],a) else match jl a with
  | none=>bq m wait en jl p f (a+1)
  | some t=>(if p a t then (a,t)::(bq m wait en jl p f t).1 else (bq m wait en jl p f t).1,(bq m wait en jl p f t).2)
def yE (kd ba:Nat) (l:List (Nat×Nat)):List Mt:=l.map λq=>⟨kd,ba+q.1,ba+q.2⟩
structure r8 (B b:Nat) (tt ba:Nat) (K:List UInt8) (nx:List Nat) (ms:List Mt) (kv nv mv:Value) (w:World):Prop where
 box:w.heap[b]?=some (.cells #[.int .i64 (tt:Int), .int .i64 (ba:Int),kv,nv,mv] 51 (0,0))
 hb:B<=b
 k:OB 5 B kv K w
 n:OR 3 1 yA B nv nx w
 m:OR 36 3 cV B mv ms w
theorem r8.lt {B b tt ba:Nat} {K:List UInt8} {nx:List Nat} {ms:List Mt} {kv nv mv:Value} {w:World} (h:r8 B b tt ba K nx ms kv nv mv w):b<w.heap.size:=(Array.getElem?_eq_some_iff.1 h.box).1
theorem r8.later {B b tt ba:Nat} {K:List UInt8} {nx:List Nat} {ms:List Mt} {kv nv mv:Value} {w w':World} (h:r8 B b tt ba K nx ms kv nv mv w) (hb:Below w.heap.size w w'):r8 B b tt ba K nx ms kv nv mv w':=
 ⟨(hb.block _ h.lt).trans h.box,h.hb,ak h.k λg hg=>hb.block g (h.k.lt g hg).2,OR.later h.n hb,OR.later h.m hb⟩
theorem r8.cells {B b tt ba:Nat} {K:List UInt8} {nx:List Nat} {ms:List Mt} {kv nv mv:Value} {w:World} (h:r8 B b tt ba K nx ms kv nv mv w) :
  w.cell? ⟨b,0,none⟩=some (.int .i64 (tt:Int))/\w.cell? ⟨b,1,none⟩=some (.int .i64 (ba:Int))/\w.cell? ⟨b,2,none⟩=some kv/\w.cell? ⟨b,3,none⟩=some nv/\w.cell? ⟨b,4,none⟩=some mv:=by
 refine ⟨?_,?_,?_,?_,?_⟩ <;> (rw[cell_of_row _ _ _ _ _ _ h.box]; rfl)
theorem r8.sL {B b tt ba:Nat} {K:List UInt8} {nx:List Nat} {ms:List Mt} {kv mv:Value} {g c:Nat} {w:World} (h:r8 B b tt ba K nx ms kv (.slice (some ⟨g,0,none⟩) nx.length c) mv w) (i v:Nat) (hi:i<nx.length) :
  r8 B b tt ba K (nx.set i v) ms kv (.slice (some ⟨g,0,none⟩) nx.length c) mv (w.setCell ⟨g,i,none⟩ (.int .i64 (v:Int)))/\Below B w (w.setCell ⟨g,i,none⟩ (.int .i64 (v:Int)))/\∀(k:Nat) (T:TypeId) (cs:Array Value) (mm:Nat×Nat),T≠3->w.heap[k]?=some (.cells cs T mm)->(w.setCell ⟨g,i,none⟩ (.int .i64 (v:Int))).heap[k]?=w.heap[k]?:=by
 obtain ⟨cg,mg,hg⟩:=aT h.n g rfl;have hne:∀(k:Nat) (T:TypeId) (cs:Array Value) (mm:Nat×Nat),T≠3->w.heap[k]?=some (.cells cs T mm)->k≠g:=λk T cs mm hT hk e=>by
  subst e;rw[hg]at hk;injection hk with hk;injection hk with _ hk _;exact hT hk.symm
 have Kj:∀k,k≠g->(w.setCell ⟨g,i,none⟩ (.int .i64 (v:Int))).heap[k]?=w.heap[k]?:=λk hk=>Below.heap_setCell _ _ _ _ (by dsimp only;omega)
 refine ⟨⟨(Kj b (hne _ _ _ _ (by decide) h.box)).trans h.box,h.hb,ak h.k λq hq=>?_,?_,ak h.m λq hq=>?_⟩,(Below.refl _ _).setCell (p:=⟨g,i,none⟩) (h.n.lt g rfl).1 _,λk T cs mm hT hk=>Kj k (hne k T cs mm hT hk)⟩
 .obtain ⟨cs,mm,hk⟩:=aT h.k q hq;exact Kj q (hne _ _ _ _ (by decide) hk)
 .have h9:=OR.setAt tZ h.n i 0 hi (by decide) v (.int .i64 (v:Int)) rfl
  simpa using h9
 .obtain ⟨cs,mm,hk⟩:=aT h.m q hq;exact Kj q (hne _ _ _ _ (by decide) hk)
theorem r8.app {B b tt ba:Nat} {K:List UInt8} {nx:List Nat} {ms:List Mt} {kv nv mv oY:Value} {w w9:World} (h:r8 B b tt ba K nx ms kv nv mv w) (x:Mt) (hg:w.grownBy w9 mv.ownBlock) (ho:OR 36 3 cV B oY (ms++[x]) w9) :
  r8 B b tt ba K nx (ms++[x]) kv nv oY (w9.setCell ⟨b,4,none⟩ oY)/\Below B w (w9.setCell ⟨b,4,none⟩ oY)/\∀(k:Nat) (T:TypeId) (cs:Array Value) (mm:Nat×Nat),T≠36->T≠51->w.heap[k]?=some (.cells cs T mm)->(w9.setCell ⟨b,4,none⟩ oY).heap[k]?=w.heap[k]?:=by
 have hne:∀(k:Nat) (T:TypeId) (cs:Array Value) (mm:Nat×Nat),T≠36->w.heap[k]?=some (.cells cs T mm)->w9.heap[k]?=w.heap[k]?:=λk T cs mm hT hk=>hg.block k (Array.getElem?_eq_some_iff.1 hk).1 λe=>by
  obtain ⟨cg,mg,h9⟩:=aT h.m k e.symm;rw[h9]at hk;injection hk with hk;injection hk with _ hk _;exact hT hk.symm
 have Kj:∀k,k≠b->(w9.setCell ⟨b,4,none⟩ oY).heap[k]?=w9.heap[k]?:=λk hk=>Below.heap_setCell _ _ _ _ (by dsimp only;omega)
 have hnb:∀(k:Nat) (T:TypeId) (cs:Array Value) (mm:Nat×Nat),T≠51->w.heap[k]?=some (.cells cs T mm)->k≠b:=λk T cs mm hT hk e=>by
  subst e;rw[h.box]at hk;injection hk with hk;injection hk with _ hk _;exact hT hk.symm
 have xz:=(hne b _ _ _ (by decide) h.box).trans h.box
 have hB9:Below B w w9:=(Below.refl B w).grown hg (Nat.le_trans h.hb (Nat.le_of_lt h.lt)) λq hq=>(h.m.lt q hq).1;refine ⟨⟨?_,h.hb,ak h.k λq hq=>?_,ak h.n λq hq=>?_,ak ho λq hq=>Kj q λe=>?_⟩,hB9.setCell (p:=⟨b,4,none⟩) h.hb _,λk T cs mm h1 h2 hk=>(Kj k (hnb k T cs mm h2 hk)).trans (hne k T cs mm h1 hk)⟩
 .have:=bh xz 4 oY;simpa using this
 .obtain ⟨cs,mm,hk⟩:=aT h.k q hq;exact (Kj q (hnb _ _ _ _ (by decide) hk)).trans (hne _ _ _ _ (by decide) hk)
 .obtain ⟨cs,mm,hk⟩:=aT h.n q hq;exact (Kj q (hnb _ _ _ _ (by decide) hk)).trans (hne _ _ _ _ (by decide) hk)
 .obtain ⟨cs,mm,hk⟩:=aT ho q hq;subst e;rw[xz]at hk;injection hk with hk;injection hk with _ hk _;exact absurd hk (by decide)
end
section
set_option linter.unusedVariables false
set_option linter.unusedSimpArgs false
open Go.RowKit
theorem vG (u:KC) (nr:Nat) (w:World) (h:u.nr=(nr:Int)):Calls Tryz.prog 43 #[.agg #[.string u.nm, .int .i64 u.op, .slice u.a1 u.n1 u.c1, .slice u.a2 u.n2 u.c2, .int .i64 u.mn, .int .i64 u.mx, .bool u.wh, .int .i64 u.ck, .int .i64 u.en, .slice u.a3 u.n3 u.c3, .int .i64 u.nr]] w λe w'=>e = .returned (.int .i64 ((max nr 1:Nat):Int))/\Below w.heap.size w w':=by
 have hm:max u.nr 1=((max nr 1:Nat):Int):=by omega
 clear h
 go_enter Tryz.func43,Tryz.ntmps43
 go_wp2_with fail;go_ret;exact ⟨rfl,(Below.refl _ _).alloc (Nat.le_refl _) _⟩
structure AdH (B:Nat) (x:KC×M2) (m:Mc) (nd:Nd) (p:Nat->Nat->Bool) (kv:Value) (K:List UInt8) (w0:World):Prop where
 mc:∀W,Below B w0 W->ia W x.2.val m
 go:BQ m
 ndi:∀W,Below B w0 W->bX W nd x.1.pat
 vd:bk nd=0
 lg:aN nd<=1024
 ps:∀W,Below B w0 W->OB 5 B kv K W->qg x.1 kv K.length p W
theorem Kk {m wait:Nat} {en:Bool} {jl:Nat->Option Nat} {p:Nat->Nat->Bool} {f a:Nat} (hf:m+1<=a+f) (ha:a<=m) (h:m<=a\/(en=false/\m<a+wait)):bq m wait en jl p f a=([],a):=by
 cases f with
 | zero=>omega
 | succ f=>rw[bq,if_pos h]
theorem Kl {m wait:Nat} {en:Bool} {jl:Nat->Option Nat} {p:Nat->Nat->Bool} {f a:Nat} (hf:m+1<=a+f) (h:¬(m<=a\/(en=false/\m<a+wait))) (hc:jl a=none):∃f',f=f'+1/\bq m wait en jl p f a=bq m wait en jl p f' (a+1):=by
 cases f with
 | zero=>omega
 | succ f=>exact ⟨f,rfl,by rw[bq,if_neg h,hc]⟩
theorem Km {m wait:Nat} {en:Bool} {jl:Nat->Option Nat} {p:Nat->Nat->Bool} {f a t:Nat} (hf:m+1<=a+f) (h:¬(m<=a\/(en=false/\m<a+wait))) (hc:jl a=some t):∃f',f=f'+1/\bq m wait en jl p f a=(if p a t then (a,t)::(bq m wait en jl p f' t).1 else (bq m wait en jl p f' t).1,(bq m wait en jl p f' t).2):=by
 cases f with
 | zero=>omega
 | succ f=>exact ⟨f,rfl,by rw[bq,if_neg h,hc]⟩
theorem mL {m:Mc} {wh:Bool} {bs:List Nat} {i t:Nat} (h:mR m wh bs i=some t):i<t/\t<=bs.length:=by
 unfold mR ze at h;have h1:=List.find?_some h;have h2:=List.mem_of_find?_eq_some h;rw[Bool.and_eq_true,decide_eq_true_eq]at h1;unfold tW at h1;refine ⟨h1.1,?_⟩;have h3:=h1.2;rw[Bool.and_eq_true,Bool.and_eq_true,decide_eq_true_eq,decide_eq_true_eq]at h3;exact h3.1.2
structure Eg (B b tt ba N:Nat) (x:KC×M2) (K:List UInt8) (nx:List Nat) (ms:List Mt) (kv nv mv:Value) (w wr:World):Prop where
 s:r8 B b tt ba K nx ms kv nv mv wr
 bl:Below B w wr
 f:KV x N wr
 u:RI x.1 (N+1) wr
theorem Eg.later {B b tt ba N:Nat} {x:KC×M2} {K:List UInt8} {nx:List Nat} {ms:List Mt} {kv nv mv:Value} {w wr w':World} (h:Eg B b tt ba N x K nx ms kv nv mv w wr) (hb:Below wr.heap.size wr w'):Eg B b tt ba N x K nx ms kv nv mv w w':=
 ⟨h.s.later hb,h.bl.trans (hb.mono (Nat.le_trans h.s.hb (Nat.le_of_lt h.s.lt))),h.f.later hb,h.u.later hb⟩
theorem FR {w W:World} {a b:Array Value} {T U:TypeId} (h:W=(w.alloc (.cells a T)).alloc (.cells b U)):Below w.heap.size w W/\W.heap[w.heap.size]?=some (.cells a T (0,0))/\W.heap[w.heap.size+1]?=some (.cells b U (0,0)):=by
 have h1:=heap_alloc_new (w.alloc (.cells a T)) (.cells b U);have h2:(w.alloc (.cells a T)).heap.size=w.heap.size+1:=by simp
 rw[h2]at h1;subst h;exact ⟨((Below.refl _ _).alloc (Nat.le_refl _) _).alloc (by simp) _,(au (w.alloc (.cells a T)) _ w.heap.size (by simp)).trans (heap_alloc_new w _),h1⟩
theorem r8.nxc {B b tt ba:Nat} {K:List UInt8} {nx:List Nat} {ms:List Mt} {kv mv:Value} {g n c:Nat} {w:World} (h:r8 B b tt ba K nx ms kv (.slice (some ⟨g,0,none⟩) n c) mv w) (i:Nat) (hi:i<nx.length):w.cell? ⟨g,i,none⟩=some (.int .i64 (nx[i]:Int))/\w.frozen? ⟨g,i,none⟩=false/\g<w.heap.size:=by
 obtain ⟨A',c',e,-,eA⟩:=h.n.cells tZ;injection e with e1 _ _;rcases eA with h0 | ⟨g',e2,-,hg,hc⟩
 .rw[h0]at hi;cases hi
 .rw[e2]at e1;injection e1 with e1;injection e1 with e1 _ _;subst e1;have:=hc i hi 0 (by decide)
  rw[Nat.mul_one,Nat.add_zero]at this;exact ⟨this.1,this.2,hg⟩
theorem Eg.sL {B b tt ba N:Nat} {x:KC×M2} {K:List UInt8} {nx:List Nat} {ms:List Mt} {kv mv:Value} {g n c:Nat} {w wr:World} (h:Eg B b tt ba N x K nx ms kv (.slice (some ⟨g,0,none⟩) n c) mv w wr) (hn:nx.length=n) (i v:Nat) (hi:i<nx.length):Eg B b tt ba N x K (nx.set i v) ms kv (.slice (some ⟨g,0,none⟩) n c) mv w (wr.setCell ⟨g,i,none⟩ (.int .i64 (v:Int))):=by
 subst hn;obtain ⟨h1,h2,h3⟩:=h.s.sL i v hi;exact ⟨h1,h.bl.trans h2,(h3 _ _ _ _ (by decide) h.f).trans h.f,(h3 _ _ _ _ (by decide) h.u).trans h.u⟩
theorem Eg.app {B b tt ba N:Nat} {x:KC×M2} {K:List UInt8} {nx:List Nat} {ms:List Mt} {kv nv mv oY:Value} {w wr w9:World} (h:Eg B b tt ba N x K nx ms kv nv mv w wr) (y:Mt) (hg:wr.grownBy w9 mv.ownBlock) (ho:OR 36 3 cV B oY (ms++[y]) w9):Eg B b tt ba N x K nx (ms++[y]) kv nv oY w (w9.setCell ⟨b,4,none⟩ oY):=by
 obtain ⟨h1,h2,h3⟩:=h.s.app y hg ho;exact ⟨h1,h.bl.trans h2,(h3 _ _ _ _ (by decide) (by decide) h.f).trans h.f,(h3 _ _ _ _ (by decide) (by decide) h.u).trans h.u⟩
def SgV (W:World) (mv:Value) (c:Nat) (w:World):Prop:=W.grownBy w mv.ownBlock/\(c=0->Below W.heap.size W w)
def vH (B b kd ba a t ew jm:Nat) (ms:List Mt) (mv:Value) (W:World):Nat->Nat->Value->World->Prop
 | _,0,x,_=>x = .pointer (some ⟨b,0,none⟩)
 | _,1,x,_=>x = .pointer (some ⟨b,0,none⟩)
 | _,2,x,_=>x = .pointer (some ⟨b,0,none⟩)
 | _,3,x,_=>x = .pointer (some ⟨b,4,none⟩)
 | _,4,x,_=>x=mv
 | _,5,x,_=>x = .int .i64 (kd:Int)
 | _,6,x,_=>x = .pointer (some ⟨b,0,none⟩)
 | _,7,x,_=>x = .pointer (some ⟨b,0,none⟩)
 | _,8,x,_=>x = .pointer (some ⟨b,1,none⟩)
 | _,9,x,_=>x = .int .i64 (ba:Int)
 | _,10,x,_=>x = .int .i64 (a:Int)
 | _,11,x,_=>x = .int .i64 (ew:Int)
 | _,12,x,_=>x = .pointer (some ⟨b,0,none⟩)
 | _,13,x,_=>x = .pointer (some ⟨b,0,none⟩)
 | _,14,x,_=>x = .pointer (some ⟨b,1,none⟩)
 | _,15,x,_=>x = .int .i64 (ba:Int)
 | _,16,x,_=>x = .int .i64 (t:Int)
 | _,17,x,_=>x = .int .i64 (jm:Int)
 | _,18,x,_=>x = .agg #[.int .i64 (kd:Int), .int .i64 (ew:Int), .int .i64 (jm:Int)]
 | c,19,x,w=>c<=0->∃g,x = .slice (some ⟨g,0,none⟩) 1 1/\W.heap.size<=g/\w.heap[g]?=some (.cells #[.int .i64 (kd:Int), .int .i64 (ew:Int), .int .i64 (jm:Int)] 36 (0,0))
 | c,20,x,w=>c=1->∃A' c',x = .slice A' (ms.length+1) c'/\OR 36 3 cV B x (ms++[⟨kd,ew,jm⟩]) w
 | _,21,x,_=>x = .pointer (some ⟨b,0,none⟩)
 | _,22,x,_=>x = .pointer (some ⟨b,4,none⟩)
 | _,_,_,_=>True
theorem FT {B b kd ba a t ew jm:Nat} {ms:List Mt} {mv:Value} {W:World} {c j:Nat} {x:Value} {w w':World} (hb:Below w.heap.size w w') (h:vH B b kd ba a t ew jm ms mv W c j x w):vH B b kd ba a t ew jm ms mv W c j x w':=by
 unfold vH at h|-
 split at h
 all_goals first
  | exact h
  | (intro hc
     obtain ⟨g,h1,hg,hh⟩:=h (by omega)
     exact ⟨g,h1,hg,(hb.block g (Array.getElem?_eq_some_iff.1 hh).1).trans hh⟩)
  | (intro hc
     obtain ⟨A',c',h1,ho⟩:=h hc;exact ⟨A',c',h1,OR.later ho hb⟩)
theorem Ko {B b kd ba a t ew jm:Nat} {ms:List Mt} {mv:Value} {W:World} {j:Nat} {x:Value} {w w':World} (hj:j≠20) (h:vH B b kd ba a t ew jm ms mv W 0 j x w):vH B b kd ba a t ew jm ms mv W 1 j x w':=by
 unfold vH at h|-
 split at h
 all_goals first
  | exact h
  | exact absurd rfl hj
  | (intro hc;exact absurd hc (by decide))
set_option maxHeartbeats 16000000 in
theorem r9 (B b tt ba kd nr:Nat) (K:List UInt8) (nx:List Nat) (ms:List Mt) (kv nv mv:Value) (x:KC×M2) (m:Mc) (nd:Nd) (p:Nat->Nat->Bool) (en:Bool) (w:World) (nZ:x.1.nr=(nr:Int)) (hs:r8 B b tt ba K nx ms kv nv mv w) (hA:AdH B x m nd p kv K w) (cR:kd<nx.length) (hKl:K.length<=70000) (hba:ba<=70000) (pE:nx[kd]<=ba+K.length) (lZ:nx.length<=32) (IU:ms.length<=200000) (akp:nr<=64) :
  Calls Tryz.prog 42 #[.pointer (some ⟨b,0,none⟩), .agg #[.string x.1.nm, .int .i64 x.1.op, .slice x.1.a1 x.1.n1 x.1.c1, .slice x.1.a2 x.1.n2 x.1.c2, .int .i64 x.1.mn, .int .i64 x.1.mx, .bool x.1.wh, .int .i64 x.1.ck, .int .i64 x.1.en, .slice x.1.a3 x.1.n3 x.1.c3, .int .i64 x.1.nr, .slice x.2.a1 x.2.n1 x.2.c1, .slice x.2.a2 x.2.n2 x.2.c2], .agg #[.string x.1.nm, .int .i64 x.1.op, .slice x.1.a1 x.1.n1 x.1.c1, .slice x.1.a2 x.1.n2 x.1.c2, .int .i64 x.1.mn, .int .i64 x.1.mx, .bool x.1.wh, .int .i64 x.1.ck, .int .i64 x.1.en, .slice x.1.a3 x.1.n3 x.1.c3, .int .i64 x.1.nr], .int .i64 (kd:Int), .bool en] w λe w'=>(∃v,e = .returned v)/\∃oY,r8 B b tt ba K (nx.set kd (ba+(bq K.length (aN nd+max nr 1) en (mR m x.1.wh (K.map UInt8.toNat)) p (K.length+1) (nx[kd]-ba)).2)) (ms++yE kd ba (bq K.length (aN nd+max nr 1) en (mR m x.1.wh (K.map UInt8.toNat)) p (K.length+1) (nx[kd]-ba)).1) kv nv oY w'/\Below B w w':=by
 obtain ⟨R,hR⟩:∃R,bq K.length (aN nd+max nr 1) en (mR m x.1.wh (K.map UInt8.toNat)) p (K.length+1) (nx[kd]-ba)=R:=⟨_,rfl⟩;rw[hR];obtain ⟨jl,SH⟩:∃c,mR m x.1.wh (K.map UInt8.toNat)=c:=⟨_,rfl⟩;have xE:∀i t,jl i=some t->i<t/\t<=K.length:=λi t h=>by rw[<-SH]at h;have:=mL h;rwa [List.length_map]at this
 obtain ⟨q0,tH⟩:∃q,nx[kd]=q:=⟨_,rfl⟩;rw[SH,tH]at hR;rw[tH]at pE;obtain ⟨Lg,hLg⟩:∃L,aN nd=L:=⟨_,rfl⟩;obtain ⟨mr,sW⟩:∃L,max nr 1=L:=⟨_,rfl⟩;rw[hLg,sW]at hR;have hLl:=hA.lg;rw[hLg]at hLl;have apJ:mr<=64:=by omega
 obtain ⟨Ak,ck,rfl,Bp,-⟩:=Z1.form hs.k;obtain ⟨An,cn,rfl,alG,auo⟩:=ag (show w.ownsRow _ _ _ _ _ _ from hs.n);obtain ⟨g,rfl⟩:∃g,An=some ⟨g,0,none⟩:=by
  rcases hs.n.2 with ⟨-,h0⟩ | ⟨g',cap,cur,e,-⟩
  .omega
  .injection e with e _ _;exact ⟨g',e⟩
 obtain ⟨nK,hnK⟩:∃n,K.length=n:=⟨_,rfl⟩;obtain ⟨nN,hnN⟩:∃n,nx.length=n:=⟨_,rfl⟩;have pB:B<=w.heap.size:=Nat.le_trans hs.hb (Nat.le_of_lt hs.lt);have aee:=Lib.hid λ(W:World) (a:Nat) (hb:Below B w W) (hk:OB 5 B (.slice Ak K.length ck) K W) (ha:a<=K.length)=>(by
  have h:=tV x m Ak K.length ck a (K.map UInt8.toNat) W (hA.mc W hb) hA.go (Z1.reads hk) (by simp) (by omega) (λb hb=>by obtain ⟨y,-,rfl⟩:=List.mem_map.1 hb;exact y.toNat_lt) ha
  rwa [SH]at h)
 have HPS:=Lib.hid λ(W:World) (a t:Nat) (hb:Below B w W) (hk:OB 5 B (.slice Ak K.length ck) K W) (h1:a<t) (h2:t<=K.length)=>rZ x (.slice Ak K.length ck) K.length a t p W (hA.ps W hb hk) h1 h2;have xP:=Lib.hid λ(W:World) (hb:Below B w W)=>(by
  have h:=yj nd x.1.pat W (hA.ndi W hb) hA.vd;rwa [hLg]at h)
 have GL:=Lib.hid λ(W:World)=>(by
  have h:=vG x.1 nr W nZ;rwa [sW]at h)
 rw[hnK]at xE hR hKl pE Bp aee HPS|-;rw[hnN]at lZ alG|-;have alJ:kd<nN:=by omega
 have HS:=Lib.hid (And.intro hs (And.intro hnN (And.intro hnK (And.intro tH (And.intro pB cR)))));have HCB:=Lib.hid xE;have HR:=Lib.hid hR;clear hs hA nZ SH xE tH hLg sW hnK hnN hR pB
 go_enter Tryz.func42,Tryz.ntmps42
 go_upto_region 1 with fail
 refine dN λW hW=>?_;obtain ⟨cJ,hF,hU⟩:=FR hW;have hI:Eg B b tt ba w.heap.size x K nx ms (.slice Ak nK ck) (.slice (some ⟨g,0,none⟩) nN cn) mv w W:=⟨by have h:=HS.out.1.later cJ;rw[HS.out.2.1,HS.out.2.2.1]at h;exact h,cJ.mono HS.out.2.2.2.2.1,hF,hU⟩
 have HI:=Lib.hid hI;clear hW cJ hF hU hI;obtain ⟨N,hN⟩:∃N,w.heap.size=N:=⟨_,rfl⟩;rw[hN]at HI|-;have HN:=Lib.hid hN;clear hN;have ui:=λd:aM W.heap.size W=>(HI.out.later d.ay).u.cells;have hd0:=λd:aM W.heap.size W=>(ui d).1.1;have hd1:=λd:aM W.heap.size W=>(ui d).1.2.1;have jO:=λd:aM W.heap.size W=>(ui d).1.2.2.1;have Ju:=λd:aM W.heap.size W=>(ui d).1.2.2.2.1;have PK:=λd:aM W.heap.size W=>(ui d).1.2.2.2.2.1;have hd5:=λd:aM W.heap.size W=>(ui d).1.2.2.2.2.2;have hd6:=λd:aM W.heap.size W=>(ui d).2.1.1;have hd7:=λd:aM W.heap.size W=>(ui d).2.1.2.1;have hd8:=λd:aM W.heap.size W=>(ui d).2.1.2.2.1;have hd9:=λd:aM W.heap.size W=>(ui d).2.1.2.2.2.1;have hda:=λd:aM W.heap.size W=>(ui d).2.1.2.2.2.2;have QD:=λd:aM W.heap.size W=>(ui d).2.2;have YY:=Lib.hid λd:aM W.heap.size W=>xP.out d.val (HI.out.later d.ay).bl;have HA2:=Lib.hid λd:aM W.heap.size W=>GL.out d.val;clear ui;obtain ⟨wt,hwt⟩:∃wt,Lg+mr=wt:=⟨_,rfl⟩;have alN:IntKind.i64.wrap ((Lg:Int)+(mr:Int))=(wt:Int):=by rw[IntWalk.i64_in _ (by omega)];omega
 refine aO (Below.refl W.heap.size W) (by kernel_rfl) (by kernel_rfl) ?_
 repeat (go_big_quiet_step (fail))
 go_big_quiet_step ((go_at_call 74;exact Calls.cM (Nat.le_refl _) (YY.out _)))
 repeat (go_big_quiet_step (fail))
 go_big_quiet_step ((go_at_call 43;exact Calls.cM (Nat.le_refl _) (HA2.out _)))
 repeat (go_big_quiet_step (fail))
 refine wpQuiet_nil ?_;intro w1 hw';have PV:Eg B b tt ba N x K nx ms (.slice Ak nK ck) (.slice (some ⟨g,0,none⟩) nN cn) mv w w1:=by obtain ⟨d9,rfl⟩:=hw';exact HI.out.later d9.ay
 have GK:=Lib.hid PV;clear hw' hd0 hd1 jO Ju PK hd5 hd6 hd7 hd8 hd9 hda QD PV alN YY HA2;obtain ⟨c0,c1,c2,c3,c4⟩:=GK.out.s.cells;have lb:=GK.out.s.lt;have aef:=GK.out.s.nxc kd cR;rw[HS.out.2.2.2.1]at aef;obtain ⟨e0,f0,lg⟩:=aef;obtain ⟨a0,ha0⟩:∃a0,q0-ba=a0:=⟨_,rfl⟩;have pq:IntKind.i64.wrap ((q0:Int) - (ba:Int))=(q0:Int) - (ba:Int):=IntWalk.i64_in _ (by omega)
 have hmx:max ((q0:Int) - (ba:Int)) 0=(a0:Int):=by omega
 have XY:decide ((kd:Int)<(nN:Int))=true:=decide_eq_true (by omega)
 have aut:decide (kd<nN)=true:=decide_eq_true alJ
 go_upto_region 2 with fail
 go_region
 clear c0 c1 c2 c3 c4 lb e0 f0 lg pq hmx;go_wp2_with fail
 go_loopw [11] (λiv wr=>∃(a f:Nat) (acc:List (Nat×Nat)) (q:Nat) (Ai:Value),iv = .int .i64 (a:Int)/\a<=nK/\nK+1<=a+f/\Hid (R=(acc++(bq nK wt en jl p f a).1,(bq nK wt en jl p f a).2)/\acc.length<=a)/\Hid (Eg B b tt ba N x K (nx.set kd q) (ms++yE kd ba acc) (.slice Ak nK ck) (.slice (some ⟨g,0,none⟩) nN cn) Ai w wr)) (λiv _=>(nK+1-intOf iv).toNat)
 case atStart=>
  refine ⟨a0,nK+1,[],nx[kd],mv,rfl,by omega,by omega,⟨?_,Nat.zero_le _⟩,?_⟩
  .have h:=HR.out;rw[ha0,hwt]at h;rw[h,List.nil_append]
  .rw[List.set_getElem_self,yE,List.map_nil,List.append_nil];exact GK.out.later (Below.refl _ _).drew
 case round=>
  obtain ⟨a,f,acc,q,Ai,rfl,ha,hf,DB,HJ⟩:=hrel;obtain ⟨c0,c1,c2,c3,c4⟩:=HJ.out.s.cells;have lb:=HJ.out.s.lt;have di:kd<(nx.set kd q).length:=by rw[List.length_set];exact cR
  obtain ⟨e0,f0,lg⟩:=HJ.out.s.nxc kd di;obtain ⟨ew,Uq⟩:∃z,ba+a=z:=⟨_,rfl⟩;have Ma:IntKind.i64.wrap ((ba:Int)+(a:Int))=(ew:Int):=by rw[IntWalk.i64_in _ (by omega)];omega
  go_upto_region 3 with fail
  go_region
  have hj:Eg B b tt ba N x K (nx.set kd ew) (ms++yE kd ba acc) (.slice Ak nK ck) (.slice (some ⟨g,0,none⟩) nN cn) Ai w (wr.setCell ⟨g,kd,none⟩ (.int .i64 (ew:Int))).drew:=by
   have h:=HJ.out.sL (by rw[List.length_set];exact HS.out.2.1) kd ew di
   rw[List.set_set]at h;exact h.later (Below.refl _ _).drew
  obtain ⟨W,hW⟩:∃W,(wr.setCell ⟨g,kd,none⟩ (.int .i64 (ew:Int))).drew=W:=⟨_,rfl⟩;rw[hW]at hj|-;have OD:=Lib.hid hj;clear hW hj c0 c1 c2 c3 c4 lb e0 f0 lg HJ Ma;obtain ⟨c0,c1,c2,c3,c4⟩:=OD.out.s.cells;have lb:=OD.out.s.lt;obtain ⟨aw,haw⟩:∃z,a+wt=z:=⟨_,rfl⟩;have PJ:IntKind.i64.wrap ((a:Int)+(wt:Int))=(aw:Int):=by rw[IntWalk.i64_in _ (by omega)];omega
  have aeg:(nK<=a\/(en=false/\nK<aw))\/(¬nK<=a/\(en=true\/¬nK<aw)):=by
   cases en
   .by_cases h1:nK<=a
    .exact .inl (.inl h1)
    .by_cases h2:nK<aw
     .exact .inl (.inr ⟨rfl,h2⟩)
     .exact .inr ⟨h1, .inr h2⟩
   .by_cases h1:nK<=a
    .exact .inl (.inl h1)
    .exact .inr ⟨h1, .inl rfl⟩
  rcases aeg with bT | ⟨Jg,bT⟩
  .have oN:R.2=a/\R.1=acc:=by
    have h:=DB.out.1;rw[Kk hf ha (by rw[haw];exact bT),List.append_nil]at h
    rw[h];exact ⟨rfl,rfl⟩
   have HE:=Lib.hid oN;have Kp:=Lib.hid (show r8 B b tt ba K (nx.set kd (ba+R.2)) (ms++yE kd ba R.1) (.slice Ak nK ck) (.slice (some ⟨g,0,none⟩) nN cn) Ai W/\Below B w W from by rw[oN.1,oN.2,Uq];exact ⟨OD.out.s,OD.out.bl⟩)
   clear oN;rcases bT with h1 | ⟨rfl,h2⟩
   .have hd1:decide ((nK:Int)<=(a:Int))=true:=decide_eq_true (by omega)
    have jO:decide (nK<=a)=true:=decide_eq_true h1;go_wp2_with fail
    (try simp only[Exit.inBlock,Exit.then]);refine bodyPost_ret (results_none rfl _ _ _) rfl ?_
    exact ⟨⟨_,rfl⟩,_,Kp.out.1,Kp.out.2⟩
   .by_cases h1:nK<=a
    .have hd1:decide ((nK:Int)<=(a:Int))=true:=decide_eq_true (by omega)
     have jO:decide (nK<=a)=true:=decide_eq_true h1;go_wp2_with fail
     (try simp only[Exit.inBlock,Exit.then]);refine bodyPost_ret (results_none rfl _ _ _) rfl ?_
     exact ⟨⟨_,rfl⟩,_,Kp.out.1,Kp.out.2⟩
    .have hd1:decide ((nK:Int)<=(a:Int))=false:=decide_eq_false (by omega)
     have jO:decide (nK<=a)=false:=decide_eq_false h1;have Ju:decide ((nK:Int)<(aw:Int))=true:=decide_eq_true (by omega)
     have PK:decide (nK<aw)=true:=decide_eq_true h2;go_wp2_with fail
     (try simp only[Exit.inBlock,Exit.then]);refine bodyPost_ret (results_none rfl _ _ _) rfl ?_
     exact ⟨⟨_,rfl⟩,_,Kp.out.1,Kp.out.2⟩
  .have Iy:¬(nK<=a\/(en=false/\nK<a+wt)):=by
    rw[haw];rintro (h | ⟨h1,h2⟩)
    .exact Jg h
    .rcases bT with h | h
     .rw[h1]at h;cases h
     .exact h h2
   have HGO:=Lib.hid Iy;have hd1:decide ((nK:Int)<=(a:Int))=false:=decide_eq_false (by omega)
   have jO:decide (nK<=a)=false:=decide_eq_false Jg;obtain ⟨z3,Ju⟩:∃z,decide ((nK:Int)<(aw:Int))=z:=⟨_,rfl⟩;have PK:decide (nK<aw)=z3:=by rw[<-Ju];exact decide_eq_decide.2 (by omega)
   have hz:en=false->z3=false:=λhe=>by
    rcases bT with h | h
    .rw[he]at h;cases h
    .rw[<-PK];exact decide_eq_false h
   clear Iy bT
   cases en
   all_goals
    try (have Cl:=hz rfl;subst Cl)
    clear hz
    go_upto_region 5 with fail
    have FU:=λd:aM W.heap.size W=>(OD.out.later d.ay).f.cells;have CT:=λd:aM W.heap.size W=>(FU d).1.1;have gI:=λd:aM W.heap.size W=>(FU d).1.2.1;have eg:=λd:aM W.heap.size W=>(FU d).1.2.2.1;have oT:=λd:aM W.heap.size W=>(FU d).1.2.2.2.1;have zL:=λd:aM W.heap.size W=>(FU d).1.2.2.2.2.1;have SI:=λd:aM W.heap.size W=>(FU d).1.2.2.2.2.2;have Ur:=λd:aM W.heap.size W=>(FU d).2.1.1;have Bj:=λd:aM W.heap.size W=>(FU d).2.1.2.1;have wL:=λd:aM W.heap.size W=>(FU d).2.1.2.2.1;have xW:=λd:aM W.heap.size W=>(FU d).2.1.2.2.2.1;have hfa:=λd:aM W.heap.size W=>(FU d).2.1.2.2.2.2;have hfb:=λd:aM W.heap.size W=>(FU d).2.2.1.1;have hfc:=λd:aM W.heap.size W=>(FU d).2.2.1.2;have kF:=λd:aM W.heap.size W=>(FU d).2.2.2;have Sq:=λd:aM W.heap.size W=>(OD.out.later d.ay).s.cells.2.2.1;have aeh:=λd:aM W.heap.size W=>(OD.out.later d.ay).s.lt;have HC:=Lib.hid λd:aM W.heap.size W=>aee.out d.val a (OD.out.later d.ay).bl (by exact (OD.out.later d.ay).s.k) ha
    clear FU c0 c1 c2 c3 c4 lb
    cases vX:jl a with
    | none=>
     rw[vX]at HC;simp only[Option.getD_none,Option.isSome_none]at HC;refine aO (Below.refl W.heap.size W) (by kernel_rfl) (by kernel_rfl) ?_
     repeat (go_big_quiet_step (fail))
     go_big_quiet_step ((go_at_call 75;exact Calls.cM (Nat.le_refl _) (HC.out _)))
     repeat (go_big_quiet_step (fail))
     refine wpQuiet_nil ?_;intro w5 hw';have hj5:=(show Eg B b tt ba N x K (nx.set kd ew) (ms++yE kd ba acc) (.slice Ak nK ck) (.slice (some ⟨g,0,none⟩) nN cn) Ai w w5 by obtain ⟨d9,rfl⟩:=hw';exact OD.out.later d9.ay)
     have Us:=Lib.hid hj5;have hw6:IntKind.i64.wrap ((a:Int)+1)=((a+1:Nat):Int):=by rw[IntWalk.i64_in _ (by omega)];omega
     clear hw' CT gI eg oT zL SI Ur Bj wL xW hfa hfb hfc kF Sq aeh hj5;obtain ⟨f',rfl,YZ⟩:=Kl (p:=p) hf HGO.out vX;go_wp2_with fail;refine ⟨⟨a+1,f',acc,ew,Ai,rfl,by omega,by omega,⟨?_,by have:=DB.out.2;omega⟩,Us.out⟩,by simp[intOf];omega⟩
     rw[<-YZ];exact DB.out.1
    | some t=>
     obtain ⟨hat,Tz⟩:=HCB.out a t vX;rw[vX]at HC;simp only[Option.getD_some,Option.isSome_some]at HC;refine aO (Below.refl W.heap.size W) (by kernel_rfl) (by kernel_rfl) ?_
     repeat (go_big_quiet_step (fail))
     go_big_quiet_step ((go_at_call 75;exact Calls.cM (Nat.le_refl _) (HC.out _)))
     repeat (go_big_quiet_step (fail))
     refine wpQuiet_nil ?_;intro w5 hw';have hj5:=(show Eg B b tt ba N x K (nx.set kd ew) (ms++yE kd ba acc) (.slice Ak nK ck) (.slice (some ⟨g,0,none⟩) nN cn) Ai w w5 by obtain ⟨d9,rfl⟩:=hw';exact OD.out.later d9.ay)
     have Us:=Lib.hid hj5;clear hw' CT gI eg oT zL SI Ur Bj wL xW hfa hfb hfc kF Sq aeh hj5;obtain ⟨f',rfl,YZ⟩:=Km (p:=p) hf HGO.out vX;have HRE:=Lib.hid YZ;clear YZ
     go_upto_region 8 with fail
     have BW:=λd:aM w5.heap.size w5=>(Us.out.later d.ay).f.cells;have ur:=λd:aM w5.heap.size w5=>(BW d).1.1;have et:=λd:aM w5.heap.size w5=>(BW d).1.2.1;have jC:=λd:aM w5.heap.size w5=>(BW d).1.2.2.1;have rQ:=λd:aM w5.heap.size w5=>(BW d).1.2.2.2.1;have Fe:=λd:aM w5.heap.size w5=>(BW d).1.2.2.2.2.1;have OE:=λd:aM w5.heap.size w5=>(BW d).1.2.2.2.2.2;have hg6:=λd:aM w5.heap.size w5=>(BW d).2.1.1;have QT:=λd:aM w5.heap.size w5=>(BW d).2.1.2.1;have TJ:=λd:aM w5.heap.size w5=>(BW d).2.1.2.2.1;have we:=λd:aM w5.heap.size w5=>(BW d).2.1.2.2.2.1;have KU:=λd:aM w5.heap.size w5=>(BW d).2.1.2.2.2.2;have Bd:=λd:aM w5.heap.size w5=>(BW d).2.2.1.1;have TR:=λd:aM w5.heap.size w5=>(BW d).2.2.1.2;have dV:=λd:aM w5.heap.size w5=>(BW d).2.2.2;have VV:=λd:aM w5.heap.size w5=>(Us.out.later d.ay).s.cells.2.2.1;have alP:=λd:aM w5.heap.size w5=>(Us.out.later d.ay).s.lt;have HP:=Lib.hid λd:aM w5.heap.size w5=>HPS.out d.val a t (Us.out.later d.ay).bl (Us.out.later d.ay).s.k hat Tz;obtain ⟨pz,Kq⟩:∃z,p a t=z:=⟨_,rfl⟩;rw[Kq]at HP;have HPZ:=Lib.hid Kq;clear BW Kq;refine aO (Below.refl w5.heap.size w5) (by kernel_rfl) (by kernel_rfl) ?_
     repeat (go_big_quiet_step (fail))
     go_big_quiet_step ((go_at_call 76;exact Calls.cM (Nat.le_refl _) (HP.out _)))
     repeat (go_big_quiet_step (fail))
     refine wpQuiet_nil ?_;intro W8 hw';have hj8:=(show Eg B b tt ba N x K (nx.set kd ew) (ms++yE kd ba acc) (.slice Ak nK ck) (.slice (some ⟨g,0,none⟩) nN cn) Ai w W8 by obtain ⟨d9,rfl⟩:=hw';exact Us.out.later d9.ay)
     have OG:=Lib.hid hj8;clear hw' ur et jC rQ Fe OE hg6 QT TJ we KU Bd TR dV VV alP hj8 HP
     cases pz with
     | false=>
      go_wp2_with fail;refine ⟨⟨t,f',acc,ew,Ai,rfl,Tz,by omega,⟨?_,by have:=DB.out.2;omega⟩,OG.out⟩,by simp[intOf];omega⟩
      have h:=DB.out.1;rw[HRE.out,if_neg (by rw[HPZ.out];decide)]at h
      exact h
     | true=>
      obtain ⟨fM,X1⟩:∃z,ms++yE kd ba acc=z:=⟨_,rfl⟩;obtain ⟨X2,alQ⟩:∃z,Ai=z:=⟨_,rfl⟩;obtain ⟨jm,aej⟩:∃z,ba+t=z:=⟨_,rfl⟩;obtain ⟨ie,sR,oq,gY,bM⟩:=info_parts kQ;have FM:IntKind.i64.wrap ((ba:Int)+(t:Int))=(jm:Int):=by rw[IntWalk.i64_in _ (by omega)];omega
      have aek:IntKind.i64.wrap ((ba:Int)+(a:Int))=(ew:Int):=by rw[IntWalk.i64_in _ (by omega)];omega
      have HWR:=Lib.hid (And.intro aek FM);rw[X1,alQ]at OG;have hl9:fM.length<=270000:=by rw[<-X1,List.length_append,yE,List.length_map];have:=DB.out.2;omega
      have HOW:=Lib.hid (And.intro OG.out.s.m (And.intro hl9 (Nat.le_trans OG.out.s.hb (Nat.le_of_lt OG.out.s.lt))));have Uk:=Lib.hid (λ(wz:World) (hS:W8.grownBy wz X2.ownBlock)=>(by
       have xz:=hS.block b OG.out.s.lt (λe=>by
        obtain ⟨cg,mg,h9⟩:=aT OG.out.s.m b e.symm;rw[OG.out.s.box]at h9;injection h9 with h9;injection h9 with _ h9 _;exact absurd h9 (by decide))
       have gU:=xz.trans OG.out.s.box;exact ⟨⟨by rw[cell_of_row _ _ _ _ _ _ gU];rfl,by rw[cell_of_row _ _ _ _ _ _ gU];rfl,by rw[cell_of_row _ _ _ _ _ _ gU];rfl,by rw[cell_of_row _ _ _ _ _ _ gU];rfl,by rw[cell_of_row _ _ _ _ _ _ gU];rfl⟩,(Array.getElem?_eq_some_iff.1 gU).1,by simp[World.frozen?,gU]⟩:(wz.cell? ⟨b,0,none⟩=some (.int .i64 (tt:Int))/\wz.cell? ⟨b,1,none⟩=some (.int .i64 (ba:Int))/\wz.cell? ⟨b,2,none⟩=some (.slice Ak nK ck)/\wz.cell? ⟨b,3,none⟩=some (.slice (some ⟨g,0,none⟩) nN cn)/\wz.cell? ⟨b,4,none⟩=some X2)/\b<wz.heap.size/\wz.frozen? ⟨b,4,none⟩=false))
      have eU:SgV W8 X2 0 W8.drew:=⟨World.grownBy.but (show W8.grownBy W8.drew none from ⟨rfl,rfl,rfl,Nat.le_refl _,λ_ _ _=>rfl⟩) _,λ_=>(Below.refl _ _).drew⟩;clear FM aek
      go_upto_region 9 with fail
      obtain ⟨W,hWW⟩:∃z,W8=z:=⟨_,rfl⟩;rw[hWW]at OG HOW Uk eU|-;clear hWW;refine aq 23 [20] (vH B b kd ba a t ew jm fM X2 W) (SgV W X2) (by kernel_rfl) (by kernel_rfl) (by kernel_rfl) (by kernel_rfl) (by kernel_rfl) (by kernel_rfl) (by decide) eU ?_ ?_
      .simp only[cP,cQ];refine ae.pure (by decide) ?_ (ae.pure (by decide) ?_ (ae.pure (by decide) ?_ (ae.pure (by decide) ?_ (ae.pure (by decide) ?_ (ae.pure (by decide) ?_ (ae.pure (by decide) ?_ (ae.pure (by decide) ?_ (ae.pure (by decide) ?_ (ae.pure (by decide) ?_ (ae.pure (by decide) ?_ (ae.pure (by decide) ?_ (ae.pure (by decide) ?_ (ae.pure (by decide) ?_ (ae.pure (by decide) ?_ (ae.pure (by decide) ?_ (ae.pure (by decide) ?_ (ae.pure (by decide) ?_ (ae.pure (by decide) ?_ (ae.free (by decide) ?_ (ae.oJ 0 rfl ?_ (ae.pure (by decide) ?_ (ae.pure (by decide) ?_ (ae.nil)))))))))))))))))))))))
       all_goals first | (with_reducible intro v wz c aD hS hE K hK;simp only[ai,Act.put,eh,ek,ep,Nat.zero_add,Nat.reduceAdd,cP,cQ]at hK|-) | (intro v wz hS hE K hK;simp only[ai,Act.put,eh,ek,ep,Nat.zero_add,Nat.reduceAdd,cP,cQ]at hK|-)
       .have HX:=Lib.hid hS;clear hS hE aD;go_wp2_with fail;exact hK.out _ rfl
       .have HX:=Lib.hid hS;clear hS hE aD;go_wp2_with fail;exact hK.out _ rfl
       .have e1:v 1=_:=hE.1 rfl;rw[e1]at hK|-;have HX:=Lib.hid hS;clear hS hE aD;go_wp2_with fail;exact hK.out _ rfl
       .have e2:v 2=_:=hE.1 rfl;rw[e2]at hK|-;have HX:=Lib.hid hS;clear hS hE aD;go_wp2_with fail;exact hK.out _ rfl
       .have e3:v 3=_:=hE.1 rfl;rw[e3]at hK|-;obtain ⟨⟨c0,c1,c2,c3,c4⟩,Ls⟩:=Uk.out wz hS.1;have HX:=Lib.hid hS;clear hS hE aD;go_wp2_with fail;exact hK.out _ rfl
       .have HX:=Lib.hid hS;clear hS hE aD;go_wp2_with fail;exact hK.out _ rfl
       .have HX:=Lib.hid hS;clear hS hE aD;go_wp2_with fail;exact hK.out _ rfl
       .have e6:v 6=_:=hE.1 rfl;rw[e6]at hK|-;have HX:=Lib.hid hS;clear hS hE aD;go_wp2_with fail;exact hK.out _ rfl
       .have e7:v 7=_:=hE.1 rfl;rw[e7]at hK|-;have HX:=Lib.hid hS;clear hS hE aD;go_wp2_with fail;exact hK.out _ rfl
       .have e8:v 8=_:=hE.1 rfl;rw[e8]at hK|-;obtain ⟨⟨c0,c1,c2,c3,c4⟩,Ls⟩:=Uk.out wz hS.1;have HX:=Lib.hid hS;clear hS hE aD;go_wp2_with fail;exact hK.out _ rfl
       .have HX:=Lib.hid hS;clear hS hE aD;go_wp2_with fail;exact hK.out _ rfl
       .have e9:v 9=_:=hE.1 rfl;have pA:v 10=_:=hE.2.1 rfl;rw[e9,pA]at hK|-;have hw:=HWR.out.1;have HX:=Lib.hid hS;clear hS hE aD;go_wp2_with fail;exact hK.out _ rfl
       .have HX:=Lib.hid hS;clear hS hE aD;go_wp2_with fail;exact hK.out _ rfl
       .have rM:v 12=_:=hE.1 rfl;rw[rM]at hK|-;have HX:=Lib.hid hS;clear hS hE aD;go_wp2_with fail;exact hK.out _ rfl
       .have tQ:v 13=_:=hE.1 rfl;rw[tQ]at hK|-;have HX:=Lib.hid hS;clear hS hE aD;go_wp2_with fail;exact hK.out _ rfl
       .have wa:v 14=_:=hE.1 rfl;rw[wa]at hK|-;obtain ⟨⟨c0,c1,c2,c3,c4⟩,Ls⟩:=Uk.out wz hS.1;have HX:=Lib.hid hS;clear hS hE aD;go_wp2_with fail;exact hK.out _ rfl
       .have HX:=Lib.hid hS;clear hS hE aD;go_wp2_with fail;exact hK.out _ rfl
       .have DY:v 15=_:=hE.1 rfl;have e16:v 16=_:=hE.2.1 rfl;rw[DY,e16]at hK|-;have hw:=HWR.out.2;have HX:=Lib.hid hS;clear hS hE aD;go_wp2_with fail;exact hK.out _ rfl
       .have e5:v 5=_:=hE.1 rfl;have tP:v 11=_:=hE.2.1 rfl;have e17:v 17=_:=hE.2.2.1 rfl;rw[e5,tP,e17]at hK|-;have HX:=Lib.hid hS;clear hS hE aD;go_wp2_with fail;exact hK.out _ rfl
       .have e18:v 18=_:=hE.1 rfl;rw[e18]at hK|-;have po:=hS.1.size;have dh:Below wz.heap.size wz (wz.alloc (.cells #[.int .i64 (kd:Int), .int .i64 (ew:Int), .int .i64 (jm:Int)] 36)):=(Below.refl _ _).alloc (Nat.le_refl _) _;have HX:=Lib.hid (And.intro (show SgV W X2 c (wz.alloc (.cells #[.int .i64 (kd:Int), .int .i64 (ew:Int), .int .i64 (jm:Int)] 36)) from ⟨hS.1.trans (World.grownBy.but ⟨dh.os,dh.tape,dh.output,dh.size,λk hk _=>dh.block k hk⟩ _),λh=>(hS.2 h).trans (dh.mono po)⟩) dh);clear hS hE aD dh;go_wp2_with fail;exact hK.out _ _ (λj z hj h=>FT HX.out.2 h) HX.out.1 (λ_=>⟨wz.heap.size,rfl,po,heap_alloc_new wz _⟩)
       .have e4:v 4=_:=hE.1 rfl;rw[e4]at hK|-;have E19:=hE.2.1 rfl;obtain ⟨g9,e9,we,hh9⟩:=E19 (Nat.le_refl _);rw[e9]at hK|-;have yx:=OR.later HOW.out.1 (hS.2 rfl);have Cl:=hS.1.size;have hlen:=HOW.out.2.1;have X3:=HOW.out.2.2;have hrow:∀(j:Nat) (u:Value),[Value.int .i64 (kd:Int), .int .i64 (ew:Int), .int .i64 (jm:Int)][j]?=some u->wz.cell? ((⟨g9,0,none⟩:Addr).add j)=some u:=λj u hj=>by
         rw[Addr.add_lit,Nat.zero_add,cell_of_row _ _ _ _ _ _ hh9];simpa using hj
        have HX:=Lib.hid (And.intro hS yx);clear hS hE hh9 E19;refine cN rfl _ _ 31 rfl B 36 ie _ 3 24 Tryz.underlying31 sR oq gY bM rfl (by decide) X2 fM.length (aY cV fM) rfl yx ⟨g9,0,none⟩ 1 1 [.int .i64 (kd:Int), .int .i64 (ew:Int), .int .i64 (jm:Int)] rfl rfl hrow (by intro u hu; simp only[List.mem_cons,List.not_mem_nil,or_false]at hu; rcases hu with rfl | rfl | rfl <;> rfl) (by unfold maxLen; omega) (by omega) (by omega) ?_
        intro v' wx Ut hgX hfX;refine wpList_nil ?_;simp only[Act.put,List.setIfInBounds_toArray,List.set_cons_zero,List.set_cons_succ]
        change K _ _
        obtain ⟨A',c',rfl,-,-⟩:=ag Ut;refine hK.out _ _ (λj z hj h=>Ko hj h) ⟨HX.out.1.1.trans hgX,λh=>absurd h (by decide)⟩ (λ_=>⟨A',c',rfl,?_⟩)
        show wx.ownsRow _ _ _ _ (fM++[(⟨kd,ew,jm⟩:Mt)]).length (aY cV (fM++[⟨kd,ew,jm⟩]));rw[List.length_append,bA,bf];exact Ut
       .have e0:v 0=_:=hE.1 rfl;rw[e0]at hK|-;have HX:=Lib.hid hS;clear hS hE aD;go_wp2_with fail;exact hK.out _ rfl
       .have e21:v 21=_:=hE.1 rfl;rw[e21]at hK|-;have HX:=Lib.hid hS;clear hS hE aD;go_wp2_with fail;exact hK.out _ rfl
      .intro v wz hS hF;obtain ⟨A9,c9,e20,ho9⟩:∃A9 c9,v 20 = .slice A9 (fM.length+1) c9/\OR 36 3 cV B (v 20) (fM++[⟨kd,ew,jm⟩]) wz:=hF 20 (by decide) rfl
       have e22:v 22=_:=hF 22 (by decide)
       simp only[ai,Act.put,eh,ek,ep,Nat.zero_add,Nat.reduceAdd,cP,cQ,List.drop_succ_cons,List.drop_zero,e22];rw[e20]at ho9|-;obtain ⟨⟨c0,c1,c2,c3,c4⟩,Ls,frz⟩:=Uk.out wz hS.1;have hjf:=OG.out.app ⟨kd,ew,jm⟩ hS.1 ho9;have HJF:=Lib.hid hjf;clear hjf hS hF e20 e22 ho9 eU;go_wp2_with fail;refine ⟨⟨t,f',acc++[(a,t)],ew, .slice A9 (fM.length+1) c9,rfl,Tz,by omega,⟨?_,by have:=DB.out.2;simp;omega⟩,?_⟩,by simp[intOf];omega⟩
       .have h:=DB.out.1;rw[HRE.out,if_pos HPZ.out]at h;rw[h,List.append_assoc,List.singleton_append]
       .have e9:ms++yE kd ba (acc++[(a,t)])=fM++[⟨kd,ew,jm⟩]:=by rw[<-X1,yE,yE,List.map_append,<-List.append_assoc,<-Uq,<-aej];rfl
        rw[e9];exact HJF.out
end
section
set_option linter.unusedVariables false
set_option linter.unusedSimpArgs false
open Go.RowKit
def rH {α:Type} (enc:α->List Value) (n:Nat) (w:World) (v:Value) (l:List α):Prop:=∃A c,v = .slice A l.length c/\(l.length<=c/\c<=9223372036854775807)/\(l=[]\/∃g f,A=some ⟨g,f,none⟩/\g<w.heap.size/\∀i (h:i<l.length),∀j,j<n->w.cell? ⟨g,f+i*n+j,none⟩=(enc l[i])[j]?)
theorem rH.later {α:Type} {enc:α->List Value} {n:Nat} {w w':World} {v:Value} {l:List α} (h:rH enc n w v l) (hb:Below w.heap.size w w'):rH enc n w' v l:=by
 obtain ⟨A,c,e,hc,h⟩:=h;refine ⟨A,c,e,hc,h.imp id ?_⟩;rintro ⟨g,f,h1,hg,hcell⟩;exact ⟨g,f,h1,Nat.lt_of_lt_of_le hg hb.size,λi hi j hj=>(hb.cell (p:=⟨g,f+i*n+j,none⟩) hg).trans (hcell i hi j hj)⟩
theorem rH.gW {α:Type} {enc:α->List Value} {n:Nat} (E:jg enc n) {e:TypeId} {B:Nat} {v:Value} {l:List α} {w:World} (h:OR e n enc B v l w):rH enc n w v l:=by
 obtain ⟨A,c,rfl,hle,bD⟩:=h.cells E;obtain ⟨A',c',e0,-,Bb⟩:=ag (show w.ownsRow _ _ _ _ _ _ from h);injection e0 with _ _ e0;subst e0;refine ⟨A,c,rfl,⟨hle,Bb⟩,?_⟩;rcases bD with bD | ⟨g,rfl,hB,hg,hc⟩
 .exact .inl bD
 .exact .inr ⟨g,0,rfl,hg,λi hi j hj=>by rw[Nat.zero_add];exact (hc i hi j hj).1⟩
def tz (c:UInt8):List Value:=[.int .u8 c.toNat]
theorem OH:jg tz 1:=⟨by decide,λ_=>rfl,λx u hu=>by simp[tz]at hu;subst hu;rfl⟩
theorem Al:∀l:List UInt8,aY tz l=l.map λc=>Value.int .u8 c.toNat
 | []=>rfl
 | c::r=>by
  show tz c++aY tz r=_;rw[Al r];rfl
set_option maxHeartbeats 1000000 in
theorem vI (v:Value) (l:List UInt8) (w:World) (h:rH tz 1 w v l) (hl:l.length<=900000):Calls Tryz.prog 44 #[v] w λe w'=>∃rv,e = .returned rv/\OR 5 1 tz w.heap.size rv l w'/\Below w.heap.size w w':=by
 obtain ⟨i0,hi,hz0,hz1,hz2⟩:=info_parts ij;obtain ⟨A,c,rfl,hc,hcell⟩:=h;have hnil:=λw=>Lib.run_eql_slice_nil (P:=Tryz.prog) w 28 5 A l.length c 0 0 Tryz.underlying28
 cases A with
 | none=>
  obtain rfl:l=[]:=by
   rcases hcell with h | ⟨g,f,h,-⟩
   .exact h
   .cases h
  simp only[List.length_nil]at hnil
  go_enter Tryz.func44,Tryz.ntmps44
  go_wp2_with fail;go_ret;exact ⟨_,rfl,OR.ic _ _ _,Below.refl _ _⟩
 | some ad=>
  have HC:=Lib.hid (show ∀w1,Below w.heap.size w w1->∀i (h:i<l.length),∀j<1,w1.cell? (ad.add (i*1+j))=(tz l[i])[j]? from λw1 hb i hi j hj=>by
   rcases hcell with h | ⟨g,f,h,hg,hm⟩
   .rw[h]at hi;simp at hi
   .injection h with h;subst h;rw[Addr.add_lit,<-Nat.add_assoc];exact (hb.cell (p:=⟨g,f+i*1+j,none⟩) hg).trans (hm i hi j hj))
  clear hcell;have h0:=OR.empty (enc:=tz) (n:=1) 5 w;have hb0:=(Below.refl w.heap.size w).alloc (Nat.le_refl _) (.cells #[] 5)
  go_enter Tryz.func44,Tryz.ntmps44
  go_wp2_with (at_builtin;refine zQ OH Tryz.underlying28 hi hz0 hz1 hz2 rfl (by decide) _ _ _ ad _ [] l w.heap.size rfl rfl rfl rfl h0 (HC.out _ hb0) (by simp) (by omega) (by simp) ?_;intro v1 w1 hown1 hb1)
  go_ret;exact ⟨_,rfl,by simpa using hown1,hb0.trans hb1⟩
set_option maxHeartbeats 1000000 in
theorem FV (v:Value) (l:List Nat) (w:World) (h:rH yA 1 w v l) (hl:l.length<=900000):Calls Tryz.prog 72 #[v] w λe w'=>∃rv,e = .returned rv/\OR 3 1 yA w.heap.size rv l w'/\Below w.heap.size w w':=by
 obtain ⟨i0,hi,hz0,hz1,hz2⟩:=info_parts ft;obtain ⟨A,c,rfl,hc,hcell⟩:=h;have hnil:=λw=>Lib.run_eql_slice_nil (P:=Tryz.prog) w 22 3 A l.length c 0 0 Tryz.underlying22
 cases A with
 | none=>
  obtain rfl:l=[]:=by
   rcases hcell with h | ⟨g,f,h,-⟩
   .exact h
   .cases h
  simp only[List.length_nil]at hnil
  go_enter Tryz.func72,Tryz.ntmps72
  go_wp2_with fail;go_ret;exact ⟨_,rfl,OR.ic _ _ _,Below.refl _ _⟩
 | some ad=>
  have HC:=Lib.hid (show ∀w1,Below w.heap.size w w1->∀i (h:i<l.length),∀j<1,w1.cell? (ad.add (i*1+j))=(yA l[i])[j]? from λw1 hb i hi j hj=>by
   rcases hcell with h | ⟨g,f,h,hg,hm⟩
   .rw[h]at hi;simp at hi
   .injection h with h;subst h;rw[Addr.add_lit,<-Nat.add_assoc];exact (hb.cell (p:=⟨g,f+i*1+j,none⟩) hg).trans (hm i hi j hj))
  clear hcell;have h0:=OR.empty (enc:=yA) (n:=1) 3 w;have hb0:=(Below.refl w.heap.size w).alloc (Nat.le_refl _) (.cells #[] 3)
  go_enter Tryz.func72,Tryz.ntmps72
  go_wp2_with (at_builtin;refine zQ tZ Tryz.underlying22 hi hz0 hz1 hz2 rfl (by decide) _ _ _ ad _ [] l w.heap.size rfl rfl rfl rfl h0 (HC.out _ hb0) (by simp) (by omega) (by simp) ?_;intro v1 w1 hown1 hb1)
  go_ret;exact ⟨_,rfl,by simpa using hown1,hb0.trans hb1⟩
set_option maxHeartbeats 1000000 in
theorem FW (v:Value) (l:List Mt) (w:World) (h:rH cV 3 w v l) (hl:l.length<=900000):Calls Tryz.prog 73 #[v] w λe w'=>∃rv,e = .returned rv/\OR 36 3 cV w.heap.size rv l w'/\Below w.heap.size w w':=by
 obtain ⟨i0,hi,hz0,hz1,hz2⟩:=info_parts kQ;obtain ⟨A,c,rfl,hc,hcell⟩:=h;have hnil:=λw=>Lib.run_eql_slice_nil (P:=Tryz.prog) w 31 36 A l.length c 0 0 Tryz.underlying31
 cases A with
 | none=>
  obtain rfl:l=[]:=by
   rcases hcell with h | ⟨g,f,h,-⟩
   .exact h
   .cases h
  simp only[List.length_nil]at hnil
  go_enter Tryz.func73,Tryz.ntmps73
  go_wp2_with fail;go_ret;exact ⟨_,rfl,OR.ic _ _ _,Below.refl _ _⟩
 | some ad=>
  have HC:=Lib.hid (show ∀w1,Below w.heap.size w w1->∀i (h:i<l.length),∀j<3,w1.cell? (ad.add (i*3+j))=(cV l[i])[j]? from λw1 hb i hi j hj=>by
   rcases hcell with h | ⟨g,f,h,hg,hm⟩
   .rw[h]at hi;simp at hi
   .injection h with h;subst h;rw[Addr.add_lit,<-Nat.add_assoc];exact (hb.cell (p:=⟨g,f+i*3+j,none⟩) hg).trans (hm i hi j hj))
  clear hcell;have h0:=OR.empty (enc:=cV) (n:=3) 36 w;have hb0:=(Below.refl w.heap.size w).alloc (Nat.le_refl _) (.cells #[] 36)
  go_enter Tryz.func73,Tryz.ntmps73
  go_wp2_with (at_builtin;refine zQ uM Tryz.underlying31 hi hz0 hz1 hz2 rfl (by decide) _ _ _ ad _ [] l w.heap.size rfl rfl rfl rfl h0 (HC.out _ hb0) (by simp) (by omega) (by simp) ?_;intro v1 w1 hown1 hb1)
  go_ret;exact ⟨_,rfl,by simpa using hown1,hb0.trans hb1⟩
def Ia (N:Nat) (kv nv mv:Value) (K:List UInt8) (nx:List Nat) (ms:List Mt) (W:World):Nat->Nat->Value->World->Prop
 | _,0,x,_=>x = .pointer (some ⟨N,2,none⟩)
 | _,1,x,_=>x=kv
 | c,2,x,w=>1<=c->w.ownsRow W.heap.size 5 1 x K.length (aY tz K)
 | _,3,x,_=>x = .pointer (some ⟨N,3,none⟩)
 | _,4,x,_=>x=nv
 | c,5,x,w=>2<=c->w.ownsRow W.heap.size 3 1 x nx.length (aY yA nx)
 | _,6,x,_=>x = .pointer (some ⟨N,4,none⟩)
 | _,7,x,_=>x=mv
 | c,8,x,w=>3<=c->w.ownsRow W.heap.size 36 3 x ms.length (aY cV ms)
 | _,9,x,_=>x = .pointer (some ⟨N,2,none⟩)
 | _,_,_,_=>True
theorem oZ {N:Nat} {kv nv mv:Value} {K:List UInt8} {nx:List Nat} {ms:List Mt} {W:World} {c j:Nat} {x:Value} {w w':World} (hb:Below w.heap.size w w') (hj:(c=0->j≠2)/\(c=1->j≠5)/\(c=2->j≠8)) (h:Ia N kv nv mv K nx ms W c j x w):Ia N kv nv mv K nx ms W (c+1) j x w':=by
 unfold Ia at h|-
 split at h
 all_goals first
  | exact h
  | (intro hc
     have h1:=h (by obtain ⟨a1,a2,a3⟩:=hj;omega)
     exact ak h1 λg hg=>hb.block g (World.ownsRow.lt h1 g hg).2)
theorem iA:(Tryz.prog.info? 51).map (·.size)=some 5:=by kernel_rfl
structure Lt (w:World) (K:List UInt8) (nx:List Nat) (ms:List Mt) (kv nv mv:Value):Prop where
 k:rH tz 1 w kv K
 n:rH yA 1 w nv nx
 m:rH cV 3 w mv ms
theorem Lt.later {w w':World} {K:List UInt8} {nx:List Nat} {ms:List Mt} {kv nv mv:Value} (h:Lt w K nx ms kv nv mv) (hb:Below w.heap.size w w'):Lt w' K nx ms kv nv mv:=⟨h.k.later hb,h.n.later hb,h.m.later hb⟩
set_option maxHeartbeats 4000000 in
theorem vJ (tt ba:Int) (K:List UInt8) (nx:List Nat) (ms:List Mt) (kv nv mv:Value) (w:World) (h:Lt w K nx ms kv nv mv) (h1:K.length<=900000) (h2:nx.length<=900000) (h3:ms.length<=900000) :
  Calls Tryz.prog 41 #[.agg #[.int .i64 tt, .int .i64 ba,kv,nv,mv]] w λe w'=>∃A1 c1 A2 c2 A3 c3,e = .returned (.agg #[.int .i64 tt, .int .i64 ba, .slice A1 K.length c1, .slice A2 nx.length c2, .slice A3 ms.length c3])/\OB 5 w.heap.size (.slice A1 K.length c1) K w'/\OR 3 1 yA w.heap.size (.slice A2 nx.length c2) nx w'/\OR 36 3 cV w.heap.size (.slice A3 ms.length c3) ms w'/\Below w.heap.size w w':=by
 obtain ⟨Ak,ck,rfl,-⟩:=id h.k;obtain ⟨An,cn,rfl,-⟩:=id h.n;obtain ⟨Am,cm,rfl,-⟩:=id h.m;have H:=Lib.hid h;clear h
 go_enter Tryz.func41,Tryz.ntmps41
 go_upto_region 1 with fail
 refine dN λW hW=>?_;obtain ⟨cJ,pj,PQ⟩:=FR hW;have bH:=Lib.hid PQ;obtain ⟨kv,X4⟩:∃v,Value.slice Ak K.length ck=v:=⟨_,rfl⟩;obtain ⟨nv,hnv⟩:∃v,Value.slice An nx.length cn=v:=⟨_,rfl⟩;obtain ⟨mv,hmv⟩:∃v,Value.slice Am ms.length cm=v:=⟨_,rfl⟩;rw[X4,hnv,hmv]at H;rw[X4,hnv,hmv]at pj;have vT:=Lib.hid (λ(wz:World) (hb:Below W.heap.size W wz)=>(hb.block _ (Array.getElem?_eq_some_iff.1 pj).1).trans pj);have HK:=Lib.hid (λ(wz:World) (hb:Below W.heap.size W wz)=>vI kv K wz (H.out.k.later (cJ.trans (hb.mono cJ.size))) h1);have HN:=Lib.hid (λ(wz:World) (hb:Below W.heap.size W wz)=>FV nv nx wz (H.out.n.later (cJ.trans (hb.mono cJ.size))) h2);have HM:=Lib.hid (λ(wz:World) (hb:Below W.heap.size W wz)=>FW mv ms wz (H.out.m.later (cJ.trans (hb.mono cJ.size))) h3);have po:w.heap.size+2<=W.heap.size:=by have:=(Array.getElem?_eq_some_iff.1 PQ).1;omega
 have Uu:=Lib.hid (And.intro po cJ);have eU:Below W.heap.size W W.drew:=(Below.refl _ _).drew;clear hW cJ pj PQ X4 hnv hmv po;refine aq 10 [2,5,8] (Ia w.heap.size kv nv mv K nx ms W) (λ_ w'=>Below W.heap.size W w') (by kernel_rfl) (by kernel_rfl) (by kernel_rfl) (by kernel_rfl) (by kernel_rfl) (by kernel_rfl) (by decide) eU ?_ ?_
 .simp only[cP,cQ];refine ae.pure (by decide) ?_ (ae.pure (by decide) ?_ (ae.oJ 0 rfl ?_ (ae.pure (by decide) ?_ (ae.pure (by decide) ?_ (ae.oJ 1 rfl ?_ (ae.pure (by decide) ?_ (ae.pure (by decide) ?_ (ae.oJ 2 rfl ?_ (ae.pure (by decide) ?_ (ae.nil))))))))))
  all_goals first | (with_reducible intro v wz c aD hS hE K hK;simp only[ai,Act.put,eh,ek,ep,Nat.zero_add,Nat.reduceAdd,cP,cQ]at hK|-) | (intro v wz hS hE K hK;simp only[ai,Act.put,eh,ek,ep,Nat.zero_add,Nat.reduceAdd,cP,cQ]at hK|-)
  .have HX:=Lib.hid hS;clear hS hE aD;go_wp2_with fail;exact hK.out _ rfl
  .have e0:v 0=_:=hE.1 rfl;rw[e0]at hK|-;obtain ⟨c0,c1,c2,c3,c4⟩:=aJ (vT.out wz hS);have Ls:w.heap.size<wz.heap.size:=(Array.getElem?_eq_some_iff.1 (vT.out wz hS)).1;have HX:=Lib.hid hS;clear hS hE aD;go_wp2_with fail;exact hK.out _ rfl
  .have e1:v 1=_:=hE.1 rfl;rw[e1]at hK|-;have HX:=Lib.hid hS;have HC:=Lib.hid (HK.out wz hS);clear hS hE;go_wp2_with fail;refine HC.out.mono ?_;rintro e wy ⟨rv,rfl,Lu,hy⟩;have HP:=Lib.hid (And.intro Lu hy);clear Lu hy;go_wp2_with fail;refine hK.out _ _ (λj z hj h=>oZ HP.out.2 ⟨λ_=>hj,λh=>absurd h (by decide),λh=>absurd h (by decide)⟩ h) (HX.out.trans (HP.out.2.mono HX.out.size)) (λ_=>aS HP.out.1 HX.out.size)
  .have HX:=Lib.hid hS;clear hS hE aD;go_wp2_with fail;exact hK.out _ rfl
  .have e3:v 3=_:=hE.1 rfl;rw[e3]at hK|-;obtain ⟨c0,c1,c2,c3,c4⟩:=aJ (vT.out wz hS);have Ls:w.heap.size<wz.heap.size:=(Array.getElem?_eq_some_iff.1 (vT.out wz hS)).1;have HX:=Lib.hid hS;clear hS hE aD;go_wp2_with fail;exact hK.out _ rfl
  .have e4:v 4=_:=hE.1 rfl;rw[e4]at hK|-;have HX:=Lib.hid hS;have HC:=Lib.hid (HN.out wz hS);clear hS hE;go_wp2_with fail;refine HC.out.mono ?_;rintro e wy ⟨rv,rfl,Lu,hy⟩;have HP:=Lib.hid (And.intro Lu hy);clear Lu hy;go_wp2_with fail;refine hK.out _ _ (λj z hj h=>oZ HP.out.2 ⟨λh=>absurd h (by decide),λ_=>hj,λh=>absurd h (by decide)⟩ h) (HX.out.trans (HP.out.2.mono HX.out.size)) (λ_=>aS HP.out.1 HX.out.size)
  .have HX:=Lib.hid hS;clear hS hE aD;go_wp2_with fail;exact hK.out _ rfl
  .have e6:v 6=_:=hE.1 rfl;rw[e6]at hK|-;obtain ⟨c0,c1,c2,c3,c4⟩:=aJ (vT.out wz hS);have Ls:w.heap.size<wz.heap.size:=(Array.getElem?_eq_some_iff.1 (vT.out wz hS)).1;have HX:=Lib.hid hS;clear hS hE aD;go_wp2_with fail;exact hK.out _ rfl
  .have e7:v 7=_:=hE.1 rfl;rw[e7]at hK|-;have HX:=Lib.hid hS;have HC:=Lib.hid (HM.out wz hS);clear hS hE;go_wp2_with fail;refine HC.out.mono ?_;rintro e wy ⟨rv,rfl,Lu,hy⟩;have HP:=Lib.hid (And.intro Lu hy);clear Lu hy;go_wp2_with fail;refine hK.out _ _ (λj z hj h=>oZ HP.out.2 ⟨λh=>absurd h (by decide),λh=>absurd h (by decide),λ_=>hj⟩ h) (HX.out.trans (HP.out.2.mono HX.out.size)) (λ_=>aS HP.out.1 HX.out.size)
  .have HX:=Lib.hid hS;clear hS hE aD;go_wp2_with fail;exact hK.out _ rfl
 .intro v wz hS hF;have e9:v 9=_:=hF 9 (by decide)
  have e2:=hF 2 (by decide) (by decide)
  have e5:=hF 5 (by decide) (by decide)
  have e8:=hF 8 (by decide) (by decide)
  obtain ⟨A2,d2,q2,-,-⟩:=ag e2;obtain ⟨A5,d5,q5,-,-⟩:=ag e5;obtain ⟨A8,d8,q8,-,-⟩:=ag e8;rw[q2]at e2;rw[q5]at e5;rw[q8]at e8;simp only[ai,Act.put,eh,ek,ep,Nat.zero_add,Nat.reduceAdd,cP,cQ,List.drop_succ_cons,List.drop_zero,e9,q2,q5,q8];have hb0:=vT.out wz hS;have hb1:=(hS.block (w.heap.size+1) (by have:=Uu.out.1;omega)).trans bH.out
  obtain ⟨c0,c1,c2,c3,c4⟩:=aJ hb0;obtain ⟨y0,y1,y2,y3,y4⟩:=aJ hb1;have RJ:∀j,wz.frozen? ⟨w.heap.size,j,none⟩=false:=λj=>by simp[World.frozen?,hb0]
  have sI:∀j,wz.frozen? ⟨w.heap.size+1,j,none⟩=false:=λj=>by simp[World.frozen?,hb1]
  have f2:=RJ 2;have f3:=RJ 3;have f4:=RJ 4;have g0:=sI 0;have g1:=sI 1;have g2:=sI 2;have g3:=sI 3;have g4:=sI 4;have l0:w.heap.size<wz.heap.size:=(Array.getElem?_eq_some_iff.1 hb0).1;have l1:w.heap.size+1<wz.heap.size:=(Array.getElem?_eq_some_iff.1 hb1).1;have HE:=Lib.hid (And.intro e2 (And.intro e5 (And.intro e8 hS)));clear hb0 hb1 RJ sI e2 e5 e8 e9 q2 q5 q8 hF hS eU;go_wp2_with fail;refine ar λWf cH=>?_;have hrow:Wf.heap[w.heap.size+1]?=some (.cells #[.int .i64 tt, .int .i64 ba, .slice A2 K.length d2, .slice A5 nx.length d5, .slice A8 ms.length d8] 51 (0,0)):=by
   have hb1:=(HE.out.2.2.2.block (w.heap.size+1) (by have:=Uu.out.1;omega)).trans bH.out
   rw[cH];simp[World.setCell,Array.getElem?_modify,hb1]
  have Kj:∀q,W.heap.size<=q->Wf.heap[q]?=wz.heap[q]?:=λq hq=>by
   have:=Uu.out.1;have h1:¬w.heap.size=q:=by omega
   have h2:¬w.heap.size+1=q:=by omega
   rw[cH];simp[World.setCell,Array.getElem?_modify,h1,h2]
  have oH:Below w.heap.size w Wf:=by
   have h:=Uu.out.2.trans (HE.out.2.2.2.mono Uu.out.2.size);rw[cH]
   iterate 8 (refine Below.setCell ?_ (by dsimp only;omega) _)
   exact h
  clear cH;refine bodyPost_ret (v:=.agg #[.int .i64 tt, .int .i64 ba, .slice A2 K.length d2, .slice A5 nx.length d5, .slice A8 ms.length d8]) (results_cell_row (p:=2) rfl _ _ (w.heap.size+1) 51 _ (0,0) _ rfl hrow Tryz.underlying51 rfl iA) rfl ?_;have vK:w.heap.size<=W.heap.size:=by have:=Uu.out.1;omega
  refine ⟨A2,d2,A5,d5,A8,d8,rfl,?_,?_,?_,oH⟩
  .have h:=ak (aS HE.out.1 vK) (w':=Wf) λq hq=>Kj q (World.ownsRow.lt HE.out.1 q hq).1;rw[Al]at h;exact h
  .exact ak (aS HE.out.2.1 vK) (w':=Wf) λq hq=>Kj q (World.ownsRow.lt HE.out.2.1 q hq).1
  .exact ak (aS HE.out.2.2.1 vK) (w':=Wf) λq hq=>Kj q (World.ownsRow.lt HE.out.2.2.1 q hq).1
end
section
set_option linter.unusedVariables false
set_option linter.unusedSimpArgs false
open Go.RowKit
theorem FX (b tt x:Nat) (w:World) (h:w.cell? ⟨b,0,none⟩=some (.int .i64 (tt:Int))) (hx:x<=tt):Calls Tryz.prog 71 #[.int .i64 (x:Int), .pointer (some ⟨b,0,none⟩)] w λe w'=>e = .returned (.bool false)/\Below w.heap.size w w':=by
 have hb:=World.block_lt_of_cell? w _ h;have hb1:b<w.heap.size:=hb;have d1:decide ((x:Int)<0)=false:=decide_eq_false (by omega)
 have d2:decide ((tt:Int)<(x:Int))=false:=decide_eq_false (by omega)
 have d3:decide (tt<x)=false:=decide_eq_false (by omega)
 clear hb
 go_enter Tryz.func71,Tryz.ntmps71
 go_wp2_with fail;go_ret;exact ⟨rfl,Below.refl _ _⟩
theorem X5 (args:Array Value) (w:World):(callFunc 71 args).run Tryz.prog w = .ok (.enter 71 args) w:=by rfl
theorem rH.ii {w:World} {v:Value} {l:List Nat} (h:rH yA 1 w v l):ZJ w v l:=by
 obtain ⟨A,c,e,hc,h⟩:=h;refine ⟨A,c,e,hc,h.imp id ?_⟩;rintro ⟨g,f,h1,hg,hcell⟩;exact ⟨g,f,h1,hg,λi hi=>by have:=hcell i hi 0 (by decide);rw[Nat.mul_one,Nat.add_zero]at this;exact this⟩
set_option maxHeartbeats 4000000 in
theorem vL (A:Option Addr) (n c tt ba:Nat) (K:List UInt8) (nx:List Nat) (ms:List Mt) (kv nv mv:Value) (w:World) (h:Lt w K nx ms kv nv mv) (h1:tt<=65536) (h2:K.length+ba=tt) (h3:nx.length=n) (h4:∀x∈nx,x<=tt) (h5:n<=32) :
  Calls Tryz.prog 40 #[.slice A n c, .agg #[.int .i64 (tt:Int), .int .i64 (ba:Int),kv,nv,mv]] w λe w'=>e = .returned (.bool true)/\Below w.heap.size w w':=by
 obtain ⟨Ak,ck,rfl,-⟩:=id h.k;obtain ⟨An,cn,rfl,-⟩:=id h.n;obtain ⟨Am,cm,rfl,-⟩:=id h.m;have HN:=Lib.hid h.n.ii;obtain ⟨kl,di⟩:∃k,K.length=k:=⟨_,rfl⟩;rw[di]at h2|-;rw[h3]at HN|-;have d0:decide ((0:Int)<=(tt:Int))=true:=decide_eq_true (by omega)
 have d1:decide ((tt:Int)<=65536)=true:=decide_eq_true (by omega)
 have d2:decide ((0:Int)<=(ba:Int))=true:=decide_eq_true (by omega)
 have d3:decide ((ba:Int)<=(tt:Int))=true:=decide_eq_true (by omega)
 have Y6:decide (ba<=tt)=true:=decide_eq_true (by omega)
 have KY:decide (tt<=65536)=true:=decide_eq_true h1;have hw:IntKind.i64.wrap ((tt:Int) - (ba:Int))=(kl:Int):=by rw[IntWalk.i64_in _ (by omega)];omega
 have HC:=Lib.hid (λ(W:World) (b:Nat) (hb:Below w.heap.size w W) (hc:W.heap[b]?=some (.cells #[.int .i64 (tt:Int), .int .i64 (ba:Int), .slice Ak kl ck, .slice An n cn, .slice Am ms.length cm] 51 (0,0)))=>(by
  have h:=JJ 71 #[.pointer (some ⟨b,0,none⟩)] nx (λ_=>false) (.slice An n cn) W (HN.out.later hb) ⟨X5,λx hx W2 iU=>FX b tt x W2 (by
   have:=(iU.block b (Array.getElem?_eq_some_iff.1 hc).1).trans hc;rw[cell_of_row _ _ _ _ _ _ this];rfl) (h4 x hx)⟩
  have e:nx.any (λ_=>false)=false:=by simp
  rw[e]at h;exact h))
 clear h h4 di h3
 go_enter Tryz.func40,Tryz.ntmps40
 go_upto_region 1 with fail
 refine dN λW hW=>?_;have hb0:W.heap[w.heap.size]?=some (.cells #[.int .i64 (tt:Int), .int .i64 (ba:Int), .slice Ak kl ck, .slice An n cn, .slice Am ms.length cm] 51 (0,0)):=by rw[hW];exact heap_alloc_new w _
 have aP:Below w.heap.size w W:=by rw[hW];exact (Below.refl _ _).alloc (Nat.le_refl _) _
 have HK:=Lib.hid (HC.out W _ aP hb0);have HB:=Lib.hid aP;obtain ⟨c0,c1,c2,c3,c4⟩:=aJ hb0;have lb:w.heap.size<W.heap.size:=(Array.getElem?_eq_some_iff.1 hb0).1;clear hW aP hb0 HC;go_wp2_with fail;refine HK.out.mono ?_;rintro e w1 ⟨rfl,hb1⟩;have bH:=Lib.hid (HB.out.trans (hb1.mono HB.out.size));clear hb1 c0 c1 c2 c3 c4 lb;go_wp2_with fail;go_ret;exact ⟨rfl,bH.out⟩
end
section
set_option linter.unusedVariables false
set_option linter.unusedSimpArgs false
open Go.RowKit
theorem Ww {α:Type} {enc:α->List Value} {n:Nat} (E:jg enc n) {P:Program} {T e:TypeId} {i0:TypeInfo} {z:Value} {ku:Nat} (ht:P.underlying T=some (.slice e)) (hi:P.info? e=some i0) (hz0:i0.zero=some z) (hz1:i0.size=n) (hz2:i0.bytes=ku) (IJ:z.cells.size=n) (fO:ku<=1000)
  {w:World} {ops:Array Oper} {rest:List Oper} {op:Oper} {a:Act} {Q:Exit->Act->World->Prop} (s x:Operand) (v y:Value) (o p:List α) (B B2:Nat)
  (gV:op.guard=none) (ho:op.op = .call { callee:=.builtin .append,args:=#[s,x],argTypes:=#[T,T] })
  (hs:a.eval s=v) (hx:a.eval x=y) (hown:OR e n enc B v o w) (hy:OR e n enc B2 y p w) (hl:o.length<=1000000) (kA:p.length<=1000000) (hB:B<=w.heap.size)
  (h:∀v' w1,OR e n enc B v' (o++p) w1->Below B w w1->wpList P ops Q rest (a.put op.dst v') w1) :
  wpList P ops Q (op::rest) a w:=by
 obtain ⟨A,c,rfl,-,hc⟩:=hy.cells E
 cases A with
 | none=>
  rcases hc with rfl | ⟨g,h1,-⟩
  .rcases hy.2 with ⟨h1,-⟩ | ⟨g,cap,cur,h1,-⟩
   .injection h1 with _ _ h3;subst h3;refine wpList_append_own_none gV s x T ho B e i0 n ht hi v o.length _ hs hown hx ?_;exact h v w (by simpa using hown) (Below.refl _ _)
   .cases h1
  .cases h1
 | some ad=>
  rcases hy.2 with ⟨h1,-⟩ | ⟨g,cap,cur,h1,-⟩
  .cases h1
  .injection h1 with h1 _ h3;injection h1 with h1;subst h1 h3;refine Nn E ht hi hz0 hz1 hz2 IJ fO s x v g 0 c o p B gV ho hs hx hown (λi hi j hj=>?_) hl kA hB h;rcases hc with rfl | ⟨g',h1,-,-,h4⟩
   .cases hi
   .injection h1 with h1;injection h1 with h1 _;subst h1;rw[Nat.zero_add];exact (h4 i hi j hj).1
def Fb (fs:List (KC×M2)) (ms:List Mc) (bs:List Nat) (p:Nat->Nat->Nat->Bool) (i:Nat):List (Nat×Nat):=(Gt ((ms[i]?).getD ⟨[],[]⟩) ((fs[i]?).map (·.1.wh) |>.getD false) bs).filter λq=>p i q.1 q.2
theorem Np {w:World} {g f i:Nat} {x:KC×M2} (h:∀j,j<13->w.cell? ⟨g,f+i*13+j,none⟩=(mz x)[j]?):(w.cell? ⟨g,f+i*13,none⟩=some (.string x.1.nm)/\w.cell? ⟨g,f+i*13+1,none⟩=some (.int .i64 x.1.op)/\w.cell? ⟨g,f+i*13+2,none⟩=some (.slice x.1.a1 x.1.n1 x.1.c1)/\w.cell? ⟨g,f+i*13+3,none⟩=some (.slice x.1.a2 x.1.n2 x.1.c2)/\w.cell? ⟨g,f+i*13+4,none⟩=some (.int .i64 x.1.mn)/\w.cell? ⟨g,f+i*13+5,none⟩=some (.int .i64 x.1.mx))/\(w.cell? ⟨g,f+i*13+6,none⟩=some (.bool x.1.wh)/\w.cell? ⟨g,f+i*13+7,none⟩=some (.int .i64 x.1.ck)/\w.cell? ⟨g,f+i*13+8,none⟩=some (.int .i64 x.1.en)/\w.cell? ⟨g,f+i*13+9,none⟩=some (.slice x.1.a3 x.1.n3 x.1.c3)/\w.cell? ⟨g,f+i*13+10,none⟩=some (.int .i64 x.1.nr))/\w.cell? ⟨g,f+i*13+11,none⟩=some (.slice x.2.a1 x.2.n1 x.2.c1)/\w.cell? ⟨g,f+i*13+12,none⟩=some (.slice x.2.a2 x.2.n2 x.2.c2):=
 ⟨⟨h 0 (by decide),h 1 (by decide),h 2 (by decide),h 3 (by decide),h 4 (by decide),h 5 (by decide)⟩,⟨h 6 (by decide),h 7 (by decide),h 8 (by decide),h 9 (by decide),h 10 (by decide)⟩,h 11 (by decide),h 12 (by decide)⟩
theorem Rk (m:Mc) (wh:Bool) (bs:List Nat):(Gt m wh bs).length<=bs.length:=by
 have hlen:∀k i,i<=bs.length->(dL (mR m wh bs) bs.length k i).length+i<=bs.length:=by
  intro k
  induction k with
  | zero=>intro i hi;rw[dL];simpa using hi
  | succ k ih=>
   intro i hi;rw[dL];by_cases h:i<bs.length
   .rw[if_pos h]
    cases Em:mR m wh bs i with
    | none=>have:=ih (i+1) (by omega);show (dL _ _ k (i+1)).length+i<=_;omega
    | some t=>have h9:=Md (by omega) Em;have:=ih t h9.2;show ((i,t)::dL _ _ k t).length+i<=_;simp only[List.length_cons];omega
   .rw[if_neg h];simpa using hi
 have:=hlen bs.length 0 (Nat.zero_le _);unfold Gt;omega
theorem Rl (fs:List (KC×M2)) (ms:List Mc) (bs:List Nat) (p:Nat->Nat->Nat->Bool) (i:Nat):(Fb fs ms bs p i).length<=bs.length:=Nat.le_trans (List.length_filter_le _ _) (Rk _ _ _)
theorem CA {f:Nat->List (Nat×Nat)} {L:Nat} (h:∀i,(f i).length<=L):∀n i,(bY f n i).length<=n*L
 | 0,i=>by rw[bY];simp
 | n+1,i=>by
  rw[bY,List.length_append,Nat.succ_mul];have:=CA h n (i+1);have:=h i;unfold wP;rw[List.length_map];omega
set_option maxHeartbeats 8000000 in
theorem JC (Av:Option Addr) (nv cv:Nat) (fs:List (KC×M2)) (ms:List Mc) (A:Option Addr) (n c:Nat) (bs:List Nat) (p:Nat->Nat->Nat->Bool) (w:World) (hf:CB w (.slice Av nv cv) fs ms) (hv:∀m∈ms,BQ m) (hb:lU w (.slice A n c) bs) (hn:bs.length=n) (lZ:n<=900000) (oM:fs.length*n<=900000) (fO:∀b∈bs,b<256) (hp:∀i (h:i<fs.length),qg fs[i].1 (.slice A n c) n (p i) w) :
  Calls Tryz.prog 27 #[.slice Av nv cv, .slice A n c] w λe w'=>∃v o,e = .returned v/\sC w' v o/\o.Perm (bY (Fb fs ms bs p) fs.length 0)/\o.Pairwise mA/\Below w.heap.size w w':=by
 obtain ⟨hl,A',c',e0,hc,eA,hmc⟩:=id hf;injection e0 with e1 e2 e3;subst e1 e2 e3;obtain ⟨N,hN⟩:∃N,fs.length=N:=⟨_,rfl⟩;have yU:ms.length=N:=by omega
 have hbound:=CA (λi=>Rl fs ms bs p i) N 0;rw[hn]at hbound;rw[hN]at hc oM|-;have HM:=Lib.hid λ(i:Nat) (h1:i<fs.length) (h2:i<ms.length) (W:World) (hW:Below w.heap.size w W)=>CD fs[i] ms[i] A n c i bs (p i) W ((hmc i h1 h2).later hW) (hv _ (List.getElem_mem h2)) (hb.later hW) hn lZ fO ((hp i h1).later hW);have HO:=Lib.hid eA;have HN:=Lib.hid (And.intro hN (And.intro yU (And.intro hc (And.intro hbound oM))));clear hf hv hb fO hp hl hc eA hmc hN yU hbound hn;obtain ⟨ie,sR,oq,gY,bM⟩:=info_parts kQ;have hNi:(N:Int)<=9223372036854775807:=by have:=HN.out.2.2.1;omega
 go_enter Tryz.func27,Tryz.ntmps27
 go_wp2_with fail
 go_loopw [5,10] (λv i wr=>∃(k:Nat) (o:List Mt),k<=N/\i = .int .i64 (k:Int)/\OR 36 3 cV w.heap.size v o wr/\Hid (o++bY (Fb fs ms bs p) (N-k) k=bY (Fb fs ms bs p) N 0)/\Below w.heap.size w wr) (λ_ i _=>N - (intOf i).toNat)
 case atStart=>exact ⟨0,[],by omega,rfl,OR.ic _ _ _,rfl,Below.refl _ _⟩
 case round=>
  obtain ⟨k,o,hk,rfl,hown,HR,aP⟩:=hrel;by_cases hlt:k<N
  .have hd:decide ((k:Int)<(N:Int))=true:=decide_eq_true (by omega)
   have iI:decide (k<N)=true:=decide_eq_true hlt;have km:k<fs.length:=by have:=HN.out.1;omega
   have tN:k<ms.length:=by have:=HN.out.2.1;omega
   obtain ⟨g,f,rfl,hg,bD⟩:=HO.out.resolve_left (by rintro rfl;cases km)
   obtain ⟨x,hx⟩:∃x,fs[k]=x:=⟨_,rfl⟩;have ji:=λj hj=>(aP.cell (p:=⟨g,f+k*13+j,none⟩) hg).trans (bD k km j hj);have MM:=HM.out k km tN;rw[hx]at ji MM;have hev:Fb fs ms bs p k=(Gt ms[k] x.1.wh bs).filter λq=>p k q.1 q.2:=by
    unfold Fb;rw[List.getElem?_eq_getElem km,List.getElem?_eq_getElem tN,hx];rfl
   have HEV:=Lib.hid (show zC (p k) k (Gt ms[k] x.1.wh bs)=wP k (Fb fs ms bs p k) by rw[hev];rfl)
   obtain ⟨⟨q0,q1,q2,q3,q4,q5⟩,⟨q6,q7,q8,q9,CE⟩,q11,q12⟩:=Np ji;have oC:g<wr.heap.size:=Nat.lt_of_lt_of_le hg aP.size;have H1:=Lib.hid (And.intro hown aP);have HMM:=Lib.hid MM;clear hown aP bD ji hx MM hev;go_wp2_with fail;refine dx λW0 ik=>?_;have hb0:Below wr.heap.size wr W0:=by rw[ik];exact (Below.refl _ _).alloc (Nat.le_refl _) _
   have nO:=Lib.hid hb0;clear ik hb0 q0 q1 q2 q3 q4 q5 q6 q7 q8 q9 CE q11 q12 oC;refine (HMM.out W0 (H1.out.2.trans (nO.out.mono H1.out.2.size))).mono ?_;rintro e w1 ⟨v1,rfl,hrow,hb1⟩;rw[HEV.out]at hrow;have Rm:Below wr.heap.size wr w1:=nO.out.trans (hb1.mono nO.out.size);have hown1:=H1.out.1.later Rm;have eb:bY (Fb fs ms bs p) (N-k) k=wP k (Fb fs ms bs p k)++bY (Fb fs ms bs p) (N - (k+1)) (k+1):=by rw[show N-k=(N - (k+1))+1 by omega,bY]
   obtain ⟨r,hr⟩:∃r,wP k (Fb fs ms bs p k)=r:=⟨_,rfl⟩;rw[hr]at hrow eb;have JD:(o++r)++bY (Fb fs ms bs p) (N - (k+1)) (k+1)=bY (Fb fs ms bs p) N 0:=by rw[<-HR.out,eb,List.append_assoc]
   have asL:o.length+r.length<=900000:=by
    have h1:=congrArg List.length JD;simp only[List.length_append]at h1;have:=HN.out.2.2.2.1;have:=HN.out.2.2.2.2;omega
   have PQ:w.heap.size<=w1.heap.size:=Nat.le_trans H1.out.2.size Rm.size;have HS:=Lib.hid (And.intro JD (H1.out.2.trans (Rm.mono H1.out.2.size)));clear JD Rm eb hr hb1;go_wp2_with (at_builtin;refine Ww uM Tryz.underlying31 sR oq gY bM rfl (by decide) _ _ _ _ o r w.heap.size _ rfl rfl rfl rfl hown1 hrow (by omega) (by omega) PQ ?_;intro v2 w2 aQ aL)
   have H2:=Lib.hid (And.intro aQ (HS.out.2.trans aL));clear aQ aL hown1 hrow;go_roundw
   case rel=>exact ⟨k+1,o++r,by omega,by go_num,H2.out.1,HS.out.1,H2.out.2⟩
   case measure=>simp[intOf];omega
  .obtain rfl:k=N:=by omega
   have hd:decide ((k:Int)<(k:Int))=false:=decide_eq_false (by omega)
   have iI:decide (k<k)=false:=decide_eq_false (by omega)
   have hR:=HR.out;rw[Nat.sub_self,bY,List.append_nil]at hR;have HS:=Lib.hid (xY o _ w.heap.size wr hown (by rw[hR];have:=HN.out.2.2.2;omega))
   have PO:=Lib.hid hR;have bI:=Lib.hid (And.intro hown aP);clear hown aP hR;go_wp2_with fail;refine HS.out.mono ?_;rintro e w1 ⟨rfl,o',jS,CF,hmt,et⟩;have oH:Below w.heap.size w w1:=bI.out.2.grown et bI.out.2.size (λq hq=>((show wr.ownsRow _ _ _ _ _ _ from bI.out.1).lt q hq).1);rw[PO.out]at jS;have HF:=Lib.hid (And.intro jS (And.intro CF (And.intro hmt oH)));clear jS CF hmt et oH;go_wp2_with fail;go_ret;exact ⟨_,o',rfl,HF.out.2.2.1,HF.out.1,HF.out.2.1,HF.out.2.2.2⟩
end
section
set_option linter.unusedVariables false
set_option linter.unusedSimpArgs false
open Go.RowKit
theorem Nt.good {k:Kn} {m:Mc} (h:Nt k 0 m):ry k.pat m/\bk k.pat=0/\zG k=true/\uN (bl k.nm)=true:=by
 rcases h with ⟨-,h⟩ | ⟨h0,ZH,hc,⟨h1,h2⟩ | ⟨rfl,h2⟩⟩
 .cases h
 .exact absurd h2.symm h1
 .cases hq:zG k with
  | false=>rw[hq]at h2;cases h2
  | true=>exact ⟨hc.good.1,hc.good.2,rfl,h0⟩
theorem ry.go {nd:Nd} {m:Mc} (h:ry nd m):BQ m:=⟨h.wR.1,h.wR.2.1,h.wR.2.2.1⟩
theorem lT.all {ks:List Kn} {ms:List Mc} (h:lT ks 0 ms):(1<=ks.length/\ks.length<=32)/\ms.length=ks.length/\∀i (h1:i<ks.length) (h2:i<ms.length),Nt ks[i] 0 ms[i]:=by
 rcases h with ⟨-,h⟩ | ⟨h1,⟨i,-,-,-,h⟩ | ⟨h2,h3,-⟩⟩
 .cases h
 .exact absurd rfl h
 .exact ⟨h1,h2,h3⟩
def evK (ks:List Kn) (ms:List Mc) (bs:List Nat) (p:Nat->Nat->Nat->Bool) (i:Nat):List (Nat×Nat):=(Gt ((ms[i]?).getD ⟨[],[]⟩) ((ks[i]?).map Kn.wh |>.getD false) bs).filter λq=>p i q.1 q.2
def X0 (ks:List Kn) (bs:List Nat) (p:Nat->Nat->Nat->Bool) (w:World) (e:Ending) (w':World):Prop:=Below w.heap.size w w'/\∃er ms,lT ks er ms/\
 ((er≠0/\e = .returned (.tuple #[.slice none 0 0, .int .i64 er]))\/(er=0/\65536<bs.length/\e = .returned (.tuple #[.slice none 0 0, .int .i64 3]))\/
  (er=0/\bs.length<=65536/\∃v o,e = .returned (.tuple #[v, .int .i64 0])/\sC w' v o/\o.Perm (bY (evK ks ms bs p) ks.length 0)/\o.Pairwise mA))
set_option maxHeartbeats 8000000 in
theorem Ow (Ak:Option Addr) (nk ck:Nat) (us:List KC) (ks:List Kn) (A:Option Addr) (n c:Nat) (bs:List Nat) (p:Nat->Nat->Nat->Bool) (w:World) (h:fu w (.slice Ak nk ck) us ks) (om:cd w) (iO:∀k∈ks,k.nm.size<=140737488355328) (hb:lU w (.slice A n c) bs) (hn:bs.length=n) (lZ:n<=900000) (oM:ks.length*n<=900000) (fO:∀b∈bs,b<256) (hp:∀i (h:i<us.length),qg us[i] (.slice A n c) n (p i) w) :
  Calls Tryz.prog 9 #[.slice Ak nk ck, .slice A n c] w (X0 ks bs p w):=by
 have HF:=Lib.hid (mB Ak nk ck us ks w h om iO);have HA:=Lib.hid (And.intro hb (And.intro hn (And.intro fO (And.intro hp (And.intro oM h)))));clear h om iO hb oM fO hp hn;have Bu:n<=c/\c<=9223372036854775807:=by
  obtain ⟨A',c',e,h1,-⟩:=HA.out.1;injection e with _ e2 e3;omega
 have US:(n:Int)<=9223372036854775807:=by omega
 go_enter Tryz.func9,Tryz.ntmps9
 go_wp2_with fail;refine HF.out.mono ?_;rintro e w1 ⟨hb1,er,ms,gu,eR⟩;have HL:=Lib.hid gu;have bH:=Lib.hid hb1;clear gu hb1;rcases eR with ⟨zD,rfl⟩ | ⟨rfl,v,fs,rfl,DU,Lp⟩
 .have Ro:=Lib.hid zD;have WD:(er == 0)=false:=by simpa using zD
  have WE:(er != 0)=true:=by simpa using zD
  clear zD;go_wp2_with fail
  go_ret2
  exact ⟨bH.out,er,ms,HL.out, .inl ⟨Ro.out,rfl⟩⟩
 .obtain ⟨hfm,Af,cf,rfl,-⟩:=id DU;by_cases wO:65536<n
  .have d:decide (65536<(n:Int))=true:=decide_eq_true (by omega)
   clear DU Lp;go_wp2_with fail
   go_ret2
   exact ⟨bH.out,0,ms,HL.out, .inr (.inl ⟨rfl,by rw[HA.out.2.1];exact wO,rfl⟩)⟩
  .have d:decide (65536<(n:Int))=false:=decide_eq_false (by omega)
   obtain ⟨-,hmk,hLc⟩:=HL.out.all;have Tw:∀i (h1:i<fs.length),∃h2:i<us.length,fs[i].1=us[i]:=λi h1=>by
    have h2:i<us.length:=by rw[<-Lp];simpa using h1
    refine ⟨h2,?_⟩;have:us[i]=(fs.map Prod.fst)[i]'(by simpa using h1):=by congr 1;exact Lp.symm
    rw[this];simp
   have Iy:∀m∈ms,BQ m:=λm hm=>by
    obtain ⟨i,h1,rfl⟩:=List.mem_iff_getElem.1 hm;exact (hLc i (by omega) h1).good.1.go
   have hkn:∀i (h1:i<us.length) (h2:i<ks.length),us[i].wh=ks[i].wh:=λi h1 h2=>by
    obtain ⟨-,-,-,-,-,-,hk⟩:=HA.out.2.2.2.2.2;exact (hk i h1 h2).wh
   have hev:∀i,0<=i->i<0+fs.length->Fb fs ms bs p i=evK ks ms bs p i:=λi _ hi=>by
    have h1:i<fs.length:=by omega
    obtain ⟨h2,h3⟩:=Tw i h1;have h4:i<ks.length:=by omega
    unfold Fb evK;rw[List.getElem?_eq_getElem h1,List.getElem?_eq_getElem h4];simp only[Option.map_some,Option.getD_some];rw[h3,hkn i h2 h4]
   have jj:=oW (n:=fs.length) (i:=0) hev;have Sq:fs.length=ks.length:=by omega
   have HE:=Lib.hid (JC Af fs.length cf fs ms A n c bs p w1 DU Iy (HA.out.1.later bH.out) HA.out.2.1 lZ (by rw[Sq];exact HA.out.2.2.2.2.1) HA.out.2.2.1 (λi h1=>by
    obtain ⟨h2,h3⟩:=Tw i h1;rw[h3];exact (HA.out.2.2.2.1 i h2).later bH.out))
   rw[jj,Sq]at HE;clear DU Lp Tw Iy hkn hev jj hLc hmk hfm;rw[Sq];go_wp2_with fail;refine HE.out.mono ?_;rintro e w2 ⟨v2,o,rfl,q1,q2,q3,aL⟩;have HR:=Lib.hid (And.intro q1 (And.intro q2 (And.intro q3 (bH.out.trans (aL.mono bH.out.size)))));clear q1 q2 q3 aL;go_wp2_with fail
   go_ret2
   exact ⟨HR.out.2.2.2,0,ms,HL.out, .inr (.inr ⟨rfl,by rw[HA.out.2.1];omega,_,o,rfl,HR.out.1,HR.out.2.1,HR.out.2.2.1⟩)⟩
end
end Go.Proofs.YtdmoogjddmdmbaaGreatDoor
