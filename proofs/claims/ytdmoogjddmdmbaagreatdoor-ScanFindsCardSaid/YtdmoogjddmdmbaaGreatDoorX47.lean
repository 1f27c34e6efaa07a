/- Walks. -/
import Derived.Test.YtdmoogjddmdmbaaGreatDoorX40
import Derived.Test.YtdmoogjddmdmbaaGreatDoorX29
import Derived.Test.YtdmoogjddmdmbaaGreatDoorX20
import Derived.Test.YtdmoogjddmdmbaaGreatDoorX25
import Derived.Test.YtdmoogjddmdmbaaGreatDoorX18
import Derived.Test.YtdmoogjddmdmbaaGreatDoorX10
import Derived.Deep.RegionHeld3
import Derived.BigRegion
import Derived.Test.YtdmoogjddmdmbaaGreatDoorX06
import Derived.Test.YtdmoogjddmdmbaaGreatDoorX24
import Derived.Test.YtdmoogjddmdmbaaGreatDoorX32
import Derived.Test.YtdmoogjddmdmbaaGreatDoorX42
import Derived.Test.YtdmoogjddmdmbaaGreatDoorX33
import Derived.Test.YtdmoogjddmdmbaaGreatDoorX45
import Derived.Test.YtdmoogjddmdmbaaGreatDoorX46
set_option maxRecDepth 100000
set_option maxHeartbeats 16000000
set_option linter.unusedVariables false
set_option linter.unusedSimpArgs false
namespace Go.Proofs.YtdmoogjddmdmbaaGreatDoor
open Go.RowKit
def oy(u:KC)(v:Value)(n:Nat)(p:Nat->Nat->Bool)(w:World):Prop:=∀W a z,Below w.heap.size w W->a<z->z<=n->Calls Tryz.prog 96 #[.agg #[.string u.nm,.int .i64 u.op,.slice u.a1 u.n1 u.c1,.slice u.a2 u.n2 u.c2,.int .i64 u.mn,.int .i64 u.mx,.bool u.wh,.int .i64 u.ck,.int .i64 u.en,.slice u.a3 u.n3 u.c3,.int .i64 u.nr],v,.int .i64 (a:Int),.int .i64 (z:Int)] W λe w'=>e=.returned (.bool (p a z))/\Below W.heap.size W w'
theorem oy.later{u:KC}{v:Value}{n:Nat}{p:Nat->Nat->Bool}{w w':World}(h:oy u v n p w)(hb:Below w.heap.size w w'):oy u v n p w':=λW a z hW=>h W a z (hb.trans (hW.mono hb.size))
theorem Cs(x:KC×M2)(v:Value)(n a z:Nat)(p:Nat->Nat->Bool)(w:World)(hp:oy x.1 v n p w)(h1:a<z)(h2:z<=n):
  Calls Tryz.prog 76 #[.agg #[.string x.1.nm,.int .i64 x.1.op,.slice x.1.a1 x.1.n1 x.1.c1,.slice x.1.a2 x.1.n2 x.1.c2,.int .i64 x.1.mn,.int .i64 x.1.mx,.bool x.1.wh,.int .i64 x.1.ck,.int .i64 x.1.en,.slice x.1.a3 x.1.n3 x.1.c3,.int .i64 x.1.nr,.slice x.2.a1 x.2.n1 x.2.c1,.slice x.2.a2 x.2.n2 x.2.c2],v,.int .i64 (a:Int),.int .i64 (z:Int)] w λe w'=>e=.returned (.bool (p a z))/\Below w.heap.size w w':=by
 have HP:=Z λW (hb:Below w.heap.size w W)=>hp W a z hb h1 h2;clear hp h1 h2
 go_enter Tryz.func76,Tryz.ntmps76
 go_wp2_with fail;refine aH λW0 aP=>?_;have hb0:Below w.heap.size w W0:=by rw[aP];exact υ.alloc I _
 have H0:=Z hb0;clear aP hb0;refine (HP.out W0 H0.out).mono ?_;rintro e w1 ⟨rfl,hb1⟩;have H1:=Z (H0.out.trans (hb1.mono H0.out.size));clear hb1;go_wp2_with fail;go_ret;exact ⟨rfl,H1.out⟩
theorem uO:(Tryz.prog.info? 36).map (λi=>(i.zero,i.size,i.bytes))=some (some (.agg #[.int .i64 0,.int .i64 0,.int .i64 0]),3,24):=κ
def RQ(b:Nat)(l:List Mt)(w:World):Prop:=∃A c,w.heap[b]?=some (.cells #[.slice A l.length c] 31 (0,0))/\w.ownsRow (b+1) 36 3 (.slice A l.length c) l.length (bF fI l)
theorem RQ.later{b:Nat}{l:List Mt}{w w':World}(h:RQ b l w)(hb:Below w.heap.size w w'):RQ b l w':=by
 obtain ⟨A,c,h1,h2⟩:=h;exact ⟨A,c,(hb.block b (γ h1).1).trans h1,bw h2 hb⟩
structure MaB (x:KC×M2) (v:Value) (kd N:Nat) (w:World):Prop where
 b0:Pe x N w
 b1:w.heap[N+1]?=some (.cells #[v] 28 (0,0))
 b2:w.heap[N+2]?=some (.cells #[.int .i64 (kd:Int)] 3 (0,0))
theorem MaB.later{x:KC×M2}{v:Value}{kd N:Nat}{w w':World}(h:MaB x v kd N w)(hb:Below (N+3) w w'):MaB x v kd N w':=
 ⟨(hb.block _ Y).trans h.b0,(hb.block _ Y).trans h.b1,(hb.block _ Y).trans h.b2⟩
def zc(p:Nat->Nat->Bool)(kd:Nat)(l:List (Nat×Nat)):List Mt:=Ai kd (l.filter λq=>p q.1 q.2)
theorem Nz(p:Nat->Nat->Bool)(kd:Nat)(l:List (Nat×Nat))(a z:Nat):zc p kd (l++[(a,z)])=if p a z then zc p kd l++[⟨kd,a,z⟩] else zc p kd l:=by
 unfold zc Ai;rw[List.filter_append,List.map_append]
 cases h:p a z
 .simp[h]
 .simp[h]
theorem RS(p:Nat->Nat->Bool)(kd:Nat)(l:List (Nat×Nat)):(zc p kd l).length<=l.length:=by
 unfold zc Ai;rw[List.length_map];exact List.length_filter_le _ _
theorem Jt(x:KC×M2)(v:Value)(n kd N a z:Nat)(p:Nat->Nat->Bool)(l:List (Nat×Nat))(w w0:World)(hp:oy x.1 v n p w0)(hpw:Below w0.heap.size w0 w)(hN:w0.heap.size<=N)(hB:MaB x v kd N w)(hR:RQ (N+3) (zc p kd l) w)(h1:a<z)(h2:z<=n)(hl:(zc p kd l).length<=900000):
  Calls Tryz.prog 84 #[.int .i64 (a:Int),.int .i64 (z:Int),.pointer (some ⟨N,0,none⟩),.pointer (some ⟨N+1,0,none⟩),.pointer (some ⟨N+3,0,none⟩),.pointer (some ⟨N+2,0,none⟩)] w (Tr (N+3) 36 (λl W=>RQ (N+3) (zc p kd l) W) (l++[(a,z)]) w):=by
 have HF:=Z λW (hb:Below w.heap.size w W)=>Cs x v n a z p W (hp.later (hpw.trans (hb.mono hpw.size))) h1 h2;obtain ⟨q,hq⟩:=ν (p a z);rw[hq]at HF;have tj:=Nz p kd l a z;rw[hq]at tj;have HSN:=Z tj;obtain ⟨⟨c0,c1,c2,c3,c4,c5⟩,⟨c6,c7,c8,c9,mR⟩,⟨Ts,Tt⟩,lb⟩:=hB.b0.cells;have t0:w.cell? ⟨N+1,0,none⟩=some v:=by rw[cell_of_row _ _ _ _ _ _ hB.b1];rfl
 have l1:N+1<w.heap.size:=(γ hB.b1).1;have HB:=Z hB;have HR:=Z hR;obtain ⟨M,hM⟩:=ν (zc p kd l);rw[hM]at HR HSN hl;have h3:N+3<w.heap.size:=by obtain ⟨A,c,h1,-⟩:=HR.out;exact (γ h1).1
 clear hp hpw hB hR tj hq hM h1 h2
 go_enter Tryz.func84,Tryz.ntmps84
 go_wp2_with fail;refine (HF.out w υ).mono ?_;rintro e w1 ⟨rfl,hb1⟩;have H1:=Z (H (HB.out.later (hb1.mono Y)) (H (HR.out.later hb1) hb1));clear c0 c1 c2 c3 c4 c5 c6 c7 c8 c9 mR Ts Tt lb t0 l1 hb1
 cases q with
 |false=>
  go_wp2_with fail
  go_end0
  refine ⟨⟨_,rfl⟩,?_,H1.out.2.2.mono Y,λq T cs m _ _ hw=>(H1.out.2.2.block q (γ hw).1).trans hw⟩;show RQ (N+3) (zc p kd (l++[(a,z)])) w1;rw[HSN.out];exact H1.out.2.1
 |true=>
  obtain ⟨A,c,g1,g2⟩:=H1.out.2.1;obtain ⟨ie,rJ,hZ,dS,bX⟩:=info_parts uO;have b0:w1.cell? ⟨N+3,0,none⟩=some (.slice A M.length c):=by rw[cell_of_row _ _ _ _ _ _ g1];rfl
  have fb:w1.frozen? ⟨N+3,0,none⟩=false:=by simp[World.frozen?,g1]
  have lb:N+3<w1.heap.size:=(γ g1).1;have b2:w1.cell? ⟨N+2,0,none⟩=some (.int .i64 (kd:Int)):=by rw[cell_of_row _ _ _ _ _ _ H1.out.1.b2];rfl
  have lb2:N+2<w1.heap.size:=Y;have hown:=World.ownsRow.alloc g2 (.cells #[.int .i64 (kd:Int),.int .i64 (a:Int),.int .i64 (z:Int)] 36);have iY:∀j u,[Value.int .i64 (kd:Int),.int .i64 (a:Int),.int .i64 (z:Int)][j]?=some u->(w1.alloc (.cells #[.int .i64 (kd:Int),.int .i64 (a:Int),.int .i64 (z:Int)] 36)).cell? ((⟨w1.heap.size,0,none⟩:Addr).add j)=some u:=by
   intro j u hj;rw[Addr.add_lit,Nat.zero_add,World.cell?_alloc_mark];simpa using hj
  have dA:N+3+1<=(w1.alloc (.cells #[.int .i64 (kd:Int),.int .i64 (a:Int),.int .i64 (z:Int)] 36)).heap.size:=ψ;have axI:=Z (H g1 g2);clear g1 g2;go_wp2_with (at_builtin; refine cQ rfl _ _ 31 rfl (N+3+1) 36 ie _ 3 24 Tryz.underlying31 rJ hZ dS bX rfl O _ M.length (bF fI M) rfl hown ⟨w1.heap.size,0,none⟩ 1 1 [.int .i64 (kd:Int),.int .i64 (a:Int),.int .i64 (z:Int)] rfl rfl iY (by intro u hu; simp only[List.mem_cons,List.not_mem_nil,or_false]at hu; rcases hu with rfl|rfl|rfl <;> rfl) (by unfold maxLen; omega) Y dA ?_)
  intro v9 w9 cT sL wA;obtain ⟨A9,c9,rfl,-,-⟩:=ar cT;have hb1:(w1.alloc (.cells #[.int .i64 (kd:Int),.int .i64 (a:Int),.int .i64 (z:Int)] 36)).heap[N+3]?=some (.cells #[.slice A M.length c] 31 (0,0)):=(aB _ _ _ lb).trans axI.out.1;have wu:w9.heap[N+3]?=some (.cells #[.slice A M.length c] 31 (0,0)):=(sL.block (N+3) ψ (λe=>by have:=(hown.lt (N+3) e.symm).1;omega)).trans hb1
  have z0:w9.cell? ⟨N+3,0,none⟩=some (.slice A M.length c):=by rw[cell_of_row _ _ _ _ _ _ wu];rfl
  have z1:w9.frozen? ⟨N+3,0,none⟩=false:=by simp[World.frozen?,wu]
  have z2:N+3<w9.heap.size:=(γ wu).1;have Kj:Below (N+3) w1 w9:=((Below.refl (N+3) w1).alloc Y _).grown sL ψ (λq hq=>by have:=(hown.lt q hq).1;omega)
  have hty:∀q T cs m,q≠N+3->T≠36->w1.heap[q]?=some (.cells cs T m)->w9.heap[q]?=some (.cells cs T m):=λq T cs m hq hT hw=>by
   have hl:=(γ hw).1;refine (sL.block q ψ (λe=>?_)).trans ((aB _ _ _ hl).trans hw);obtain ⟨cs',m',h9⟩:=dk axI.out.2 q e.symm;rw[hw]at h9;injection h9 with h9;injection h9 with _ h9 _;exact hT h9
  have H9:=Z (H cT (H wu (H Kj hty)));clear cT sL wA hb1 wu Kj hty hown iY dA;go_wp2_with fail
  go_end0
  have ud:zc p kd (l++[(a,z)])=M++[⟨kd,a,z⟩]:=HSN.out;refine ⟨⟨_,rfl⟩,?_,(H1.out.2.2.mono Y).trans (H9.out.2.2.1.sc (N+3) 0 I _),λq T cs m hq hT hw=>(Below.heap_setCell _ ⟨N+3,0,none⟩ _ q hq).trans (H9.out.2.2.2 q T cs m hq hT ((H1.out.2.2.block q (γ hw).1).trans hw))⟩;show RQ (N+3) (zc p kd (l++[(a,z)])) _;rw[ud];refine ⟨A9,c9,?_,?_⟩
  .have:=aS H9.out.2.1 0 (.slice A9 (M.length+1) c9);simpa using this
  .have h9:=aG H9.out.1 (w':=w9.setCell ⟨N+3,0,none⟩ (.slice A9 (M.length+1) c9)) λq hq=>Below.heap_setCell _ ⟨N+3,0,none⟩ _ q (λe=>by have:=(H9.out.1.lt q hq).1;have e':q=N+3:=e;omega)
   rw[bU,bz,List.length_append];exact h9
theorem Xv(args:Array Value)(w:World):(callFunc 84 args).run Tryz.prog w=.ok (.enter 84 args) w:=by rfl
theorem BV(x:KC×M2)(m:Mc)(A:Option Addr)(n c kd:Nat)(bs:List Nat)(p:Nat->Nat->Bool)(w:World)(hm:gH w x.2.val m)(hv:DU m)(hb:eZ w (.slice A n c) bs)(hn:bs.length=n)(kr:n<=900000)(dV:∀b∈bs,b<256)(hp:oy x.1 (.slice A n c) n p w):
  Calls Tryz.prog 56 #[.agg #[.string x.1.nm,.int .i64 x.1.op,.slice x.1.a1 x.1.n1 x.1.c1,.slice x.1.a2 x.1.n2 x.1.c2,.int .i64 x.1.mn,.int .i64 x.1.mx,.bool x.1.wh,.int .i64 x.1.ck,.int .i64 x.1.en,.slice x.1.a3 x.1.n3 x.1.c3,.int .i64 x.1.nr,.slice x.2.a1 x.2.n1 x.2.c1,.slice x.2.a2 x.2.n2 x.2.c2],.slice A n c,.int .i64 (kd:Int)] w λe w'=>∃v,e=.returned v/\OR 36 3 fI w.heap.size v (zc p kd (FT m x.1.wh bs)) w'/\Below w.heap.size w w':=by
 have HM:=Z λW (hW:Below w.heap.size w W)=>H (hm.later hW) (hb.later hW);have HV:=Z (H hv (H hn (H dV hp)));clear hm hv hb hn dV hp
 go_enter Tryz.func56,Tryz.ntmps56
 go_wp2_with fail;refine aH λW0 aP=>?_;have Dk:W0=fN w [(#[.string x.1.nm,.int .i64 x.1.op,.slice x.1.a1 x.1.n1 x.1.c1,.slice x.1.a2 x.1.n2 x.1.c2,.int .i64 x.1.mn,.int .i64 x.1.mx,.bool x.1.wh,.int .i64 x.1.ck,.int .i64 x.1.en,.slice x.1.a3 x.1.n3 x.1.c3,.int .i64 x.1.nr,.slice x.2.a1 x.2.n1 x.2.c1,.slice x.2.a2 x.2.n2 x.2.c2],95),(#[.slice A n c],28),(#[.int .i64 (kd:Int)],3),(#[.slice none 0 0],31)]:=by rw[aP];rfl
 have hMB:MaB x (.slice A n c) kd w.heap.size W0:=by rw[Dk];exact ⟨cJ 0 rfl,cJ 1 rfl,cJ 2 rfl⟩
 have zN:RQ (w.heap.size+3) (zc p kd []) W0:=by
  rw[Dk];exact ⟨none,0,cJ 3 rfl,World.ownsRow_nil _ _ _ _⟩
 have aT:Below w.heap.size w W0:=by rw[Dk];exact dZ _ _
 have h3:w.heap.size+3<W0.heap.size:=by obtain ⟨A,c,h1,-⟩:=zN;exact (γ h1).1
 have H0:=Z (H hMB (H zN aT));clear aP Dk hMB zN aT;refine (Bj x m A n c (w.heap.size+3) 36 84 #[.pointer (some ⟨w.heap.size,0,none⟩),.pointer (some ⟨w.heap.size+1,0,none⟩),.pointer (some ⟨w.heap.size+3,0,none⟩),.pointer (some ⟨w.heap.size+2,0,none⟩)] bs (λl W=>RQ (w.heap.size+3) (zc p kd l) W) W0 Xv (λW hW=>HM.out W (H0.out.2.2.trans (hW.mono Y))) HV.out.1 HV.out.2.1 kr HV.out.2.2.1 h3 O H0.out.2.1 (λl W W' h hb=>h.later hb) (λl a z W hl Z3 eY hI=>?_)).mono ?_
 .refine Jt x (.slice A n c) n kd w.heap.size a z p l W w HV.out.2.2.2 (H0.out.2.2.trans (eY.mono Y)) I (H0.out.1.later eY) hI Z3.1 Z3.2 ?_;have:=RS p kd l;simp at hl;omega
 .rintro e w1 ⟨⟨v1,rfl⟩,Xw,hb1⟩;obtain ⟨A9,c9,g1,g2⟩:=Xw;have b0:w1.cell? ⟨w.heap.size+3,0,none⟩=some (.slice A9 (zc p kd (FT m x.1.wh bs)).length c9):=by rw[cell_of_row _ _ _ _ _ _ g1];rfl
  have lb:w.heap.size+3<w1.heap.size:=(γ g1).1;have H1:=Z (H g2 (H0.out.2.2.trans (hb1.mono Y)));clear g1 g2 hb1;go_wp2_with fail;go_ret;exact ⟨_,rfl,OR.mono (enc:=fI) (n:=3) (o:=zc p kd (FT m x.1.wh bs)) H1.out.1 Y,H1.out.2⟩
theorem Wm{α:Type}{enc:α->List Value}{n:Nat}(E:kz enc n){P:Program}{T e:TypeId}{i0:TypeInfo}{z:Value}{jo:Nat}(ht:P.underlying T=some (.slice e))(hi:P.info? e=some i0)(hz0:i0.zero=some z)(hz1:i0.size=n)(hz2:i0.bytes=jo)(Lj:z.cells.size=n)(dV:jo<=1000)
  {w:World} {ops:Array Oper} {rest:List Oper} {op:Oper} {a:Act} {Q:Exit->Act->World->Prop} (s x:Operand) (v y:Value) (o p:List α) (B B2:Nat)
  (og:op.guard=none) (ho:op.op=.call { callee:=.builtin .append,args:=#[s,x],argTypes:=#[T,T] })
  (hs:a.eval s=v) (hx:a.eval x=y) (hown:OR e n enc B v o w) (hy:OR e n enc B2 y p w) (hl:o.length<=1000000) (vO:p.length<=1000000) (hB:B<=w.heap.size)
  (h:∀v' w1,OR e n enc B v' (o++p) w1->Below B w w1->wpList P ops Q rest (a.put op.dst v') w1) :
  wpList P ops Q (op::rest) a w:=by
 obtain ⟨A,c,rfl,-,hc⟩:=hy.cells E
 cases A with
 |none=>
  rcases hc with rfl|⟨g,h1,-⟩
  .rcases hy.2 with ⟨h1,-⟩|⟨g,cap,cur,h1,-⟩
   .injection h1 with _ _ h3;subst h3;refine wpList_append_own_none og s x T ho B e i0 n ht hi v o.length _ hs hown hx ?_;exact h v w (by simpa using hown) υ
   .cases h1
  .cases h1
 |some ad=>
  rcases hy.2 with ⟨h1,-⟩|⟨g,cap,cur,h1,-⟩
  .cases h1
  .injection h1 with h1 _ h3;injection h1 with h1;subst h1 h3;refine MG E ht hi hz0 hz1 hz2 Lj dV s x v g 0 c o p B og ho hs hx hown (λi hi j hj=>?_) hl vO hB h;rcases hc with rfl|⟨g',h1,-,-,h4⟩
   .cases hi
   .injection h1 with h1;injection h1 with h1 _;subst h1;rw[Nat.zero_add];exact (h4 i hi j hj).1
def EA(fs:List (KC×M2))(ms:List Mc)(bs:List Nat)(p:Nat->Nat->Nat->Bool)(i:Nat):List (Nat×Nat):=(FT ((ms[i]?).getD ⟨[],[]⟩) ((fs[i]?).map (·.1.wh) |>.getD false) bs).filter λq=>p i q.1 q.2
theorem MH{w:World}{g f i:Nat}{x:KC×M2}(h:∀j,j<13->w.cell? ⟨g,f+i*13+j,none⟩=(pY x)[j]?):(w.cell? ⟨g,f+i*13,none⟩=some (.string x.1.nm)/\w.cell? ⟨g,f+i*13+1,none⟩=some (.int .i64 x.1.op)/\w.cell? ⟨g,f+i*13+2,none⟩=some (.slice x.1.a1 x.1.n1 x.1.c1)/\w.cell? ⟨g,f+i*13+3,none⟩=some (.slice x.1.a2 x.1.n2 x.1.c2)/\w.cell? ⟨g,f+i*13+4,none⟩=some (.int .i64 x.1.mn)/\w.cell? ⟨g,f+i*13+5,none⟩=some (.int .i64 x.1.mx))/\(w.cell? ⟨g,f+i*13+6,none⟩=some (.bool x.1.wh)/\w.cell? ⟨g,f+i*13+7,none⟩=some (.int .i64 x.1.ck)/\w.cell? ⟨g,f+i*13+8,none⟩=some (.int .i64 x.1.en)/\w.cell? ⟨g,f+i*13+9,none⟩=some (.slice x.1.a3 x.1.n3 x.1.c3)/\w.cell? ⟨g,f+i*13+10,none⟩=some (.int .i64 x.1.nr))/\w.cell? ⟨g,f+i*13+11,none⟩=some (.slice x.2.a1 x.2.n1 x.2.c1)/\w.cell? ⟨g,f+i*13+12,none⟩=some (.slice x.2.a2 x.2.n2 x.2.c2):=
 ⟨⟨h 0 O,h 1 O,h 2 O,h 3 O,h 4 O,h 5 O⟩,⟨h 6 O,h 7 O,h 8 O,h 9 O,h 10 O⟩,h 11 O,h 12 O⟩
theorem Q2(m:Mc)(wh:Bool)(bs:List Nat):(FT m wh bs).length<=bs.length:=by
 have hlen:∀k i,i<=bs.length->(dQ (Pd m wh bs) bs.length k i).length+i<=bs.length:=by
  intro k
  induction k with
  |zero=>intro i hi;rw[dQ];simpa using hi
  |succ k ih=>
   intro i hi;rw[dQ];by_cases h:i<bs.length
   .rw[if_pos h]
    cases v8:Pd m wh bs i with
    |none=>have:=ih (i+1) Y;show (dQ _ _ k (i+1)).length+i<=_;omega
    |some t=>have h9:=yE Y v8;have:=ih t h9.2;show ((i,t)::dQ _ _ k t).length+i<=_;simp only[List.length_cons];omega
   .rw[if_neg h];simpa using hi
 have:=hlen bs.length 0 (Nat.zero_le _);unfold FT;omega
theorem Q3(fs:List (KC×M2))(ms:List Mc)(bs:List Nat)(p:Nat->Nat->Nat->Bool)(i:Nat):(EA fs ms bs p i).length<=bs.length:=Nat.le_trans (List.length_filter_le _ _) (Q2 _ _ _)
theorem BU{f:Nat->List (Nat×Nat)}{L:Nat}(h:∀i,(f i).length<=L):∀n i,(eB f n i).length<=n*L
 |0,i=>by rw[eB];simp
 |n+1,i=>by
  rw[eB,List.length_append,Nat.succ_mul];have:=BU h n (i+1);have:=h i;unfold Ai;rw[List.length_map];omega
theorem Ja(Av:Option Addr)(nv cv:Nat)(fs:List (KC×M2))(ms:List Mc)(A:Option Addr)(n c:Nat)(bs:List Nat)(p:Nat->Nat->Nat->Bool)(w:World)(hf:TW w (.slice Av nv cv) fs ms)(hv:∀m∈ms,DU m)(hb:eZ w (.slice A n c) bs)(hn:bs.length=n)(kr:n<=900000)(rp:fs.length*n<=900000)(dV:∀b∈bs,b<256)(hp:∀i (h:i<fs.length),oy fs[i].1 (.slice A n c) n (p i) w):
  Calls Tryz.prog 27 #[.slice Av nv cv,.slice A n c] w λe w'=>∃v o,e=.returned v/\Q4 w' v o/\o.Perm (eB (EA fs ms bs p) fs.length 0)/\o.Pairwise wN/\Below w.heap.size w w':=by
 obtain ⟨hl,A',c',e0,hc,eH,TX⟩:=id hf;injection e0 with e1 e2 e3;subst e1 e2 e3;obtain ⟨N,hN⟩:=ν fs.length;have zR:ms.length=N:=Y;have hbound:=BU (λi=>Q3 fs ms bs p i) N 0;rw[hn]at hbound;rw[hN]at hc rp|-;have HM:=Z λ(i:Nat) (h1:i<fs.length) (h2:i<ms.length) (W:World) (hW:Below w.heap.size w W)=>BV fs[i] ms[i] A n c i bs (p i) W ((TX i h1 h2).later hW) (hv _ (List.getElem_mem h2)) (hb.later hW) hn kr dV ((hp i h1).later hW);have HO:=Z eH;have HN:=Z (H hN (H zR (H hc (H hbound rp))));clear hf hv hb dV hp hl hc eH TX hN zR hbound hn;obtain ⟨ie,rJ,hZ,dS,bX⟩:=info_parts uO;have hNi:(N:Int)<=9223372036854775807:=by have:=HN.out.2.2.1;omega
 go_enter Tryz.func27,Tryz.ntmps27
 go_wp2_with fail;go_loopw [5,10] (λv i wr=>∃(k:Nat) (o:List Mt),k<=N/\i=.int .i64 (k:Int)/\OR 36 3 fI w.heap.size v o wr/\Hid (o++eB (EA fs ms bs p) (N-k) k=eB (EA fs ms bs p) N 0)/\Below w.heap.size w wr) (λ_ i _=>N - (intOf i).toNat)
 case atStart=>exact ⟨0,[],Y,rfl,OR.km _ _ _,rfl,υ⟩
 case round=>
  obtain ⟨k,o,hk,rfl,hown,HR,aY⟩:=hrel;by_cases hlt:k<N
  .have hd:decide ((k:Int)<(N:Int))=true:=τ;have cX:decide (k<N)=true:=decide_eq_true hlt;have ox:k<fs.length:=by have:=HN.out.1;omega
   have Lc:k<ms.length:=by have:=HN.out.2.1;omega
   obtain ⟨g,f,rfl,hg,bB⟩:=HO.out.resolve_left (by rintro rfl;cases ox)
   obtain ⟨x,hx⟩:=ν (fs[k]);have ig:=λj hj=>(aY.cl g (f+k*13+j) hg).trans (bB k ox j hj);have MM:=HM.out k ox Lc;rw[hx]at ig MM;have hev:EA fs ms bs p k=(FT ms[k] x.1.wh bs).filter λq=>p k q.1 q.2:=by
    unfold EA;rw[List.getElem?_eq_getElem ox,List.getElem?_eq_getElem Lc,hx];rfl
   have HEV:=Z (show zc (p k) k (FT ms[k] x.1.wh bs)=Ai k (EA fs ms bs p k) by rw[hev];rfl)
   obtain ⟨⟨q0,q1,q2,q3,q4,q5⟩,⟨q6,q7,q8,q9,EB⟩,q11,q12⟩:=MH ig;have od:g<wr.heap.size:=Nat.lt_of_lt_of_le hg aY.size;have H1:=Z (H hown aY);have HMM:=Z MM;clear hown aY bB ig hx MM hev;go_wp2_with fail;refine aH λW0 aP=>?_;have hb0:Below wr.heap.size wr W0:=by rw[aP];exact υ.alloc I _
   have cH:=Z hb0;clear aP hb0 q0 q1 q2 q3 q4 q5 q6 q7 q8 q9 EB q11 q12 od;refine (HMM.out W0 (H1.out.2.trans (cH.out.mono H1.out.2.size))).mono ?_;rintro e w1 ⟨v1,rfl,hrow,hb1⟩;rw[HEV.out]at hrow;have Q5:Below wr.heap.size wr w1:=cH.out.trans (hb1.mono cH.out.size);have hown1:=H1.out.1.later Q5;have gT:eB (EA fs ms bs p) (N-k) k=Ai k (EA fs ms bs p k)++eB (EA fs ms bs p) (N - (k+1)) (k+1):=by rw[show N-k=(N - (k+1))+1 by omega,eB]
   obtain ⟨r,hr⟩:=ν (Ai k (EA fs ms bs p k));rw[hr]at hrow gT;have Jb:(o++r)++eB (EA fs ms bs p) (N - (k+1)) (k+1)=eB (EA fs ms bs p) N 0:=by rw[<-HR.out,gT,List.append_assoc]
   have asF:o.length+r.length<=900000:=by
    have h1:=congrArg List.length Jb;simp only[List.length_append]at h1;have:=HN.out.2.2.2.1;have:=HN.out.2.2.2.2;omega
   have Q6:w.heap.size<=w1.heap.size:=Nat.le_trans H1.out.2.size Q5.size;have HS:=Z (H Jb (H1.out.2.trans (Q5.mono H1.out.2.size)));clear Jb Q5 gT hr hb1;go_wp2_with (at_builtin;refine Wm EC Tryz.underlying31 rJ hZ dS bX rfl O _ _ _ _ o r w.heap.size _ rfl rfl rfl rfl hown1 hrow Y Y Q6 ?_;intro v2 w2 bh aJ);have H2:=Z (H bh (HS.out.2.trans aJ));clear bh aJ hown1 hrow;go_roundw
   case rel=>exact ⟨k+1,o++r,Y,by go_num,H2.out.1,HS.out.1,H2.out.2⟩
   case measure=>exact μ
  .obtain rfl:k=N:=Y;have hd:decide ((k:Int)<(k:Int))=false:=θ;have cX:decide (k<k)=false:=θ;have hR:=HR.out;rw[Nat.sub_self,eB,List.append_nil]at hR;have HS:=Z (Jc o _ w.heap.size wr hown (by rw[hR];have:=HN.out.2.2.2;omega))
   have za:=Z hR;have b8:=Z (H hown aY);clear hown aY hR;go_wp2_with fail;refine HS.out.mono ?_;rintro e w1 ⟨rfl,o',oo,TZ,hmt,fH⟩;have pN:Below w.heap.size w w1:=b8.out.2.grown fH b8.out.2.size (λq hq=>((show wr.ownsRow _ _ _ _ _ _ from b8.out.1).lt q hq).1);rw[za.out]at oo;have HF:=Z (H oo (H TZ (H hmt pN)));clear oo TZ hmt fH pN;go_wp2_with fail;go_ret;exact ⟨_,o',rfl,HF.out.2.2.1,HF.out.1,HF.out.2.1,HF.out.2.2.2⟩
theorem MU.good{k:Kn}{m:Mc}(h:MU k 0 m):ry k.pat m/\aR k.pat=0/\zh k=true/\uP (bl k.nm)=true:=by
 rcases h with ⟨-,h⟩|⟨h0,ZC,hc,⟨h1,h2⟩|⟨rfl,h2⟩⟩
 .cases h
 .exact absurd h2.symm h1
 .cases hq:zh k with
  |false=>rw[hq]at h2;cases h2
  |true=>exact ⟨hc.good.1,hc.good.2,rfl,h0⟩
theorem ry.go{nd:Nd}{m:Mc}(h:ry nd m):DU m:=⟨h.Am.1,h.Am.2.1,h.Am.2.2.1⟩
theorem T2.all{ks:List Kn}{ms:List Mc}(h:T2 ks 0 ms):(1<=ks.length/\ks.length<=32)/\ms.length=ks.length/\∀i (h1:i<ks.length) (h2:i<ms.length),MU ks[i] 0 ms[i]:=by
 rcases h with ⟨-,h⟩|⟨h1,⟨i,-,-,-,h⟩|⟨h2,h3,-⟩⟩
 .cases h
 .exact absurd rfl h
 .exact ⟨h1,h2,h3⟩
def Q8(ks:List Kn)(ms:List Mc)(bs:List Nat)(p:Nat->Nat->Nat->Bool)(i:Nat):List (Nat×Nat):=(FT ((ms[i]?).getD ⟨[],[]⟩) ((ks[i]?).map Kn.wh |>.getD false) bs).filter λq=>p i q.1 q.2
def Ym(ks:List Kn)(bs:List Nat)(p:Nat->Nat->Nat->Bool)(w:World)(e:Ending)(w':World):Prop:=Below w.heap.size w w'/\∃er ms,T2 ks er ms/\
 ((er≠0/\e=.returned (.tuple #[.slice none 0 0,.int .i64 er]))\/(er=0/\65536<bs.length/\e=.returned (.tuple #[.slice none 0 0,.int .i64 3]))\/
  (er=0/\bs.length<=65536/\∃v o,e=.returned (.tuple #[v,.int .i64 0])/\Q4 w' v o/\o.Perm (eB (Q8 ks ms bs p) ks.length 0)/\o.Pairwise wN))
theorem Nw(Ak:Option Addr)(nk ck:Nat)(us:List KC)(ks:List Kn)(A:Option Addr)(n c:Nat)(bs:List Nat)(p:Nat->Nat->Nat->Bool)(w:World)(h:BX w (.slice Ak nk ck) us ks)(jL:dn w)(qF:∀k∈ks,k.nm.size<=140737488355328)(hb:eZ w (.slice A n c) bs)(hn:bs.length=n)(kr:n<=900000)(rp:ks.length*n<=900000)(dV:∀b∈bs,b<256)(hp:∀i (h:i<us.length),oy us[i] (.slice A n c) n (p i) w):
  Calls Tryz.prog 9 #[.slice Ak nk ck,.slice A n c] w (Ym ks bs p w):=by
 have HF:=Z (BW Ak nk ck us ks w h jL qF);have HA:=Z (H hb (H hn (H dV (H hp (H rp h)))));clear h jL qF hb rp dV hp hn;have yx:n<=c/\c<=9223372036854775807:=by
  obtain ⟨A',c',e,h1,-⟩:=HA.out.1;injection e with _ e2 e3;omega
 have Ld:(n:Int)<=9223372036854775807:=Y
 go_enter Tryz.func9,Tryz.ntmps9
 go_wp2_with fail;refine HF.out.mono ?_;rintro e w1 ⟨hb1,er,ms,zM,fK⟩;have HL:=Z zM;have aX:=Z hb1;clear zM hb1;rcases fK with ⟨zf,rfl⟩|⟨rfl,v,fs,rfl,Td,hfu⟩
 .have Q9:=Z zf;have Wp:(er == 0)=false:=by simpa using zf
  have Wq:(er != 0)=true:=by simpa using zf
  clear zf;go_wp2_with fail
  go_ret2
  exact ⟨aX.out,er,ms,HL.out,.inl ⟨Q9.out,rfl⟩⟩
 .obtain ⟨hfm,Af,cf,rfl,-⟩:=id Td;by_cases pX:65536<n
  .have d:decide (65536<(n:Int))=true:=τ;clear Td hfu;go_wp2_with fail
   go_ret2
   exact ⟨aX.out,0,ms,HL.out,.inr (.inl ⟨rfl,by rw[HA.out.2.1];exact pX,rfl⟩)⟩
  .have d:decide (65536<(n:Int))=false:=θ;obtain ⟨-,hmk,Z1⟩:=HL.out.all;have Pj:∀i (h1:i<fs.length),∃h2:i<us.length,fs[i].1=us[i]:=λi h1=>by
    have h2:i<us.length:=by rw[<-hfu];simpa using h1
    refine ⟨h2,?_⟩;have:us[i]=(fs.map Prod.fst)[i]'(by simpa using h1):=by congr 1;exact hfu.symm
    rw[this];simp
   have O5:∀m∈ms,DU m:=λm hm=>by
    obtain ⟨i,h1,rfl⟩:=List.mem_iff_getElem.1 hm;exact (Z1 i Y h1).good.1.go
   have hkn:∀i (h1:i<us.length) (h2:i<ks.length),us[i].wh=ks[i].wh:=λi h1 h2=>by
    obtain ⟨-,-,-,-,-,-,hk⟩:=HA.out.2.2.2.2.2;exact (hk i h1 h2).wh
   have hev:∀i,0<=i->i<0+fs.length->EA fs ms bs p i=Q8 ks ms bs p i:=λi _ hi=>by
    have h1:i<fs.length:=Y;obtain ⟨h2,h3⟩:=Pj i h1;have h4:i<ks.length:=Y;unfold EA Q8;rw[List.getElem?_eq_getElem h1,List.getElem?_eq_getElem h4];simp only[Option.map_some,Option.getD_some];rw[h3,hkn i h2 h4]
   have jb:=vG (n:=fs.length) (i:=0) hev;have hfk:fs.length=ks.length:=Y;have HE:=Z (Ja Af fs.length cf fs ms A n c bs p w1 Td O5 (HA.out.1.later aX.out) HA.out.2.1 kr (by rw[hfk];exact HA.out.2.2.2.2.1) HA.out.2.2.1 (λi h1=>by
    obtain ⟨h2,h3⟩:=Pj i h1;rw[h3];exact (HA.out.2.2.2.1 i h2).later aX.out))
   rw[jb,hfk]at HE;clear Td hfu Pj O5 hkn hev jb Z1 hmk hfm;rw[hfk];go_wp2_with fail;refine HE.out.mono ?_;rintro e w2 ⟨v2,o,rfl,q1,q2,q3,aJ⟩;have HR:=Z (H q1 (H q2 (H q3 (aX.out.trans (aJ.mono aX.out.size)))));clear q1 q2 q3 aJ;go_wp2_with fail
   go_ret2
   exact ⟨HR.out.2.2.2,0,ms,HL.out,.inr (.inr ⟨rfl,by rw[HA.out.2.1];omega,_,o,rfl,HR.out.1,HR.out.2.1,HR.out.2.2.1⟩)⟩
theorem ze{f:Nat->Option Nat}{n:Nat}(hf:∀i t,i<n->f i=some t->i<t/\t<=n):∀k i,(dQ f n k i).Pairwise λp q=>p.2<=q.1
 |0,_=>List.Pairwise.nil
 |k+1,i=>by
  rw[dQ];by_cases hi:i<n
  .rw[if_pos hi]
   cases v8:f i with
   |none=>exact ze hf k (i+1)
   |some t=>exact List.pairwise_cons.2 ⟨λq hq=>(tI hf k t q hq).1.1,ze hf k t⟩
  .rw[if_neg hi];exact List.Pairwise.nil
def Zz(a b:Mt):Prop:=a≠b/\(a.k=b.k->a.t<=b.f\/b.t<=a.f)
theorem Zz.symm{a b:Mt}(h:Zz a b):Zz b a:=⟨h.1.symm,λe=>(h.2 e.symm).symm⟩
theorem Gv{f:Nat->List (Nat×Nat)}(hf:∀j,(f j).Pairwise (λp q=>p.2<=q.1)/\∀p∈f j,p.1<p.2):∀n i,(eB f n i).Pairwise Zz
 |0,_=>List.Pairwise.nil
 |n+1,i=>by
  rw[eB,List.pairwise_append];refine ⟨?_,Gv hf n (i+1),λa ha b hb=>?_⟩
  .unfold Ai;rw[List.pairwise_map];refine (hf i).1.imp_of_mem λ{p q} hp hq h=>⟨λe=>?_,λ_=>.inl h⟩;have h1:=(hf i).2 p hp;have h2:p.1=q.1:=congrArg Mt.f e;have h:p.2<=q.1:=h;omega
  .have h1:=(pZ.1 hb).1;unfold Ai at ha;obtain ⟨p,-,rfl⟩:=List.mem_map.1 ha;refine ⟨λe=>?_,λe=>?_⟩
   .rw[<-e]at h1;have:i+1<=i:=h1.1;omega
   .have:i=b.k:=e;omega
structure FnO (ks:List Kn) (ms:List Mc) (bs:List Nat) (p:Nat->Nat->Nat->Bool) (m:Mt):Prop where
 k1:m.k<ks.length
 k2:m.k<ms.length
 ft:m.f<m.t/\m.t<=bs.length
 ac:dG ms[m.k] ((bs.drop m.f).take (m.t-m.f)) 0=true
 cl:pK ks[m.k].wh bs m.f m.t=true
 ps:p m.k m.f m.t=true
theorem MI{ks:List Kn}{ms:List Mc}{bs:List Nat}{p:Nat->Nat->Nat->Bool}{o:List Mt}(hp:o.Perm (eB (Q8 ks ms bs p) ks.length 0))(hm:ms.length=ks.length)(m:Mt)(h:m∈o):FnO ks ms bs p m:=by
 obtain ⟨h1,h2⟩:=pZ.1 (hp.subset h);have k1:m.k<ks.length:=Y;have k2:m.k<ms.length:=Y;unfold Q8 at h2;rw[List.getElem?_eq_getElem k1,List.getElem?_eq_getElem k2]at h2;simp only[Option.map_some,Option.getD_some]at h2;obtain ⟨h3,h4⟩:=List.mem_filter.1 h2;obtain ⟨h5,h6⟩:=EF h3;obtain ⟨⟨-,-,h7,h8⟩,-⟩:=(MJ ms[m.k] ks[m.k].wh bs m.f m.t (by have:=h5.1;have:=h5.2;dsimp only at *;omega)).1 h6
 exact ⟨k1,k2,h5,h7,h8,h4⟩
theorem MK{ks:List Kn}{ms:List Mc}{bs:List Nat}{p:Nat->Nat->Nat->Bool}{o:List Mt}(hp:o.Perm (eB (Q8 ks ms bs p) ks.length 0))(hs:o.Pairwise wN):o.Pairwise λa b=>tP a b=true/\(a.k=b.k->a.t<=b.f):=by
 have h1:o.Pairwise Zz:=(hp.pairwise_iff (λh=>Zz.symm h)).2 (Gv (f:=Q8 ks ms bs p) (λj=>by
  unfold Q8 FT;exact ⟨List.Pairwise.filter _ (ze (λi t hi h=>yE (Nat.le_of_lt hi) h) _ _),λq hq=>(EF (List.mem_filter.1 hq).1).1.1⟩) _ _)
 have h2:∀m∈o,m.f<m.t:=λm hm=>by
  have h3:=(pZ.1 (hp.subset hm)).2;exact (EF (List.mem_filter.1 h3).1).1.1
 refine (h1.and hs).imp_of_mem λ{a b} ha hb hab=>?_;obtain ⟨⟨h3,h4⟩,h5⟩:=hab;have ha:=h2 a ha;have hb:=h2 b hb;rw[wN.iff]at h5;refine ⟨(jX a b).2 ?_,λe=>?_⟩
 .by_cases e1:a.f=b.f
  .by_cases e2:a.t=b.t
   .by_cases e3:a.k=b.k
    .exact absurd (by obtain ⟨k1,f1,t1⟩:=a;obtain ⟨k2,f2,t2⟩:=b;simp only at e1 e2 e3;subst e1 e2 e3;rfl) h3
    .omega
   .omega
  .omega
 .rcases h4 e with h|h
  .exact h
  .omega
theorem ML{o:List Mt}{R:Mt->Mt->Prop}(h:o.Pairwise R){n i:Nat}(hn:n<i)(hi:i<o.length):R (o[n]'Y) o[i]:=List.pairwise_iff_getElem.1 h n i Y hi hn
def SX(m wait:Nat)(en:Bool)(SC:Nat->Option Nat)(p:Nat->Nat->Bool):Nat->Nat->List (Nat×Nat)×Nat
 |0,a=>([],a)
 |f+1,a=>if m<=a\/(en=false/\m<a+wait) then ([],a) else match SC a with
  |none=>SX m wait en SC p f (a+1)
  |some t=>(if p a t then (a,t)::(SX m wait en SC p f t).1 else (SX m wait en SC p f t).1,(SX m wait en SC p f t).2)
def mtB(kd ba:Nat)(l:List (Nat×Nat)):List Mt:=l.map λq=>⟨kd,ba+q.1,ba+q.2⟩
structure ScS (B b:Nat) (tt ba:Nat) (K:List UInt8) (nx:List Nat) (ms:List Mt) (kv nv mv:Value) (w:World):Prop where
 box:w.heap[b]?=some (.cells #[.int .i64 (tt:Int),.int .i64 (ba:Int),kv,nv,mv] 51 (0,0))
 hb:B<=b
 k:OB 5 B kv K w
 n:OR 3 1 Ur B nv nx w
 m:OR 36 3 fI B mv ms w
structure AdH (B:Nat) (x:KC×M2) (m:Mc) (nd:Nd) (p:Nat->Nat->Bool) (kv:Value) (K:List UInt8) (w0:World):Prop where
 mc:∀W,Below B w0 W->gH W x.2.val m
 go:DU m
 ndi:∀W,Below B w0 W->bT W nd x.1.pat
 vd:aR nd=0
 lg:bj nd<=1024
 ps:∀W,Below B w0 W->OB 5 B kv K W->oy x.1 kv K.length p W
structure AdI (B b tt ba N:Nat) (x:KC×M2) (K:List UInt8) (nx:List Nat) (ms:List Mt) (kv nv mv:Value) (w wr:World):Prop where
 s:ScS B b tt ba K nx ms kv nv mv wr
 bl:Below B w wr
 f:Pe x N wr
 u:Nf x.1 (N+1) wr
def SgV(W:World)(mv:Value)(c:Nat)(w:World):Prop:=W.grownBy w mv.ownBlock/\(c=0->Below W.heap.size W w)
def ap1(B b kd ba a t SY SZ:Nat)(ms:List Mt)(mv:Value)(W:World):Nat->Nat->Value->World->Prop
 |_,0,x,_=>x=.pointer (some ⟨b,0,none⟩)
 |_,1,x,_=>x=.pointer (some ⟨b,0,none⟩)
 |_,2,x,_=>x=.pointer (some ⟨b,0,none⟩)
 |_,3,x,_=>x=.pointer (some ⟨b,4,none⟩)
 |_,4,x,_=>x=mv
 |_,5,x,_=>x=.int .i64 (kd:Int)
 |_,6,x,_=>x=.pointer (some ⟨b,0,none⟩)
 |_,7,x,_=>x=.pointer (some ⟨b,0,none⟩)
 |_,8,x,_=>x=.pointer (some ⟨b,1,none⟩)
 |_,9,x,_=>x=.int .i64 (ba:Int)
 |_,10,x,_=>x=.int .i64 (a:Int)
 |_,11,x,_=>x=.int .i64 (SY:Int)
 |_,12,x,_=>x=.pointer (some ⟨b,0,none⟩)
 |_,13,x,_=>x=.pointer (some ⟨b,0,none⟩)
 |_,14,x,_=>x=.pointer (some ⟨b,1,none⟩)
 |_,15,x,_=>x=.int .i64 (ba:Int)
 |_,16,x,_=>x=.int .i64 (t:Int)
 |_,17,x,_=>x=.int .i64 (SZ:Int)
 |_,18,x,_=>x=.agg #[.int .i64 (kd:Int),.int .i64 (SY:Int),.int .i64 (SZ:Int)]
 |c,19,x,w=>c<=0->∃g,x=.slice (some ⟨g,0,none⟩) 1 1/\W.heap.size<=g/\w.heap[g]?=some (.cells #[.int .i64 (kd:Int),.int .i64 (SY:Int),.int .i64 (SZ:Int)] 36 (0,0))
 |c,20,x,w=>c=1->∃A' c',x=.slice A' (ms.length+1) c'/\OR 36 3 fI B x (ms++[⟨kd,SY,SZ⟩]) w
 |_,21,x,_=>x=.pointer (some ⟨b,0,none⟩)
 |_,22,x,_=>x=.pointer (some ⟨b,4,none⟩)
 |_,_,_,_=>True
def RIn{α:Type}(enc:α->List Value)(n:Nat)(w:World)(v:Value)(l:List α):Prop:=∃A c,v=.slice A l.length c/\(l.length<=c/\c<=9223372036854775807)/\(l=[]\/∃g f,A=some ⟨g,f,none⟩/\g<w.heap.size/\∀i (h:i<l.length),∀j,j<n->w.cell? ⟨g,f+i*n+j,none⟩=(enc l[i])[j]?)
def u8C(c:UInt8):List Value:=[.int .u8 c.toNat]
def ap3(N:Nat)(kv nv mv:Value)(K:List UInt8)(nx:List Nat)(ms:List Mt)(W:World):Nat->Nat->Value->World->Prop
 |_,0,x,_=>x=.pointer (some ⟨N,2,none⟩)
 |_,1,x,_=>x=kv
 |c,2,x,w=>1<=c->w.ownsRow W.heap.size 5 1 x K.length (bF u8C K)
 |_,3,x,_=>x=.pointer (some ⟨N,3,none⟩)
 |_,4,x,_=>x=nv
 |c,5,x,w=>2<=c->w.ownsRow W.heap.size 3 1 x nx.length (bF Ur nx)
 |_,6,x,_=>x=.pointer (some ⟨N,4,none⟩)
 |_,7,x,_=>x=mv
 |c,8,x,w=>3<=c->w.ownsRow W.heap.size 36 3 x ms.length (bF fI ms)
 |_,9,x,_=>x=.pointer (some ⟨N,2,none⟩)
 |_,_,_,_=>True
structure ScV (w:World) (K:List UInt8) (nx:List Nat) (ms:List Mt) (kv nv mv:Value):Prop where
 k:RIn u8C 1 w kv K
 n:RIn Ur 1 w nv nx
 m:RIn fI 3 w mv ms
def sw(k:Kn)(nr:Nat):Ask:=⟨k.ck,k.en,k.ws,nr⟩
structure ad3 (k:Kn) (nr:Nat):Prop where
 nre:k.nr=(nr:Int)
 n64:nr<=64
 wl:∀s∈k.ws,s.size<=1000000
 vd:aR k.pat=0
 lg:bj k.pat<=1024
theorem wQ.psK{w:World}{u:KC}{k:Kn}{nr:Nat}(h:wQ w u k)(hs:ad3 k nr):YD w u (sw k nr):=⟨h.ck,h.en,h.ws,h.nr.trans hs.nre,hs.n64,hs.wl⟩
theorem ND{i:Nat}(hi:i<3):(kQ i).size<=140737488355328:=by
 rw[show (kQ i).size=(bl (kQ i)).length from by first|exact aE _|exact (aE _).symm | (unfold bl;simp;rfl)]
 match i,hi with
 |0,_=>rw[eJ.1];decide
 |1,_=>rw[eJ.2.1];decide
 |2,_=>rw[eJ.2.2];decide
theorem adN{ks:List Kn}(l1:1<=ks.length)(l3:ks.length<=3)(kd:∀i (h:i<ks.length),ZL i ks[i]):∀er msc,T2 ks er msc->er=0:=λer msc h=>h.ok l1 Y (λk hk=>by
 obtain ⟨i,hi,rfl⟩:=List.mem_iff_getElem.1 hk;exact (kd i hi).good Y) (E1 λi j hj hi e=>by
  rw[(kd i Y).1,(kd j hj).1]at e;have:=Nt Y Y e;omega)
theorem adO{ks:List Kn}(l3:ks.length<=3)(kd:∀i (h:i<ks.length),ZL i ks[i]):∀k∈ks,k.nm.size<=140737488355328:=λk hk=>by
 obtain ⟨i,hi,rfl⟩:=List.mem_iff_getElem.1 hk;rw[(kd i hi).1];exact ND Y
def wU(ks:List Kn)(i:Nat):Nat:=((ks[i]?).map λk=>k.nr.toNat).getD 0
theorem adP{ks:List Kn}(l3:ks.length<=3)(kd:∀i (h:i<ks.length),ZL i ks[i]):∀i (h:i<ks.length),ad3 ks[i] (wU ks i):=λi h=>by
 obtain ⟨-,⟨j,hj,hp⟩,-,-,hw⟩:=kd i h;have hg:=Cr hj;have hn:wU ks i=ks[i].nr.toNat:=by unfold wU;rw[List.getElem?_eq_getElem h];rfl
 rw[hn];refine ⟨?_,?_,?_,by rw[hp];exact hg.1,by rw[hp];have:=hg.2.2.2;omega⟩
 .rcases hw with ⟨-,h2⟩|⟨-,h2,h3⟩|⟨-,h2,h3⟩ <;> omega
 .rcases hw with ⟨-,h2⟩|⟨-,h2,h3⟩|⟨-,h2,h3⟩ <;> omega
 .rcases hw with ⟨h1,-⟩|⟨h1,-⟩|⟨h1,-⟩
  .rw[h1];exact λs hs=>absurd hs ξ
  .rw[h1];decide
  .rw[h1];decide
end Go.Proofs.YtdmoogjddmdmbaaGreatDoor
