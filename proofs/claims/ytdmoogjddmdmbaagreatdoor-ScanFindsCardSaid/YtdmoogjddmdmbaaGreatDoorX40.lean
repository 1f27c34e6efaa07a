/- Walks. -/
import Derived.Test.YtdmoogjddmdmbaaGreatDoorX33
import Derived.Test.YtdmoogjddmdmbaaGreatDoorX39
import Derived.Test.YtdmoogjddmdmbaaGreatDoorX18
set_option maxRecDepth 100000
set_option maxHeartbeats 16000000
set_option linter.unusedVariables false
set_option linter.unusedSimpArgs false
namespace Go.Proofs.YtdmoogjddmdmbaaGreatDoor
open Go.RowKit
def DU(m:Mc):Prop:=pC m/\sF m/\1<=m.ed.length
theorem DV(x:KC×M2)(m:Mc)(A:Option Addr)(n c i:Nat)(bs:List Nat)(w:World)(hm:gH w x.2.val m)(hv:DU m)(hb:eZ w (.slice A n c) bs)(hn:bs.length=n)(kr:n<=900000)(dV:∀b∈bs,b<256)(hi:i<=n):
  Calls Tryz.prog 75 #[.agg #[.string x.1.nm,.int .i64 x.1.op,.slice x.1.a1 x.1.n1 x.1.c1,.slice x.1.a2 x.1.n2 x.1.c2,.int .i64 x.1.mn,.int .i64 x.1.mx,.bool x.1.wh,.int .i64 x.1.ck,.int .i64 x.1.en,.slice x.1.a3 x.1.n3 x.1.c3,.int .i64 x.1.nr,.slice x.2.a1 x.2.n1 x.2.c1,.slice x.2.a2 x.2.n2 x.2.c2],.slice A n c,.int .i64 (i:Int)] w λe w'=>e=.returned (.tuple #[.int .i64 (((Pd m x.1.wh bs i).getD 0:Nat):Int),.bool (Pd m x.1.wh bs i).isSome])/\Below w.heap.size w w':=by
 have aZ:=mi m (bs.drop i) 0 i;refine rS x.1 m x.2.a1 x.2.a2 A x.2.n1 x.2.n2 x.2.c1 x.2.c2 n c i bs (gh m (bs.drop i) 0 i) (pK x.1.wh bs i) w hm hv.1 hv.2.1 hv.2.2 hb hn kr dV hi rfl ?_ ?_ ?_
 .have:=FC m (bs.drop i) 0 i;rw[List.length_drop]at this;omega
 .intro t ht;obtain ⟨j,rfl,h1,-⟩:=(aZ t).1 ht;rw[List.length_drop]at h1;omega
 .intro W t hW _;exact Im x.1 A n c i t bs W (hb.later hW) hn kr
theorem Lw{f:Nat->Option Nat}{n:Nat}(hf:∀i t,i<n->f i=some t->i<t){i:Nat}(hi:i<n):dQ f n n i=match f i with|none=>dQ f n n (i+1)|some t=>(i,t)::dQ f n n t:=by
 obtain ⟨k,rfl⟩:∃k,n=k+1:=⟨n - 1,Y⟩;rw[dQ,if_pos hi]
 cases h:f i with
 |none=>exact mQ f (k+1) hf k (k+1) (i+1) Y Y
 |some t=>
  have:=hf i t hi h;show (i,t)::_=(i,t)::_;rw[mQ f (k+1) hf k (k+1) t Y Y]
theorem Qk{f:Nat->Option Nat}{n i:Nat}(hi:n<=i):dQ f n n i=[]:=by
 cases n with
 |zero=>rfl
 |succ k=>rw[dQ,if_neg Y]
def Tr(b TY:Nat)(axJ:List (Nat×Nat)->World->Prop)(l:List (Nat×Nat))(W:World)(e:Ending)(w':World):Prop:=
 (∃v,e=.returned v)/\axJ l w'/\Below b W w'/\∀q T cs m,q≠b->T≠TY->W.heap[q]?=some (.cells cs T m)->w'.heap[q]?=some (.cells cs T m)
def Pe(x:KC×M2)(b:Nat)(w:World):Prop:=w.heap[b]?=some (.cells #[.string x.1.nm,.int .i64 x.1.op,.slice x.1.a1 x.1.n1 x.1.c1,.slice x.1.a2 x.1.n2 x.1.c2,.int .i64 x.1.mn,.int .i64 x.1.mx,.bool x.1.wh,.int .i64 x.1.ck,.int .i64 x.1.en,.slice x.1.a3 x.1.n3 x.1.c3,.int .i64 x.1.nr,.slice x.2.a1 x.2.n1 x.2.c1,.slice x.2.a2 x.2.n2 x.2.c2] 95 (0,0))
theorem Pe.later{x:KC×M2}{b:Nat}{w w':World}(h:Pe x b w)(hb:Below w.heap.size w w'):Pe x b w':=(hb.block b (γ h).1).trans h
theorem Pe.cells{x:KC×M2}{b:Nat}{w:World}(h:Pe x b w):(w.cell? ⟨b,0,none⟩=some (.string x.1.nm)/\w.cell? ⟨b,1,none⟩=some (.int .i64 x.1.op)/\w.cell? ⟨b,2,none⟩=some (.slice x.1.a1 x.1.n1 x.1.c1)/\w.cell? ⟨b,3,none⟩=some (.slice x.1.a2 x.1.n2 x.1.c2)/\w.cell? ⟨b,4,none⟩=some (.int .i64 x.1.mn)/\w.cell? ⟨b,5,none⟩=some (.int .i64 x.1.mx))/\(w.cell? ⟨b,6,none⟩=some (.bool x.1.wh)/\w.cell? ⟨b,7,none⟩=some (.int .i64 x.1.ck)/\w.cell? ⟨b,8,none⟩=some (.int .i64 x.1.en)/\w.cell? ⟨b,9,none⟩=some (.slice x.1.a3 x.1.n3 x.1.c3)/\w.cell? ⟨b,10,none⟩=some (.int .i64 x.1.nr))/\(w.cell? ⟨b,11,none⟩=some (.slice x.2.a1 x.2.n1 x.2.c1)/\w.cell? ⟨b,12,none⟩=some (.slice x.2.a2 x.2.n2 x.2.c2))/\b<w.heap.size:=by
 refine ⟨⟨?_,?_,?_,?_,?_,?_⟩,⟨?_,?_,?_,?_,?_⟩,⟨?_,?_⟩,(γ h).1⟩ <;> (rw[cell_of_row _ _ _ _ _ _ h]; rfl)
theorem Bj(x:KC×M2)(m:Mc)(A:Option Addr)(n c b TY gi:Nat)(cV:Array Value)(bs:List Nat)(axJ:List (Nat×Nat)->World->Prop)(w:World)(hei:∀args w',(callFunc gi args).run Tryz.prog w'=.ok (.enter gi args) w')(Pf:∀W,Below b w W->gH W x.2.val m/\eZ W (.slice A n c) bs)(hv:DU m)(hn:bs.length=n)(kr:n<=900000)(dV:∀b∈bs,b<256)
  (hb:b<w.heap.size) (hTY:TY≠95) (h0:axJ [] w) (hIl:∀l W W',axJ l W->Below W.heap.size W W'->axJ l W')
  (hE:∀l a z W,(l++[(a,z)]).length<=n->a<z/\z<=n->Below b w W->axJ l W->Calls Tryz.prog gi (#[.int .i64 (a:Int),.int .i64 (z:Int)]++cV) W (Tr b TY axJ (l++[(a,z)]) W)) :
  Calls Tryz.prog 68 #[.agg #[.string x.1.nm,.int .i64 x.1.op,.slice x.1.a1 x.1.n1 x.1.c1,.slice x.1.a2 x.1.n2 x.1.c2,.int .i64 x.1.mn,.int .i64 x.1.mx,.bool x.1.wh,.int .i64 x.1.ck,.int .i64 x.1.en,.slice x.1.a3 x.1.n3 x.1.c3,.int .i64 x.1.nr,.slice x.2.a1 x.2.n1 x.2.c1,.slice x.2.a2 x.2.n2 x.2.c2],.slice A n c,.func (.func gi) #[] cV] w λe w'=>(∃v,e=.returned v)/\axJ (FT m x.1.wh bs) w'/\Below b w w':=by
 have HM:=Z Pf;have HC:=Z λ(i:Nat) (hi:i<=n) (W:World) (hW:Below b w W)=>DV x m A n c i bs W (Pf W hW).1 hv (Pf W hW).2 hn kr dV hi;have HE:=Z hE;have HI:=Z (H hIl hTY);have YT:∃wh,x.1.wh=wh:=⟨_,rfl⟩;obtain ⟨f,hf⟩:=ν (Pd m x.1.wh bs);have hlt:∀i t,i<n->f i=some t->i<t/\t<=n:=λi t hi h=>by rw[<-hn];rw[<-hf]at h;exact yE Y h
 have Vb:FT m x.1.wh bs=dQ f n n 0:=by unfold FT;rw[hn,hf]
 have hlen:∀k i,i<=n->(dQ f n k i).length+i<=n:=by
  intro k
  induction k with
  |zero=>intro i hi;rw[dQ];simpa using hi
  |succ k ih=>
   intro i hi;rw[dQ];by_cases h:i<n
   .rw[if_pos h]
    cases v8:f i with
    |none=>have:=ih (i+1) Y;show (dQ f n k (i+1)).length+i<=n;omega
    |some t=>have h9:=hlt i t h v8;have:=ih t h9.2;show ((i,t)::dQ f n k t).length+i<=n;simp only[List.length_cons];omega
   .rw[if_neg h];simpa using hi
 rw[Vb];have Bk:=hlen n 0 (Nat.zero_le _);obtain ⟨L,hL⟩:=ν (dQ f n n 0);rw[hL]at Bk|-;have HL:=Z (H hL (H hlt Bk));have HF:=Z hf;have Pg:=Z h0;clear Pf hv dV hE hIl hTY h0 Vb hlen Bk hlt hL hf YT hn
 go_enter Tryz.func68,Tryz.ntmps68
 go_wp2_with fail;refine dD λW0 aP=>?_;have hb0:Below w.heap.size w W0:=by rw[aP];exact υ.alloc I _
 have gJ:Pe x w.heap.size W0:=by rw[aP];exact heap_alloc_new w _
 have H0:=Z (H (hb0.mono (Nat.le_of_lt hb)) (H gJ (HI.out.1 [] w W0 Pg.out hb0)));clear aP hb0 gJ Pg;go_loopw [6] (λv wr=>∃(i:Nat) (l:List (Nat×Nat)),i<=n/\v=.int .i64 (i:Int)/\Hid (l++dQ f n n i=L/\axJ l wr)/\Pe x w.heap.size wr/\Below b w wr) (λv _=>n - (intOf v).toNat)
 case atStart=>exact ⟨0,[],Y,rfl,⟨HL.out.1,H0.out.2.2⟩,H0.out.2.1,H0.out.1⟩
 case round=>
  obtain ⟨i,l,hi,rfl,HR,hX,aY⟩:=hrel;by_cases cY:i<n
  .have hd:decide ((i:Int)<(n:Int))=true:=τ;have cX:decide (i<n)=true:=decide_eq_true cY;obtain ⟨⟨c0,c1,c2,c3,c4,c5⟩,⟨c6,c7,c8,c9,mR⟩,⟨Ts,Tt⟩,lb⟩:=hX.cells;have H1:=Z (H hX aY);have CC:=Z (HC.out i hi wr aY);rw[HF.out]at CC;have cB:=Lw (λi t h1 h2=>(HL.out.2.1 i t h1 h2).1) cY;clear hX aY
   cases v8:f i with
   |none=>
    rw[v8]at CC cB;have HS:=Z cB;clear cB v8;go_wp2_with fail;refine CC.out.mono ?_;rintro e w1 ⟨rfl,hb1⟩;have H2:=Z (H (H1.out.1.later hb1) (H (H1.out.2.trans (hb1.mono (by have:=H1.out.2.size;omega))) (HI.out.1 l wr w1 HR.out.2 hb1)))
    clear hb1 c0 c1 c2 c3 c4 c5 c6 c7 c8 c9 mR Ts Tt lb;go_wp2_with fail;go_roundw
    case rel=>exact ⟨i+1,l,Y,by go_num,⟨by rw[<-HR.out.1,HS.out],H2.out.2.2⟩,H2.out.1,H2.out.2.1⟩
    case measure=>exact μ
   |some t=>
    rw[v8]at CC cB;have htt:=HL.out.2.1 i t cY v8;have HS:=Z cB;clear cB v8;go_wp2_with fail;refine CC.out.mono ?_;rintro e w1 ⟨rfl,hb1⟩;have H2:=Z (H (H1.out.1.later hb1) (H (H1.out.2.trans (hb1.mono (by have:=H1.out.2.size;omega))) (HI.out.1 l wr w1 HR.out.2 hb1)))
    clear hb1 c0 c1 c2 c3 c4 c5 c6 c7 c8 c9 mR Ts Tt lb;have UY:(l++[(i,t)]).length<=n:=by
     have h1:=congrArg List.length HR.out.1;rw[HS.out]at h1;have:=HL.out.2.2;simp only[List.length_append,List.length_cons]at h1|-;simp only[List.length_nil];omega
    have HEE:=Z (HE.out l i t w1 UY htt H2.out.2.1 H2.out.2.2);have htz:(t:Int)<=n:=Y;clear UY;go_wp2_with fail;refine HEE.out.mono ?_;rintro e w2 ⟨⟨v2,rfl⟩,hI2,aJ,bX⟩;have H3:=Z (H (show Pe x w.heap.size w2 from bX w.heap.size _ _ _ Y (λe=>HI.out.2 e.symm) H2.out.1) (H (H2.out.2.1.trans aJ) hI2));clear hI2 aJ bX;go_wp2_with fail;go_roundw
    case rel=>exact ⟨t,l++[(i,t)],Y,by go_num,⟨by rw[<-HR.out.1,HS.out];simp,H3.out.2.2⟩,H3.out.1,H3.out.2.1⟩
    case measure=>exact μ
  .obtain rfl:i=n:=Y;have hd:decide ((i:Int)<(i:Int))=false:=θ;have cX:decide (i<i)=false:=θ;go_wp2_with fail
   go_end0
   refine ⟨⟨_,rfl⟩,?_,aY⟩;have h1:=HR.out.1;rw[Qk I,List.append_nil]at h1;rw[<-h1];exact HR.out.2
end Go.Proofs.YtdmoogjddmdmbaaGreatDoor
