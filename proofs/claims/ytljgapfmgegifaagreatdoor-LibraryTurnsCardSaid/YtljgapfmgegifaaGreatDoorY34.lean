/- Walks: library.Same at lists of kinds whose first ones are one, or differ in the name. -/
import Derived.Test.YtljgapfmgegifaaGreatDoorY33
import Derived.Test.YtljgapfmgegifaaGreatDoorY25
namespace Go.Proofs.YtljgapfmgegifaaGreatDoor
set_option linter.unusedVariables false
set_option linter.unusedSimpArgs false
set_option maxRecDepth 100000
open Go.RowKit
def KC.ag (o:KC):Value:=.agg #[.string o.nm, .int .i64 o.op, .slice o.a1 o.n1 o.c1, .slice o.a2 o.n2 o.c2, .int .i64 o.mn, .int .i64 o.mx, .bool o.wh, .int .i64 o.ck, .int .i64 o.en, .slice o.a3 o.n3 o.c3, .int .i64 o.nr]
def KC.row (o:KC):Array Value:=#[.string o.nm, .int .i64 o.op, .slice o.a1 o.n1 o.c1, .slice o.a2 o.n2 o.c2, .int .i64 o.mn, .int .i64 o.mx, .bool o.wh, .int .i64 o.ck, .int .i64 o.en, .slice o.a3 o.n3 o.c3, .int .i64 o.nr]
theorem two_box {w W:World} {a b:Array Value} {T U:TypeId} (h:W=(w.alloc (.cells a T)).alloc (.cells b U)):Below w.heap.size w W/\W.heap.size=w.heap.size+2/\W.heap[w.heap.size]?=some (.cells a T (0,0))/\W.heap[w.heap.size+1]?=some (.cells b U (0,0)):=by
 have h1:=heap_alloc_new (w.alloc (.cells a T)) (.cells b U);have h2:(w.alloc (.cells a T)).heap.size=w.heap.size+1:=by simp
 rw[h2]at h1;subst h;exact ⟨((Below.refl _ _).alloc (Nat.le_refl _) _).alloc (by simp) _,by simp,by rw[old_alloc _ _ _ (by simp)];exact heap_alloc_new w _,h1⟩
set_option maxHeartbeats 4000000 in
theorem ksame_self (o:KC) (k:Kn) (w:World) (h:KnIn w o k) (hl:k.ws.length<=1000000):Calls Tryz.prog 22 #[o.ag,o.ag] w λe w'=>e = .returned (.bool true)/\Below w.heap.size w w':=by
 have HP:=Lib.hid (λW (hb:Below w.heap.size w W)=>psame_self _ _ _ W (Nat.le_refl _) (h.pat.later hb));have HS:=Lib.hid (λW (hb:Below w.heap.size w W)=>sleqS_self _ _ W (h.ws.later hb));clear h;obtain ⟨nm,op,a1,n1,c1,a2,n2,c2,mn,mx,wh,ck,en,a3,n3,c3,nr⟩:=o;simp only[KC.ag,KC.pat]at HP HS|-
 go_enter Tryz.func22,Tryz.ntmps22
 go_wp2_with fail;refine calls_nmS λW0 hW0=>?_;obtain ⟨hb0,hz0,hX,hY⟩:=two_box hW0;have H0:=Lib.hid (And.intro hb0 (And.intro hX hY));clear hW0 hb0 hX hY;refine (HP.out W0 H0.out.1).mono ?_;rintro e w1 ⟨rfl,hb1⟩;have hz1:=hb1.size;have hX1:=(hb1.block w.heap.size (by omega)).trans H0.out.2.1
 have hY1:=(hb1.block (w.heap.size+1) (by omega)).trans H0.out.2.2
 have x:∀j,w1.cell? ⟨w.heap.size,j,none⟩=(#[.string nm, .int .i64 op, .slice a1 n1 c1, .slice a2 n2 c2, .int .i64 mn, .int .i64 mx, .bool wh, .int .i64 ck, .int .i64 en, .slice a3 n3 c3, .int .i64 nr]:Array Value)[j]?:=λj=>cell_of_row _ _ _ _ _ _ hX1;have y:∀j,w1.cell? ⟨w.heap.size+1,j,none⟩=(#[.string nm, .int .i64 op, .slice a1 n1 c1, .slice a2 n2 c2, .int .i64 mn, .int .i64 mx, .bool wh, .int .i64 ck, .int .i64 en, .slice a3 n3 c3, .int .i64 nr]:Array Value)[j]?:=λj=>cell_of_row _ _ _ _ _ _ hY1;have x6:=x 6;have x7:=x 7;have x8:=x 8;have x9:=x 9;have y6:=y 6;have y7:=y 7;have y8:=y 8;have y9:=y 9;simp only[List.getElem?_toArray,List.getElem?_cons_zero,List.getElem?_cons_succ]at x6 x7 x8 x9 y6 y7 y8 y9;have l1:w.heap.size<w1.heap.size:=by omega
 have l2:w.heap.size+1<w1.heap.size:=by omega
 have hw1:Below w.heap.size w w1:=H0.out.1.trans (hb1.mono H0.out.1.size);have HC:=Lib.hid (HS.out w1 hw1);have H1:=Lib.hid (And.intro hw1 (And.intro hX1 hY1));clear hb1 hX1 hY1 hw1 x y;go_wp2_with fail;refine HC.out.mono ?_;rintro e w2 ⟨rfl,hb2⟩;have hz2:=hb2.size;have hX2:=(hb2.block w.heap.size (by omega)).trans H1.out.2.1
 have hY2:=(hb2.block (w.heap.size+1) (by omega)).trans H1.out.2.2
 have x10:w2.cell? ⟨w.heap.size,10,none⟩=some (.int .i64 nr):=by rw[cell_of_row _ _ _ _ _ _ hX2];rfl
 have y10:w2.cell? ⟨w.heap.size+1,10,none⟩=some (.int .i64 nr):=by rw[cell_of_row _ _ _ _ _ _ hY2];rfl
 have l3:w.heap.size<w2.heap.size:=by omega
 have l4:w.heap.size+1<w2.heap.size:=by omega
 have H2:=Lib.hid (H1.out.1.trans (hb2.mono H1.out.1.size));clear hb2 hX2 hY2 x6 x7 x8 x9 y6 y7 y8 y9;go_wp2_with fail;go_ret;exact ⟨rfl,H2.out⟩
set_option maxHeartbeats 4000000 in
theorem ksame_diff (o q:KC) (w:World) (h:o.nm≠q.nm):Calls Tryz.prog 22 #[o.ag,q.ag] w λe w'=>e = .returned (.bool false)/\Below w.heap.size w w':=by
 have hb:(o.nm.toList == q.nm.toList)=false:=by
  rw[Bool.eq_false_iff];intro e;rw[beq_iff_eq,toList_bl,toList_bl]at e;exact h (bl_inj e)
 simp only[KC.ag]
 go_enter Tryz.func22,Tryz.ntmps22
 go_wp2_with fail;go_ret;exact ⟨rfl,(two_box rfl).1⟩
set_option maxHeartbeats 4000000 in
theorem eqfK_any (A1 A2:Option Addr) (n c1 c2:Nat) (us1 us2:List KC) (ks1 ks2:List Kn) (q:Bool) (w:World) (h1:KnsIn w (.slice A1 n c1) us1 ks1) (h2:KnsIn w (.slice A2 n c2) us2 ks2) (hn:1<=n)
  (IH:∀k (h1:k<us1.length) (h2:k<us2.length),(q=true\/k=0)->∀W,Below w.heap.size w W->Calls Tryz.prog 22 #[us1[k].ag,us2[k].ag] W λe w'=>e = .returned (.bool q)/\Below W.heap.size W w') :
  Calls Tryz.prog 21 #[.slice A1 n c1, .slice A2 n c2, .func (.func 22) #[] #[]] w λe w'=>e = .returned (.bool q)/\Below w.heap.size w w':=by
 obtain ⟨-,A1',c1',e1,hc1,hr1,-⟩:=h1;obtain ⟨-,A2',c2',e2,hc2,hr2,-⟩:=h2;injection e1 with e1 e1' e1'';injection e2 with e2 e2' e2'';subst e1 e1'' e2 e2'';rw[<-e1']at hc1;have HN:=Lib.hid (And.intro e1'.symm e2'.symm);have HC:=Lib.hid (And.intro hr1 hr2);have HI:=Lib.hid IH;clear e1' e2' hr1 hr2 IH
 go_enter Tryz.func21,Tryz.ntmps21
 go_wp2_with fail
 go_loopw [17] (λv wr=>∃k:Nat,k<=n/\v = .int .i64 (k:Int)/\Hid (Below w.heap.size w wr)/\Hid (q=true\/k=0)) (λv _=>n - (intOf v).toNat)
 case atStart=>exact ⟨0,by omega,rfl,Below.refl _ _, .inr rfl⟩
 case round=>
  obtain ⟨k,hkn,rfl,HB,HQ⟩:=hrel;by_cases hlt:k<n
  .have hd:decide ((k:Int)<(n:Int))=true:=decide_eq_true (by omega)
   have hdn:decide (k<n)=true:=decide_eq_true hlt;have hk1:k<us1.length:=by rw[HN.out.1];exact hlt
   have hk2:k<us2.length:=by rw[HN.out.2];exact hlt
   obtain ⟨g1,f1,rfl,hg1,hcl1⟩:=HC.out.1.resolve_left (by intro e;rw[e]at hk1;simp at hk1)
   obtain ⟨g2,f2,rfl,hg2,hcl2⟩:=HC.out.2.resolve_left (by intro e;rw[e]at hk2;simp at hk2)
   have CI:=Lib.hid (HI.out k hk1 hk2 HQ.out);obtain ⟨o,ho⟩:∃x,us1[k]=x:=⟨_,rfl⟩;obtain ⟨p,hp⟩:∃x,us2[k]=x:=⟨_,rfl⟩;have hbr:=HB.out;have m1:=λj hj=>(hbr.cell (p:=⟨g1,f1+k*11+j,none⟩) hg1).trans (hcl1 k hk1 j hj);have m2:=λj hj=>(hbr.cell (p:=⟨g2,f2+k*11+j,none⟩) hg2).trans (hcl2 k hk2 j hj);rw[ho]at m1 CI;rw[hp]at m2 CI;obtain ⟨⟨x0,x1,x2,x3,x4,x5⟩,x6,x7,x8,x9,x10⟩:=kc_cells m1;obtain ⟨⟨y0,y1,y2,y3,y4,y5⟩,y6,y7,y8,y9,y10⟩:=kc_cells m2;have hz:=hbr.size;have l0:g1<wr.heap.size:=by omega
   have l1:g2<wr.heap.size:=by omega
   have l2:g2<wr.heap.size+1:=by omega
   unfold KC.ag at CI;clear hcl1 hcl2 m1 m2 hbr ho hp;go_wp2_with fail;refine calls_nmS λW0 hW0=>?_;have hb0:Below wr.heap.size wr W0:=(two_box hW0).1;have hb1:Below w.heap.size w W0:=HB.out.trans (hb0.mono hz);clear hW0 hb0 x0 x1 x2 x3 x4 x5 x6 x7 x8 x9 x10 y0 y1 y2 y3 y4 y5 y6 y7 y8 y9 y10;refine (CI.out W0 hb1).mono ?_;rintro e w2 ⟨rfl,hb2⟩;have HB3:=Lib.hid (hb1.trans (hb2.mono hb1.size));clear hb1 hb2
   cases q with
   | true=>
    go_wp2_with fail;go_roundw
    case rel=>exact ⟨k+1,by omega,by go_num,HB3.out,Or.inl (by first | trivial | rfl)⟩
    case measure=>simp[intOf];omega
   | false=>
    go_wp2_with fail;go_ret;exact ⟨rfl,HB3.out⟩
  .obtain rfl:k=n:=by omega
   have hd:decide ((k:Int)<(k:Int))=false:=decide_eq_false (by omega)
   have hdn:decide (k<k)=false:=decide_eq_false (by omega)
   have hqt:q=true:=HQ.out.resolve_right (by omega)
   subst hqt;go_wp2_with fail;go_ret;exact ⟨rfl,HB.out⟩
set_option maxHeartbeats 4000000 in
theorem lsame7_any (A1 A2:Option Addr) (n c1 c2:Nat) (us1 us2:List KC) (ks1 ks2:List Kn) (q:Bool) (w:World) (h1:KnsIn w (.slice A1 n c1) us1 ks1) (h2:KnsIn w (.slice A2 n c2) us2 ks2) (hn:1<=n)
  (IH:∀k (h1:k<us1.length) (h2:k<us2.length),(q=true\/k=0)->∀W,Below w.heap.size w W->Calls Tryz.prog 22 #[us1[k].ag,us2[k].ag] W λe w'=>e = .returned (.bool q)/\Below W.heap.size W w') :
  Calls Tryz.prog 9 #[.slice A1 n c1, .slice A2 n c2] w λe w'=>e = .returned (.bool q)/\Below w.heap.size w w':=by
 have HE:=Lib.hid (eqfK_any A1 A2 n c1 c2 us1 us2 ks1 ks2 q w h1 h2 hn IH);clear h1 h2 IH
 go_enter Tryz.func9,Tryz.ntmps9
 go_wp2_with fail;refine HE.out.mono ?_;rintro e w2 ⟨rfl,hb2⟩;have H2:=Lib.hid hb2;clear hb2;go_wp2_with fail;go_ret;exact ⟨rfl,H2.out⟩
end Go.Proofs.YtljgapfmgegifaaGreatDoor
