/- library.Clear of any kind, text and place. · ref07.Clear of any kind, text and place within it. -/
import Derived.Test.YtadjdkickjjieaaGreatDoorY23
import Derived.Test.YtadjdkickjjieaaGreatDoorY24
import Derived.Test.YtadjdkickjjieaaGreatDoorY18
namespace Go.Proofs.YtadjdkickjjieaaGreatDoor
set_option linter.unusedVariables false
set_option linter.unusedSimpArgs false
set_option maxRecDepth 100000
open Go.RowKit
theorem zGh (A:Option Addr) (n c i t:Nat) (w:World):Calls Tryz.prog 130 #[.slice A n c, .int .i64 (i:Int), .int .i64 (t:Int)] w λe w'=>e = .returned (.bool (decide (i<=t) && decide (t<=n)))/\w'=w:=by
 have d0:decide ((0:Int)<=(i:Int))=true:=decide_eq_true (by omega)
 by_cases h1:i<=t
 .have d1:decide ((i:Int)<=(t:Int))=true:=decide_eq_true (by omega)
  have d1n:decide (i<=t)=true:=decide_eq_true h1;by_cases h2:t<=n
  .have d2:decide ((t:Int)<=(n:Int))=true:=decide_eq_true (by omega)
   have d2n:decide (t<=n)=true:=decide_eq_true h2;rw[d1n,d2n]
   go_enter Tryz.func130,Tryz.ntmps130
   go_wp2_with fail;go_ret;exact ⟨rfl,rfl⟩
  .have d2:decide ((t:Int)<=(n:Int))=false:=decide_eq_false (by omega)
   have d2n:decide (t<=n)=false:=decide_eq_false h2;rw[d1n,d2n]
   go_enter Tryz.func130,Tryz.ntmps130
   go_wp2_with fail;go_ret;exact ⟨rfl,rfl⟩
 .have d1:decide ((i:Int)<=(t:Int))=false:=decide_eq_false (by omega)
  have d1n:decide (i<=t)=false:=decide_eq_false h1;rw[d1n]
  go_enter Tryz.func130,Tryz.ntmps130
  go_wp2_with fail;go_ret;exact ⟨rfl,rfl⟩
theorem zDt (c:Nat) (w:World):Calls Tryz.prog 131 #[.int .u8 (c:Int)] w λe w'=>e = .returned (.bool (sgN c))/\w'=w:=by
 have hcase:c<48\/(48<=c/\c<=57)\/(57<c/\c<65)\/(65<=c/\c<=90)\/(90<c/\c<97)\/(97<=c/\c<=122)\/122<c:=by omega
 obtain ⟨b1,h1⟩:∃b,decide (97<=(c:Int))=b:=⟨_,rfl⟩;obtain ⟨b2,h2⟩:∃b,decide ((c:Int)<=122)=b:=⟨_,rfl⟩;obtain ⟨b3,h3⟩:∃b,decide (65<=(c:Int))=b:=⟨_,rfl⟩;obtain ⟨b4,h4⟩:∃b,decide ((c:Int)<=90)=b:=⟨_,rfl⟩;obtain ⟨b5,h5⟩:∃b,decide (48<=(c:Int))=b:=⟨_,rfl⟩;obtain ⟨b6,h6⟩:∃b,decide ((c:Int)<=57)=b:=⟨_,rfl⟩;have hs:sgN c=((b1 && b2) || (b3 && b4) || (b5 && b6)):=by
  subst h1 h2 h3 h4 h5 h6;unfold sgN;rw[Bool.eq_iff_iff];simp only[Bool.or_eq_true,Bool.and_eq_true,decide_eq_true_eq];omega
 rw[hs];clear hs hcase
 go_enter Tryz.func131,Tryz.ntmps131
 cases b1 <;> cases b2 <;> cases b3 <;> cases b4 <;> cases b5 <;> cases b6
 all_goals
  go_wp2_with fail;go_ret;exact ⟨rfl,rfl⟩
def KC.val (u:KC):Value:=.agg #[.string u.nm, .int .i64 u.op, .slice u.a1 u.n1 u.c1, .slice u.a2 u.n2 u.c2, .int .i64 u.mn, .int .i64 u.mx, .bool u.wh, .int .i64 u.ck, .int .i64 u.en, .slice u.a3 u.n3 u.c3, .int .i64 u.nr]
set_option maxHeartbeats 4000000 in
theorem zHk (u:KC) (A:Option Addr) (n c i t:Nat) (bs:List Nat) (w:World) (hb:ByIn w (.slice A n c) bs) (hn:bs.length=n) (hnl:n<=900000):Calls Tryz.prog 99 #[.agg #[.string u.nm, .int .i64 u.op, .slice u.a1 u.n1 u.c1, .slice u.a2 u.n2 u.c2, .int .i64 u.mn, .int .i64 u.mx, .bool u.wh, .int .i64 u.ck, .int .i64 u.en, .slice u.a3 u.n3 u.c3, .int .i64 u.nr], .slice A n c, .int .i64 (i:Int), .int .i64 (t:Int)] w λe w'=>e = .returned (.bool (clrF u.wh bs i t))/\Below w.heap.size w w':=by
 obtain ⟨wh,hwh⟩:∃b,u.wh=b:=⟨_,rfl⟩;rw[hwh];obtain ⟨b,hbw⟩:∃b,(decide (i<=t) && decide (t<=n))=b:=⟨_,rfl⟩;have HW:=Lib.hid λW=>zGh A n c i t W;rw[hbw]at HW;have hcl:clrF wh bs i t=(b && (!wh || ((decide (i=0) || !sgN ((bs[i - 1]?).getD 0)) && (decide (t=n) || !sgN ((bs[t]?).getD 0))))):=by unfold clrF;rw[hn,hbw]
 obtain ⟨R,hR⟩:∃R,clrF wh bs i t=R:=⟨_,rfl⟩;rw[hR];have HR:=Lib.hid (hcl.symm.trans hR);have HB:=Lib.hid (And.intro hb hbw);clear hb hcl hbw hR
 go_enter Tryz.func99,Tryz.ntmps99
 go_wp2_with fail;refine zAM λW0 hW0=>?_;have hb0:Below w.heap.size w W0:=by rw[hW0];exact (Below.refl _ _).alloc (Nat.le_refl _) _
 have hK:W0.heap[w.heap.size]?=some (.cells #[.string u.nm, .int .i64 u.op, .slice u.a1 u.n1 u.c1, .slice u.a2 u.n2 u.c2, .int .i64 u.mn, .int .i64 u.mx, .bool wh, .int .i64 u.ck, .int .i64 u.en, .slice u.a3 u.n3 u.c3, .int .i64 u.nr] 34 (0,0)):=by rw[hW0];exact heap_alloc_new w _
 have c6:W0.cell? ⟨w.heap.size,6,none⟩=some (.bool wh):=by rw[cell_of_row _ _ _ _ _ _ hK];rfl
 have lb:w.heap.size<W0.heap.size:=(Array.getElem?_eq_some_iff.1 hK).1;have H0:=Lib.hid hb0;clear hW0 hb0 hK;refine (HW.out W0).mono ?_;rintro e w1 ⟨rfl,rfl⟩
 cases b with
 | false=>
  go_wp2_with fail;go_ret;exact ⟨zAA (by rw[<-HR.out];rfl),H0.out⟩
 | true=>
  have hit:=HB.out.2;rw[Bool.and_eq_true,decide_eq_true_eq,decide_eq_true_eq]at hit;obtain ⟨h1,h2⟩:=hit
  cases wh with
  | false=>
   clear h1 h2;go_wp2_with fail;go_ret;exact ⟨zAA (by rw[<-HR.out];rfl),H0.out⟩
  | true=>
   obtain ⟨A',c',e1,hc,hor⟩:=(HB.out.1.later H0.out);injection e1 with e1 e2 e3;subst e1 e3;have hcell:∀k,k<n->∃g f,A=some ⟨g,f,none⟩/\g<w1.heap.size/\w1.cell? ⟨g,f+k,none⟩=some (.int .u8 (((bs[k]?).getD 0:Nat):Int)):=λk hk=>by
    rcases hor with h | ⟨g,f,h3,h4,h5⟩
    .rw[h]at hn;simp at hn;omega
    .exact ⟨g,f,h3,h4,by rw[h5 k (by omega),List.getElem?_eq_getElem (by omega)];rfl⟩
   have HC:=Lib.hid hcell;clear hor hcell hc e2;have hsecond:t<n->∃y g f,(sgN ((bs[t]?).getD 0)=y/\A=some ⟨g,f,none⟩)/\g<w1.heap.size/\w1.cell? ⟨g,f+t,none⟩=some (.int .u8 (((bs[t]?).getD 0:Nat):Int)):=λh=>by
    obtain ⟨g,f,q1,q2,q3⟩:=HC.out t h;exact ⟨_,g,f,⟨rfl,q1⟩,q2,q3⟩
   have HS:=Lib.hid hsecond;clear hsecond;by_cases h0:i=0
   .subst h0;by_cases h3:t=n
    .subst h3;clear h1 h2;go_wp2_with fail;go_ret;exact ⟨zAA (by rw[<-HR.out];simp),H0.out⟩
    .have d3:((t:Int) == (n:Int))=false:=by simp;omega
     have d3n:decide (t=n)=false:=decide_eq_false h3;obtain ⟨y,g,f,⟨hy,rfl⟩,hg,hcl⟩:=HS.out (by omega)
     obtain ⟨x,hx⟩:∃x,(bs[t]?).getD 0=x:=⟨_,rfl⟩;have htn:t<n:=by omega
     have htni:(t:Int)<(n:Int):=by omega
     rw[hx]at hy hcl;have HSG:=Lib.hid (λW=>by have h:=zDt x W;rw[hy]at h;exact h)
     have HF:=Lib.hid (And.intro hx (And.intro d3n hy));clear h1 h2 h3 d3n hx hy;go_wp2_with fail;refine (HSG.out w1).mono ?_;rintro e w2 ⟨rfl,rfl⟩;go_wp2_with fail;go_ret;refine ⟨zAA ?_,H0.out⟩;rw[<-HR.out,HF.out.1,HF.out.2.1,HF.out.2.2]
     cases y <;> rfl
   .obtain ⟨k,rfl⟩:∃k,i=k+1:=⟨i - 1,by omega⟩
    obtain ⟨g,f,rfl,hg,hcl⟩:=HC.out k (by omega)
    obtain ⟨x,hx⟩:∃x,(bs[k]?).getD 0=x:=⟨_,rfl⟩;obtain ⟨y,hy⟩:∃y,sgN x=y:=⟨_,rfl⟩;have e0:bs[k+1 - 1]?=bs[k]?:=by rw[Nat.add_sub_cancel]
    have e1:decide (k+1=0)=false:=decide_eq_false (by omega)
    have HE:=Lib.hid (And.intro e0 (And.intro hx (And.intro e1 hy)));have d0:(((k+1:Nat):Int) == 0)=false:=by simp;omega
    have w1':IntKind.i64.wrap (((k+1:Nat):Int) - 1)=(k:Int):=by rw[IntWalk.i64_in _ (by omega)];omega
    have kl:(k:Int)<(n:Int):=by omega
    have kn:k<n:=by omega
    rw[hx]at hcl;have HSG:=Lib.hid (λW=>by have h:=zDt x W;rw[hy]at h;exact h)
    have d0':((k:Int)+1 == 0)=false:=by simp;omega
    clear e0 e1 hx h0 hy
    cases y with
    | true=>
     clear h1 h2;go_wp2_with fail;refine (HSG.out w1).mono ?_;rintro e w2 ⟨rfl,rfl⟩;go_wp2_with fail;go_ret;refine ⟨zAA ?_,H0.out⟩;rw[<-HR.out,HE.out.1,HE.out.2.1,HE.out.2.2.1,HE.out.2.2.2];simp
    | false=>
     by_cases h3:t=n
     .subst h3;clear h1 h2;go_wp2_with fail;refine (HSG.out w1).mono ?_;rintro e w2 ⟨rfl,rfl⟩;go_wp2_with fail;go_ret;refine ⟨zAA ?_,H0.out⟩;rw[<-HR.out,HE.out.1,HE.out.2.1,HE.out.2.2.1,HE.out.2.2.2];simp
     .have d3:((t:Int) == (n:Int))=false:=by simp;omega
      have d3n:decide (t=n)=false:=decide_eq_false h3;obtain ⟨z,g2,f2,⟨hz,e2⟩,hg2,hcl2⟩:=HS.out (by omega)
      injection e2 with e2;injection e2 with e2 e4 _;subst e2 e4;obtain ⟨x2,hx2⟩:∃x,(bs[t]?).getD 0=x:=⟨_,rfl⟩;have htn:t<n:=by omega
      have htni:(t:Int)<(n:Int):=by omega
      rw[hx2]at hz hcl2;have HF:=Lib.hid (And.intro hx2 (And.intro d3n hz));have HSG2:=Lib.hid (λW=>by have h:=zDt x2 W;rw[hz]at h;exact h)
      clear h1 h2 h3 d3n hx2 hz;go_wp2_with fail;refine (HSG.out w1).mono ?_;rintro e w2 ⟨rfl,rfl⟩;go_wp2_with fail;refine (HSG2.out w2).mono ?_;rintro e w3 ⟨rfl,rfl⟩;go_wp2_with fail;go_ret;refine ⟨zAA ?_,H0.out⟩;rw[<-HR.out,HE.out.1,HE.out.2.1,HE.out.2.2.1,HE.out.2.2.2,HF.out.1,HF.out.2.1,HF.out.2.2]
      cases z <;> rfl
theorem zCi (c:Nat) (w:World):Calls Tryz.prog 42 #[.int .u8 (c:Int)] w λe w'=>e = .returned (.bool (sgN c))/\w'=w:=by
 have hcase:c<48\/(48<=c/\c<=57)\/(57<c/\c<65)\/(65<=c/\c<=90)\/(90<c/\c<97)\/(97<=c/\c<=122)\/122<c:=by omega
 obtain ⟨b1,h1⟩:∃b,decide (97<=(c:Int))=b:=⟨_,rfl⟩;obtain ⟨b2,h2⟩:∃b,decide ((c:Int)<=122)=b:=⟨_,rfl⟩;obtain ⟨b3,h3⟩:∃b,decide (65<=(c:Int))=b:=⟨_,rfl⟩;obtain ⟨b4,h4⟩:∃b,decide ((c:Int)<=90)=b:=⟨_,rfl⟩;obtain ⟨b5,h5⟩:∃b,decide (48<=(c:Int))=b:=⟨_,rfl⟩;obtain ⟨b6,h6⟩:∃b,decide ((c:Int)<=57)=b:=⟨_,rfl⟩;have hs:sgN c=((b1 && b2) || (b3 && b4) || (b5 && b6)):=by
  subst h1 h2 h3 h4 h5 h6;unfold sgN;rw[Bool.eq_iff_iff];simp only[Bool.or_eq_true,Bool.and_eq_true,decide_eq_true_eq];omega
 rw[hs];clear hs hcase
 go_enter Tryz.func42,Tryz.ntmps42
 cases b1 <;> cases b2 <;> cases b3 <;> cases b4 <;> cases b5 <;> cases b6
 all_goals
  go_wp2_with fail;go_ret;exact ⟨rfl,rfl⟩
set_option maxHeartbeats 4000000 in
theorem zFo (u:KC) (A:Option Addr) (n c i t:Nat) (bs:List Nat) (w:World) (hb:ByIn w (.slice A n c) bs) (hn:bs.length=n) (hnl:n<=900000) (h1:i<=t) (h2:t<=n):Calls Tryz.prog 20 #[.agg #[.string u.nm, .int .i64 u.op, .slice u.a1 u.n1 u.c1, .slice u.a2 u.n2 u.c2, .int .i64 u.mn, .int .i64 u.mx, .bool u.wh, .int .i64 u.ck, .int .i64 u.en, .slice u.a3 u.n3 u.c3, .int .i64 u.nr], .slice A n c, .int .i64 (i:Int), .int .i64 (t:Int)] w λe w'=>e = .returned (.bool (clrF u.wh bs i t))/\Below w.heap.size w w':=by
 obtain ⟨wh,hwh⟩:∃b,u.wh=b:=⟨_,rfl⟩;rw[hwh];have hcl:clrF wh bs i t=(!wh || ((decide (i=0) || !sgN ((bs[i - 1]?).getD 0)) && (decide (t=n) || !sgN ((bs[t]?).getD 0)))):=by unfold clrF;rw[hn,decide_eq_true h1,decide_eq_true h2];rfl
 obtain ⟨R,hR⟩:∃R,clrF wh bs i t=R:=⟨_,rfl⟩;rw[hR];have HR:=Lib.hid (hcl.symm.trans hR);have HB:=Lib.hid (And.intro hb (And.intro h1 h2));have g0:decide ((i:Int)<0)=false:=decide_eq_false (by omega)
 have g1:decide ((n:Int)<(t:Int))=false:=decide_eq_false (by omega)
 have g1n:decide (n<t)=false:=decide_eq_false (by omega)
 have g2:decide ((t:Int)<(i:Int))=false:=decide_eq_false (by omega)
 have g2n:decide (t<i)=false:=decide_eq_false (by omega)
 clear hb hcl hR h1 h2
 go_enter Tryz.func20,Tryz.ntmps20
 go_upto_region 3 with fail
 refine zBl λW0 hW0=>?_;have hb0:Below w.heap.size w W0:=by rw[hW0];exact (Below.refl _ _).alloc (Nat.le_refl _) _
 have hK:W0.heap[w.heap.size]?=some (.cells #[.string u.nm, .int .i64 u.op, .slice u.a1 u.n1 u.c1, .slice u.a2 u.n2 u.c2, .int .i64 u.mn, .int .i64 u.mx, .bool wh, .int .i64 u.ck, .int .i64 u.en, .slice u.a3 u.n3 u.c3, .int .i64 u.nr] 34 (0,0)):=by rw[hW0];exact heap_alloc_new w _
 have c6:W0.cell? ⟨w.heap.size,6,none⟩=some (.bool wh):=by rw[cell_of_row _ _ _ _ _ _ hK];rfl
 have lb:w.heap.size<W0.heap.size:=(Array.getElem?_eq_some_iff.1 hK).1;have H0:=Lib.hid hb0;clear hW0 hb0 hK;obtain ⟨h1,h2⟩:=HB.out.2;obtain ⟨w1,rfl⟩:∃w1,w1=W0:=⟨_,rfl⟩
 cases wh with
 | false=>
  clear h1 h2;go_wp2_with fail;go_ret;exact ⟨zAA (by rw[<-HR.out];rfl),H0.out⟩
 | true=>
  obtain ⟨A',c',e1,hc,hor⟩:=(HB.out.1.later H0.out);injection e1 with e1 e2 e3;subst e1 e3;have hcell:∀k,k<n->∃g f,A=some ⟨g,f,none⟩/\g<w1.heap.size/\w1.cell? ⟨g,f+k,none⟩=some (.int .u8 (((bs[k]?).getD 0:Nat):Int)):=λk hk=>by
   rcases hor with h | ⟨g,f,h3,h4,h5⟩
   .rw[h]at hn;simp at hn;omega
   .exact ⟨g,f,h3,h4,by rw[h5 k (by omega),List.getElem?_eq_getElem (by omega)];rfl⟩
  have HC:=Lib.hid hcell;clear hor hcell hc e2;have hsecond:t<n->∃y g f,(sgN ((bs[t]?).getD 0)=y/\A=some ⟨g,f,none⟩)/\g<w1.heap.size/\w1.cell? ⟨g,f+t,none⟩=some (.int .u8 (((bs[t]?).getD 0:Nat):Int)):=λh=>by
   obtain ⟨g,f,q1,q2,q3⟩:=HC.out t h;exact ⟨_,g,f,⟨rfl,q1⟩,q2,q3⟩
  have HS:=Lib.hid hsecond;clear hsecond;by_cases h0:i=0
  .subst h0;by_cases h3:t=n
   .subst h3;clear h1 h2;go_wp2_with fail;go_ret;exact ⟨zAA (by rw[<-HR.out];simp),H0.out⟩
   .have d3:((t:Int) == (n:Int))=false:=by simp;omega
    have d3n:decide (t=n)=false:=decide_eq_false h3;obtain ⟨y,g,f,⟨hy,rfl⟩,hg,hcl⟩:=HS.out (by omega)
    obtain ⟨x,hx⟩:∃x,(bs[t]?).getD 0=x:=⟨_,rfl⟩;have htn:t<n:=by omega
    have htni:(t:Int)<(n:Int):=by omega
    rw[hx]at hy hcl;have HSG:=Lib.hid (λW=>by have h:=zCi x W;rw[hy]at h;exact h)
    have HF:=Lib.hid (And.intro hx (And.intro d3n hy));clear h1 h2 h3 d3n hx hy;go_wp2_with fail;refine (HSG.out w1).mono ?_;rintro e w2 ⟨rfl,rfl⟩;go_wp2_with fail;go_ret;refine ⟨zAA ?_,H0.out⟩;rw[<-HR.out,HF.out.1,HF.out.2.1,HF.out.2.2]
    cases y <;> rfl
  .obtain ⟨k,rfl⟩:∃k,i=k+1:=⟨i - 1,by omega⟩
   obtain ⟨g,f,rfl,hg,hcl⟩:=HC.out k (by omega)
   obtain ⟨x,hx⟩:∃x,(bs[k]?).getD 0=x:=⟨_,rfl⟩;obtain ⟨y,hy⟩:∃y,sgN x=y:=⟨_,rfl⟩;have e0:bs[k+1 - 1]?=bs[k]?:=by rw[Nat.add_sub_cancel]
   have e1:decide (k+1=0)=false:=decide_eq_false (by omega)
   have HE:=Lib.hid (And.intro e0 (And.intro hx (And.intro e1 hy)));have d0:(((k+1:Nat):Int) == 0)=false:=by simp;omega
   have w1':IntKind.i64.wrap (((k+1:Nat):Int) - 1)=(k:Int):=by rw[IntWalk.i64_in _ (by omega)];omega
   have kl:(k:Int)<(n:Int):=by omega
   have kn:k<n:=by omega
   rw[hx]at hcl;have HSG:=Lib.hid (λW=>by have h:=zCi x W;rw[hy]at h;exact h)
   have d0':((k:Int)+1 == 0)=false:=by simp;omega
   clear e0 e1 hx h0 hy
   cases y with
   | true=>
    clear h1 h2;go_wp2_with fail;refine (HSG.out w1).mono ?_;rintro e w2 ⟨rfl,rfl⟩;go_wp2_with fail;go_ret;refine ⟨zAA ?_,H0.out⟩;rw[<-HR.out,HE.out.1,HE.out.2.1,HE.out.2.2.1,HE.out.2.2.2];simp
   | false=>
    by_cases h3:t=n
    .subst h3;clear h1 h2;go_wp2_with fail;refine (HSG.out w1).mono ?_;rintro e w2 ⟨rfl,rfl⟩;go_wp2_with fail;go_ret;refine ⟨zAA ?_,H0.out⟩;rw[<-HR.out,HE.out.1,HE.out.2.1,HE.out.2.2.1,HE.out.2.2.2];simp
    .have d3:((t:Int) == (n:Int))=false:=by simp;omega
     have d3n:decide (t=n)=false:=decide_eq_false h3;obtain ⟨z,g2,f2,⟨hz,e2⟩,hg2,hcl2⟩:=HS.out (by omega)
     injection e2 with e2;injection e2 with e2 e4 _;subst e2 e4;obtain ⟨x2,hx2⟩:∃x,(bs[t]?).getD 0=x:=⟨_,rfl⟩;have htn:t<n:=by omega
     have htni:(t:Int)<(n:Int):=by omega
     rw[hx2]at hz hcl2;have HF:=Lib.hid (And.intro hx2 (And.intro d3n hz));have HSG2:=Lib.hid (λW=>by have h:=zCi x2 W;rw[hz]at h;exact h)
     clear h1 h2 h3 d3n hx2 hz;go_wp2_with fail;refine (HSG.out w1).mono ?_;rintro e w2 ⟨rfl,rfl⟩;go_wp2_with fail;refine (HSG2.out w2).mono ?_;rintro e w3 ⟨rfl,rfl⟩;go_wp2_with fail;go_ret;refine ⟨zAA ?_,H0.out⟩;rw[<-HR.out,HE.out.1,HE.out.2.1,HE.out.2.2.1,HE.out.2.2.2,HF.out.1,HF.out.2.1,HF.out.2.2]
     cases z <;> rfl
end Go.Proofs.YtadjdkickjjieaaGreatDoor
