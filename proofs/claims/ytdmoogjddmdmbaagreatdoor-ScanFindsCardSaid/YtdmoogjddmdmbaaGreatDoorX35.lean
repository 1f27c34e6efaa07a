/- Walks. -/
import Derived.Lib.ItoaNum
import Derived.IntWalk
import Derived.Deep.CutRange
import Derived.Test.YtdmoogjddmdmbaaGreatDoorX10
import Derived.Test.YtdmoogjddmdmbaaGreatDoorX05
set_option maxRecDepth 100000
set_option maxHeartbeats 16000000
set_option linter.unusedVariables false
set_option linter.unusedSimpArgs false
namespace Go.Proofs.YtdmoogjddmdmbaaGreatDoor
open Go.RowKit
theorem nH(n:Nat)(h:n<10):Lib.decDigits n=[UInt8.ofNat (48+n)]:=by rw[Lib.decDigits,dif_pos h]
theorem G2(n:Nat)(h:¬n<10):Lib.decDigits n=Lib.decDigits (n / 10)++[UInt8.ofNat (48+n % 10)]:=by rw[Lib.decDigits,dif_neg h]
theorem Cj(n:Nat):∀k,n<10 ^ (k+1)->(Lib.decDigits n).length<=k+1:=by
 intro k
 induction k generalizing n with
 |zero=>intro h;rw[nH n (by simpa using h)];simp
 |succ k ih=>
  intro h;by_cases hn:n<10
  .rw[nH n hn];simp
  .rw[G2 n hn,List.length_append];have:=ih (n / 10) (by rw[Nat.pow_succ]at h;omega)
   simp;omega
def NS(W:World)(n:Nat)(q r:Int)(u:UInt8)(D:List UInt8):Nat->Value->World->Prop
 |0,x,_=>x=.int .i64 (n:Int)
 |1,x,_=>x=.int .i64 q
 |2,x,_=>x=.string (bs D)
 |3,x,_=>x=.int .i64 (n:Int)
 |4,x,_=>x=.int .i64 r
 |5,x,_=>x=.int .u8 r
 |6,x,_=>x=.int .u8 (48+r)
 |7,x,w=>∃g,x=.slice (some ⟨g,0,none⟩) 1 1/\w.heap[g]?=some (.cells #[.int .u8 (48+r)] 5 (0,0))
 |8,x,_=>x=.string (bs [u])
 |9,x,_=>x=.string (bs (D++[u]))
 |10,x,_=>x=.string (bs (D++[u]))
 |_,_,_=>True
theorem cd{W:World}{n:Nat}{q r:Int}{u:UInt8}{D:List UInt8}{w w':World}(hb:Below w.heap.size w w'):∀(j:Nat) (x:Value),NS W n q r u D j x w->NS W n q r u D j x w':=by
 intro j x h
 match j with
 |0|1|2|3|4|5|6|8|9|10=>exact h
 |7=>
  obtain ⟨g,e,hg⟩:=h;exact ⟨g,e,(hb.block g (γ hg).1).trans hg⟩
 |_+11=>exact trivial
theorem EO(k:Nat):∀(n:Nat) (w:World),n<10 ^ (k+1)->n<4611686018427387904->k<=30->Calls Tryz.prog 22 #[.int .i64 (n:Int)] w λe w'=>e=.returned (.string (bs (Lib.decDigits n)))/\Below w.heap.size w w':=by
 induction k with
 |zero=>
  intro n w h h2 _;have hn:n<10:=by simpa using h
  have d1:decide ((n:Int)<10)=true:=τ;have Iz:decide (n<10)=true:=decide_eq_true hn;have HD:=Z (nH n hn);obtain ⟨u,hu⟩:=ν (UInt8.ofNat (48+n));have RZ:(u.toNat:Int)=48+(n:Int):=by rw[<-hu,UInt8.toNat_ofNat'];omega
  have Zu:=λw=>fh (P:=Tryz.prog) (T:=28) (e:=5) (d:=9) Tryz.underlying28 Tryz.underlying5 Tryz.underlying9 [u] [.int .u8 (48+(n:Int))] (by simp[RZ]) 1 1 rfl w
  rw[hu]at HD;clear hu RZ h
  go_enter Tryz.func22,Tryz.ntmps22
  go_wp2
  go_ret;exact ⟨tk HD.out.symm,υ.alloc I _⟩
 |succ k ih=>
  intro n w h h2 hk;by_cases hn:n<10
  .have d1:decide ((n:Int)<10)=true:=τ;have Iz:decide (n<10)=true:=decide_eq_true hn;have HD:=Z (nH n hn);obtain ⟨u,hu⟩:=ν (UInt8.ofNat (48+n));have RZ:(u.toNat:Int)=48+(n:Int):=by rw[<-hu,UInt8.toNat_ofNat'];omega
   have Zu:=λw=>fh (P:=Tryz.prog) (T:=28) (e:=5) (d:=9) Tryz.underlying28 Tryz.underlying5 Tryz.underlying9 [u] [.int .u8 (48+(n:Int))] (by simp[RZ]) 1 1 rfl w
   rw[hu]at HD;clear hu RZ h ih
   go_enter Tryz.func22,Tryz.ntmps22
   go_wp2
   go_ret;exact ⟨tk HD.out.symm,υ.alloc I _⟩
  .have d1:decide ((n:Int)<10)=false:=θ;have Iz:decide (n<10)=false:=decide_eq_false hn;have axJ:=Z (λw=>ih (n / 10) w (by rw[Nat.pow_succ]at h;omega) Y Y)
   have hlen:=Cj (n / 10) k (by rw[Nat.pow_succ]at h;omega)
   have HD:=Z (G2 n hn);generalize Lib.decDigits (n / 10)=D at *;obtain ⟨u,hu⟩:=ν (UInt8.ofNat (48+n % 10));have RZ:(u.toNat:Int)=48+(n:Int) % 10:=by rw[<-hu,UInt8.toNat_ofNat'];omega
   rw[hu]at HD;clear hu h ih;obtain ⟨q,hq⟩:∃q:Int,(n:Int) / 10=q:=⟨_,rfl⟩;obtain ⟨r,hr⟩:∃r:Int,(n:Int) % 10=r:=⟨_,rfl⟩;have htm:(n:Int).tmod 10=r:=by rw[Int.tmod_eq_emod_of_nonneg Y];exact hr
   have htd:(n:Int).tdiv 10=q:=by rw[Int.tdiv_eq_ediv_of_nonneg Y];exact hq
   have GG:0<=r:=Y;have nR:r<10:=Y;have hqn:((n / 10:Nat):Int)=q:=Y;have I2:=λw=>axJ.out w;rw[hqn]at I2;have HI:=Z I2;have rN:0<=q:=Y;have hwq:IntKind.i64.wrap q=q:=IntWalk.i64_in _ Y;have hwr:IntKind.u8.wrap r=r:=IntWalk.u8_in _ Y;have Xh:IntKind.u8.wrap (48+r)=48+r:=IntWalk.u8_in _ Y;have atQ:IntKind.i64.wrap r=r:=IntWalk.i64_in _ Y;rw[hr]at RZ;have HU:=Z RZ;clear I2 axJ hqn RZ hq hr;have hDs:(bs D).size<=40:=by rw[df];omega
   have Lh:bs D++bs [u]=bs (D++[u]):=by rw[mE,mA]
   have HCT:=Z Lh;clear Lh
   go_enter Tryz.func22,Tryz.ntmps22
   go_upto_region 3 with fail
   refine sS (λ_=>NS w n q r u D) (λ_ w'=>Below w.heap.size w w') κ κ κ υ.drew ?_ ?_
   .refine dJ.cons ?_ (dJ.cons ?_ (dJ.cons ?_ (dJ.cons ?_ (dJ.cons ?_ (dJ.cons ?_ (dJ.cons ?_ (dJ.cons ?_ (dJ.cons ?_ (dJ.cons ?_ (dJ.cons ?_ dJ.nil))))))))))
    all_goals (intro f v w0 h0 eg hE hF bB hU hS K hK;simp only[ay,Act.put,gU,gV,gW,Nat.zero_add,Nat.reduceAdd]at hK|-)
    .go_wp2_with fail;exact hK.out _ _ hS (λj _ _ h=>cd υ j _ h) rfl
    .have e0:v 0=_:=hE.1 rfl;rw[e0]at hK|-;go_wp2_with fail;exact hK.out _ _ hS (λj _ _ h=>cd υ j _ h) rfl
    .have e1:v 1=_:=hE.1 rfl;rw[e1]at hK|-;go_wp2_with fail;refine (HI.out _).mono ?_;rintro e w1 ⟨rfl,hb1⟩;go_wp2_with fail;exact hK.out _ _ (hS.trans (hb1.mono hS.size)) (λj _ _ h=>cd hb1 j _ h) rfl
    .go_wp2_with fail;exact hK.out _ _ hS (λj _ _ h=>cd υ j _ h) rfl
    .have e3:v 3=_:=hE.1 rfl;rw[e3]at hK|-;go_wp2_with fail;exact hK.out _ _ hS (λj _ _ h=>cd υ j _ h) rfl
    .have e4:v 4=_:=hE.1 rfl;rw[e4]at hK|-;go_wp2_with fail;exact hK.out _ _ hS (λj _ _ h=>cd υ j _ h) rfl
    .have e5:v 5=_:=hE.1 rfl;rw[e5]at hK|-;go_wp2_with fail;exact hK.out _ _ hS (λj _ _ h=>cd υ j _ h) rfl
    .have e6:v 6=_:=hE.1 rfl;rw[e6]at hK|-;go_wp2_with fail;have hb1:Below w0.heap.size w0 (w0.alloc (.cells #[.int .u8 (48+r)] 5)):=υ.alloc I _;exact hK.out _ _ (hS.trans (hb1.mono hS.size)) (λj _ _ h=>cd hb1 j _ h) ⟨w0.heap.size,rfl,heap_alloc_new w0 _⟩
    .obtain ⟨g,e7,hg⟩:=hE.1 rfl;rw[e7]at hK|-;have hcv:(convert 28 9 (.slice (some ⟨g,0,none⟩) 1 1)).run Tryz.prog w0=.ok (.string (bs [u])) w0:=
      run_convert_bytes_back w0 28 9 5 ⟨g,0,none⟩ 1 [u] Tryz.underlying28 Tryz.underlying5 Tryz.underlying9 (λj hj=>by
       obtain rfl:j=0:=by simp at hj;omega
       rw[Addr.add_lit,Nat.zero_add,cell_of_row _ _ _ _ _ _ hg];simp[HU.out])
     clear hg;go_wp2_with fail;exact hK.out _ _ hS (λj _ _ h=>cd υ j _ h) rfl
    .have e2:v 2=_:=hE.1 rfl;have e8:v 8=_:=hE.2.1 rfl;rw[e2,e8]at hK|-;have mB:=run_string_add_sum (P:=Tryz.prog) w0 (bs D) (bs [u]) (by rw[df,df];rw[df]at hDs;simp;omega)
     go_wp2_with fail;exact hK.out _ _ hS (λj _ _ h=>cd υ j _ h) (by show Value.string _=_;rw[HCT.out])
    .have e9:v 9=_:=hE.1 rfl;rw[e9]at hK|-;go_wp2_with fail;exact hK.out _ _ hS (λj _ _ h=>cd υ j _ h) rfl
   .intro f v w' jb hF hS;have qE:v 10=_:=hF 10 O;simp only[ay,Act.put,gU,gV,gW,Nat.zero_add,Nat.reduceAdd];rw[qE];clear hF jb
    apply_assumption
    go_wp2_with fail;go_ret;exact ⟨by rw[HD.out];rfl,hS⟩
end Go.Proofs.YtdmoogjddmdmbaaGreatDoor
