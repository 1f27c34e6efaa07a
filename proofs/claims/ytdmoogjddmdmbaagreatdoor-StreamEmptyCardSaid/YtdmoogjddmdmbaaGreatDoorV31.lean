/- Walks. -/
import Derived.Lib.ItoaNum
import Derived.IntWalk
import Derived.Deep.CutRange
import Derived.Test.YtdmoogjddmdmbaaGreatDoorV11
import Derived.Test.YtdmoogjddmdmbaaGreatDoorV04
set_option maxRecDepth 100000
set_option maxHeartbeats 16000000
set_option linter.unusedVariables false
set_option linter.unusedSimpArgs false
namespace Go.Proofs.YtdmoogjddmdmbaaGreatDoor
open Go.RowKit
section
set_option linter.unusedVariables false
set_option linter.unusedSimpArgs false
open Go.RowKit
theorem nB (n:Nat) (h:n<10):Lib.decDigits n=[UInt8.ofNat (48+n)]:=by rw[Lib.decDigits,dif_pos h]
theorem Hp (n:Nat) (h:¬n<10):Lib.decDigits n=Lib.decDigits (n / 10)++[UInt8.ofNat (48+n % 10)]:=by rw[Lib.decDigits,dif_neg h]
theorem CR (n:Nat):∀k,n<10 ^ (k+1)->(Lib.decDigits n).length<=k+1:=by
 intro k
 induction k generalizing n with
 | zero=>intro h;rw[nB n (by simpa using h)];simp
 | succ k ih=>
  intro h;by_cases hn:n<10
  .rw[nB n hn];simp
  .rw[Hp n hn,List.length_append];have:=ih (n / 10) (by rw[Nat.pow_succ]at h;omega)
   simp;omega
def Og (W:World) (n:Nat) (q r:Int) (u:UInt8) (D:List UInt8):Nat->Value->World->Prop
 | 0,x,_=>x = .int .i64 (n:Int)
 | 1,x,_=>x = .int .i64 q
 | 2,x,_=>x = .string (bs D)
 | 3,x,_=>x = .int .i64 (n:Int)
 | 4,x,_=>x = .int .i64 r
 | 5,x,_=>x = .int .u8 r
 | 6,x,_=>x = .int .u8 (48+r)
 | 7,x,w=>∃g,x = .slice (some ⟨g,0,none⟩) 1 1/\w.heap[g]?=some (.cells #[.int .u8 (48+r)] 5 (0,0))
 | 8,x,_=>x = .string (bs [u])
 | 9,x,_=>x = .string (bs (D++[u]))
 | 10,x,_=>x = .string (bs (D++[u]))
 | _,_,_=>True
theorem bP {W:World} {n:Nat} {q r:Int} {u:UInt8} {D:List UInt8} {w w':World} (hb:Below w.heap.size w w'):∀(j:Nat) (x:Value),Og W n q r u D j x w->Og W n q r u D j x w':=by
 intro j x h
 match j with
 | 0 | 1 | 2 | 3 | 4 | 5 | 6 | 8 | 9 | 10=>exact h
 | 7=>
  obtain ⟨g,e,hg⟩:=h;exact ⟨g,e,(hb.block g (Array.getElem?_eq_some_iff.1 hg).1).trans hg⟩
 | _+11=>exact trivial
set_option maxHeartbeats 1000000 in
theorem Fm (k:Nat):∀(n:Nat) (w:World),n<10 ^ (k+1)->n<4611686018427387904->k<=30->Calls Tryz.prog 22 #[.int .i64 (n:Int)] w λe w'=>e = .returned (.string (bs (Lib.decDigits n)))/\Below w.heap.size w w':=by
 induction k with
 | zero=>
  intro n w h h2 _;have hn:n<10:=by simpa using h
  have d1:decide ((n:Int)<10)=true:=decide_eq_true (by omega)
  have KY:decide (n<10)=true:=decide_eq_true hn;have HD:=Lib.hid (nB n hn);obtain ⟨u,hu⟩:∃u,UInt8.ofNat (48+n)=u:=⟨_,rfl⟩;have FK:(u.toNat:Int)=48+(n:Int):=by rw[<-hu,UInt8.toNat_ofNat'];omega
  have hcr:=λw=>jP (P:=Tryz.prog) (T:=28) (e:=5) (d:=9) Tryz.underlying28 Tryz.underlying5 Tryz.underlying9 [u] [.int .u8 (48+(n:Int))] (by simp[FK]) 1 1 rfl w
  rw[hu]at HD;clear hu FK h
  go_enter Tryz.func22,Tryz.ntmps22
  go_wp2
  go_ret;exact ⟨sU HD.out.symm,(Below.refl _ _).alloc (Nat.le_refl _) _⟩
 | succ k ih=>
  intro n w h h2 hk;by_cases hn:n<10
  .have d1:decide ((n:Int)<10)=true:=decide_eq_true (by omega)
   have KY:decide (n<10)=true:=decide_eq_true hn;have HD:=Lib.hid (nB n hn);obtain ⟨u,hu⟩:∃u,UInt8.ofNat (48+n)=u:=⟨_,rfl⟩;have FK:(u.toNat:Int)=48+(n:Int):=by rw[<-hu,UInt8.toNat_ofNat'];omega
   have hcr:=λw=>jP (P:=Tryz.prog) (T:=28) (e:=5) (d:=9) Tryz.underlying28 Tryz.underlying5 Tryz.underlying9 [u] [.int .u8 (48+(n:Int))] (by simp[FK]) 1 1 rfl w
   rw[hu]at HD;clear hu FK h ih
   go_enter Tryz.func22,Tryz.ntmps22
   go_wp2
   go_ret;exact ⟨sU HD.out.symm,(Below.refl _ _).alloc (Nat.le_refl _) _⟩
  .have d1:decide ((n:Int)<10)=false:=decide_eq_false (by omega)
   have KY:decide (n<10)=false:=decide_eq_false hn;have I:=Lib.hid (λw=>ih (n / 10) w (by rw[Nat.pow_succ]at h;omega) (by omega) (by omega))
   have hlen:=CR (n / 10) k (by rw[Nat.pow_succ]at h;omega)
   have HD:=Lib.hid (Hp n hn);generalize Lib.decDigits (n / 10)=D at *;obtain ⟨u,hu⟩:∃u,UInt8.ofNat (48+n % 10)=u:=⟨_,rfl⟩;have FK:(u.toNat:Int)=48+(n:Int) % 10:=by rw[<-hu,UInt8.toNat_ofNat'];omega
   rw[hu]at HD;clear hu h ih;obtain ⟨q,hq⟩:∃q:Int,(n:Int) / 10=q:=⟨_,rfl⟩;obtain ⟨r,hr⟩:∃r:Int,(n:Int) % 10=r:=⟨_,rfl⟩;have htm:(n:Int).tmod 10=r:=by rw[Int.tmod_eq_emod_of_nonneg (by omega)];exact hr
   have htd:(n:Int).tdiv 10=q:=by rw[Int.tdiv_eq_ediv_of_nonneg (by omega)];exact hq
   have Ha:0<=r:=by omega
   have kI:r<10:=by omega
   have hqn:((n / 10:Nat):Int)=q:=by omega
   have I2:=λw=>I.out w;rw[hqn]at I2;have HI:=Lib.hid I2;have tH:0<=q:=by omega
   have hwq:IntKind.i64.wrap q=q:=IntWalk.i64_in _ (by omega)
   have hwr:IntKind.u8.wrap r=r:=IntWalk.u8_in _ (by omega)
   have Xt:IntKind.u8.wrap (48+r)=48+r:=IntWalk.u8_in _ (by omega)
   have atZ:IntKind.i64.wrap r=r:=IntWalk.i64_in _ (by omega)
   rw[hr]at FK;have HU:=Lib.hid FK;clear I2 I hqn FK hq hr;have hDs:(bs D).size<=40:=by rw[dj];omega
   have LW:bs D++bs [u]=bs (D++[u]):=by rw[mH,oo]
   have HCT:=Lib.hid LW;clear LW
   go_enter Tryz.func22,Tryz.ntmps22
   go_upto_region 3 with fail
   refine sD (λ_=>Og w n q r u D) (λ_ w'=>Below w.heap.size w w') (by kernel_rfl) (by kernel_rfl) (by kernel_rfl) (Below.refl _ _).drew ?_ ?_
   .refine dE.cons ?_ (dE.cons ?_ (dE.cons ?_ (dE.cons ?_ (dE.cons ?_ (dE.cons ?_ (dE.cons ?_ (dE.cons ?_ (dE.cons ?_ (dE.cons ?_ (dE.cons ?_ dE.nil))))))))))
    all_goals (intro f v w0 h0 dT hE hF bD hU hS K hK;simp only[ai,Act.put,eh,ek,ep,Nat.zero_add,Nat.reduceAdd]at hK|-)
    .go_wp2_with fail;exact hK.out _ _ hS (λj _ _ h=>bP (Below.refl _ _) j _ h) rfl
    .have e0:v 0=_:=hE.1 rfl;rw[e0]at hK|-;go_wp2_with fail;exact hK.out _ _ hS (λj _ _ h=>bP (Below.refl _ _) j _ h) rfl
    .have e1:v 1=_:=hE.1 rfl;rw[e1]at hK|-;go_wp2_with fail;refine (HI.out _).mono ?_;rintro e w1 ⟨rfl,hb1⟩;go_wp2_with fail;exact hK.out _ _ (hS.trans (hb1.mono hS.size)) (λj _ _ h=>bP hb1 j _ h) rfl
    .go_wp2_with fail;exact hK.out _ _ hS (λj _ _ h=>bP (Below.refl _ _) j _ h) rfl
    .have e3:v 3=_:=hE.1 rfl;rw[e3]at hK|-;go_wp2_with fail;exact hK.out _ _ hS (λj _ _ h=>bP (Below.refl _ _) j _ h) rfl
    .have e4:v 4=_:=hE.1 rfl;rw[e4]at hK|-;go_wp2_with fail;exact hK.out _ _ hS (λj _ _ h=>bP (Below.refl _ _) j _ h) rfl
    .have e5:v 5=_:=hE.1 rfl;rw[e5]at hK|-;go_wp2_with fail;exact hK.out _ _ hS (λj _ _ h=>bP (Below.refl _ _) j _ h) rfl
    .have e6:v 6=_:=hE.1 rfl;rw[e6]at hK|-;go_wp2_with fail;have hb1:Below w0.heap.size w0 (w0.alloc (.cells #[.int .u8 (48+r)] 5)):=(Below.refl _ _).alloc (Nat.le_refl _) _;exact hK.out _ _ (hS.trans (hb1.mono hS.size)) (λj _ _ h=>bP hb1 j _ h) ⟨w0.heap.size,rfl,heap_alloc_new w0 _⟩
    .obtain ⟨g,e7,hg⟩:=hE.1 rfl;rw[e7]at hK|-;have hcv:(convert 28 9 (.slice (some ⟨g,0,none⟩) 1 1)).run Tryz.prog w0 = .ok (.string (bs [u])) w0:=
      run_convert_bytes_back w0 28 9 5 ⟨g,0,none⟩ 1 [u] Tryz.underlying28 Tryz.underlying5 Tryz.underlying9 (λj hj=>by
       obtain rfl:j=0:=by simp at hj;omega
       rw[Addr.add_lit,Nat.zero_add,cell_of_row _ _ _ _ _ _ hg];simp[HU.out])
     clear hg;go_wp2_with fail;exact hK.out _ _ hS (λj _ _ h=>bP (Below.refl _ _) j _ h) rfl
    .have e2:v 2=_:=hE.1 rfl;have e8:v 8=_:=hE.2.1 rfl;rw[e2,e8]at hK|-;have uK:=run_string_add_sum (P:=Tryz.prog) w0 (bs D) (bs [u]) (by rw[dj,dj];rw[dj]at hDs;simp;omega)
     go_wp2_with fail;exact hK.out _ _ hS (λj _ _ h=>bP (Below.refl _ _) j _ h) (by show Value.string _=_;rw[HCT.out])
    .have e9:v 9=_:=hE.1 rfl;rw[e9]at hK|-;go_wp2_with fail;exact hK.out _ _ hS (λj _ _ h=>bP (Below.refl _ _) j _ h) rfl
   .intro f v w' jj hF hS;have pA:v 10=_:=hF 10 (by decide)
    simp only[ai,Act.put,eh,ek,ep,Nat.zero_add,Nat.reduceAdd];rw[pA];clear hF jj
    apply_assumption
    go_wp2_with fail;go_ret;exact ⟨by rw[HD.out];rfl,hS⟩
end
end Go.Proofs.YtdmoogjddmdmbaaGreatDoor
