/- Walks. -/
import Derived.Test.YtdmoogjddmdmbaaGreatDoorX25
import Derived.Test.YtdmoogjddmdmbaaGreatDoorX05
import Derived.Test.YtdmoogjddmdmbaaGreatDoorX26
set_option maxRecDepth 100000
set_option maxHeartbeats 16000000
set_option linter.unusedVariables false
set_option linter.unusedSimpArgs false
namespace Go.Proofs.YtdmoogjddmdmbaaGreatDoor
open Go.RowKit
theorem Fv(c:Int)(s:ByteArray)(w:World)(hs:s.size<=1000000):
  Calls Tryz.prog 31 #[.int .i64 c,.string s] w λe w'=>e=.returned (.bool (DC c (bl s)))/\Below w.heap.size w w':=by
 rw[aer];exact JN c s w hs
theorem zr(u:KC)(q:Ask)(g f n c a z:Nat)(l:List Nat)(w:World)(ht:YE w (some ⟨g,f,none⟩) n c l)(h1:a<z)(h2:z<=n)(hq:YD w u q):
  Calls Tryz.prog 13 #[.agg #[.string u.nm,.int .i64 u.op,.slice u.a1 u.n1 u.c1,.slice u.a2 u.n2 u.c2,.int .i64 u.mn,.int .i64 u.mx,.bool u.wh,.int .i64 u.ck,.int .i64 u.en,.slice u.a3 u.n3 u.c3,.int .i64 u.nr],.slice (some ⟨g,f,none⟩) n c,.int .i64 (a:Int),.int .i64 (z:Int)] w λe w'=>e=.returned (.bool (PO l q a z))/\Below w.heap.size w w':=by
 have hwl:u.n3=q.ws.length:=by obtain ⟨A3,c3,e,-⟩:=hq.ws;injection e
 obtain ⟨em,De⟩:∃b,q.ws.isEmpty=b:=⟨_,rfl⟩;obtain ⟨an,R4⟩:∃b,q.ws.any (Un l a z q.nr)=b:=⟨_,rfl⟩;unfold PO PQ;rw[De,R4];have vq:=Z (H hwl (H De (H R4 (H hq ht))));obtain ⟨A',c',e0,hc,eH⟩:=id ht.jo;injection e0 with e1 e2 e3;subst e1 e3;have lI:=ht.len;have hn9:=ht.small;rw[lI]at hc;have IU:Kt w (some ⟨g,f,none⟩) l:=eH;have hpc:=λi k (h:i+k<=n)=>rq (c:=c) (i:=i) (k:=k) IU ht.bt lI hc.1 h;have Oc:=hpc a (z-a) Y;obtain ⟨p,hp,oG⟩:∃p,(l.drop a).take (z-a)=p/\p.length=z-a:=⟨_,rfl,by rw[List.length_take,List.length_drop];omega⟩
 have hpS:rK l a z=bs (p.map UInt8.ofNat):=by unfold rK;rw[hp]
 obtain ⟨S,hS⟩:=ν (bs (p.map UInt8.ofNat));have hSz:S.size<=1000000:=by rw[<-hS,df,List.length_map,oG];omega
 have ye:∀b∈p,b<256:=λb hb=>ht.bt b (by rw[<-hp]at hb;exact List.mem_of_mem_drop (List.mem_of_mem_take hb))
 rw[hp];rw[hpS,hS];rw[hp,hS]at Oc;obtain ⟨hb,hhb⟩:∃b,DC q.ck (bl S)=b:=⟨_,rfl⟩;obtain ⟨M,XI⟩:=ν (BQ p);rw[hhb,XI];have HH:=Z λW=>(by have h:=Fv u.ck S W hSz;rw[hq.ck,hhb]at h;rw[hq.ck];exact h:Calls Tryz.prog 31 #[.int .i64 u.ck,.string S] W λe w'=>e=.returned (.bool hb)/\Below W.heap.size W w')
 have hpB:∀W,Below w.heap.size w W->eZ W (.slice (some ⟨g,if c-a=0 then f else f+a,none⟩) (z-a) (c-a)) p:=λW hW=>by
  have h:=oX (k:=a) (ht.jo.later hW) lI h2;rw[hp]at h;exact ⟨RP (some ⟨g,f,none⟩) c a,c-a,by rw[oG];rfl,by rw[oG];omega,h⟩
 have HM:=Z λW (hW:Below w.heap.size w W)=>(by have h:=zE _ (z-a) (c-a) p W (hpB W hW) oG ye Y;rw[XI]at h;exact h:Calls Tryz.prog 32 #[.slice (some ⟨g,if c-a=0 then f else f+a,none⟩) (z-a) (c-a)] W λe w'=>e=.returned (.int .i64 (M:Int))/\Below W.heap.size W w')
 have hcv:∀W,Below w.heap.size w W->(convert 28 9 (.slice (some ⟨g,if c-a=0 then f else f+a,none⟩) (z-a) (c-a))).run Tryz.prog W=.ok (.string S) W:=λW hW=>by
  have h:=rq (c:=c) (i:=a) (k:=z-a) (Kt.later IU hW) ht.bt lI hc.1 Y;rw[hp,hS]at h;exact h
 have Qq:=Z hcv;have g0:decide ((a:Int)<0)=false:=θ;have g1:decide ((n:Int)<(z:Int))=false:=θ;have g1n:decide (n<z)=false:=θ;have g2:decide ((z:Int)<(a:Int))=false:=θ;have g2n:decide (z<a)=false:=θ;have U8:(a:Int)<=(z:Int):=Y;have hzc:(z:Int)<=(c:Int):=Y;obtain ⟨lY,Tw⟩:=hc;obtain ⟨x,hx⟩:∃x,decide ((M:Int)<u.en)=x:=⟨_,rfl⟩;have hxe:decide (q.en<=(M:Int))=!x:=by rw[<-hx,<-hq.en,Bool.eq_iff_iff];simp
 rw[hxe];clear hpc Oc hcv hpB hp oG hpS hS hSz ye hhb XI hxe De R4 IU eH e2 hq ht;have HAZ:=Z (H h1 (H h2 lI));have wT:¬c-a=0:=Y;clear h1 h2 lI hwl
 all_goals
  simp only[wT,if_true,if_false]at Qq HM
  go_enter Tryz.func13,Tryz.ntmps13
  go_upto_region 3 with fail
  refine dD λW0 aP=>?_;have hb0:Below w.heap.size w W0:=by rw[aP];exact υ.alloc I _
  have nW:Nf u w.heap.size W0:=by rw[aP];exact heap_alloc_new w _
  have H0:=Z (H hb0 nW);clear aP hb0 nW;have ow:=λd:aN W0.heap.size W0=>(H0.out.2.later d.ah).cells;have hd0:∀d:aN W0.heap.size W0,d.val.cell? ⟨w.heap.size,7,none⟩=some (.int .i64 u.ck):=λd=>(ow d).2.1.2.1;have hd1:∀d:aN W0.heap.size W0,d.val.cell? ⟨w.heap.size,8,none⟩=some (.int .i64 u.en):=λd=>(ow d).2.1.2.2.1;have kc:∀d:aN W0.heap.size W0,w.heap.size<d.val.heap.size:=λd=>(ow d).2.2;have Mv:=λd:aN W0.heap.size W0=>Qq.out d.val (H0.out.1.trans (d.ah.mono H0.out.1.size));have U9:=Z λd:aN W0.heap.size W0=>HH.out d.val;have HA2:=Z λd:aN W0.heap.size W0=>HM.out d.val (H0.out.1.trans (d.ah.mono H0.out.1.size));clear ow
  cases hb with
  |false=>
   refine aq (Below.refl W0 W0) κ κ ?_
   repeat (go_big_quiet_step (fail))
   go_big_quiet_step ((go_at_call 31;exact Calls.bZ I (U9.out _)))
   repeat (go_big_quiet_step (fail))
   refine wpQuiet_nil ?_;intro w9 hw';have oF:Below W0.heap.size W0 w9:=by obtain ⟨d9,rfl⟩:=hw';exact d9.ah
   have lT:=Z (H0.out.1.trans (oF.mono H0.out.1.size));clear hw' hd0 hd1 kc Mv oF;go_wp2_with fail;go_ret;exact ⟨rfl,lT.out⟩
  |true=>
   refine aq (Below.refl W0 W0) κ κ ?_
   repeat (go_big_quiet_step (fail))
   go_big_quiet_step ((go_at_call 31;exact Calls.bZ I (U9.out _)))
   repeat (go_big_quiet_step (fail))
   go_big_quiet_step ((go_at_call 32;exact Calls.bZ I (HA2.out _)))
   repeat (go_big_quiet_step (fail))
   refine wpQuiet_nil ?_;intro w9 hw';have oF:Below W0.heap.size W0 w9:=by obtain ⟨d9,rfl⟩:=hw';exact d9.ah
   have lT:=Z (H (H0.out.1.trans (oF.mono H0.out.1.size)) (H0.out.2.later oF));clear hw' hd0 hd1 kc Mv oF;obtain ⟨⟨c0,c1,c2,c3,c4,c5⟩,⟨c6,c7,c8,c9,mR⟩,lb⟩:=lT.out.2.cells
   cases x with
   |true=>
    go_wp2_with fail;go_ret;exact ⟨rfl,lT.out.1⟩
   |false=>
   cases em with
   |true=>
    have Gb:u.n3=0:=by rw[vq.out.1,List.isEmpty_iff.1 vq.out.2.1];rfl
    have ht:((u.n3:Int) == 0)=true:=by rw[Gb];rfl
    have HN3:=Z Gb;clear Gb;go_wp2_with fail;go_ret;exact ⟨rfl,lT.out.1⟩
   |false=>
    have ht:((u.n3:Int) == 0)=false:=by
     rw[vq.out.1];have hne:q.ws≠[]:=by intro e;have:=vq.out.2.1;rw[e]at this;cases this
     have:=List.length_pos_iff.2 hne;simp;omega
    rw[vq.out.2.2.2.1.nr]at mR;obtain ⟨h1,h2,lI⟩:=HAZ.out;have aem:=vq.out.2.2.2.1.n64;have hmx:max (0:Int) (q.nr:Int)=(q.nr:Int):=Y;obtain ⟨F0,Z9⟩:=ν (a-q.nr);have FR:wrap64 ((a:Int) - (q.nr:Int))=(a:Int) - (q.nr:Int):=IntWalk.wrap64_in _ Y;have Kk:max (0:Int) ((a:Int) - (q.nr:Int))=(F0:Int):=Y;have qM:(F0:Int)<=(a:Int):=Y;have vN:(a:Int)<=(c:Int):=Y;have Ho:(z:Int)<=(n:Int):=Y;have hs4:(n:Int)<=(c:Int):=Y;have HFZ:=Z Z9;clear Z9;obtain ⟨N3,hN3⟩:∃N,q.ws.length=N:=⟨_,rfl⟩;have Gb:u.n3=N3:=vq.out.1.trans hN3;have aki:0<N3:=by
     rw[<-hN3];exact List.length_pos_iff.2 (by intro e;have:=vq.out.2.1;rw[e]at this;cases this)
    have HQ:=Z vq.out.2.2.2.1;obtain ⟨A3,c3',e3,Dg,aeI⟩:=(HQ.out.later lT.out.1).ws;injection e3 with e3 e4 e5;obtain ⟨g3,f3,rfl,sN,aeJ⟩:=aeI.resolve_left (by rintro e;rw[e]at hN3;simp at hN3;omega)
    rw[e3,Gb]at c9;rw[Gb]at ht;have aue:N3<=u.c3/\u.c3<=9223372036854775807:=by rw[e5,<-hN3];exact Dg
    obtain ⟨B0,qJ⟩:∃B,min (n-z) q.nr=B:=⟨_,rfl⟩;have HWF:=Z (show ∀s,Un l a z q.nr s=(lV ((l.drop F0).take (a-F0)) s || lV ((l.drop z).take B0) s) from λs=>by
     unfold Un;have q1:a-min q.nr l.length=F0:=by have:=HFZ.out;omega
     have q2:min a (min q.nr l.length)=a-F0:=by have:=HFZ.out;omega
     have q3:min (l.length-z) (min q.nr l.length)=B0:=Y;rw[q1,q2,q3])
    have HT9:=Z (vq.out.2.2.2.2.later lT.out.1);have Kq:=Z (H hN3 (H aeJ sN));have Kz:=Z vq.out.2.2.1;have HC9:=Z c9;have Kj:=lT.out.1;have hK9:=lT.out.2;have vR:=Z Kj;have QO:=Z hK9;have hFz:=HFZ.out;clear c0 c1 c2 c3 c4 c5 c6 c7 c8 Kj hK9 e3 e4 e5 Dg aeI aeJ sN Gb hx vq HH U9 HA2 Qq HM lT H0;have Vu:¬c-F0=0:=Y
    all_goals
     by_cases Z4:c-z=0
     all_goals try (exfalso;omega)
     all_goals
      by_cases PW:q.nr<n-z
      all_goals try (exfalso;omega)
      all_goals
       first
        | (have Ep:decide (q.nr<n-z)=true:=decide_eq_true PW
           have aeK:decide ((q.nr:Int)<((n-z:Nat):Int))=true:=τ;have yx:q.nr<=c-z:=Y;have Lf:B0=q.nr:=Y)
        | (have Ep:decide (q.nr<n-z)=false:=decide_eq_false PW
           have aeK:decide ((q.nr:Int)<((n-z:Nat):Int))=false:=θ;have Lf:B0=n-z:=Y)
       have HH1:=Z λ(W:World) (s:ByteArray) (hW:Below w9.heap.size w9 W) (hs:s.size<=1000000)=>(by
        have h:=oX (k:=F0) (z:=a) (HT9.out.later hW).jo lI Y;exact GA g (if c-F0=0 then f else f+F0) (a-F0) (c-F0) ((l.drop F0).take (a-F0)) s W (by rw[List.length_take,List.length_drop];omega) (λb hb=>HT9.out.bt b (List.mem_of_mem_drop (List.mem_of_mem_take hb))) h ⟨Y,Y⟩ Y hs)
       have HH2:=Z λ(W:World) (s:ByteArray) (hW:Below w9.heap.size w9 W) (hs:s.size<=1000000)=>(by
        have h:=oX (k:=z) (z:=z+B0) (HT9.out.later hW).jo lI Y;rw[Nat.add_sub_cancel_left]at h;exact GA g (if c-z=0 then f else f+z) B0 (c-z) ((l.drop z).take B0) s W (by rw[List.length_take,List.length_drop];omega) (λb hb=>HT9.out.bt b (List.mem_of_mem_drop (List.mem_of_mem_take hb))) h ⟨Y,Y⟩ Y hs)
       simp only[Vu,Z4,if_true,if_false]at HH1 HH2;rw[Lf]at HH2 HWF;have HBE:=Z (H Lf qJ);clear Lf qJ PW;have akx:(N3:Int)<=9223372036854775807:=Y
       go_upto_region 13 with fail
       clear c9 mR hmx FR Kk qM vN Ho hs4 hFz Ep aeK U8 hzc Tw lY h1 h2 lI aem ht hn9 g0 g1 g1n g2 g2n
       try clear yx
       go_loopw [12] (λiv wr=>∃k:Nat,k<=N3/\iv=.int .i64 (k:Int)/\Hid (Below w9.heap.size w9 wr)/\Hid ((q.ws.drop k).any (Un l a z q.nr)=an)) (λiv _=>N3 - (intOf iv).toNat)
       case atStart=>exact ⟨0,Nat.zero_le _,rfl,υ,Kz.out⟩
       case round=>
        obtain ⟨k,hk,rfl,HR,HA⟩:=hrel;have c9:=((QO.out.later HR.out).cells).2.1.2.2.2.1;rw[show (Value.slice u.a3 u.n3 u.c3)=.slice (some ⟨g3,f3,none⟩) N3 u.c3 from by first|exact Option.some.inj ((QO.out.cells).2.1.2.2.2.1.symm.trans HC9.out)]at c9
        have lbr:=((QO.out.later HR.out).cells).2.2;by_cases hlt:k<N3
        .have hd:decide ((k:Int)<(N3:Int))=true:=τ;have cX:decide (k<N3)=true:=decide_eq_true hlt;have hkq:k<q.ws.length:=by have:=Kq.out.1;omega
         obtain ⟨s,hs⟩:=ν (q.ws[k]);have hcs:=(HR.out.cl g3 (f3+k) Kq.out.2.2).trans (Kq.out.2.1 k hkq);rw[hs]at hcs;have l3:g3<wr.heap.size:=Nat.lt_of_lt_of_le Kq.out.2.2 HR.out.size;have hsz:s.size<=1000000:=HQ.out.wl s (hs▸List.getElem_mem hkq);have Ot:=HA.out;rw[List.drop_eq_getElem_cons hkq,hs,List.any_cons,HWF.out]at Ot;have Su:=Z (HH1.out wr s HR.out hsz);have X9:=Z (HH2.out wr s HR.out hsz);obtain ⟨b1,hb1⟩:∃b,lV ((l.drop F0).take (a-F0)) s=b:=⟨_,rfl⟩;rw[hb1]at Ot Su;have hw1:wrap64 ((k:Int)+1)=(k:Int)+1:=IntWalk.wrap64_in _ Y;clear hsz hs hkq hb1
         cases b1 with
         |true=>
          have Ya:=Z Ot;clear Ot;go_wp2_with fail;refine Su.out.mono ?_;rintro e w8 ⟨rfl,rfl⟩;go_wp2_with fail;go_ret;exact ⟨ae (by rw[<-Ya.out];rfl),vR.out.trans (HR.out.mono vR.out.size)⟩
         |false=>
          rw[Bool.false_or]at Ot;generalize lV (List.take _ (l.drop z)) s=b2 at Ot X9
          cases b2 with
          |true=>
           have Ya:=Z Ot;clear Ot;go_wp2_with fail;refine Su.out.mono ?_;rintro e w8 ⟨rfl,rfl⟩;go_wp2_with fail;refine X9.out.mono ?_;rintro e w8 ⟨rfl,rfl⟩;go_wp2_with fail;go_ret;exact ⟨ae (by rw[<-Ya.out];rfl),vR.out.trans (HR.out.mono vR.out.size)⟩
          |false=>
           rw[Bool.false_or]at Ot;have Ya:=Z Ot;clear Ot;go_wp2_with fail;refine Su.out.mono ?_;rintro e w8 ⟨rfl,rfl⟩;go_wp2_with fail;refine X9.out.mono ?_;rintro e w8 ⟨rfl,rfl⟩;go_wp2_with fail;go_roundw
           case rel=>exact ⟨k+1,Y,by go_num,HR,Ya⟩
           case measure=>exact μ
        .obtain rfl:k=N3:=Y;have hd:decide ((k:Int)<(k:Int))=false:=θ;have cX:decide (k<k)=false:=θ;have Ya:=Z (show false=an from by
          rw[<-HA.out,List.drop_eq_nil_of_le (by have:=Kq.out.1;omega)];rfl)
         go_wp2_with fail;go_ret;exact ⟨ae (by rw[<-Ya.out];rfl),vR.out.trans (HR.out.mono vR.out.size)⟩
end Go.Proofs.YtdmoogjddmdmbaaGreatDoor
