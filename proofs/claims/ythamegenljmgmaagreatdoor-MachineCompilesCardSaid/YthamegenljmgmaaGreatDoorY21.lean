/- Walks. -/
import Derived.Test.YthamegenljmgmaaGreatDoorY20
import Derived.Test.YthamegenljmgmaaGreatDoorY14
import Derived.Test.YthamegenljmgmaaGreatDoorY15
import Derived.Test.YthamegenljmgmaaGreatDoorY10
import Derived.Test.YthamegenljmgmaaGreatDoorY16
set_option maxRecDepth 100000
set_option maxHeartbeats 16000000
set_option linter.unusedVariables false
set_option linter.unusedSimpArgs false
namespace Go.Proofs.YthamegenljmgmaaGreatDoor
open Go.RowKit
def RoR(w0:World)(s:Nat)(b:Pb)(fp:List Nat)(A:Au)(pk KK:Nat)(back:Bool)(xo:cI)(W:World)(x:Value)(w:World):Prop:=
 ∃b' y gd u1 u2,x=.agg #[.bool (if back then iu xo y else iu y xo).emp,u1,u2]/\tO w0 s (if back then cO b' xo y else cO b' y xo) gd w/\ab fp gd W w/\JO w gd u1 (if back then iu xo y else iu y xo).first/\JO w gd u2 (if back then iu xo y else iu y xo).last/\Mk b b' y A/\b'.fol.length=b.fol.length+pk/\(y.first.length<=pk/\y.last.length<=pk)/\(∀l∈b'.fol,l.length<=KK)/\TT W u1 u2
def R3(w0:World)(s N:Nat)(b:Pb)(fp:List Nat)(A:Au)(pk KK:Nat)(W:World)(dH dC:Value)(eo:Bool)(kv:Value)(xo:cI)(g f n c0 k:Nat):Nat->Nat->Value->World->Prop
 |c,0,x,w=>x=.pointer (Z s 0)
 |c,1,x,w=>x=.agg #[.bool eo,dH,dC]
 |c,2,x,w=>x=.pointer (Z s 0)
 |c,3,x,w=>x=.pointer (Z N 2)
 |c,4,x,w=>x=.slice (Z g f) n c0
 |c,5,x,w=>x=.int .i64 (k:Int)
 |c,6,x,w=>x=.pointer (Z g (f+k*5))
 |c,7,x,w=>x=kv
 |c,8,x,w=>c=1->RoP w0 s b fp A pk KK W (.returned x) w
 |c,9,x,w=>c=2->RoR w0 s b fp A pk KK true xo W x w
 |_,_,_,_=>True
theorem JL.box{w w':World}{v:Value}{l:List Nat}{k:Nat}{e:Bool}{A B:Option Addr}{n1 c1 n2 c2:Nat}(h:JL w v l)(hk:w.heap[k]?=some (.cells #[.bool e,.slice A n1 c1,.slice B n2 c2] 67))(hz:w.heap.size<=w')(hs:∀q,q<w.heap.size->q≠k->w'.heap[q]?=w.heap[q]?):JL w' v l:=by
 obtain ⟨A,c,e,hc,dt⟩:=h;refine ⟨A,c,e,hc,dt.imp id ?_⟩;rintro ⟨g,f,hA,jm,bH⟩;by_cases Gc:g=k
 .subst Gc;by_cases D3:l=[]
  .exact ⟨g,f,hA,Nat.lt_of_lt_of_le jm hz,λi hi=>by rw[D3]at hi;exact absurd hi (Nat.not_lt_zero i)⟩
  .have h0:=bH 0 (List.length_pos_iff.2 D3);rw[Φ hk]at h0
   match f,h0 with
   |0,h0=>simp at h0
   |1,h0=>simp at h0
   |2,h0=>simp at h0
   |f+3,h0=>simp at h0
 .exact ⟨g,f,hA,Nat.lt_of_lt_of_le jm hz,λi hi=>(χ g (f+i) (hs g jm Gc)).t (bH i hi)⟩
structure eA (w0:World) (s:Nat) (fp:List Nat) (w:World) (nb:Array Value) (bi:Pb) (cB:List Nat) (xo:cI) (dH dC:Value) (wr:World):Prop where
 bu:tO w0 s bi cB wr
 kf:ab fp cB w wr
 ap:∀q∈cB,q<w.heap.size\/w.heap.size+3<=q
 n0:wr.heap[w.heap.size]?=some (.cells nb 26 (0,0))
 n1:wr.heap[w.heap.size+1]?=some (.cells #[.bool false,(),()] 67)
 n2:wr.heap[w.heap.size+1+1]?=some (.cells #[.bool xo.emp,dH,dC] 67)
 sz:w.heap.size+3<=wr
 o1:JO wr cB dH xo.first
 o2:JO wr cB dC xo.last
 fr:TT w dH dC
section
variable {w0:World} {s:Nat} {fp:List Nat} {w:World} {nb:Array Value} {bi:Pb} {cB:List Nat} {xo:cI} {dH dC:Value} {wr:World}
theorem eA.later(h:eA w0 s fp w nb bi cB xo dH dC wr){W:World}(hb:Below wr wr W):eA w0 s fp w nb bi cB xo dH dC W:=by
 have hz:=h.sz;exact ⟨h.bu.later hb,h.kf.t (ab.aj hb),h.ap,(hb.block _ U).t h.n0,(hb.block _ U).t h.n1,(hb.block _ U).t h.n2,Nat.le_trans hz hb.size,h.o1.later hb,h.o2.later hb,h.fr⟩
theorem eA.cZ(h:eA w0 s fp w nb bi cB xo dH dC wr)(k:Nat)(h1:w<=k)(h2:k<w+3):k∉cB:=λhm=>by have:=h.ap k hm;omega
theorem JO.box{w':World}{v:Value}{l:List Nat}{k:Nat}{e:Bool}{A B:Option Addr}{n1 c1 n2 c2:Nat}(h:JO w fp v l)(hk:w.heap[k]?=some (.cells #[.bool e,.slice A n1 c1,.slice B n2 c2] 67))(hz:w.heap.size<=w')(hs:∀q,q<w.heap.size->q≠k->w'.heap[q]?=w.heap[q]?):JO w' fp v l:=
 ⟨h.1.box hk hz hs,λg hg=>⟨(h.2 g hg).1,Nat.lt_of_lt_of_le (h.2 g hg).2 hz⟩⟩
theorem eA.out(h:eA w0 s fp w nb bi cB xo dH dC wr){b2:Pb}{x':cI}{gd:List Nat}{u1 u2:Value}{wz:World}(aS:tO w0 s b2 gd wz)(bE:ab cB gd wr wz)(kk:JO wz gd u1 x'.first)(mH:JO wz gd u2 x'.last)(hw:w0.heap.size<=w)(dv:TT w u1 u2):
  eA w0 s fp w nb b2 gd x' u1 u2 (rL wz (w+1+1) (.bool x'.emp) u1 u2):=by
 have hz:=h.sz;have cT:=bE.size;have ew:∀q∈gd,q<w.heap.size\/w.heap.size+3<=q:=λq hq=>(bE.new q hq).elim (h.ap q) λh=>.inr U;have hn:∀k,w.heap.size<=k->k<w.heap.size+3->k∉gd:=λk h1 h2 hm=>by have:=ew k hm;omega
 have m0:=(bE.aq _ U (h.cZ _ V U)).t h.n0;have m1:=(bE.aq _ U (h.cZ _ U U)).t h.n1;have m2:=(bE.aq _ U (h.cZ _ U U)).t h.n2;have hold:∀q,q<wz.heap.size->q≠w.heap.size+1+1->(rL wz (w+1+1) (.bool x'.emp) u1 u2).heap[q]?=wz.heap[q]?:=λq _ hq=>fN hq _ _ _;obtain ⟨q1,q2⟩:=mg aS (h.kf.t bE) hw (W:=rL wz (w+1+1) (.bool x'.emp) u1 u2) rfl rfl rfl (by rw[iO];exact V) (λk hk=>by
  by_cases e:k=w.heap.size+1+1
  .right;subst e;exact ⟨U,hn _ U U⟩
  .exact .inl (hold k hk e))
 obtain ⟨iP,rM,e1,-⟩:=h.o1.form;obtain ⟨iQ,rN,e2,-⟩:=h.o2.form;rw[e1,e2]at m2;exact ⟨q1,q2,ew,(fN U _ _ _).t m0,(fN U _ _ _).t m1,uf m2 _ _ _,by rw[iO];omega,kk.box m2 (by rw[iO];exact V) hold,mH.box m2 (by rw[iO];exact V) hold,dv⟩
theorem eA.fin(h:eA w0 s fp w nb bi cB xo dH dC wr)(hw:w0.heap.size<=w){W:World}(hg:wr.grownBy W (some (w.heap.size+1))):tO w0 s bi cB W/\ab fp cB w W/\JO W cB dH xo.first/\JO W cB dC xo.last:=by
 have hz:=h.sz;have hold:∀q,q<wr.heap.size->q≠w.heap.size+1->W.heap[q]?=wr.heap[q]?:=λq h1 hq=>hg.block q h1 (λe=>by injection e with e;exact hq e)
 obtain ⟨q1,q2⟩:=mg h.bu h.kf hw hg.os hg.tape hg.output hg.size (λk hk=>by
  by_cases e:k=w.heap.size+1
  .right;subst e;exact ⟨U,h.cZ _ U U⟩
  .exact .inl (hold k hk e))
 exact ⟨q1,q2,h.o1.box h.n1 hg.size hold,h.o2.box h.n1 hg.size hold⟩
end
theorem eA.start{w0:World}{s:Nat}{b:Pb}{fp:List Nat}{w:World}(fY:tO w0 s b fp w)(nb:Array Value)(e:Bool):
  eA w0 s fp w nb b fp ⟨[],[],e⟩ () () (((w.alloc (.cells nb 26)).alloc (.cells #[.bool false,(),()] 67)).alloc (.cells #[.bool e,(),()] 67)):=by
 have hB:=((((Below.refl w w).alloc V (.cells nb 26)).alloc H (.cells #[.bool false,(),()] 67)).alloc (by simp <;> omega) (.cells #[.bool e,(),()] 67))
 have fP:∀(W:World) (fq:List Nat),JO W fq () []:=λW fq=>⟨JL.iG W,λg hg=>by simp[Value.ownBlock]at hg⟩
 refine ⟨fY.later hB,ab.aj hB,λq hq=>.inl (fY.lt q hq).2,?_,?_,?_,H,fP _ _,fP _ _,λg hg=>by simp[Value.ownBlock]at hg⟩
 .rw[az _ _ _ (by simp <;> omega),az _ _ _ H]; exact heap_alloc_new w _
 .rw[az _ _ _ H];simpa using heap_alloc_new (w.alloc _) _
 .simpa using heap_alloc_new ((w.alloc _).alloc _) _
structure Fm (b bi:Pb) (A:Au) (n:Nat) (xo:cI) (K:Nat):Prop where
 Pn:Mk b bi xo A
 fl:bi.fol.length=b.fol.length+n
 ln:xo.first.length<=n/\xo.last.length<=n
 bd:∀l∈bi.fol,l.length<=K
theorem CO{x y:cI}{n m:Nat}(h1:x.first.length<=n/\x.last.length<=n)(h2:y.first.length<=m/\y.last.length<=m):(iu x y).first.length<=n+m/\(iu x y).last.length<=n+m:=by
 unfold iu;constructor
 .simp only;split
  .rw[List.length_append];omega
  .omega
 .simp only;split
  .rw[List.length_append];omega
  .omega
theorem Fm.seq{b bi b':Pb}{kids:List Nd}{k:Nat}{kd:Nd}{xo y:cI}{K:Nat}(h:Fm b bi (eG k (me (xB kids))) (bp (kids.take k)) xo (K+cV (kids.take k)))(hk:kids[k]?=some kd)(hy:Mk bi b' y (sV kd))(hl:b'.fol.length=bi.fol.length+aL kd)(jh:y.first.length<=aL kd/\y.last.length<=aL kd)
  (rO:∀l∈b'.fol,l.length<=K+cV (kids.take k)+dp kd) (p8:xo.last.length<=600) (tu:y.first.length<=600) :
  Fm b (cO b' xo y) (eG (k+1) (me (xB kids))) (bp (kids.take (k+1))) (iu xo y) (K+cV (kids.take (k+1))):=by
 rw[gj hk,jI,jJ];rw[<-kA hk]at hy;refine ⟨h.Pn.ac8 hy,?_,CO h.ln jh,λl dU=>?_⟩
 .unfold cO;rw[eT,hl,h.fl];omega
 .have h1:=qF y.first xo.last b'.fol _ rO l dU;have h2:xo.last.length*y.first.length<=600*600:=Nat.mul_le_mul p8 tu;omega
theorem NT(w0:World)(s:Nat)(rs:List (Nat×Nat))(kids:List Nd)(mn mx:Int)(A1:Option Addr)(c1 g f c:Nat)(hR:aF (.mk 2 rs kids mn mx)=true)(fH:aL (.mk 2 rs kids mn mx)<=600)
  (hg:g<w0) (hc:kids.length<=c/\c<=9223372036854775807) (bU:eS w0 kids g f) (hw:∀kd∈kids,∀vs,bY w0 kd vs->mV w0 s kd vs) :
  mV w0 s (.mk 2 rs kids mn mx) [.int .i64 2,.slice A1 rs.length c1,.slice (Z g f) kids.length c,.int .i64 mn,.int .i64 mx]:=by
 intro w b fp K fY jh fW hK rT;have CM:=eA.start fY #[(2:Int),.slice A1 rs.length c1,.slice (Z g f) kids.length c,.int .i64 mn,.int .i64 mx] true;have jC:=iD hR (.inl rfl);have qe:=fO (.inl rfl) fH;have uJ:dp (.mk 2 rs kids mn mx)=cV kids:=by rw[dp,if_neg O,if_neg O]
 have Po:sV (.mk 2 rs kids mn mx)=eG kids.length (me (xB kids)):=by rw[sV,if_neg O,if_pos rfl]
 have sO:=fY.cW.size;rw[qe]at fH fW|-;rw[uJ]at rT|-;rw[Po];have l7:Fm b b (eG 0 (me (xB kids))) (bp (kids.take 0)) ⟨[],[],true⟩ (K+cV (kids.take 0)):=⟨Mk.nil b jh (λπ h=>by cases π with|nil=>exact h|cons k π=>exact absurd h.1 (Nat.not_lt_zero _)) (λk h=>absurd h (Nat.not_lt_zero _)),rfl,⟨Nat.zero_le _,Nat.zero_le _⟩,λl hl=>by simpa [cV] using hK l hl⟩
 have sG:=Y CM;have Fo:=Y l7;have HW:=Y hw;have Kw:=Y bU;obtain ⟨n,hn⟩:=ν kids.length;obtain ⟨PS,Fp⟩:∃P,bp kids=P:=⟨_,rfl⟩;obtain ⟨CS,Fq⟩:∃P,cV kids=P:=⟨_,rfl⟩;show Calls Tryz.prog _ #[_,.agg #[(2:Int),.slice A1 rs.length c1,.slice (Z g f) kids.length c,.int .i64 mn,.int .i64 mx]] w _;rw[hn]at hc jC|-;rw[hn]at sG;rw[Fp]at fH fW|-;rw[Fq]at rT|-;have HN:=Y (I hn (I Fp Fq));clear hR qe uJ Po fY hw bU hK l7 CM hn Fp Fq jh
 go_enter Tryz.func26,Tryz.ntmps26
 go_wp2_with fail;go_loopw [7] (λiv wr=>∃(k:Nat) (bi:Pb) (cB:List Nat) (xo:cI) (dH dC:Value),k<=n/\iv=.int .i64 (k:Int)/\Hid (eA w0 s fp w #[(2:Int),.slice A1 rs.length c1,.slice (Z g f) n c,.int .i64 mn,.int .i64 mx] bi cB xo dH dC wr)/\Hid (Fm b bi (eG k (me (xB kids))) (bp (kids.take k)) xo (K+cV (kids.take k)))) (λiv _=>n - (intOf iv).toNat)
 case atStart=>
  exact ⟨0,b,fp,⟨[],[],true⟩,.slice none 0 0,.slice none 0 0,U,rfl,sG,Fo⟩
 case round=>
  obtain ⟨k,bi,cB,xo,dH,dC,hi,rfl,HM,HI⟩:=hrel;have oI:=HM.sz;have D3:w.heap.size<wr:=U;obtain ⟨nb0,nb1,nb2,nb3,nb4⟩:=aD HM.n0;have fT:w0.heap.size<=w:=sO;by_cases aB:k<n
  .have hd:decide ((k:Int)<(n:Int))=true:=τ;have dV:decide (k<n)=true:=decide_eq_true aB;obtain ⟨kd,B1,e1,B2,e2,bU,aY,nU⟩:=pa (k:=k) (by rw[HN.1];exact aB) Kw.o
   obtain ⟨iP,rM,rfl,-⟩:=HM.o1.form;obtain ⟨iQ,rN,rfl,-⟩:=HM.o2.form;obtain ⟨eo,vj⟩:=ν xo.emp;have kZ:wr.heap[g]?=w0.heap[g]?:=HM.bu.cW.block g hg;have xq:g<wr:=by have:=HM.bu.cW.size;omega
   have Ia:g∉cB:=λhm=>by have:=(HM.bu.lt g hm).1;omega
   have sH:=pc bU;have bH:=pd bU;rw[HN.2.1]at sH;rw[HN.2.2]at bH;have G0:=HW kd (List.mem_of_getElem? bU) _ aY;have bI:=HI.o;obtain ⟨pk,lP⟩:∃p,bp (kids.take k)=p:=⟨_,rfl⟩;obtain ⟨K0,sa⟩:∃p,K+cV (kids.take k)=p:=⟨_,rfl⟩;rw[lP,sa]at bI;rw[lP]at sH;have Qm:K0+dp kd<=10000000000:=U;have sd:pk<=600:=U;have Qn:aL kd<=600:=U;have Fs:=Y bU;have Hz:=Y G0;have R1:=Y (I lP sa);have nO:=bI.fl;have hlen:=bI.Pn.len;have dG:bi.fol.length+aL kd<=600:=U;have di:=Y (I dG hlen);have Df:=Y bI.bd;have OG:=Y (show ∀p∈xo.last,p<bi.fol.length from λp hp=>(bI.Pn.bP.iW p hp).2);have px:=Y (show xo.first.length<=600/\xo.last.length<=600 from ⟨by have:=bI.ln;omega,by have:=bI.ln;omega⟩)
   have BQ:=Y vj;have Tk:=Y nU;have Ka:=Y kZ;have l2:w.heap.size+1+1<wr:=U;have l0:w.heap.size<wr:=U;have n2:=HM.cZ (w+1+1) U U;have n0:=HM.cZ w U U;have gG:=HM.n2;rw[vj]at gG;obtain ⟨o0,o1,o2⟩:=aK gG;have Bk:=Y HM.bu;have yc:=Y (I HM.o1 HM.o2);have dN:xk cB wr 0 wr.drew:=⟨(ab.aj D.drew).gV,λ_=>D.drew⟩;clear bU aY nU G0 bI lP nO hlen dG bH vj gG sa kZ sH
   go_upto_region 11 with fail
   refine ay 10 [8,9] (R3 w0 s w bi cB (sV kd) (aL kd) (K0+dp kd) wr (.slice iP xo.first.length rM) (.slice iQ xo.last.length rN) eo (.agg #[.int .i64 kd.op,.slice B1 kd.rs.length e1,.slice B2 kd.kids.length e2,.int .i64 kd.mn,.int .i64 kd.mx]) xo g f n c k) (λc w'=>xk cB wr c w') R R R R R R O dN ?_ ?_
   .simp only[ck,ct];refine aa.pure O ?_ (aa.pure O ?_ (aa.pure O ?_ (aa.pure O ?_ (aa.pure O ?_ (aa.pure O ?_ (aa.pure O ?_ (aa.pure O ?_ (aa.jg 0 rfl ?_ (aa.jg 1 rfl ?_ (aa.nil))))))))))
    all_goals first | (intro v wz c bX hS hE K hK;simp only[ah,Act.put,dk,dm,dn,Nat.zero_add,Nat.reduceAdd,ck,ct]at hK|-) | (intro v wz hS hE K hK;simp only[ah,Act.put,dk,dm,dn,Nat.zero_add,Nat.reduceAdd,ck,ct]at hK|-)
    .exact ζ
    .have cx0:=(χ (w+1+1) 0 (hS.1.aq _ l2 n2)).t o0;have Gj:=(χ (w+1+1) 1 (hS.1.aq _ l2 n2)).t o1;have cx2:=(χ (w+1+1) 2 (hS.1.aq _ l2 n2)).t o2;exact ζ
    .exact ζ
    .exact ζ
    .have e3:v 3=_:=hE.1 rfl;rw[e3]at hK|-;have cn2:=(χ w 2 (hS.1.aq _ l0 n0)).t nb2;exact ζ
    .exact ζ
    .have e4:v 4=_:=hE.1 rfl;have e5:v 5=_:=hE.2.1 rfl;rw[e4,e5]at hK|-;exact ζ
    .have e6:v 6=_:=hE.1 rfl;rw[e6]at hK|-;obtain ⟨k0,k1,k2,k3,k4⟩:=Tk wz ((hS.1.aq _ xq Ia).t Ka.o);exact ζ
    .have e2:v 2=_:=hE.1 rfl;have e7:v 7=_:=hE.2.1 rfl;rw[e2,e7]at hK|-;have hz:=hS.2 rfl;have aG:=Hz wz bi cB K0 (Bk.later hz) di.2 di.1 Df.o Qm;have HC:=Y aG;have HX:=Y hS;clear hS hE aG;go_wp2_with fail;refine HC.mono ?_;rintro e wy ⟨b',y,fp',v1,v2,rfl,iK,ec,fs,ek,cR,dU,df,gz,CN⟩;have HP:=Y (I iK (I ec (I fs (I ek (I cR (I dU (I df (I gz CN))))))));clear iK ec fs ek cR dU df gz CN;go_wp2_with fail;refine hK.out _ _ (λj z hj h=>?_) ⟨((ab.aj (HX.2 rfl)).t HP.2.1).gV,λh=>by cases h⟩ (λ_=>⟨b',y,fp',v1,v2,rfl,HP.1,(ab.aj (HX.2 rfl)).t HP.2.1,HP.2.2.1,HP.2.2.2.1,HP.2.2.2.2.1,HP.2.2.2.2.2.1,HP.2.2.2.2.2.2.1,HP.2.2.2.2.2.2.2.1,HP.2.2.2.2.2.2.2.2.mono HX.1.size⟩)
     match j with
     |0|1|2|3|4|5|6|7=>exact h
     |8=>exact absurd rfl hj
     |9=>exact λh=>by cases h
     |_+10=>exact trivial
    .have e0:v 0=_:=hE.1 rfl;have e1:v 1=_:=hE.2.1 rfl;rw[e0,e1]at hK|-;have E8:=hE.2.2.1 rfl;obtain ⟨b',y,fp',v1,v2,ev,iK,ec,fs,ek,cR,dU,df,gz,-⟩:=E8 rfl;injection ev with ev;rw[ev]at hK|-;have i1:=yc.1.keep ec;have i2:=yc.2.keep ec;have pU:∀p∈xo.last,p<b'.fol.length:=λp hp=>by have:=OG p hp;omega
     have aG:=tn w0 s b' fp' wz xo y _ _ _ _ _ iK i1 i2 fs ek pU (by have:=px.o;omega) (by have:=px.o;omega) (by have:=px.o;omega) (by have:=px.o;omega) gz U
     rw[BQ.o]at aG;have HC:=Y aG;have HX:=Y hS;have HP:=Y (I iK (I ec (I cR (I dU (I df gz)))));clear hS hE aG iK ec fs ek cR dU df gz i1 i2 pU E8 ev;go_wp2_with fail;refine HC.mono ?_;rintro e wy ⟨gd,u1,u2,rfl,aS,bE,j1,j2,j3⟩;have HQ:=Y (I aS (I bE (I j1 (I j2 j3))));clear aS bE j1 j2 j3;go_wp2_with fail;refine hK.out _ _ (λj z hj h=>?_) ⟨(HP.2.1.t HQ.2.1).gV,λh=>by cases h⟩ (λ_=>⟨b',y,gd,u1,u2,rfl,HQ.1,HP.2.1.t HQ.2.1,HQ.2.2.1,HQ.2.2.2.1,HP.2.2.1,HP.2.2.2.1,HP.2.2.2.2.1,HP.2.2.2.2.2,HQ.2.2.2.2.mono HP.2.1.size⟩)
     match j with
     |0|1|2|3|4|5|6|7=>exact h
     |8=>exact λh=>by cases h
     |9=>exact absurd rfl hj
     |_+10=>exact trivial
   .intro v wz hS hF;have e0:v 0=_:=hF 0 O;have e1:v 1=_:=hF 1 O;have e2:v 2=_:=hF 2 O;have e3:v 3=_:=hF 3 O;have e4:v 4=_:=hF 4 O;have e5:v 5=_:=hF 5 O;have e6:v 6=_:=hF 6 O;have e7:v 7=_:=hF 7 O;have E8:=hF 8 O;have E9:=hF 9 O;simp only[ah,Act.put,dk,dm,dn,Nat.zero_add,Nat.reduceAdd,ck,ct,List.drop_succ_cons,List.drop_zero,e0,e1,e2,e3,e4,e5,e6,e7];clear hF e0 e1 e2 e3 e4 e5 e6 e7;obtain ⟨b',y,gd,u1,u2,ev,aS,bE,kk,mH,BR,dU,df,gz,dv⟩:=E9 rfl;rw[ev];obtain ⟨Qo,Ke,rfl,L3⟩:=kk.form;obtain ⟨Qp,L4,rfl,L5⟩:=mH.form;have wQ:=HM.o.out (x':=iu xo y) aS bE kk mH fT (dv.mono U);have G1:=HI.seq Fs.o BR dU df (λl hl=>by have:=gz l hl;have:=R1.2;omega) (by have:=px.o;omega) U
    have IC:=Y bE;have BC:=Y G1;have tI:=Y wQ;have cT:=(IC.aq _ l2 n2).t HM.n2;obtain ⟨q0,q1,q2⟩:=aK cT;have f0:wz.frozen? (Z (w+1+1) 0)=false:=Ψ cT
    have f1:wz.frozen? (Z (w+1+1) 1)=false:=Ψ cT
    have f2:wz.frozen? (Z (w+1+1) 2)=false:=Ψ cT
    clear hS E8 E9 ev aS bE kk mH BR dU df gz dv G1 wQ cT o0 o1 o2 dN;go_wp2_with fail;go_roundw
    case rel=>
     exact ⟨k+1,_,_,_,_,_,U,by go_num,tI,BC⟩
    case measure=>exact μ
  .obtain rfl:k=n:=U;obtain ⟨iP,rM,rfl,-⟩:=HM.o1.form;obtain ⟨iQ,rN,rfl,-⟩:=HM.o2.form;obtain ⟨y0,y1,y2⟩:=aK HM.n1;obtain ⟨q0,q1,q2⟩:=aK HM.n2;have vl:wr.frozen? (Z (w+1) 0)=false:=Ψ HM.n1
   have ug:wr.frozen? (Z (w+1) 1)=false:=Ψ HM.n1
   have xp:wr.frozen? (Z (w+1) 2)=false:=Ψ HM.n1
   go_wp2_with fail;refine au λWf bG=>?_;have wM:wr.grownBy Wf (some (w.heap.size+1)):=by
    rw[bG];repeat (first|exact dQ _ _|refine et ?_ _|refine dR ?_ _ _|refine fM ?_)
   obtain ⟨t1,t2,t3,t4⟩:=HM.fin fT wM;have bI:=HI.o;rw[List.take_of_length_le (by rw[HN.1];exact V),HN.2.1,HN.2.2]at bI
   refine bodyPost_ret (v:=.agg #[.bool xo.emp,.slice iP xo.first.length rM,.slice iQ xo.last.length rN]) (by rw[bG];simp[results,Tryz.results26,go_sem,y0,y1,y2,q0,q1,q2];try rfl) rfl ?_
   exact ⟨bi,xo,cB,_,_,rfl,t1,t2,t3,t4,bI.Pn,bI.fl,bI.ln,bI.bd,HM.fr⟩
def R4(w0:World)(s N:Nat)(b:Pb)(fp:List Nat)(A:Au)(pk KK:Nat)(W:World)(dH dC:Value)(eo:Bool)(kv:Value)(xo:cI)(g f n c0 k:Nat):Nat->Nat->Value->World->Prop
 |c,0,x,w=>x=.pointer (Z s 0)
 |c,1,x,w=>x=.pointer (Z s 0)
 |c,2,x,w=>x=.pointer (Z N 2)
 |c,3,x,w=>x=.slice (Z g f) n c0
 |c,4,x,w=>x=.pointer (Z g f)
 |c,5,x,w=>x=kv
 |c,6,x,w=>c=1->RoP w0 s b fp A pk KK W (.returned x) w
 |c,7,x,w=>x=.agg #[.bool eo,dH,dC]
 |c,8,x,w=>c=2->RoR w0 s b fp A pk KK false xo W x w
 |_,_,_,_=>True
theorem eA.RZ{w0:World}{s:Nat}{fp:List Nat}{w:World}{nb:Array Value}{bi:Pb}{cB:List Nat}{xo:cI}{dH dC:Value}{wr:World}(h:eA w0 s fp w nb bi cB xo dH dC wr)(e:Bool)(hw:w0.heap.size<=w):eA w0 s fp w nb bi cB { xo with emp:=e } dH dC (wr.setCell (Z (w+1+1) 0) (.bool e)):=by
 have hz:=h.sz;have hold:∀q,q<wr.heap.size->q≠w.heap.size+1+1->(wr.setCell (Z (w+1+1) 0) (.bool e)).heap[q]?=wr.heap[q]?:=λq _ hq=>Below.heap_setCell _ _ _ _ hq;have jn:wr.heap.size<=(wr.setCell (Z (w+1+1) 0) (.bool e)).heap.size:=by simp[World.setCell]
 obtain ⟨q1,q2⟩:=mg h.bu h.kf hw (W:=wr.setCell (Z (w+1+1) 0) (.bool e)) rfl rfl rfl jn (λk hk=>by
  by_cases e:k=w.heap.size+1+1
  .right;subst e;exact ⟨U,h.cZ _ U U⟩
  .exact .inl (hold k hk e))
 obtain ⟨iP,rM,e1,-⟩:=h.o1.form;obtain ⟨iQ,rN,e2,-⟩:=h.o2.form;have m2:=h.n2;rw[e1,e2]at m2;have aC:=aE h.n2 0 (.bool e);exact ⟨q1,q2,h.ap,(hold _ U U).t h.n0,(hold _ U U).t h.n1,by simpa using aC,U,h.o1.box m2 jn hold,h.o2.box m2 jn hold,h.fr⟩
theorem Fm.rep{b bi b':Pb}{A:Au}{m M i j pk cs K:Nat}{xo y:cI}(h:Fm b bi (nt m M (i+1) A) (j*pk) xo (K+j*(cs+360000)))(hi:i<M)(hy:Mk bi b' y A)(hl:b'.fol.length=bi.fol.length+pk)(jh:y.first.length<=pk/\y.last.length<=pk)(rO:∀l∈b'.fol,l.length<=K+j*(cs+360000)+cs)(p8:xo.first.length<=600)(tu:y.last.length<=600):
  Fm b (cO b' y xo) (nt m M i A) ((j+1)*pk) (Ul (iu y xo) (decide (m<=i))) (K+(j+1)*(cs+360000)):=by
 have e1:(j+1)*pk=j*pk+pk:=Nat.succ_mul _ _;have e2:(j+1)*(cs+360000)=j*(cs+360000)+(cs+360000):=Nat.succ_mul _ _;rw[e1,e2];refine ⟨h.Pn.ac9 hy hi,?_,?_,λl dU=>?_⟩
 .unfold cO;rw[eT,hl,h.fl];omega
 .have:=CO jh h.ln;unfold Ul;simp only;omega
 .have h1:=qF xo.first y.last b'.fol _ rO l dU;have h2:y.last.length*xo.first.length<=600*600:=Nat.mul_le_mul tu p8;omega
theorem NU(w0:World)(s:Nat)(rs:List (Nat×Nat))(kd:Nd)(mn mx:Int)(A1:Option Addr)(c1 g f c:Nat)(nQ:List Value)(hR:aF (.mk 4 rs [kd] mn mx)=true)(fH:aL (.mk 4 rs [kd] mn mx)<=600)
  (hg:g<w0) (hc:1<=c/\c<=9223372036854775807) (bU:bY w0 kd nQ) (nU:∀j,j<5->w0.cell? (Z g (f+j))=nQ[j]?) (hw:mV w0 s kd nQ) :
  mV w0 s (.mk 4 rs [kd] mn mx) [.int .i64 4,.slice A1 rs.length c1,.slice (Z g f) 1 c,.int .i64 mn,.int .i64 mx]:=by
 intro w b fp K fY jh fW hK rT;obtain ⟨B1,e1,B2,e2,rfl,-,-,-⟩:=bU.form;obtain ⟨jE,xn⟩:=dD hR;have hle:=D6 hR rfl;obtain ⟨-,-,Kd,qd,sY⟩:(4:Int)=4/\[kd].length=1/\0<=mn/\1<=mx/\mx<=64:=by
  rcases jE with h|h|h|h
  .cases h
  .cases h
  .cases h
  .exact h
 obtain ⟨M,rfl⟩:=Int.eq_ofNat_of_zero_le (show 0<=mx by omega)
 obtain ⟨m,rfl⟩:=Int.eq_ofNat_of_zero_le Kd;have hmM:m<=M:=U;have CM:=eA.start fY #[(4:Int),.slice A1 rs.length c1,.slice (Z g f) 1 c,.int .i64 m,.int .i64 M] true;have qe:aL (.mk 4 rs [kd] m M)=M*aL kd:=by rw[oU fH];simp[qS]
 have uJ:dp (.mk 4 rs [kd] m M)=M*(dp kd+360000):=by rw[dp,if_neg O,if_pos rfl];simp[Ql]
 have Po:sV (.mk 4 rs [kd] m M)=nt m M 0 (sV kd):=by
  rw[sV,if_neg O,if_neg O,if_neg O,kA (l:=[kd]) rfl,Int.toNat_natCast,Int.toNat_natCast]
 have sO:=fY.cW.size;rw[qe]at fH fW|-;rw[uJ]at rT|-;rw[Po];have l7:Fm b b (nt m M M (sV kd)) (0*aL kd) ⟨[],[],true⟩ (K+0*(dp kd+360000)):=⟨Mk.ada b jh hmM,H,⟨Nat.zero_le _,Nat.zero_le _⟩,λl hl=>by simpa using hK l hl⟩
 obtain ⟨pk,lP⟩:=ν (aL kd);obtain ⟨cs,bH⟩:=ν (dp kd);rw[lP]at fH fW l7|-;rw[bH]at rT l7|-;have Di:=Y (I lP bH);have sG:=Y CM;have Fo:=Y l7;have HW:=Y hw;have Tk:=Y (show ∀wz:World,wz.heap[g]?=w0.heap[g]?->wz.cell? (Z g f)=some (.int .i64 kd.op)/\wz.cell? (Z g (f+1))=some (.slice B1 kd.rs.length e1)/\wz.cell? (Z g (f+2))=some (.slice B2 kd.kids.length e2)/\wz.cell? (Z g (f+3))=some (.int .i64 kd.mn)/\wz.cell? (Z g (f+4))=some (.int .i64 kd.mx) from
  λwz h=>have hc:=λj (hj:j<5)=>(χ g (f+j) h).t (nU j hj);⟨hc 0 U,hc 1 U,hc 2 U,hc 3 U,hc 4 U⟩)
 have wQ:1<=M:=U;have ahu:M<=64:=U;show Calls Tryz.prog _ #[_,.agg #[(4:Int),.slice A1 rs.length c1,.slice (Z g f) 1 c,.int .i64 m,.int .i64 M]] w _;clear hR xn jE qe uJ Po fY hw nU hK l7 CM jh lP bH bU hle Kd qd sY
 go_enter Tryz.func26,Tryz.ntmps26
 go_wp2_with fail;go_loopw [12] (λiv wr=>∃(v j:Nat) (bi:Pb) (cB:List Nat) (xo:cI) (dH dC:Value),v+j=M/\iv=.int .i64 (v:Int)/\Hid (eA w0 s fp w #[(4:Int),.slice A1 rs.length c1,.slice (Z g f) 1 c,.int .i64 m,.int .i64 M] bi cB xo dH dC wr)/\Hid (Fm b bi (nt m M v (sV kd)) (j*pk) xo (K+j*(cs+360000)))) (λiv _=>(intOf iv).toNat)
 case atStart=>
  exact ⟨M,0,b,fp,⟨[],[],true⟩,.slice none 0 0,.slice none 0 0,U,rfl,sG,Fo⟩
 case round=>
  obtain ⟨v,j,bi,cB,xo,dH,dC,hi,rfl,HM,HI⟩:=hrel;have oI:=HM.sz;have D3:w.heap.size<wr:=U;obtain ⟨nb0,nb1,nb2,nb3,nb4⟩:=aD HM.n0;have fT:w0.heap.size<=w:=sO;by_cases aB:1<=v
  .obtain ⟨i,rfl⟩:∃i,v=i+1:=⟨v - 1,U⟩;have hd:decide ((1:Int)<=((i+1:Nat):Int))=true:=τ;have nw:decide ((1:Int)<=(i:Int)+1)=true:=τ;have AN:decide ((0:Int)<=(i:Int))=true:=τ;have hiM:i<M:=U;obtain ⟨iP,rM,rfl,-⟩:=HM.o1.form;obtain ⟨iQ,rN,rfl,-⟩:=HM.o2.form;obtain ⟨eo,vj⟩:=ν xo.emp;have kZ:wr.heap[g]?=w0.heap[g]?:=HM.bu.cW.block g hg;have xq:g<wr:=by have:=HM.bu.cW.size;omega
   have Ia:g∉cB:=λhm=>by have:=(HM.bu.lt g hm).1;omega
   have bI:=HI.o;have LY:j*pk+pk<=M*pk:=by have:=Nat.mul_le_mul_right pk (show j+1<=M by omega);rwa [Nat.succ_mul]at this
   have hKi:j*(cs+360000)+(cs+360000)<=M*(cs+360000):=by have:=Nat.mul_le_mul_right (cs+360000) (show j+1<=M by omega);rwa [Nat.succ_mul]at this
   have atu:j*pk<=600:=U;obtain ⟨K0,sa⟩:∃p,K+j*(cs+360000)=p:=⟨_,rfl⟩;rw[sa]at bI;have Qm:K0+dp kd<=10000000000:=by rw[Di.2];omega
   have Qn:aL kd<=600:=by rw[Di.1];omega
   have Hz:=Y HW.o;have R1:=Y sa;have nO:=bI.fl;have hlen:=bI.Pn.len;have dG:bi.fol.length+aL kd<=600:=by rw[Di.1];omega
   have di:=Y (I dG hlen);have Df:=Y bI.bd;have px:=Y (show xo.first.length<=600/\xo.last.length<=600 from ⟨by have:=bI.ln;omega,by have:=bI.ln;omega⟩)
   have BQ:=Y vj;have Ka:=Y kZ;have l2:w.heap.size+1+1<wr:=U;have l0:w.heap.size<wr:=U;have n2:=HM.cZ (w+1+1) U U;have n0:=HM.cZ w U U;have gG:=HM.n2;rw[vj]at gG;obtain ⟨o0,o1,o2⟩:=aK gG;have Bk:=Y HM.bu;have yc:=Y (I HM.o1 HM.o2);have OS:=Y hKi;have dN:xk cB wr 0 wr.drew:=⟨(ab.aj D.drew).gV,λ_=>D.drew⟩;clear bI nO hlen dG vj gG sa kZ LY hKi
   go_upto_region 26 with fail
   refine ay 9 [6,8] (R4 w0 s w bi cB (sV kd) (aL kd) (K0+dp kd) wr (.slice iP xo.first.length rM) (.slice iQ xo.last.length rN) eo (.agg #[.int .i64 kd.op,.slice B1 kd.rs.length e1,.slice B2 kd.kids.length e2,.int .i64 kd.mn,.int .i64 kd.mx]) xo g f 1 c 0) (λc w'=>xk cB wr c w') R R R R R R O dN ?_ ?_
   .simp only[ck,ct];refine aa.pure O ?_ (aa.pure O ?_ (aa.pure O ?_ (aa.pure O ?_ (aa.pure O ?_ (aa.pure O ?_ (aa.jg 0 rfl ?_ (aa.pure O ?_ (aa.jg 1 rfl ?_ (aa.nil)))))))))
    all_goals first | (intro v wz c bX hS hE K hK;simp only[ah,Act.put,dk,dm,dn,Nat.zero_add,Nat.reduceAdd,ck,ct]at hK|-) | (intro v wz hS hE K hK;simp only[ah,Act.put,dk,dm,dn,Nat.zero_add,Nat.reduceAdd,ck,ct]at hK|-)
    .exact ζ
    .exact ζ
    .exact ζ
    .have e2:v 2=_:=hE.1 rfl;rw[e2]at hK|-;have cn2:=(χ w 2 (hS.1.aq _ l0 n0)).t nb2;exact ζ
    .have e3:v 3=_:=hE.1 rfl;rw[e3]at hK|-;exact ζ
    .have e4:v 4=_:=hE.1 rfl;rw[e4]at hK|-;obtain ⟨k0,k1,k2,k3,k4⟩:=Tk wz ((hS.1.aq _ xq Ia).t Ka.o);exact ζ
    .have e1:v 1=_:=hE.1 rfl;have e5:v 5=_:=hE.2.1 rfl;rw[e1,e5]at hK|-;have hz:=hS.2 rfl;have aG:=Hz wz bi cB K0 (Bk.later hz) di.2 di.1 Df.o Qm;have HC:=Y aG;have HX:=Y hS;clear hS hE aG;go_wp2_with fail;refine HC.mono ?_;rintro e wy ⟨b',y,fp',v1,v2,rfl,iK,ec,fs,ek,cR,dU,df,gz,CN⟩;have HP:=Y (I iK (I ec (I fs (I ek (I cR (I dU (I df (I gz CN))))))));clear iK ec fs ek cR dU df gz CN;go_wp2_with fail;refine hK.out _ _ (λj z hj h=>?_) ⟨((ab.aj (HX.2 rfl)).t HP.2.1).gV,λh=>by cases h⟩ (λ_=>⟨b',y,fp',v1,v2,rfl,HP.1,(ab.aj (HX.2 rfl)).t HP.2.1,HP.2.2.1,HP.2.2.2.1,HP.2.2.2.2.1,HP.2.2.2.2.2.1,HP.2.2.2.2.2.2.1,HP.2.2.2.2.2.2.2.1,HP.2.2.2.2.2.2.2.2.mono HX.1.size⟩)
     match j with
     |0|1|2|3|4|5|7=>exact h
     |6=>exact absurd rfl hj
     |8=>exact λh=>by cases h
     |_+9=>exact trivial
    .have cx0:=(χ (w+1+1) 0 (hS.1.aq _ l2 n2)).t o0;have Gj:=(χ (w+1+1) 1 (hS.1.aq _ l2 n2)).t o1;have cx2:=(χ (w+1+1) 2 (hS.1.aq _ l2 n2)).t o2;exact ζ
    .have e0:v 0=_:=hE.1 rfl;have e7:v 7=_:=hE.2.2.1 rfl;rw[e0,e7]at hK|-;have E6:=hE.2.1 rfl;obtain ⟨b',y,fp',v1,v2,ev,iK,ec,fs,ek,cR,dU,df,gz,-⟩:=E6 rfl;injection ev with ev;rw[ev]at hK|-;have i1:=yc.1.keep ec;have i2:=yc.2.keep ec;have pU:∀p∈y.last,p<b'.fol.length:=λp hp=>(cR.bP.iW p hp).2;have aG:=tn w0 s b' fp' wz y xo _ _ _ _ _ iK fs ek i1 i2 pU (by have:=px.o;omega) (by have:=px.o;omega) (by have:=px.o;omega) (by have:=px.o;omega) gz U
     rw[BQ.o]at aG;have HC:=Y aG;have HX:=Y hS;have HP:=Y (I iK (I ec (I cR (I dU (I df gz)))));clear hS hE aG iK ec fs ek cR dU df gz i1 i2 pU E6 ev;go_wp2_with fail;refine HC.mono ?_;rintro e wy ⟨gd,u1,u2,rfl,aS,bE,j1,j2,j3⟩;have HQ:=Y (I aS (I bE (I j1 (I j2 j3))));clear aS bE j1 j2 j3;go_wp2_with fail;refine hK.out _ _ (λj z hj h=>?_) ⟨(HP.2.1.t HQ.2.1).gV,λh=>by cases h⟩ (λ_=>⟨b',y,gd,u1,u2,rfl,HQ.1,HP.2.1.t HQ.2.1,HQ.2.2.1,HQ.2.2.2.1,HP.2.2.1,HP.2.2.2.1,HP.2.2.2.2.1,HP.2.2.2.2.2,HQ.2.2.2.2.mono HP.2.1.size⟩)
     match j with
     |0|1|2|3|4|5|7=>exact h
     |6=>exact λh=>by cases h
     |8=>exact absurd rfl hj
     |_+9=>exact trivial
   .intro v wz hS hF;have e0:v 0=_:=hF 0 O;have e1:v 1=_:=hF 1 O;have e2:v 2=_:=hF 2 O;have e3:v 3=_:=hF 3 O;have e4:v 4=_:=hF 4 O;have e5:v 5=_:=hF 5 O;have e7:v 7=_:=hF 7 O;have E6:=hF 6 O;have E8:=hF 8 O;simp only[ah,Act.put,dk,dm,dn,Nat.zero_add,Nat.reduceAdd,ck,ct,List.drop_succ_cons,List.drop_zero,e0,e1,e2,e3,e4,e5,e7];clear hF e0 e1 e2 e3 e4 e5 e7;obtain ⟨b',y,gd,u1,u2,ev,aS,bE,kk,mH,BR,dU,df,gz,dv⟩:=E8 rfl;rw[ev];obtain ⟨Qo,Ke,rfl,L3⟩:=kk.form;obtain ⟨Qp,L4,rfl,L5⟩:=mH.form;have wQ:=HM.o.out (x':=iu y xo) aS bE kk mH fT (dv.mono U);have G1:=HI.rep hiM BR (by rw[dU,Di.1]) (by rw[Di.1]at df;exact df) (λl hl=>by have:=gz l hl;have:=R1.o;have:=Di.2;omega) (by have:=px.o;omega) U
    have IC:=Y bE;have BC:=Y G1;have tI:=Y wQ;have cT:=(IC.aq _ l2 n2).t HM.n2;have dY:=(IC.aq _ l0 n0).t HM.n0;obtain ⟨q0,q1,q2⟩:=aK cT;obtain ⟨z0,z1,z2,z3,z4⟩:=aD dY;have f0:wz.frozen? (Z (w+1+1) 0)=false:=Ψ cT
    have f1:wz.frozen? (Z (w+1+1) 1)=false:=Ψ cT
    have f2:wz.frozen? (Z (w+1+1) 2)=false:=Ψ cT
    have atv:w.heap.size+1+1<wz:=Nat.lt_of_lt_of_le l2 IC.size;obtain ⟨eb,Zg⟩:=ν ((iu y xo).emp);have Kf:∀(e:Bool) (W:World),W=(rL wz (w+1+1) (.bool (iu y xo).emp) (.slice Qo (iu y xo).first.length Ke) (.slice Qp (iu y xo).last.length L4)).setCell (Z (w+1+1) 0) (.bool e)->eA w0 s fp w #[(4:Int),.slice A1 rs.length c1,.slice (Z g f) 1 c,.int .i64 m,.int .i64 M] _ gd { iu y xo with emp:=e } (.slice Qo (iu y xo).first.length Ke) (.slice Qp (iu y xo).last.length L4) W:=λe W h=>by subst h;exact tI.RZ e fT
    have Gk:=Y Kf;clear Kf;have HEB:=Y Zg;have Zn:decide ((m:Int)<(i:Int)+1)=decide (m<=i):=by rw[decide_eq_decide];omega
    clear hS E6 E8 ev aS bE kk mH BR dU df gz dv G1 wQ cT dY o0 o1 o2 dN;simp only[Bool.false_eq_true,if_false]at *;rw[Zg]
    cases eb
    .go_wp2_with fail;go_roundw
     case rel=>
      exact ⟨i,j+1,_,_,_,_,_,U,by go_num,Gk.o _ _ (by rw[HEB.o]),Y (by simpa [Ul,HEB.o] using BC.o)⟩
     case measure=>simp[intOf]
    .go_wp2_with fail;go_roundw
     case rel=>
      exact ⟨i,j+1,_,_,_,_,_,U,by go_num,Gk.o _ _ (by rw[HEB.o]),Y (by simpa [Ul,HEB.o] using BC.o)⟩
     case measure=>simp[intOf]
  .obtain rfl:v=0:=U;obtain rfl:j=M:=U;obtain ⟨iP,rM,rfl,-⟩:=HM.o1.form;obtain ⟨iQ,rN,rfl,-⟩:=HM.o2.form;obtain ⟨y0,y1,y2⟩:=aK HM.n1;obtain ⟨q0,q1,q2⟩:=aK HM.n2;have vl:wr.frozen? (Z (w+1) 0)=false:=Ψ HM.n1
   have ug:wr.frozen? (Z (w+1) 1)=false:=Ψ HM.n1
   have xp:wr.frozen? (Z (w+1) 2)=false:=Ψ HM.n1
   go_wp2_with fail;refine au λWf bG=>?_;have wM:wr.grownBy Wf (some (w.heap.size+1)):=by
    rw[bG];repeat (first|exact dQ _ _|refine et ?_ _|refine dR ?_ _ _|refine fM ?_)
   obtain ⟨t1,t2,t3,t4⟩:=HM.fin fT wM;have bI:=HI.o;refine bodyPost_ret (v:=.agg #[.bool xo.emp,.slice iP xo.first.length rM,.slice iQ xo.last.length rN]) (by rw[bG];simp[results,Tryz.results26,go_sem,y0,y1,y2,q0,q1,q2];try rfl) rfl ?_
   exact ⟨bi,xo,cB,_,_,rfl,t1,t2,t3,t4,bI.Pn,bI.fl,bI.ln,bI.bd,HM.fr⟩
def mf:Value->Nat | .slice _ _ c=>c|_=>0
def Ry(w w':World)(v v':Value)(k:Nat):Prop:=(k<=mf v->v'.ownBlock=v.ownBlock/\w'.heap.size=w)/\(mf v<k->v'.ownBlock=some w.heap.size/\w'.heap.size=w+1)
theorem Nf{P:Program}{w w':World}{base:Nat}{t ty e:TypeId}{i:TypeInfo}{z:Value}{size bytes:Nat}(ht:P.underlying t=some (.slice e))(hi:P.info? e=some i)(hz:i.zero=some z)
  (lI:i.size=size) (jl:i.bytes=bytes) {v v':Value} {n:Nat} {xs:List Value} (ao:w.ownsRow base e size v n xs)
  {a:Addr} {m c:Nat} {news:List Value} (hl:news.length=m*size) (pG:∀j u,news[j]?=some u->w.cell? (a.add j)=some u) (h1:∀u∈news,u.oneCell'=true)
  (FQ:n+m<=maxLen) (ic:(n+m)*bytes<=140737488355328) (hr:(Builtin.append_ #[t,t] ty #[v,.slice (some a) m c]).run P w=.ok v' w'):Ry w w' v v' (n+m):=by
 subst lI;subst jl;rcases ao.2 with ⟨rfl,hn⟩|⟨g,cap,cur,rfl,hb,hg,AG,tY,bH,tG⟩
 .subst hn;by_cases hm:m=0
  .subst hm;have hn:news=[]:=List.eq_nil_of_length_eq_zero (by simpa using hl)
   subst hn;have h2:(Builtin.append_ #[t,t] ty #[(),.slice (some a) 0 c]).run P w=.ok () w:=by
    simp[Builtin.append_,run_underlying ht,sizeOf,typeInfo,hi,Builtin.lenOf,Builtin.firstCells,loadCells,loadCellsFrom]
   rw[h2]at hr;injection hr with h3 h4;subst h3 h4;exact ⟨λ_=>⟨rfl,rfl⟩,λh=>by simp[mf]at h⟩
  .have h2:=run_append_nil (P:=P) w t ty e i z ht hi hz a m c news hl pG U (by unfold maxLen at FQ;omega) (by simp only[Nat.zero_add]at ic;omega)
   rw[h2]at hr;injection hr with h3 h4;subst h3 h4;exact ⟨λh=>by simp[mf]at h;omega,λ_=>⟨rfl,H⟩⟩
 .by_cases dG:n+m<=cap
  .have jQ:n*i.size+news.length<=cur.size:=by rw[hl,bH,<-Nat.add_mul];exact Nat.mul_le_mul_right _ dG
   have h2:=run_append_room (P:=P) w t ty e i ht hi g n cap cur hg a m c news hl pG h1 dG jQ;rw[h2]at hr;injection hr with h3 h4;subst h3 h4;exact ⟨λ_=>⟨rfl,by simp[World.setRow]⟩,λh=>by simp only[mf]at h;omega⟩
  .have holds:∀j u,xs[j]?=some u->w.cell? (((Z g 0):Addr).add j)=some u:=ao.cells (g:=g) rfl;have h2:=run_append_grow (P:=P) w t ty e i z ht hi hz (Z g 0) n cap xs ao.1 holds a m c news hl pG U (by unfold maxLen at FQ;omega) (growslice_fits U ic)
   rw[h2]at hr;injection hr with h3 h4;subst h3 h4;exact ⟨λh=>by simp only[mf]at h;omega,λ_=>⟨rfl,H⟩⟩
theorem EN{w:World}{ty:TypeId}{v y:Value}{l r:List Nat}{B:Nat}(ao:OR 3 1 dM B v l w)(hy:JL w y r)(hl:l.length+r.length<=1000000000000)(hB:B<=w):
  ∃v' w',(Builtin.append_ #[22,22] ty #[v,y]).run Tryz.prog w=.ok v' w'/\OR 3 1 dM B v' (l++r) w'/\w.grownBy w' v.ownBlock/\Ry w w' v v' (l.length+r.length):=by
 obtain ⟨v',w',hr,h1,h2,-⟩:=qn (ty:=ty) ao hy hl hB;refine ⟨v',w',hr,h1,h2,?_⟩;obtain ⟨i,hi,hz,dh,cT⟩:=info_parts dF;obtain ⟨A,c,rfl,hc,dt⟩:=hy;have xC:∀u∈a8 dM r,u.oneCell'=true:=by
  rw[fj];intro u hu;obtain ⟨n,-,rfl⟩:=List.mem_map.1 hu
  rfl
 have jh:(a8 dM r).length=r.length*1:=by rw[fj];simp
 have key:∀ad:Addr,A=some ad->(∀j u,(a8 dM r)[j]?=some u->w.cell? (ad.add j)=some u)->Ry w w' v v' (l.length+r.length):=by
  rintro ad rfl ak;exact Nf (P:=Tryz.prog) Tryz.underlying22 hi hz dh cT ao jh ak xC (by unfold maxLen;omega) U hr
 rcases dt with ⟨rfl,hA⟩|⟨g,f,rfl,hg,ak⟩
 .cases A with
  |none=>
   rw[hA rfl]at hr;have h9:=run_append_owned_none (P:=Tryz.prog) (w:=w) B 22 ty 3 i 1 Tryz.underlying22 hi v l.length _ ao;rw[show ([]:List Nat).length=0 from rfl]at hr|-;rw[h9]at hr;injection hr with h3 h4;subst h3 h4;obtain ⟨A2,c2,rfl,h5,-⟩:=ae (show w.ownsRow _ _ _ _ _ _ from ao);exact ⟨λ_=>⟨rfl,rfl⟩,λh=>by simp only[mf]at h;omega⟩
  |some ad=>exact key ad rfl (λj u h=>by simp[a8]at h)
 .refine key _ rfl (λj u hj=>?_);rw[fj]at hj;obtain ⟨hU,rfl⟩:=List.getElem?_eq_some_iff.1 hj;rw[Addr.add_lit,ak j (by simpa using hU)]
  simp
theorem iB{w:World}{ops:Array Oper}{rest:List Oper}{o:Oper}{a:Act}{Q:Exit->Act->World->Prop}(s x:Operand)(v y:Value)(l r:List Nat)(B:Nat)(tE:o.guard=none)
  (ho:o.op=.call { callee:=.builtin .append,args:=#[s,x],argTypes:=#[22,22] }) (hs:a.eval s=v) (hx:a.eval x=y) (ao:OR 3 1 dM B v l w) (hy:JL w y r) (hl:l.length+r.length<=1000000000000) (hB:B<=w)
  (h:∀v' w1,OR 3 1 dM B v' (l++r) w1->w.grownBy w1 v.ownBlock->Ry w w1 v v' (l.length+r.length)->wpList Tryz.prog ops Q rest (a.put o.dst v') w1):wpList Tryz.prog ops Q (o::rest) a w:=by
 refine wpList_plain tE λK hK=>?_;obtain ⟨v',w',hr,h2,h3,h4⟩:=EN (ty:=o.type) ao hy hl hB;unfold Oper.wp execOp;simp only[ho,resolve,invoke,builtin,Sem.run_bind,Sem.run_pure,Result.andThen_ok,List.map_toArray,List.map_cons,List.map_nil,hs,hx,hr];exact hK _ _ (h v' w' h2 h3 h4)
structure wg (w0:World) (s:Nat) (fp:List Nat) (w:World) (nb:Array Value) (bi:Pb) (cB:List Nat) (xo:cI) (dH dC:Value) (wr:World):Prop where
 m:eA w0 s fp w nb bi cB xo dH dC wr
 r1:OR 3 1 dM w dH xo.first wr
 r2:OR 3 1 dM w dC xo.last wr
 ne:∀g,dH.ownBlock=some g->dC.ownBlock≠some g
theorem wg.start{w0:World}{s:Nat}{b:Pb}{fp:List Nat}{w:World}(fY:tO w0 s b fp w)(nb:Array Value)(e:Bool):
  wg w0 s fp w nb b fp ⟨[],[],e⟩ () () (((w.alloc (.cells nb 26)).alloc (.cells #[.bool false,(),()] 67)).alloc (.cells #[.bool e,(),()] 67)):=
 ⟨eA.start fY nb e,OR.iG _ _ _,OR.iG _ _ _,λg hg=>by simp[Value.ownBlock]at hg⟩
section
variable {w0:World} {s:Nat} {fp:List Nat} {w:World} {nb:Array Value} {bi:Pb} {cB:List Nat} {xo:cI} {dH dC:Value} {wr:World}
theorem eA.keep(h:eA w0 s fp w nb bi cB xo dH dC wr){b2:Pb}{gd:List Nat}{wz:World}(aS:tO w0 s b2 gd wz)(bE:ab cB gd wr wz):eA w0 s fp w nb b2 gd xo dH dC wz:=by
 have hz:=h.sz;have cT:=bE.size;have ew:∀q∈gd,q<w.heap.size\/w.heap.size+3<=q:=λq hq=>(bE.new q hq).elim (h.ap q) λh=>.inr U;exact ⟨aS,h.kf.t bE,ew,(bE.aq _ U (h.cZ _ V U)).t h.n0,(bE.aq _ U (h.cZ _ U U)).t h.n1,(bE.aq _ U (h.cZ _ U U)).t h.n2,U,h.o1.keep bE,h.o2.keep bE,h.fr⟩
theorem wg.keep(h:wg w0 s fp w nb bi cB xo dH dC wr){b2:Pb}{gd:List Nat}{wz:World}(aS:tO w0 s b2 gd wz)(bE:ab cB gd wr wz):wg w0 s fp w nb b2 gd xo dH dC wz:=
 ⟨h.m.keep aS bE,h.r1.keep λk hk=>bE.aq k (h.m.o1.2 k hk).2 (h.m.o1.2 k hk).1,h.r2.keep λk hk=>bE.aq k (h.m.o2.2 k hk).2 (h.m.o2.2 k hk).1,h.ne⟩
theorem wg.later(h:wg w0 s fp w nb bi cB xo dH dC wr){W:World}(hb:Below wr wr W):wg w0 s fp w nb bi cB xo dH dC W:=
 ⟨h.m.later hb,h.r1.later hb,h.r2.later hb,h.ne⟩
theorem wg.MB(h:wg w0 s fp w nb bi cB xo dH dC wr):dH.ownBlock≠some (w.heap.size+1+1):=λe=>by
 obtain ⟨cur,q1,-⟩:=h.r1.cur e;rw[h.m.n2]at q1;injection q1 with q1;injection q1 with _ q1;exact absurd q1 O
theorem wg.XD(h:wg w0 s fp w nb bi cB xo dH dC wr):dC.ownBlock≠some (w.heap.size+1+1):=λe=>by
 obtain ⟨cur,q1,-⟩:=h.r2.cur e;rw[h.m.n2]at q1;injection q1 with q1;injection q1 with _ q1;exact absurd q1 O
theorem wg.RZ(h:wg w0 s fp w nb bi cB xo dH dC wr)(e:Bool)(hw:w0.heap.size<=w):wg w0 s fp w nb bi cB { xo with emp:=e } dH dC (wr.setCell (Z (w+1+1) 0) (.bool e)):=
 ⟨h.m.RZ e hw,h.r1.keep λk hk=>Below.heap_setCell _ _ _ _ (λe=>h.MB (by rw[hk,e])),h.r2.keep λk hk=>Below.heap_setCell _ _ _ _ (λe=>h.XD (by rw[hk,e])),h.ne⟩
theorem wg.done{W:World}(h:wg w0 s fp w nb bi cB xo dH dC W)(hw:w0.heap.size<=w){y:cI}{e:Bool}(he:xo.emp=e){wz:World}{u1 u2:Value}(hk:ab ((w.heap.size+1+1)::(aq dH++aq dC)) [] W wz)(aC:wz.heap[w.heap.size+1+1]?=some (.cells #[.bool e,u1,dC] 67))
  (h1:OR 3 1 dM w u1 (xo.first++y.first) wz) (h2:OR 3 1 dM w u2 (xo.last++y.last) wz) (k5:aT u1 dH W) (uC:aT u2 dC W) (bf:∀g,u1.ownBlock=some g->u2.ownBlock≠some g) :
  wg w0 s fp w nb bi cB ⟨xo.first++y.first,xo.last++y.last,e⟩ u1 u2 (wz.setCell (Z (w+1+1) 2) u2):=by
 have hz:=h.m.sz;have hzk:=hk.size;have hL:∀k∈(w.heap.size+1+1)::(aq dH++aq dC),w.heap.size<=k/\k∉cB/\k≠w.heap.size/\k≠w.heap.size+1:=λk hk=>by
  simp only[List.mem_cons,List.mem_append,af]at hk;rcases hk with hk|hk|hk
  .rw[hk];exact ⟨U,h.m.cZ _ U U,U,U⟩
  .refine ⟨(World.ownsRow.lt h.r1 k hk).1,(h.m.o1.2 k hk).1,λe=>?_,λe=>?_⟩
   .obtain ⟨cur,q1,-⟩:=h.r1.cur hk;rw[e,h.m.n0]at q1;injection q1 with q1;injection q1 with _ q1;exact absurd q1 O
   .obtain ⟨cur,q1,-⟩:=h.r1.cur hk;rw[e,h.m.n1]at q1;injection q1 with q1;injection q1 with _ q1;exact absurd q1 O
  .refine ⟨(World.ownsRow.lt h.r2 k hk).1,(h.m.o2.2 k hk).1,λe=>?_,λe=>?_⟩
   .obtain ⟨cur,q1,-⟩:=h.r2.cur hk;rw[e,h.m.n0]at q1;injection q1 with q1;injection q1 with _ q1;exact absurd q1 O
   .obtain ⟨cur,q1,-⟩:=h.r2.cur hk;rw[e,h.m.n1]at q1;injection q1 with q1;injection q1 with _ q1;exact absurd q1 O
 have hold:∀k,k<W.heap.size->k∉((w.heap.size+1+1)::(aq dH++aq dC))->(wz.setCell (Z (w+1+1) 2) u2).heap[k]?=W.heap[k]?:=λk bQ bE=>(Below.heap_setCell _ _ _ _ (λe=>bE (by rw[e];simp))).t (hk.aq k bQ bE)
 have jn:(wz.setCell (Z (w+1+1) 2) u2).heap.size=wz.heap.size:=by simp[World.setCell]
 obtain ⟨q1,q2⟩:=mg h.m.bu h.m.kf hw (W:=wz.setCell (Z (w+1+1) 2) u2) hk.os hk.tape hk.output U (λk bQ=>by
  by_cases e:k∈(w.heap.size+1+1)::(aq dH++aq dC)
  .exact .inr ⟨(hL k e).1,(hL k e).2.1⟩
  .exact .inl (hold k bQ e))
 have aM:∀{v u:Value} {l:List Nat},OR 3 1 dM w u l wz->OR 3 1 dM w u l (wz.setCell (Z (w+1+1) 2) u2):=λ{v u l} ho=>ho.keep λk hk=>Below.heap_setCell _ _ _ _ (λe=>by
  obtain ⟨cur,q1,-⟩:=ho.cur hk;rw[e,aC]at q1;injection q1 with q1;injection q1 with _ q1;exact absurd q1 O)
 have py:∀{u v:Value} {l l0:List Nat},OR 3 1 dM w u l wz->JO W cB v l0->aT u v W.heap.size->JO (wz.setCell (Z (w+1+1) 2) u2) cB u l:=λ{u v l l0} ho hj hf=>by
  refine ⟨(JL.eu (aM (v:=v) ho)).1,λg hg=>⟨λhm=>?_,by rw[jn];exact (World.ownsRow.lt ho g hg).2⟩⟩
  rcases hf with hf|⟨g',hf,h2⟩
  .rw[hf]at hg;exact (hj.2 g hg).1 hm
  .rw[hf]at hg;injection hg with hg;have:=(h.m.bu.lt g hm).2;omega
 have adO:∀k,(k=w.heap.size\/k=w.heap.size+1)->k∉((w.heap.size+1+1)::(aq dH++aq dC)):=λk hk hm=>by have:=hL k hm;omega
 refine ⟨⟨q1,q2,h.m.ap,(hold _ U (adO _ (.inl rfl))).t h.m.n0,(hold _ U (adO _ (.inr rfl))).t h.m.n1,?_,U,py h1 h.m.o1 k5,py h2 h.m.o2 uC,λg hg=>?_⟩,aM (v:=u1) h1,aM (v:=u1) h2,bf⟩
 .have:=aE aC 2 u2;simpa using this
 .rcases hg with hg|hg
  .exact (World.ownsRow.lt h1 g hg).1
  .exact (World.ownsRow.lt h2 g hg).1
end
theorem Fm.cho{b bi b':Pb}{kids:List Nd}{k:Nat}{kd:Nd}{xo y:cI}{K:Nat}(h:Fm b bi (mw k (me (xB kids))) (bp (kids.take k)) xo (K+cV (kids.take k)))(hk:kids[k]?=some kd)(hy:Mk bi b' y (sV kd))(hl:b'.fol.length=bi.fol.length+aL kd)(jh:y.first.length<=aL kd/\y.last.length<=aL kd)
  (rO:∀l∈b'.fol,l.length<=K+cV (kids.take k)+dp kd) :
  Fm b b' (mw (k+1) (me (xB kids))) (bp (kids.take (k+1))) (kK xo y) (K+cV (kids.take (k+1))):=by
 rw[gj hk,jI,jJ];rw[<-kA hk]at hy;refine ⟨h.Pn.PE hy,by rw[hl,h.fl];omega,?_,λl dU=>by have:=rO l dU;omega⟩
 have:=h.ln;unfold kK;simp only[List.length_append];omega
def R0(s:Nat)(v1 v2:Value)(W:World)(z1 c:Nat)(w':World):Prop:=iS s v1 v2 W c w'/\(c=0->w'.heap.size=W)/\(c=1->w'.heap.size=z1)
theorem iS.s3'{s:Nat}{vs vf:Value}{W w':World}(h:iS s vs vf W 2 w')(v:Value):iS s vs vf W 3 (w'.setCell (Z s 1) v):=
 ⟨h.1.tr ⟨rfl,rfl,rfl,by simp[World.setCell],λk _ hn=>Below.heap_setCell _ _ _ _ (λe=>hn (by rw[e];simp)),λk hk=>by cases hk⟩,λh=>U,λh=>U,λh=>by cases h⟩
def kD(G8 G9 B0 z1:Nat)(e:Bool)(A1 A2 C1 C2:Option Addr)(n1 c1 n2 c2 m1 d1 m2 d2:Nat)(xf xl yf yl:List Nat)(W:World):Nat->Nat->Value->World->Prop
 |c,0,x,w=>x=.pointer (Z G8 1)
 |c,1,x,w=>x=.slice A1 n1 c1
 |c,2,x,w=>x=.pointer (Z G9 1)
 |c,3,x,w=>x=.slice C1 m1 d1
 |c,4,x,w=>1<=c->∃A c',x=.slice A (n1+m1) c'/\OR 3 1 dM B0 x (xf++yf) w/\(x.ownBlock=(Value.slice A1 n1 c1).ownBlock\/(x.ownBlock=some W.heap.size/\z1=W.heap.size+1))
 |c,5,x,w=>x=.pointer (Z G8 2)
 |c,6,x,w=>x=.slice A2 n2 c2
 |c,7,x,w=>x=.pointer (Z G9 2)
 |c,8,x,w=>x=.slice C2 m2 d2
 |c,9,x,w=>2<=c->∃A c',x=.slice A (n2+m2) c'/\OR 3 1 dM B0 x (xl++yl) w/\(x.ownBlock=(Value.slice A2 n2 c2).ownBlock\/x.ownBlock=some z1)
 |c,10,x,w=>x=.pointer (Z G8 1)
 |c,11,x,w=>3<=c->∃A c',OR 3 1 dM B0 (.slice A (n1+m1) c') (xf++yf) w/\((Value.slice A (n1+m1) c').ownBlock=(Value.slice A1 n1 c1).ownBlock\/((Value.slice A (n1+m1) c').ownBlock=some W.heap.size/\z1=W.heap.size+1))/\w.heap[G8]?=some (.cells #[.bool e,.slice A (n1+m1) c',.slice A2 n2 c2] 67)
 |c,12,x,w=>x=.pointer (Z G8 2)
 |_,_,_,_=>True
section
variable {G8 G9 B0 z1:Nat} {e:Bool} {A1 A2 C1 C2:Option Addr} {n1 c1 n2 c2 m1 d1 m2 d2:Nat} {xf xl yf yl:List Nat} {W u u':World}
theorem wi{v:Value}(hg:u.grownBy u' v.ownBlock)(j:Nat)(x:Value)(hj:j≠4)(h:kD G8 G9 B0 z1 e A1 A2 C1 C2 n1 c1 n2 c2 m1 d1 m2 d2 xf xl yf yl W 0 j x u):kD G8 G9 B0 z1 e A1 A2 C1 C2 n1 c1 n2 c2 m1 d1 m2 d2 xf xl yf yl W 1 j x u':=by
 match j with
 |0|1|2|3|5|6|7|8|10|12=>exact h
 |4=>exact absurd rfl hj
 |9|11=>exact λhc=>U
 |_+13=>exact trivial
theorem wj(hg:u.grownBy u' (Value.slice A2 n2 c2).ownBlock)(hd:∀g,(Value.slice A2 n2 c2).ownBlock=some g->(Value.slice A1 n1 c1).ownBlock≠some g/\g<W.heap.size)(j:Nat)(x:Value)(hj:j≠9)(h:kD G8 G9 B0 z1 e A1 A2 C1 C2 n1 c1 n2 c2 m1 d1 m2 d2 xf xl yf yl W 1 j x u):kD G8 G9 B0 z1 e A1 A2 C1 C2 n1 c1 n2 c2 m1 d1 m2 d2 xf xl yf yl W 2 j x u':=by
 match j with
 |0|1|2|3|5|6|7|8|10|12=>exact h
 |4=>
  intro _;obtain ⟨A,c',e,ho,hf⟩:=h O;refine ⟨A,c',e,ho.keep λg bJ=>hg.block g (World.ownsRow.lt ho g bJ).2 (λe2=>?_),hf⟩;rcases hf with hf|⟨hf,-⟩
  .rw[hf]at bJ;exact (hd g e2.symm).1 bJ
  .rw[hf]at bJ;injection bJ with bJ;have:=(hd g e2.symm).2;omega
 |9=>exact absurd rfl hj
 |11=>exact λhc=>U
 |_+13=>exact trivial
theorem wo(hs:G8<W)(h1:(Value.slice A1 n1 c1).ownBlock≠some G8)(h2:(Value.slice A2 n2 c2).ownBlock≠some G8)(hz:W<=z1)(v:Value)(j:Nat)(x:Value)(hj:j≠11)(h:kD G8 G9 B0 z1 e A1 A2 C1 C2 n1 c1 n2 c2 m1 d1 m2 d2 xf xl yf yl W 2 j x u):kD G8 G9 B0 z1 e A1 A2 C1 C2 n1 c1 n2 c2 m1 d1 m2 d2 xf xl yf yl W 3 j x (u.setCell (Z G8 1) v):=by
 have aH:∀k,k≠G8->(u.setCell (Z G8 1) v).heap[k]?=u.heap[k]?:=λk hk=>Below.heap_setCell _ _ _ _ hk
 match j with
 |0|1|2|3|5|6|7|8|10|12=>exact h
 |4=>
  intro _;obtain ⟨A,c',e,ho,hf⟩:=h O;refine ⟨A,c',e,ho.keep λg bJ=>aH g (λe2=>?_),hf⟩;subst e2;rcases hf with hf|⟨hf,-⟩
  .rw[hf]at bJ;exact h1 bJ
  .rw[hf]at bJ;injection bJ with bJ;omega
 |9=>
  intro _;obtain ⟨A,c',e,ho,hf⟩:=h O;refine ⟨A,c',e,ho.keep λg bJ=>aH g (λe2=>?_),hf⟩;subst e2;rcases hf with hf|hf
  .rw[hf]at bJ;exact h2 bJ
  .rw[hf]at bJ;injection bJ with bJ;omega
 |11=>exact absurd rfl hj
 |_+13=>exact trivial
end
theorem NR(w0:World)(s:Nat)(rs:List (Nat×Nat))(kids:List Nd)(mn mx:Int)(A1:Option Addr)(c1 g f c:Nat)(hR:aF (.mk 3 rs kids mn mx)=true)(fH:aL (.mk 3 rs kids mn mx)<=600)
  (hg:g<w0) (hc:kids.length<=c/\c<=9223372036854775807) (bU:eS w0 kids g f) (hw:∀kd∈kids,∀vs,bY w0 kd vs->mV w0 s kd vs) :
  mV w0 s (.mk 3 rs kids mn mx) [.int .i64 3,.slice A1 rs.length c1,.slice (Z g f) kids.length c,.int .i64 mn,.int .i64 mx]:=by
 intro w b fp K fY jh fW hK rT;have CM:=wg.start fY #[(3:Int),.slice A1 rs.length c1,.slice (Z g f) kids.length c,.int .i64 mn,.int .i64 mx] false;have jC:=iD hR (.inr rfl);have qe:=fO (.inr rfl) fH;have uJ:dp (.mk 3 rs kids mn mx)=cV kids:=by rw[dp,if_neg O,if_neg O]
 have Po:sV (.mk 3 rs kids mn mx)=mw kids.length (me (xB kids)):=by rw[sV,if_neg O,if_neg O,if_pos rfl]
 have sO:=fY.cW.size;rw[qe]at fH fW|-;rw[uJ]at rT|-;rw[Po];have l7:Fm b b (mw 0 (me (xB kids))) (bp (kids.take 0)) ⟨[],[],false⟩ (K+cV (kids.take 0)):=⟨Mk.ajI b jh,rfl,⟨Nat.zero_le _,Nat.zero_le _⟩,λl hl=>by simpa [cV] using hK l hl⟩
 have sG:=Y CM;have Fo:=Y l7;have HW:=Y hw;have Kw:=Y bU;obtain ⟨n,hn⟩:=ν kids.length;obtain ⟨PS,Fp⟩:∃P,bp kids=P:=⟨_,rfl⟩;obtain ⟨CS,Fq⟩:∃P,cV kids=P:=⟨_,rfl⟩;show Calls Tryz.prog _ #[_,.agg #[(3:Int),.slice A1 rs.length c1,.slice (Z g f) kids.length c,.int .i64 mn,.int .i64 mx]] w _;rw[hn]at hc jC|-;rw[hn]at sG;rw[Fp]at fH fW|-;rw[Fq]at rT|-;have HN:=Y (I hn (I Fp Fq));clear hR qe uJ Po fY hw bU hK l7 CM hn Fp Fq jh
 go_enter Tryz.func26,Tryz.ntmps26
 go_wp2_with fail;go_loopw [9] (λiv wr=>∃(k:Nat) (bi:Pb) (cB:List Nat) (xo:cI) (dH dC:Value),k<=n/\iv=.int .i64 (k:Int)/\Hid (wg w0 s fp w #[(3:Int),.slice A1 rs.length c1,.slice (Z g f) n c,.int .i64 mn,.int .i64 mx] bi cB xo dH dC wr)/\Hid (Fm b bi (mw k (me (xB kids))) (bp (kids.take k)) xo (K+cV (kids.take k)))) (λiv _=>n - (intOf iv).toNat)
 case atStart=>
  exact ⟨0,b,fp,⟨[],[],false⟩,.slice none 0 0,.slice none 0 0,U,rfl,sG,Fo⟩
 case round=>
  obtain ⟨k,bi,cB,xo,dH,dC,hi,rfl,HM,HI⟩:=hrel;have oI:=HM.m.sz;have D3:w.heap.size<wr:=U;obtain ⟨nb0,nb1,nb2,nb3,nb4⟩:=aD HM.m.n0;have fT:w0.heap.size<=w:=sO;by_cases aB:k<n
  .have hd:decide ((k:Int)<(n:Int))=true:=τ;have dV:decide (k<n)=true:=decide_eq_true aB;obtain ⟨kd,B1,e1,B2,e2,bU,aY,nU⟩:=pa (k:=k) (by rw[HN.1];exact aB) Kw.o
   obtain ⟨iP,ka,rfl,-⟩:=HM.m.o1.form;obtain ⟨iQ,qt,rfl,-⟩:=HM.m.o2.form;have kZ:wr.heap[g]?=w0.heap[g]?:=HM.m.bu.cW.block g hg;have xq:g<wr:=by have:=HM.m.bu.cW.size;omega
   obtain ⟨k0,k1,k2,k3,k4⟩:=nU wr kZ;have sH:=pc bU;have bH:=pd bU;rw[HN.2.1]at sH;rw[HN.2.2]at bH;have G0:=HW kd (List.mem_of_getElem? bU) _ aY;have bI:=HI.o;obtain ⟨pk,lP⟩:∃p,bp (kids.take k)=p:=⟨_,rfl⟩;obtain ⟨K0,sa⟩:∃p,K+cV (kids.take k)=p:=⟨_,rfl⟩;rw[lP,sa]at bI;rw[lP]at sH;have nO:=bI.fl;have aG:=G0 wr bi cB K0 HM.m.bu bI.Pn.len U bI.bd U;have HC:=Y aG;have Fs:=Y bU;have R1:=Y (I lP sa);have sd:aL kd<=600:=U;have px:=Y (show xo.first.length<=600/\xo.last.length<=600 from ⟨by have:=bI.ln;omega,by have:=bI.ln;omega⟩)
   clear bU aY nU G0 bI lP nO bH sa kZ sH aG;go_wp2_with fail;refine HC.mono ?_;rintro e wy ⟨b',y,fp',v1,v2,rfl,iK,ec,fs,ek,cR,dU,df,gz,CN⟩;obtain ⟨C1,d1,rfl,-⟩:=fs.form;obtain ⟨C2,d2,rfl,-⟩:=ek.form;have hMy:=HM.keep iK ec;obtain ⟨eo,vj⟩:=ν xo.emp;obtain ⟨ey,KT⟩:=ν y.emp;have gG:=hMy.m.n2;rw[vj]at gG;obtain ⟨o0,o1,o2⟩:=aK gG;have f0:wy.frozen? (Z (w+1+1) 0)=false:=Ψ gG
   have l2:w.heap.size+1+1<wy:=(γ gG).1;have G1:=HI.cho Fs.o cR dU df (λl hl=>by have:=gz l hl;have:=R1.2;omega)
   have tu:y.first.length<=600/\y.last.length<=600:=U;have jf:∀(eb:Bool) (W:World),W=(wy.setCell (Z (w+1+1) 0) (.bool eb)).alloc (.cells #[.bool ey,.slice C1 y.first.length d1,.slice C2 y.last.length d2] 67)->
     wg w0 s fp w #[(3:Int),.slice A1 rs.length c1,.slice (Z g f) n c,.int .i64 mn,.int .i64 mx] b' fp' { xo with emp:=eb } (.slice iP xo.first.length ka) (.slice iQ xo.last.length qt) W/\W.heap[wy.heap.size]?=some (.cells #[.bool ey,.slice C1 y.first.length d1,.slice C2 y.last.length d2] 67)/\W.heap.size=wy+1/\JL W (.slice C1 y.first.length d1) y.first/\JL W (.slice C2 y.last.length d2) y.last:=λeb W hW=>by
    have Hh:(wy.setCell (Z (w+1+1) 0) (.bool eb)).heap.size=wy.heap.size:=by simp[World.setCell]
    have pM:W.heap.size=wy+1:=by rw[hW];simp[World.setCell]
    have nz:=(Below.refl (wy.setCell (Z (w+1+1) 0) (.bool eb)).heap.size (wy.setCell (Z (w+1+1) 0) (.bool eb))).alloc V (.cells #[.bool ey,.slice C1 y.first.length d1,.slice C2 y.last.length d2] 67);rw[<-hW]at nz;have hold:∀q,q<wy.heap.size->q≠w.heap.size+1+1->W.heap[q]?=wy.heap[q]?:=λq h1 h2=>(nz.block q (by rw[Hh];exact h1)).t (Below.heap_setCell _ _ _ _ h2)
    have hnw:W.heap[wy.heap.size]?=some (.cells #[.bool ey,.slice C1 y.first.length d1,.slice C2 y.last.length d2] 67):=by
     rw[hW,<-Hh];exact heap_alloc_new _ _
    exact ⟨(hMy.RZ eb fT).later nz,hnw,pM,fs.1.box gG (by rw[pM];exact Nat.le_succ _) hold,ek.1.box gG (by rw[pM];exact Nat.le_succ _) hold⟩
   have ew:∀g,(Value.slice C1 y.first.length d1).ownBlock=some g\/(Value.slice C2 y.last.length d2).ownBlock=some g->wr.heap.size<=g/\g<wy.heap.size/\g∉fp':=λg hg=>⟨CN g hg,hg.elim (λh=>(fs.2 g h).2) (λh=>(ek.2 g h).2),hg.elim (λh=>(fs.2 g h).1) (λh=>(ek.2 g h).1)⟩;have hvo:(∀g,(Value.slice iP xo.first.length ka).ownBlock=some g->g<wr.heap.size)/\(∀g,(Value.slice iQ xo.last.length qt).ownBlock=some g->g<wr.heap.size):=⟨λg hg=>(HM.m.o1.2 g hg).2,λg hg=>(HM.m.o2.2 g hg).2⟩;have Mv:=Y jf;have R2:=Y ew;have T4:=Y hvo;have BC:=Y G1;have BQ:=Y (I vj KT);have HY6:=Y tu;have HSY:=Y (show wr.heap.size<=wy from ec.size);rw[KT];clear iK ec fs ek cR dU df gz CN hMy vj KT gG G1 tu jf ew hvo k0 k1 k2 k3 k4
   cases eo
   .go_upto_region 20 with fail
    refine br λW hW=>?_;obtain ⟨hC,LQ,pM,iI,j9⟩:=Mv _ W hW;obtain ⟨a0,a1,a2⟩:=aK hC.m.n2;obtain ⟨p0,p1,p2⟩:=aK LQ;have l9:wy.heap.size<W:=U;have AM:w.heap.size+1+1<W:=U;have Kp:(∀g,(Value.slice iP xo.first.length ka).ownBlock=some g->g<wy.heap.size)/\(∀g,(Value.slice iQ xo.last.length qt).ownBlock=some g->g<wy.heap.size):=⟨λg hg=>Nat.lt_of_lt_of_le (T4.1 g hg) HSY.o,λg hg=>Nat.lt_of_lt_of_le (T4.2 g hg) HSY.o⟩;have n9:wy.heap.size∉(w.heap.size+1+1)::(aq (.slice iP xo.first.length ka)++aq (.slice iQ xo.last.length qt)):=λhm=>by
     simp only[List.mem_cons,List.mem_append,af]at hm;rcases hm with hm|hm|hm
     .omega
     .have:=Kp.1 _ hm;omega
     .have:=Kp.2 _ hm;omega
    have Pt:∀g,(Value.slice C1 y.first.length d1).ownBlock=some g\/(Value.slice C2 y.last.length d2).ownBlock=some g->g∉(w.heap.size+1+1)::(aq (.slice iP xo.first.length ka)++aq (.slice iQ xo.last.length qt)):=λg hg hm=>by
     have h1:=(R2 g hg).1;simp only[List.mem_cons,List.mem_append,af]at hm;rcases hm with hm|hm|hm
     .omega
     .have:=T4.1 _ hm;omega
     .have:=T4.2 _ hm;omega
    have HOF:=Y (show aO ((w.heap.size+1+1)::(aq (.slice iP xo.first.length ka)++aq (.slice iQ xo.last.length qt))) (Value.slice C2 y.last.length d2) from λg hg=>Pt g (.inr hg));have Yp:=Y (show ∀g,(Value.slice C2 y.last.length d2).ownBlock=some g->g<W.heap.size from λg hg=>by have:=(R2 g (.inr hg)).2.1;omega)
    have dr:=Y (show w.heap.size+1+1<W/\(Value.slice iP xo.first.length ka).ownBlock≠some (w.heap.size+1+1)/\(∀g,(Value.slice iQ xo.last.length qt).ownBlock=some g->(Value.slice iP xo.first.length ka).ownBlock≠some g/\g<W.heap.size)/\(Value.slice iQ xo.last.length qt).ownBlock≠some (w.heap.size+1+1) from ⟨AM,hC.MB,λg hg=>⟨λe=>hC.ne g e hg,by have:=Kp.2 g hg;omega⟩,hC.XD⟩)
    have xM:=Y hC.r1;have Db:=Y hC.r2;have HJ1:=Y iI;have HJ2:=Y j9;have mI:=Y (I px.o HY6.o);have sR:=Y hC.m.n2;obtain ⟨z1,dh⟩:∃z1,(xo.first.length+y.first.length<=ka->z1=W.heap.size)/\(ka<xo.first.length+y.first.length->z1=W.heap.size+1)/\W.heap.size<=z1:=by
     by_cases h:xo.first.length+y.first.length<=ka
     .exact ⟨W.heap.size,λ_=>rfl,λh2=>U,V⟩
     .exact ⟨W.heap.size+1,λh2=>absurd h2 h,λ_=>rfl,Nat.le_succ _⟩
    have tH:=Y (show (xo.first.length+y.first.length<=ka->z1=W.heap.size)/\(ka<xo.first.length+y.first.length->z1=W.heap.size+1)/\W<=z1 from dh);have xr:=Y hC;have dN:R0 (w+1+1) (.slice iP xo.first.length ka) (.slice iQ xo.last.length qt) W z1 0 W.drew:=⟨⟨(ab.aj D.drew).gV,λ_=>rfl,λ_ _ _=>rfl,λ_=>D.drew⟩,λ_=>rfl,λh=>by cases h⟩
    clear hW hC LQ iI j9 Kp Pt dh o0 o1 o2 f0;refine ay 13 [4,9,11] (kD (w+1+1) wy w z1 ey iP iQ C1 C2 xo.first.length ka xo.last.length qt y.first.length d1 y.last.length d2 xo.first xo.last y.first y.last W) (λc w'=>R0 (w+1+1) (.slice iP xo.first.length ka) (.slice iQ xo.last.length qt) W z1 c w') R R R R R R O dN ?_ ?_
    .simp only[ck,ct];refine aa.pure O ?_ (aa.pure O ?_ (aa.pure O ?_ (aa.pure O ?_ (aa.jg 0 rfl ?_ (aa.pure O ?_ (aa.pure O ?_ (aa.pure O ?_ (aa.pure O ?_ (aa.jg 1 rfl ?_ (aa.pure O ?_ (aa.jg 2 rfl ?_ (aa.pure O ?_ (aa.nil)))))))))))))
     all_goals first | (intro v wz c bX hS hE K hK;simp only[ah,Act.put,dk,dm,dn,Nat.zero_add,Nat.reduceAdd,ck,ct]at hK|-) | (intro v wz hS hE K hK;simp only[ah,Act.put,dk,dm,dn,Nat.zero_add,Nat.reduceAdd,ck,ct]at hK|-)
     .exact ζ
     .have e0:v 0=_:=hE.1 rfl;rw[e0]at hK|-;have hle:=bX 2 R;have c8:=(χ (w+1+1) 1 (hS.1.2.1 U)).t a1;exact ζ
     .exact ζ
     .have e2:v 2=_:=hE.1 rfl;rw[e2]at hK|-;have c9:=(χ wy 1 (hS.1.1.aq _ l9 n9)).t p1;exact ζ
     .have e1:v 1=_:=hE.1 rfl;have e3:v 3=_:=hE.2.1 rfl;rw[e1,e3]at hK|-;have bw:=hS.1.2.2.2 rfl;have iM:=hS.2.1 rfl;have ao:OR 3 1 dM w (.slice iP xo.first.length ka) xo.first wz:=xM.later bw;have hy:=HJ1.later bw;have Da:w.heap.size<=wz:=U;have HX:=Y hS;have HZ:=Y iM;clear hS hE bw iM;go_wp2_with (at_builtin;refine iB _ _ _ _ xo.first y.first w rfl rfl rfl rfl ao hy (by have:=mI.o;omega) Da ?_)
      intro v' w1 ai bg s5;obtain ⟨A',c',rfl,-,-⟩:=ae (show w1.ownsRow _ _ _ _ _ _ from ai);rw[List.length_append]at ai s5|-;have iM:=HZ.o;refine hK.out _ _ (wi bg) ⟨HX.1.s1 dr.1 bg dr.2.1 dr.2.2.1,λh=>(by cases h),λ_=>?_⟩ (λ_=>⟨A',c',rfl,ai,?_⟩)
      .by_cases jQ:xo.first.length+y.first.length<=ka
       .have:=(s5.1 jQ).2;have:=tH.1 jQ;omega
       .have:=(s5.2 (by simpa [mf] using jQ)).2;have:=tH.2.1 U;omega
      .by_cases jQ:xo.first.length+y.first.length<=ka
       .exact .inl (s5.1 jQ).1
       .exact .inr ⟨by rw[(s5.2 (by simpa [mf] using jQ)).1,iM],tH.2.1 U⟩
     .exact ζ
     .have e5:v 5=_:=hE.1 rfl;rw[e5]at hK|-;have hle:=bX 2 R;have c8:=(χ (w+1+1) 2 (hS.1.2.1 U)).t a2;exact ζ
     .exact ζ
     .have e7:v 7=_:=hE.1 rfl;rw[e7]at hK|-;have c9:=(χ wy 2 (hS.1.1.aq _ l9 n9)).t p2;exact ζ
     .have e6:v 6=_:=hE.1 rfl;have e8:v 8=_:=hE.2.1 rfl;rw[e6,e8]at hK|-;have iM:=hS.2.2 rfl;have ao:OR 3 1 dM w (.slice iQ xo.last.length qt) xo.last wz:=Db.keep λk hk=>hS.1.2.2.1 O k hk;have hy:=(HJ2.keep HOF.o hS.1.1 Yp.o).1;have Da:w.heap.size<=wz:=by have:=hS.1.1.size;omega
      have HX:=Y hS;have HZ:=Y iM;clear hS hE iM;go_wp2_with (at_builtin;refine iB _ _ _ _ xo.last y.last w rfl rfl rfl rfl ao hy (by have:=mI.o;omega) Da ?_)
      intro v' w1 ai bg s5;obtain ⟨A',c',rfl,-,-⟩:=ae (show w1.ownsRow _ _ _ _ _ _ from ai);rw[List.length_append]at ai s5|-;have iM:=HZ.o;refine hK.out _ _ (wj bg dr.2.2.1) ⟨HX.1.s2 dr.1 bg dr.2.2.2,λh=>(by cases h),λh=>(by cases h)⟩ (λ_=>⟨A',c',rfl,ai,?_⟩)
      by_cases jQ:xo.last.length+y.last.length<=qt
      .exact .inl (s5.1 jQ).1
      .exact .inr (by rw[(s5.2 (by simpa [mf] using jQ)).1,iM])
     .exact ζ
     .have eR:v 10=_:=hE.1 rfl;rw[eR]at hK|-;have E4:=hE.2.1 rfl;obtain ⟨A,c',ev,ho,dv⟩:=E4 O;rw[ev]at hK ho dv|-;have aC:=(hS.1.2.1 O).t sR.o;have cz:wz.cell? (Z (w+1+1) 1)=some (.slice iP xo.first.length ka):=by rw[Φ aC];rfl
      have fz:wz.frozen? (Z (w+1+1) 1)=false:=Ψ aC
      have HX:=Y hS;have HO:=Y (I ho (I dv aC));clear hS hE ho dv aC ev;go_wp2_with fail;have qV:∀g,(Value.slice A (xo.first.length+y.first.length) c').ownBlock=some g->g≠w.heap.size+1+1:=λg hg=>HO.2.1.elim (λe2=>by rw[e2]at hg;intro e3;rw[e3]at hg;exact dr.2.1 hg) λ⟨e2,_⟩=>by rw[e2]at hg;injection hg with hg;have:=dr.1;omega
      refine hK.out undef _ (wo dr.1 dr.2.1 dr.2.2.2 tH.2.2 _) ⟨HX.1.s3' _,λh=>(by cases h),λh=>(by cases h)⟩ (λ_=>⟨A,c',HO.1.keep λg hg=>Below.heap_setCell _ _ _ _ (qV g hg),HO.2.1,by have:=aE HO.2.2 1 (.slice A (xo.first.length+y.first.length) c');simpa using this⟩)
     .exact ζ
    .intro v wz hS hF;have e0:v 0=_:=hF 0 O;have e1:v 1=_:=hF 1 O;have e2:v 2=_:=hF 2 O;have e3:v 3=_:=hF 3 O;have e5:v 5=_:=hF 5 O;have e6:v 6=_:=hF 6 O;have e7:v 7=_:=hF 7 O;have e8:v 8=_:=hF 8 O;have eR:v 10=_:=hF 10 O;have fG:v 12=_:=hF 12 O;have E4:=hF 4 O;have E9:=hF 9 O;have Bw:=hF 11 O;simp only[ah,Act.put,dk,dm,dn,Nat.zero_add,Nat.reduceAdd,ck,ct,List.drop_succ_cons,List.drop_zero,e0,e1,e2,e3,e5,e6,e7,e8,eR,fG];clear hF e0 e1 e2 e3 e5 e6 e7 e8 eR fG;obtain ⟨D2,k2,e9,Jd,kT⟩:=E9 O;obtain ⟨D1,k1,NS,Ft,Ap⟩:=Bw O;rw[e9]at Jd kT|-;have S4:=tH.2.2;have hC2:wg w0 s fp w #[(3:Int),.slice A1 rs.length c1,.slice (Z g f) n c,.int .i64 mn,.int .i64 mx] b' fp' ⟨xo.first++y.first,xo.last++y.last,ey⟩ (.slice D1 (xo.first.length+y.first.length) k1) (.slice D2 (xo.last.length+y.last.length) k2) (wz.setCell (Z (w+1+1) 2) (.slice D2 (xo.last.length+y.last.length) k2)):=xr.done (y:=y) fT rfl hS.1.1 Ap NS Jd (Ft.imp id λh=>⟨_,h.1,V⟩) (kT.imp id λh=>⟨_,h,S4⟩) (λg h1 h2=>by
      have hvv:=dr.2.2.1;rcases Ft with h3|⟨h3,h4⟩
      .rw[h3]at h1;rcases kT with h5|h5
       .rw[h5]at h2;exact (hvv g h2).1 h1
       .rw[h5]at h2;injection h2 with h2;have:=(xr.m.o1.2 g h1).2;omega
      .rw[h3]at h1;injection h1 with h1;rcases kT with h5|h5
       .rw[h5]at h2;have:=(hvv g h2).2;omega
       .rw[h5]at h2;injection h2 with h2;omega)
     have FW:=Y hC2;have z2:wz.cell? (Z (w+1+1) 2)=some (.slice iQ xo.last.length qt):=by rw[Φ Ap];rfl
     have fz2:wz.frozen? (Z (w+1+1) 2)=false:=Ψ Ap
     clear hS E4 E9 Bw Jd kT NS Ft Ap hC2 e9 dN a0 a1 a2 p0 p1 p2;go_wp2_with fail;go_roundw
     case rel=>
      exact ⟨k+1,_,_,⟨xo.first++y.first,xo.last++y.last,ey⟩,_,_,U,by go_num,FW,Y (by simpa [kK,BQ.1,BQ.2] using BC.o)⟩
     case measure=>exact μ
   .go_upto_region 20 with fail
    refine br λW hW=>?_;obtain ⟨hC,LQ,pM,iI,j9⟩:=Mv _ W hW;obtain ⟨a0,a1,a2⟩:=aK hC.m.n2;obtain ⟨p0,p1,p2⟩:=aK LQ;have l9:wy.heap.size<W:=U;have AM:w.heap.size+1+1<W:=U;have Kp:(∀g,(Value.slice iP xo.first.length ka).ownBlock=some g->g<wy.heap.size)/\(∀g,(Value.slice iQ xo.last.length qt).ownBlock=some g->g<wy.heap.size):=⟨λg hg=>Nat.lt_of_lt_of_le (T4.1 g hg) HSY.o,λg hg=>Nat.lt_of_lt_of_le (T4.2 g hg) HSY.o⟩;have n9:wy.heap.size∉(w.heap.size+1+1)::(aq (.slice iP xo.first.length ka)++aq (.slice iQ xo.last.length qt)):=λhm=>by
     simp only[List.mem_cons,List.mem_append,af]at hm;rcases hm with hm|hm|hm
     .omega
     .have:=Kp.1 _ hm;omega
     .have:=Kp.2 _ hm;omega
    have Pt:∀g,(Value.slice C1 y.first.length d1).ownBlock=some g\/(Value.slice C2 y.last.length d2).ownBlock=some g->g∉(w.heap.size+1+1)::(aq (.slice iP xo.first.length ka)++aq (.slice iQ xo.last.length qt)):=λg hg hm=>by
     have h1:=(R2 g hg).1;simp only[List.mem_cons,List.mem_append,af]at hm;rcases hm with hm|hm|hm
     .omega
     .have:=T4.1 _ hm;omega
     .have:=T4.2 _ hm;omega
    have HOF:=Y (show aO ((w.heap.size+1+1)::(aq (.slice iP xo.first.length ka)++aq (.slice iQ xo.last.length qt))) (Value.slice C2 y.last.length d2) from λg hg=>Pt g (.inr hg));have Yp:=Y (show ∀g,(Value.slice C2 y.last.length d2).ownBlock=some g->g<W.heap.size from λg hg=>by have:=(R2 g (.inr hg)).2.1;omega)
    have dr:=Y (show w.heap.size+1+1<W/\(Value.slice iP xo.first.length ka).ownBlock≠some (w.heap.size+1+1)/\(∀g,(Value.slice iQ xo.last.length qt).ownBlock=some g->(Value.slice iP xo.first.length ka).ownBlock≠some g/\g<W.heap.size)/\(Value.slice iQ xo.last.length qt).ownBlock≠some (w.heap.size+1+1) from ⟨AM,hC.MB,λg hg=>⟨λe=>hC.ne g e hg,by have:=Kp.2 g hg;omega⟩,hC.XD⟩)
    have xM:=Y hC.r1;have Db:=Y hC.r2;have HJ1:=Y iI;have HJ2:=Y j9;have mI:=Y (I px.o HY6.o);have sR:=Y hC.m.n2;obtain ⟨z1,dh⟩:∃z1,(xo.first.length+y.first.length<=ka->z1=W.heap.size)/\(ka<xo.first.length+y.first.length->z1=W.heap.size+1)/\W.heap.size<=z1:=by
     by_cases h:xo.first.length+y.first.length<=ka
     .exact ⟨W.heap.size,λ_=>rfl,λh2=>U,V⟩
     .exact ⟨W.heap.size+1,λh2=>absurd h2 h,λ_=>rfl,Nat.le_succ _⟩
    have tH:=Y (show (xo.first.length+y.first.length<=ka->z1=W.heap.size)/\(ka<xo.first.length+y.first.length->z1=W.heap.size+1)/\W<=z1 from dh);have xr:=Y hC;have dN:R0 (w+1+1) (.slice iP xo.first.length ka) (.slice iQ xo.last.length qt) W z1 0 W.drew:=⟨⟨(ab.aj D.drew).gV,λ_=>rfl,λ_ _ _=>rfl,λ_=>D.drew⟩,λ_=>rfl,λh=>by cases h⟩
    clear hW hC LQ iI j9 Kp Pt dh o0 o1 o2 f0;refine ay 13 [4,9,11] (kD (w+1+1) wy w z1 true iP iQ C1 C2 xo.first.length ka xo.last.length qt y.first.length d1 y.last.length d2 xo.first xo.last y.first y.last W) (λc w'=>R0 (w+1+1) (.slice iP xo.first.length ka) (.slice iQ xo.last.length qt) W z1 c w') R R R R R R O dN ?_ ?_
    .simp only[ck,ct];refine aa.pure O ?_ (aa.pure O ?_ (aa.pure O ?_ (aa.pure O ?_ (aa.jg 0 rfl ?_ (aa.pure O ?_ (aa.pure O ?_ (aa.pure O ?_ (aa.pure O ?_ (aa.jg 1 rfl ?_ (aa.pure O ?_ (aa.jg 2 rfl ?_ (aa.pure O ?_ (aa.nil)))))))))))))
     all_goals first | (intro v wz c bX hS hE K hK;simp only[ah,Act.put,dk,dm,dn,Nat.zero_add,Nat.reduceAdd,ck,ct]at hK|-) | (intro v wz hS hE K hK;simp only[ah,Act.put,dk,dm,dn,Nat.zero_add,Nat.reduceAdd,ck,ct]at hK|-)
     .exact ζ
     .have e0:v 0=_:=hE.1 rfl;rw[e0]at hK|-;have hle:=bX 2 R;have c8:=(χ (w+1+1) 1 (hS.1.2.1 U)).t a1;exact ζ
     .exact ζ
     .have e2:v 2=_:=hE.1 rfl;rw[e2]at hK|-;have c9:=(χ wy 1 (hS.1.1.aq _ l9 n9)).t p1;exact ζ
     .have e1:v 1=_:=hE.1 rfl;have e3:v 3=_:=hE.2.1 rfl;rw[e1,e3]at hK|-;have bw:=hS.1.2.2.2 rfl;have iM:=hS.2.1 rfl;have ao:OR 3 1 dM w (.slice iP xo.first.length ka) xo.first wz:=xM.later bw;have hy:=HJ1.later bw;have Da:w.heap.size<=wz:=U;have HX:=Y hS;have HZ:=Y iM;clear hS hE bw iM;go_wp2_with (at_builtin;refine iB _ _ _ _ xo.first y.first w rfl rfl rfl rfl ao hy (by have:=mI.o;omega) Da ?_)
      intro v' w1 ai bg s5;obtain ⟨A',c',rfl,-,-⟩:=ae (show w1.ownsRow _ _ _ _ _ _ from ai);rw[List.length_append]at ai s5|-;have iM:=HZ.o;refine hK.out _ _ (wi bg) ⟨HX.1.s1 dr.1 bg dr.2.1 dr.2.2.1,λh=>(by cases h),λ_=>?_⟩ (λ_=>⟨A',c',rfl,ai,?_⟩)
      .by_cases jQ:xo.first.length+y.first.length<=ka
       .have:=(s5.1 jQ).2;have:=tH.1 jQ;omega
       .have:=(s5.2 (by simpa [mf] using jQ)).2;have:=tH.2.1 U;omega
      .by_cases jQ:xo.first.length+y.first.length<=ka
       .exact .inl (s5.1 jQ).1
       .exact .inr ⟨by rw[(s5.2 (by simpa [mf] using jQ)).1,iM],tH.2.1 U⟩
     .exact ζ
     .have e5:v 5=_:=hE.1 rfl;rw[e5]at hK|-;have hle:=bX 2 R;have c8:=(χ (w+1+1) 2 (hS.1.2.1 U)).t a2;exact ζ
     .exact ζ
     .have e7:v 7=_:=hE.1 rfl;rw[e7]at hK|-;have c9:=(χ wy 2 (hS.1.1.aq _ l9 n9)).t p2;exact ζ
     .have e6:v 6=_:=hE.1 rfl;have e8:v 8=_:=hE.2.1 rfl;rw[e6,e8]at hK|-;have iM:=hS.2.2 rfl;have ao:OR 3 1 dM w (.slice iQ xo.last.length qt) xo.last wz:=Db.keep λk hk=>hS.1.2.2.1 O k hk;have hy:=(HJ2.keep HOF.o hS.1.1 Yp.o).1;have Da:w.heap.size<=wz:=by have:=hS.1.1.size;omega
      have HX:=Y hS;have HZ:=Y iM;clear hS hE iM;go_wp2_with (at_builtin;refine iB _ _ _ _ xo.last y.last w rfl rfl rfl rfl ao hy (by have:=mI.o;omega) Da ?_)
      intro v' w1 ai bg s5;obtain ⟨A',c',rfl,-,-⟩:=ae (show w1.ownsRow _ _ _ _ _ _ from ai);rw[List.length_append]at ai s5|-;have iM:=HZ.o;refine hK.out _ _ (wj bg dr.2.2.1) ⟨HX.1.s2 dr.1 bg dr.2.2.2,λh=>(by cases h),λh=>(by cases h)⟩ (λ_=>⟨A',c',rfl,ai,?_⟩)
      by_cases jQ:xo.last.length+y.last.length<=qt
      .exact .inl (s5.1 jQ).1
      .exact .inr (by rw[(s5.2 (by simpa [mf] using jQ)).1,iM])
     .exact ζ
     .have eR:v 10=_:=hE.1 rfl;rw[eR]at hK|-;have E4:=hE.2.1 rfl;obtain ⟨A,c',ev,ho,dv⟩:=E4 O;rw[ev]at hK ho dv|-;have aC:=(hS.1.2.1 O).t sR.o;have cz:wz.cell? (Z (w+1+1) 1)=some (.slice iP xo.first.length ka):=by rw[Φ aC];rfl
      have fz:wz.frozen? (Z (w+1+1) 1)=false:=Ψ aC
      have HX:=Y hS;have HO:=Y (I ho (I dv aC));clear hS hE ho dv aC ev;go_wp2_with fail;have qV:∀g,(Value.slice A (xo.first.length+y.first.length) c').ownBlock=some g->g≠w.heap.size+1+1:=λg hg=>HO.2.1.elim (λe2=>by rw[e2]at hg;intro e3;rw[e3]at hg;exact dr.2.1 hg) λ⟨e2,_⟩=>by rw[e2]at hg;injection hg with hg;have:=dr.1;omega
      refine hK.out undef _ (wo dr.1 dr.2.1 dr.2.2.2 tH.2.2 _) ⟨HX.1.s3' _,λh=>(by cases h),λh=>(by cases h)⟩ (λ_=>⟨A,c',HO.1.keep λg hg=>Below.heap_setCell _ _ _ _ (qV g hg),HO.2.1,by have:=aE HO.2.2 1 (.slice A (xo.first.length+y.first.length) c');simpa using this⟩)
     .exact ζ
    .intro v wz hS hF;have e0:v 0=_:=hF 0 O;have e1:v 1=_:=hF 1 O;have e2:v 2=_:=hF 2 O;have e3:v 3=_:=hF 3 O;have e5:v 5=_:=hF 5 O;have e6:v 6=_:=hF 6 O;have e7:v 7=_:=hF 7 O;have e8:v 8=_:=hF 8 O;have eR:v 10=_:=hF 10 O;have fG:v 12=_:=hF 12 O;have E4:=hF 4 O;have E9:=hF 9 O;have Bw:=hF 11 O;simp only[ah,Act.put,dk,dm,dn,Nat.zero_add,Nat.reduceAdd,ck,ct,List.drop_succ_cons,List.drop_zero,e0,e1,e2,e3,e5,e6,e7,e8,eR,fG];clear hF e0 e1 e2 e3 e5 e6 e7 e8 eR fG;obtain ⟨D2,k2,e9,Jd,kT⟩:=E9 O;obtain ⟨D1,k1,NS,Ft,Ap⟩:=Bw O;rw[e9]at Jd kT|-;have S4:=tH.2.2;have hC2:wg w0 s fp w #[(3:Int),.slice A1 rs.length c1,.slice (Z g f) n c,.int .i64 mn,.int .i64 mx] b' fp' ⟨xo.first++y.first,xo.last++y.last,true⟩ (.slice D1 (xo.first.length+y.first.length) k1) (.slice D2 (xo.last.length+y.last.length) k2) (wz.setCell (Z (w+1+1) 2) (.slice D2 (xo.last.length+y.last.length) k2)):=xr.done (y:=y) fT rfl hS.1.1 Ap NS Jd (Ft.imp id λh=>⟨_,h.1,V⟩) (kT.imp id λh=>⟨_,h,S4⟩) (λg h1 h2=>by
      have hvv:=dr.2.2.1;rcases Ft with h3|⟨h3,h4⟩
      .rw[h3]at h1;rcases kT with h5|h5
       .rw[h5]at h2;exact (hvv g h2).1 h1
       .rw[h5]at h2;injection h2 with h2;have:=(xr.m.o1.2 g h1).2;omega
      .rw[h3]at h1;injection h1 with h1;rcases kT with h5|h5
       .rw[h5]at h2;have:=(hvv g h2).2;omega
       .rw[h5]at h2;injection h2 with h2;omega)
     have FW:=Y hC2;have z2:wz.cell? (Z (w+1+1) 2)=some (.slice iQ xo.last.length qt):=by rw[Φ Ap];rfl
     have fz2:wz.frozen? (Z (w+1+1) 2)=false:=Ψ Ap
     clear hS E4 E9 Bw Jd kT NS Ft Ap hC2 e9 dN a0 a1 a2 p0 p1 p2;go_wp2_with fail;go_roundw
     case rel=>
      exact ⟨k+1,_,_,⟨xo.first++y.first,xo.last++y.last,true⟩,_,_,U,by go_num,FW,Y (by simpa [kK,BQ.1,BQ.2] using BC.o)⟩
     case measure=>exact μ
  .obtain rfl:k=n:=U;obtain ⟨iP,rM,rfl,-⟩:=HM.m.o1.form;obtain ⟨iQ,rN,rfl,-⟩:=HM.m.o2.form;obtain ⟨y0,y1,y2⟩:=aK HM.m.n1;obtain ⟨q0,q1,q2⟩:=aK HM.m.n2;have vl:wr.frozen? (Z (w+1) 0)=false:=Ψ HM.m.n1
   have ug:wr.frozen? (Z (w+1) 1)=false:=Ψ HM.m.n1
   have xp:wr.frozen? (Z (w+1) 2)=false:=Ψ HM.m.n1
   go_wp2_with fail;refine au λWf bG=>?_;have wM:wr.grownBy Wf (some (w.heap.size+1)):=by
    rw[bG];repeat (first|exact dQ _ _|refine et ?_ _|refine dR ?_ _ _|refine fM ?_)
   obtain ⟨t1,t2,t3,t4⟩:=HM.m.fin fT wM;have bI:=HI.o;rw[List.take_of_length_le (by rw[HN.1];exact V),HN.2.1,HN.2.2]at bI
   refine bodyPost_ret (v:=.agg #[.bool xo.emp,.slice iP xo.first.length rM,.slice iQ xo.last.length rN]) (by rw[bG];simp[results,Tryz.results26,go_sem,y0,y1,y2,q0,q1,q2];try rfl) rfl ?_
   exact ⟨bi,xo,cB,_,_,rfl,t1,t2,t3,t4,bI.Pn,bI.fl,bI.ln,bI.bd,HM.m.fr⟩
theorem NC(w0:World)(s:Nat):∀(m:Nat) (nd:Nd) (vs:List Value),aA nd<=m->aF nd=true->aL nd<=600->bY w0 nd vs->mV w0 s nd vs:=by
 intro m
 induction m with
 |zero=>intro nd vs h;cases nd;rw[aA]at h;omega
 |succ m ih=>
  rintro ⟨op,rs,kids,mn,mx⟩ vs hm hR hp hn;obtain ⟨jE,xn⟩:=dD hR;rw[aA]at hm;obtain ⟨A1,c1,A2,c2,rfl,hr,jD,hk⟩:=hn.form;simp only[Nd.op,Nd.rs,Nd.kids,Nd.mn,Nd.mx]at hr jD hk|-;have ry:∀kd∈kids,aL kd<=600->∀nQ,bY w0 kd nQ->mV w0 s kd nQ:=λkd bU lP nQ hn=>ih kd nQ (by have:=aQ bU;omega) (bh xn bU) lP hn
  rcases jE with rfl|rfl|rfl|⟨rfl,bQ,Kd,qd,sY⟩
  .obtain ⟨rfl,rJ⟩:=yH hR;exact NV w0 s rs mn mx _ hn rJ
  .have h2:=iD hR (.inl rfl);rcases hk with rfl|⟨g,f,rfl,hg,bU⟩
   .simp at h2
   .have sH:=fO (.inl rfl) hp;exact NT w0 s rs kids mn mx A1 c1 g f c2 hR hp hg jD bU λkd h nQ hn=>ry kd h (by have:=iU h;omega) nQ hn
  .have h2:=iD hR (.inr rfl);rcases hk with rfl|⟨g,f,rfl,hg,bU⟩
   .simp at h2
   .have sH:=fO (.inr rfl) hp;exact NR w0 s rs kids mn mx A1 c1 g f c2 hR hp hg jD bU λkd h nQ hn=>ry kd h (by have:=iU h;omega) nQ hn
  .rcases hk with rfl|⟨g,f,rfl,hg,bU⟩
   .simp at bQ
   .match kids,bQ with
    | [a],_=>
     obtain ⟨⟨nQ,nU,Hc⟩,-⟩:=bU;have sH:=oU hp;have hpa:aL a<=600:=by
      have h1:1*aL a<=mx.toNat*aL a:=Nat.mul_le_mul_right _ U;have h2:qS [a]=aL a:=rfl;rw[h2]at sH;omega
     exact NU w0 s rs a mn mx A1 c1 g f c2 nQ hR hp hg jD Hc nU (ry a H hpa nQ Hc)
section
open Go.Maps (Keyed)
theorem eX{w:World}{B k n:Nat}{e:TypeId}{v:Value}{xs:List Value}(h:w.ownsRow B e k v n xs):∀g,v.ownBlock=some g->∃cs m,w.heap[g]?=some (.cells cs e m):=λg hg=>by
 rcases h.2 with ⟨h1,-⟩|⟨g',cap,cur,h1,-,uH,-⟩
 .subst h1;simp[Value.ownBlock]at hg
 .subst h1;simp[Value.ownBlock]at hg;subst hg;exact ⟨_,_,uH⟩
theorem l5{w:World}{B B' k k' n n':Nat}{e e':TypeId}{v u:Value}{xs ys:List Value}(h:w.ownsRow B e k v n xs)(h':w.ownsRow B' e' k' u n' ys)(he:e≠e'):∀g,v.ownBlock=some g->u.ownBlock≠some g:=λg hg hu=>by
 obtain ⟨cs,m,h1⟩:=eX h g hg;obtain ⟨Hl,m',h2⟩:=eX h' g hu;rw[h1]at h2;injection h2 with h2;injection h2 with _ h3 _;exact he h3
theorem Ep{w:World}{B k n:Nat}{e e':TypeId}{v:Value}{xs:List Value}(h:w.ownsRow B e k v n xs){N:Nat}{cs:Array Value}{m:Nat×Nat}(hN:w.heap[N]?=some (.cells cs e' m))(he:e≠e'):v.ownBlock≠some N:=λhv=>by
 obtain ⟨Hl,m',h1⟩:=eX h N hv;rw[hN]at h1;injection h1 with h1;injection h1 with _ h3 _;exact he h3.symm
def ki(N:Nat)(vE vA:Value):List Nat:=N::(aq vE++aq vA)
theorem bj{N:Nat}{vE vA:Value}{k:Nat}:k∈ki N vE vA↔k=N\/vE.ownBlock=some k\/vA.ownBlock=some k:=by
 unfold ki;simp only[List.mem_cons,List.mem_append,af]
structure jt (B N:Nat) (fx:List Nat) (vE vA:Value) (gv:List Value) (rs:List (List Ed)) (aN:List Bool) (w:World):Prop where
 hN:w.heap[N]?=some (.cells #[vE,vA] 35)
 bN:B<=N
 own:w.ownsRow B 59 1 vE rs.length gv
 Qj:∀i (h:i<rs.length),∃v,gv[i]?=some v/\eQ w v rs[i]/\aO (ki N vE vA) v/\aO fx v/\∀g,v.ownBlock=some g->B<=g/\g<w.heap.size
 acc:OR 4 1 bC B vA aN w
 out:∀k∈ki N vE vA,k∉fx
section
variable {B N:Nat} {fx fx':List Nat} {vE vA:Value} {gv:List Value} {rs:List (List Ed)} {aN:List Bool} {w w':World}
theorem jt.lt(h:jt B N fx vE vA gv rs aN w):∀k∈ki N vE vA,B<=k/\k<w.heap.size:=λk hk=>by
 rcases bj.1 hk with rfl|hk|hk
 .exact ⟨h.bN,(γ h.hN).1⟩
 .exact h.own.lt k hk
 .exact World.ownsRow.lt h.acc k hk
theorem jt.keep(h:jt B N fx vE vA gv rs aN w)(hk:ab fx fx' w w'):jt B N fx' vE vA gv rs aN w':=by
 have aB:=h.lt;have hb:∀k∈ki N vE vA,w'.heap[k]?=w.heap[k]?:=λk hm=>hk.aq k (aB k hm).2 (h.out k hm);refine ⟨(hb N (bj.2 (.inl rfl))).t h.hN,h.bN,ar h.own λg hg=>hb g (bj.2 (.inr (.inl hg))),λi hi=>?_,OR.keep h.acc λg hg=>hb g (bj.2 (.inr (.inr hg))),λk hm hx=>(hk.new k hx).elim (h.out k hm) λhz=>by have:=(aB k hm).2;omega⟩
 obtain ⟨v,h1,h2,h3,h4,h5⟩:=h.Qj i hi;exact ⟨v,h1,h2.keep h4 hk,h3,qf h4 (λg hg=>(h5 g hg).2) hk,λg hg=>⟨(h5 g hg).1,Nat.lt_of_lt_of_le (h5 g hg).2 hk.size⟩⟩
theorem jt.later(h:jt B N fx vE vA gv rs aN w)(hb:Below w w w'):jt B N fx vE vA gv rs aN w':=h.keep (ab.aj hb)
theorem eZ{v v':Value}{n k:Nat}(hf:aT v' v n)(h:v'.ownBlock=some k):v.ownBlock=some k\/n<=k:=by
 rcases hf with hf|⟨g,hf,h2⟩
 .exact .inl (hf▸h)
 .rw[hf]at h;injection h with h;exact .inr (h▸h2)
theorem jt.put(h:jt B N fx vE vA gv rs aN w)(hfx:∀k∈fx,k<w.heap.size)(hk:ab (ki N vE vA) [] w w'){oB qb:Value}{gv':List Value}{rs':List (List Ed)}{BK:List Bool}
  (hN:w'.heap[N]?=some (.cells #[oB,qb] 35)) (hE:w'.ownsRow B 59 1 oB rs'.length gv') (hA:OR 4 1 bC B qb BK w') (fE:aT oB vE w) (fA:aT qb vA w)
  (hr:∀i (hi:i<rs'.length),∃v,gv'[i]?=some v/\eQ w v rs'[i]/\aO (ki N vE vA) v/\aO fx v/\∀g,v.ownBlock=some g->B<=g/\g<w.heap.size) :
  jt B N fx oB qb gv' rs' BK w'/\ab (ki N vE vA) (ki N oB qb) w w':=by
 have ew:∀k∈ki N oB qb,k∈ki N vE vA\/w.heap.size<=k:=λk hm=>by
  rcases bj.1 hm with rfl|hm|hm
  .exact .inl (bj.2 (.inl rfl))
  .exact (eZ fE hm).imp (λh=>bj.2 (.inr (.inl h))) id
  .exact (eZ fA hm).imp (λh=>bj.2 (.inr (.inr h))) id
 have bE:ab (ki N vE vA) (ki N oB qb) w w':=⟨hk.os,hk.tape,hk.output,hk.size,hk.aq,ew⟩;refine ⟨⟨hN,h.bN,hE,λi hi=>?_,hA,λk hm hx=>(ew k hm).elim (λh1=>h.out k h1 hx) λh1=>by have:=hfx k hx;omega⟩,bE⟩
 obtain ⟨v,h1,h2,h3,h4,h5⟩:=hr i hi;exact ⟨v,h1,h2.keep h3 bE,qf h3 (λg hg=>(h5 g hg).2) bE,h4,λg hg=>⟨(h5 g hg).1,Nat.lt_of_lt_of_le (h5 g hg).2 hk.size⟩⟩
theorem jt.Q0(h:jt B N fx vE vA gv rs aN w):∀i (hi:i<rs.length),∃v,gv[i]?=some v/\eQ w v rs[i]/\aO (ki N vE vA) v/\aO fx v/\∀g,v.ownBlock=some g->B<=g/\g<w.heap.size:=h.Qj
theorem jt.zJ(h:jt B N fx vE vA gv rs aN w){v:Value}{r:List Ed}(hv:eQ w v r)(ho:aO (ki N vE vA) v)(hx:aO fx v)(hl:∀g,v.ownBlock=some g->B<=g/\g<w.heap.size):
  ∀i (hi:i<(rs++[r]).length),∃u,(gv++[v])[i]?=some u/\eQ w u (rs++[r])[i]/\aO (ki N vE vA) u/\aO fx u/\∀g,u.ownBlock=some g->B<=g/\g<w.heap.size:=λi hi=>by
 have jm:gv.length=rs.length:=by have:=h.own.1;omega
 by_cases aB:i<rs.length
 .obtain ⟨u,h1,h2,h3,h4,h5⟩:=h.Qj i aB;refine ⟨u,by rw[List.getElem?_append_left U];exact h1,?_,h3,h4,h5⟩
  rw[List.getElem_append_left aB];exact h2
 .have nY:i=rs.length:=by simp at hi;omega
  subst nY;refine ⟨v,by rw[List.getElem?_append_right U,jm];simp,?_,ho,hx,hl⟩
  rw[List.getElem_append_right V];simpa using hv
theorem jt.aiC{w1:World}(h:jt B N fx vE vA gv rs aN w)(hg:w1.heap[N]?=w.heap[N]?)(v:Value):(w1.setCell (Z N 0) v).heap[N]?=some (.cells #[v,vA] 35):=by
 have:=aE (hg.t h.hN) 0 v;simpa using this
theorem jt.MB{w1:World}(h:jt B N fx vE vA gv rs aN w)(hg:w1.heap[N]?=w.heap[N]?)(v:Value):(w1.setCell (Z N 1) v).heap[N]?=some (.cells #[vE,v] 35):=by
 have:=aE (hg.t h.hN) 1 v;simpa using this
theorem jt.U7(h:jt B N fx vE vA gv rs aN w):vE.ownBlock≠some N:=Ep h.own h.hN O
theorem jt.Yx(h:jt B N fx vE vA gv rs aN w):vA.ownBlock≠some N:=Ep (show w.ownsRow _ _ _ _ _ _ from h.acc) h.hN O
theorem jt.Q1(h:jt B N fx vE vA gv rs aN w):∀g,vE.ownBlock=some g->vA.ownBlock≠some g:=l5 h.own (show w.ownsRow _ _ _ _ _ _ from h.acc) O
theorem jt.ahq{w1:World}(h:jt B N fx vE vA gv rs aN w)(hfx:∀k∈fx,k<w.heap.size){v:Value}{r:List Ed}(hv:eQ w v r)(ho:aO (ki N vE vA) v)(hx:aO fx v)(hl:∀g,v.ownBlock=some g->B<=g/\g<w.heap.size)
  {oB:Value} (ao:w1.ownsRow B 59 1 oB (rs.length+1) (gv++[v])) (hg:w.grownBy w1 vE.ownBlock) (hf:aT oB vE w) :
  jt B N fx oB vA (gv++[v]) (rs++[r]) aN (w1.setCell (Z N 0) oB)/\ab (ki N vE vA) (ki N oB vA) w (w1.setCell (Z N 0) oB):=by
 have aB:=h.lt;have VW:=(aB N (bj.2 (.inl rfl))).2;have hz:=hg.size;have aH:∀k,k≠N->(w1.setCell (Z N 0) oB).heap[k]?=w1.heap[k]?:=λk hk=>Below.heap_setCell _ _ _ _ hk;have bQ:ab (ki N vE vA) [] w w1:=re hg λg hg=>bj.2 (.inr (.inl hg));have hk:ab (ki N vE vA) [] w (w1.setCell (Z N 0) oB):=bQ.tr ⟨rfl,rfl,rfl,by simp[World.setCell],λk _ hn=>aH k (λe=>hn (bj.2 (.inl e))),λk hk=>by cases hk⟩
 have FL:w1.heap[N]?=w.heap[N]?:=hg.block N VW (λe=>h.U7 e.symm);have e1:(w1.setCell (Z N 0) oB).ownsRow B 59 1 oB (rs++[r]).length (gv++[v]):=by
  rw[List.length_append];refine ar ao λg bJ=>aH g ?_;rintro rfl;rcases eZ hf bJ with h1|h1
  .exact h.U7 h1
  .omega
 have e2:OR 4 1 bC B vA aN (w1.setCell (Z N 0) oB):=OR.keep h.acc λg bJ=>(aH g (by rintro rfl;exact h.Yx bJ)).t (hg.block g (aB g (bj.2 (.inr (.inr bJ)))).2 λe=>h.Q1 g e.symm bJ)
 exact h.put hfx hk (h.aiC FL oB) e1 e2 hf (.inl rfl) (h.zJ hv ho hx hl)
theorem jt.ahg{w1:World}(h:jt B N fx vE vA gv rs aN w)(hfx:∀k∈fx,k<w.heap.size){a:Bool}
  {qb:Value} (ao:OR 4 1 bC B qb (aN++[a]) w1) (hg:w.grownBy w1 vA.ownBlock) (hf:aT qb vA w) :
  jt B N fx vE qb gv rs (aN++[a]) (w1.setCell (Z N 1) qb)/\ab (ki N vE vA) (ki N vE qb) w (w1.setCell (Z N 1) qb):=by
 have aB:=h.lt;have VW:=(aB N (bj.2 (.inl rfl))).2;have hz:=hg.size;have aH:∀k,k≠N->(w1.setCell (Z N 1) qb).heap[k]?=w1.heap[k]?:=λk hk=>Below.heap_setCell _ _ _ _ hk;have bQ:ab (ki N vE vA) [] w w1:=re hg λg hg=>bj.2 (.inr (.inr hg));have hk:ab (ki N vE vA) [] w (w1.setCell (Z N 1) qb):=bQ.tr ⟨rfl,rfl,rfl,by simp[World.setCell],λk _ hn=>aH k (λe=>hn (bj.2 (.inl e))),λk hk=>by cases hk⟩
 have FL:w1.heap[N]?=w.heap[N]?:=hg.block N VW (λe=>h.Yx e.symm);have e1:(w1.setCell (Z N 1) qb).ownsRow B 59 1 vE rs.length gv:=ar h.own λg bJ=>(aH g (by rintro rfl;exact h.U7 bJ)).t (hg.block g (aB g (bj.2 (.inr (.inl bJ)))).2 λe=>h.Q1 g bJ e.symm)
 have e2:OR 4 1 bC B qb (aN++[a]) (w1.setCell (Z N 1) qb):=OR.keep ao λg bJ=>aH g (by
  rintro rfl;rcases eZ hf bJ with h1|h1
  .exact h.Yx h1
  .omega)
 exact h.put hfx hk (h.MB FL qb) e1 e2 (.inl rfl) hf h.Q0
theorem jt.aay(h:jt B N fx vE vA gv rs aN w):jb w (.agg #[vE,vA]) ⟨rs,aN⟩:=by
 refine ⟨vE,vA,rfl,?_,mA.eu h.acc⟩;have jm:gv.length=rs.length:=by have:=h.own.1;omega
 rcases h.own.2 with ⟨h1,h2⟩|⟨g,cap,cur,h1,-,hg,hle,hm,bH,ht⟩
 .exact ⟨none,0,by rw[h1,h2],⟨by show rs.length<=0;omega,O⟩,.inl (List.length_eq_zero_iff.1 h2)⟩
 .refine ⟨_,cap,h1,⟨U,by unfold maxLen at hm;omega⟩,.inr ⟨g,0,rfl,(γ hg).1,λi hi=>?_⟩⟩
  obtain ⟨v,e1,e2,-⟩:=h.Qj i hi;refine ⟨v,?_,e2⟩;subst h1;have:=h.own.cellAt i (by rw[Nat.mul_one];exact hi)
  rw[Nat.zero_add,this,e1]
end
theorem jt.low{B N:Nat}{fx:List Nat}{vE vA:Value}{gv:List Value}{rs:List (List Ed)}{aN:List Bool}{w w':World}{L L':List Nat}(h:jt B N fx vE vA gv rs aN w)(hk:ab L L' w w')(hL:∀k∈L,k<B):jt B N fx vE vA gv rs aN w':=by
 have aB:=h.lt;have hb:∀k∈ki N vE vA,w'.heap[k]?=w.heap[k]?:=λk hm=>hk.aq k (aB k hm).2 λhl=>by have:=hL k hl;have:=(aB k hm).1;omega
 refine ⟨(hb N (bj.2 (.inl rfl))).t h.hN,h.bN,ar h.own λg hg=>hb g (bj.2 (.inr (.inl hg))),λi hi=>?_,OR.keep h.acc λg hg=>hb g (bj.2 (.inr (.inr hg))),h.out⟩;obtain ⟨v,h1,h2,h3,h4,h5⟩:=h.Qj i hi;exact ⟨v,h1,h2.keep (λg hg hl=>by have:=hL g hl;have:=(h5 g hg).1;omega) hk,h3,h4,λg hg=>⟨(h5 g hg).1,Nat.lt_of_lt_of_le (h5 g hg).2 hk.size⟩⟩
def nI(B:Nat)(w:World)(v:Value)(m:Mc):Prop:=∀w',ab (List.range B) [] w w'->jb w' v m
theorem nI.mc{B:Nat}{w:World}{v:Value}{m:Mc}(h:nI B w v m):jb w v m:=h w ⟨rfl,rfl,rfl,V,λ_ _ _=>rfl,λk hk=>by cases hk⟩
theorem nI.mono{B B':Nat}{w:World}{v:Value}{m:Mc}(h:nI B w v m)(hB:B'<=B):nI B' w v m:=λw' hk=>
 h w' ⟨hk.os,hk.tape,hk.output,hk.size,λk h1 hn=>hk.aq k h1 λhm=>hn (List.mem_range.2 (by have:=List.mem_range.1 hm;omega)),λk hk=>by cases hk⟩
theorem nI.keep{B:Nat}{w w':World}{v:Value}{m:Mc}{L L':List Nat}(h:nI B w v m)(hk:ab L L' w w')(hL:∀k∈L,k<B):nI B w' v m:=λw2 bE=>
 h w2 ⟨bE.os.t hk.os,bE.tape.t hk.tape,bE.output.t hk.output,Nat.le_trans hk.size bE.size,λk h1 hn=>(bE.aq k (Nat.lt_of_lt_of_le h1 hk.size) hn).t (hk.aq k h1 λhm=>hn (List.mem_range.2 (hL k hm))),λk hk=>by cases hk⟩
theorem jt.up{B N:Nat}{fx:List Nat}{vE vA:Value}{gv:List Value}{rs:List (List Ed)}{aN:List Bool}{w:World}(h:jt B N fx vE vA gv rs aN w):nI B w (.agg #[vE,vA]) ⟨rs,aN⟩:=λ_ hk=>(h.low hk λ_ hk=>List.mem_range.1 hk).aay
theorem OR.setAt{α:Type}{enc:α->List Value}{n:Nat}(E:p4 enc n){e:TypeId}{B g c:Nat}{o:List α}{w:World}(h:OR e n enc B (.slice (Z g 0) o.length c) o w)(k j:Nat)(hk:k<o.length)(hj:j<n)(x:α)(u:Value)(hx:enc x=(enc o[k]).set j u):
  OR e n enc B (.slice (Z g 0) o.length c) (o.set k x) (w.setCell (Z g (k*n+j)) u):=by
 have h1:w.ownsRow B e n (.slice (Z g 0) o.length c) o.length (a8 enc o):=h;have h2:=(h1.stored (k*n+j) u).1;have ho:o=o.take k++([o[k]]++o.drop (k+1)):=by
  rw[List.singleton_append,<-List.drop_eq_getElem_cons hk,List.take_append_drop]
 have hs:o.set k x=o.take k++([x]++o.drop (k+1)):=by
  rw[List.set_eq_take_append_cons_drop,if_pos hk,List.singleton_append]
 have hA:(a8 enc (o.take k)).length=k*n:=by rw[jV E,List.length_take,Nat.min_eq_left (Nat.le_of_lt hk)]
 have h3:(a8 enc o).set (k*n+j) u=a8 enc (o.set k x):=by
  rw[hs]
  conv=>lhs;rw[ho]
  rw[bV,bV,bF,bV,bV,bF,List.set_append_right _ _ (by rw[hA];omega),hA,show k*n+j-k*n=j by omega,List.set_append_left _ _ (by rw[E.len];exact hj),hx]
 show World.ownsRow _ _ _ _ _ _ _;rw[List.length_set,<-h3];exact h2
end
theorem jY:∀{r:List Ed} {b:Nat},bK b r->∀i (hi:i<r.length),r[i].lo<=r[i].hi/\∀j (hj:j+1=i),(r[j]'U).hi<r[i].lo
 |e::r,b,⟨h1,h2,h3⟩,0,_=>⟨h2,λj hj=>U⟩
 |e::r,b,⟨h1,h2,h3⟩,i+1,hi=>by
  obtain ⟨q1,q2⟩:=jY h3 i (by simpa using hi)
  refine ⟨by rw[List.getElem_cons_succ];exact q1,λj hj=>?_⟩
  cases j with
  |zero=>
   obtain rfl:i=0:=U
   match r,h3,hi with
   |f::r,h3,_=>exact h3.1
  |succ j=>
   rw[List.getElem_cons_succ,List.getElem_cons_succ];exact q2 j U
theorem Dr(v:Value)(m:Mc)(w:World)(hm:jb w v m)(hv:jB m)(eg:iE m)(h1:1<=m.ed.length)(h2:m.ed.length<=2000):
  Calls Tryz.prog 79 #[v] w λe w'=>e=.returned (.bool true)/\Below w w w':=by
 obtain ⟨ve,va,rfl,he,ha⟩:=id hm;obtain ⟨Ae,ce,rfl,kG,tz⟩:=he.form;obtain ⟨Aa,ca,rfl,pT,yQ⟩:=ha.form;obtain ⟨n,hn⟩:=ν m.ed.length;have ej:m.ac.length=n:=by rw[hv.len,hn]
 have HE:=Y he;have HV:=Y hv;have HS:=Y eg;have HN:=Y (I hn ej);rw[hn]at kG h1 h2;rw[ej]at pT;rw[hn,ej];have hb0:Below w w (w.alloc (.cells #[.slice Ae n ce,.slice Aa n ca] 35)):=D.alloc V _;have dA:=Y hb0;clear he ha hv eg hn ej hm hb0;have wP:decide (n<1)=false:=θ;have arK:decide ((n:Int)<1)=false:=θ;have nw:decide (2000<n)=false:=θ;have arL:decide (2000<(n:Int))=false:=θ
 go_enter Tryz.func79,Tryz.ntmps79
 go_wp2_with fail;go_loopw [27] (λv wr=>∃k:Nat,k<=n/\v=.int .i64 (k:Int)/\Hid (Below w w wr)) (λv _=>n - (intOf v).toNat)
 case atStart=>exact ⟨0,U,rfl,dA⟩
 case round=>
  obtain ⟨k,hk,rfl,HB⟩:=hrel;by_cases aB:k<n
  .have hd:decide ((k:Int)<(n:Int))=true:=τ;have dV:decide (k<n)=true:=decide_eq_true aB;have xS:k<m.ed.length:=by rw[HN.1];exact aB
   obtain ⟨g,f,rv,rfl,-,hg,tC,ni⟩:=HE.jL xS;have Pz:=(HB.cl g (f+k) hg).t tC;obtain ⟨row,aC⟩:∃r,m.ed[k]=r:=⟨_,rfl⟩;rw[aC]at ni;have nT:bK 0 row:=by rw[<-aC];exact HV.kE _ (List.getElem_mem xS)
   have jM:∀e∈row,e.to<n:=λe he=>by rw[<-HN.1];exact HV.to _ (by rw[<-aC];exact List.getElem_mem xS) e he
   have iy:row.length<=10000:=HS.rl _ (by rw[<-aC];exact List.getElem_mem xS)
   obtain ⟨Ar,cr,rfl,Dd,oK⟩:=ni;obtain ⟨L,hL⟩:=ν row.length;rw[hL]at Dd tC Pz iy;have HR:=Y (I nT (I jM hL));have VV:=Y oK;have hgw:g<wr:=by have:=HB.size;omega
   clear nT jM hL oK aC xS tC;go_wp2_with fail;go_loopw [33] (λv wr=>∃j:Nat,j<=L/\v=.int .i64 (j:Int)/\Hid (Below w w wr)) (λv _=>L - (intOf v).toNat)
   case atStart=>exact ⟨0,U,rfl,HB⟩
   case round=>
    obtain ⟨j,hj,rfl,fS⟩:=hrel;by_cases hU:j<L
    .have hdj:decide ((j:Int)<(L:Int))=true:=τ;have Wb:decide (j<L)=true:=decide_eq_true hU;have DZ:j<row.length:=by rw[HR.2.2];exact hU
     obtain ⟨g2,f2,rfl,dZ,bH⟩:=VV.resolve_left (by intro e;rw[e]at DZ;simp at DZ)
     obtain ⟨p0,p1,p2⟩:=bH j DZ;obtain ⟨⟨lo,hi,to⟩,he⟩:∃e,row[j]=e:=⟨_,rfl⟩;have KY:=(jY HR.1 j DZ).1;have GK:=(jY HR.1 j DZ).2;have jM:=HR.2.1 _ (List.getElem_mem DZ);rw[he]at p0 p1 p2 KY GK jM;simp only at KY GK jM p0 p1 p2;have q0:=(fS.cl g2 (f2+j*3) dZ).t p0;have q1:=(fS.cl g2 (f2+j*3+1) dZ).t p1;have q2:=(fS.cl g2 (f2+j*3+2) dZ).t p2;have aiR:g2<wr:=by have:=fS.size;omega
     have HP:=Y (I KY (I GK jM));have wN:=Y bH;clear p0 p1 p2 KY GK jM bH he;go_wp2_with fail;refine br λW hW=>?_;have du:Below wr wr W:=by rw[hW];exact D.alloc V _
     have aC:W.heap[wr.heap.size]?=some (.cells #[.int .u8 (lo:Int),.int .u8 (hi:Int),(to:Int)] 74):=by rw[hW];exact heap_alloc_new wr _
     have jc:W.heap.size=wr+1:=by rw[hW];simp
     have Be:∀d:bc W W,d.b8.cell? (Z wr 0)=some (.int .u8 (lo:Int)):=λd=>by
      rw[Φ ((d.ag.block wr U).t aC)];rfl
     have wP:∀d:bc W W,d.b8.cell? (Z wr 1)=some (.int .u8 (hi:Int)):=λd=>by
      rw[Φ ((d.ag.block wr U).t aC)];rfl
     have nw:∀d:bc W W,d.b8.cell? (Z wr 2)=some (.int .i64 (to:Int)):=λd=>by
      rw[Φ ((d.ag.block wr U).t aC)];rfl
     have AN:∀d:bc W W,wr.heap.size<d.b8.heap.size:=λd=>by have:=d.ag.size;omega
     have t1:decide ((hi:Int)<(lo:Int))=false:=decide_eq_false (by have:=HP.1;omega)
     have FI:decide (hi<lo)=false:=decide_eq_false (by have:=HP.1;omega)
     have t2:decide ((to:Int)<0)=false:=θ;have t3:decide ((n:Int)<=(to:Int))=false:=decide_eq_false (by have:=HP.2.2;omega)
     have t3n:decide (n<=to)=false:=decide_eq_false (by have:=HP.2.2;omega)
     have dc:=Y (fS.t (du.mono fS.size));by_cases r5:0<j
     .have t4:decide (0<(j:Int))=true:=τ;have t4n:decide (0<j)=true:=decide_eq_true r5;obtain ⟨p,hp⟩:∃p,p+1=j:=⟨j - 1,U⟩;have hw:IntKind.i64.wrap ((j:Int) - 1)=(p:Int):=by rw[IntWalk.i64_in _ U];omega
      have eh:((j:Int) - 1)=(p:Int):=U;have yg:p<L:=U;have t5:decide (p<L)=true:=decide_eq_true yg;obtain ⟨-,p1,-⟩:=wN p (by rw[HR.2.2];exact yg)
      have O8:=HP.2.1 p hp;obtain ⟨ph,abT⟩:∃x,(row[p]'(by rw[HR.2.2];exact yg)).hi=x:=⟨_,rfl⟩
      rw[abT]at p1 O8;have t6:decide ((lo:Int)<=(ph:Int))=false:=θ;have t6n:decide (lo<=ph)=false:=θ;have To:∀d:bc W W,d.b8.cell? (Z g2 (f2+p*3+1))=some (.int .u8 (ph:Int)):=λd=>((dc.t (d.ag.mono dc.size)).cl g2 (f2+p*3+1) dZ).t p1;have hd5:∀d:bc W W,g2<d.b8.heap.size:=λd=>by have:=d.ag.size;omega
      clear aC du hW hp p1 O8 abT q0 q1 q2 Pz;refine aI (Below.refl W W) R R ?_
      repeat (go_big_quiet_step (fail))
      refine wpQuiet_nil ?_;intro w2 cR;have eh:Below W W w2:=by obtain ⟨d9,rfl⟩:=cR;exact d9.ag
      have oq:=Y (dc.t (eh.mono dc.size));clear cR Be wP nw AN To hd5 eh;go_wp2_with fail;go_roundw
      case rel=>exact ⟨j+1,U,by go_num,oq⟩
      case measure=>exact μ
     .obtain rfl:j=0:=U;have t4:decide (0<((0:Nat):Int))=false:=O;have t4n:decide (0<0)=false:=O;clear aC du hW q0 q1 q2 Pz;refine aI (Below.refl W W) R R ?_
      repeat (go_big_quiet_step (fail))
      refine wpQuiet_nil ?_;intro w2 cR;have eh:Below W W w2:=by obtain ⟨d9,rfl⟩:=cR;exact d9.ag
      have oq:=Y (dc.t (eh.mono dc.size));clear cR Be wP nw AN eh;go_wp2_with fail;go_roundw
      case rel=>exact ⟨1,U,rfl,oq⟩
      case measure=>exact μ
    .obtain rfl:j=L:=U;have hdj:decide ((j:Int)<(j:Int))=false:=θ;have Wb:decide (j<j)=false:=θ;go_wp2_with fail;go_roundw
     case rel=>exact ⟨k+1,U,by go_num,fS⟩
     case measure=>exact μ
  .obtain rfl:k=n:=U;have hd:decide ((k:Int)<(k:Int))=false:=θ;have dV:decide (k<k)=false:=θ;go_wp2_with fail;go_ret;exact ⟨rfl,HB.o⟩
end Go.Proofs.YthamegenljmgmaaGreatDoor
