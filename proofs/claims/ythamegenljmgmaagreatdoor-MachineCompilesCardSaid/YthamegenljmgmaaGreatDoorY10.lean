/- Walks. -/
import Derived.Test.YthamegenljmgmaaGreatDoorY08
import Derived.StillTailTactics
import Derived.Deep.RegionHeld3
import Derived.Test.YthamegenljmgmaaGreatDoorY09
set_option maxRecDepth 100000
set_option maxHeartbeats 16000000
set_option linter.unusedVariables false
set_option linter.unusedSimpArgs false
namespace Go.Proofs.YthamegenljmgmaaGreatDoor
open Go.RowKit
theorem aK{w:World}{b:Nat}{T:TypeId}{a0 a1 a2:Value}(h:w.heap[b]?=some (.cells #[a0,a1,a2] T (0,0))):
  w.cell? (Z b 0)=some a0/\w.cell? (Z b 1)=some a1/\w.cell? (Z b 2)=some a2:=by
 refine ⟨?_,?_,?_⟩ <;> (rw[Φ h]; rfl)
theorem az(w:World)(o:Obj)(k:Nat)(h:k<w):(w.alloc o).heap[k]?=w.heap[k]?:=((Below.refl w w).alloc V o).block k h
theorem qF(l:List Nat):∀(ps:List Nat) (fol:List (List Nat)) (K:Nat),(∀x∈fol,x.length<=K)->∀x∈jd l ps fol,x.length<=K+ps.length*l.length
 | [],fol,K,h=>λx hx=>by have:=h x hx;simp;omega
 |p::r,fol,K,h=>λx hx=>by
  rw[jd]at hx;have:=qF l r (fol.set p ((fol[p]?).getD []++l)) (K+l.length) (λy hy=>by
   rcases List.mem_or_eq_of_mem_set hy with h1|h1
   .have:=h y h1;omega
   .rw[h1,List.length_append]
    cases hp:fol[p]? with
    |none=>simp
    |some z=>have:=h z (List.mem_of_getElem? hp);simp;omega) x hx
  rw[List.length_cons,Nat.succ_mul];omega
theorem AY.yT{w0:World}{s:Nat}{x2 x3 x4:Value}{b:Pb}{vs vf:Value}{rows sv:List Value}{w:World}(h:AY w0 s x2 x3 x4 b vs vf rows sv w)(hp:0<b.fol.length):∃gf cf,vf=.slice (Z gf 0) b.fol.length cf/\gf<w.heap.size/\b.fol.length<=cf/\cf<=9223372036854775807:=by
 rcases h.fol.2 with ⟨-,h2⟩|⟨g,cap,cur,h1,-,h3,h4,h5,-⟩
 .omega
 .exact ⟨g,cap,h1,(γ h3).1,h4,by unfold maxLen at h5;omega⟩
theorem ae{w:World}{B:Nat}{e:TypeId}{k:Nat}{v:Value}{n:Nat}{xs:List Value}(h:w.ownsRow B e k v n xs):∃A c,v=.slice A n c/\n<=c/\c<=9223372036854775807:=by
 rcases h.2 with ⟨h1,h2⟩|⟨g,cap,cur,h1,-,h3,h4,h5,-⟩
 .exact ⟨none,0,by rw[h1,h2],U,O⟩
 .exact ⟨_,cap,h1,h4,by unfold maxLen at h5;omega⟩
theorem xQ(v:Value):aO [] v:=λ_ _ h=>by cases h
theorem AY.Dy{w0:World}{s:Nat}{x2 x3 x4:Value}{b:Pb}{vs vf:Value}{rows sv:List Value}{w:World}(h:AY w0 s x2 x3 x4 b vs vf rows sv w){q:Nat}{v:Value}(hv:rows[q]?=some v){gf:Nat}(hf:vf.ownBlock=some gf):v.ownBlock≠some gf:=by
 have aY:=h.nd;rw[List.nodup_cons,List.nodup_append]at aY;obtain ⟨-,-,n3,-⟩:=aY;rw[List.nodup_append]at n3;exact λe=>n3.2.2 gf (af.2 hf) gf (List.mem_flatMap.2 ⟨v,List.mem_of_getElem? hv,af.2 e⟩) rfl
def PI(wr:World)(row:Option Nat)(c:Bool)(w':World):Prop:=wr.grownBy w' row/\(c=false->Below wr wr w')
def Dz(w0 wr:World)(s gf nf cf gy fy ly cy B1 q m:Nat)(Ar:Option Addr)(cr:Nat)(xs:List Value):Nat->Value->World->Prop
 |0,x,w=>x=.pointer (Z s 0)
 |1,x,w=>x=.pointer (Z s 0)
 |2,x,w=>x=.pointer (Z s 1)
 |3,x,w=>x=.slice (Z gf 0) nf cf
 |4,x,w=>x=.int .i64 (q:Int)
 |5,x,w=>x=.pointer (Z s 0)
 |6,x,w=>x=.pointer (Z s 0)
 |7,x,w=>x=.pointer (Z s 1)
 |8,x,w=>x=.slice (Z gf 0) nf cf
 |9,x,w=>x=.int .i64 (q:Int)
 |10,x,w=>x=.pointer (Z gf q)
 |11,x,w=>x=.slice Ar m cr
 |12,x,w=>x=.pointer (Z B1 0)
 |13,x,w=>x=.slice (Z gy fy) ly cy
 |14,x,w=>∃A' c',x=.slice A' (m+ly) c'/\w.ownsRow w0 3 1 x (m+ly) xs/\(x.ownBlock=(Value.slice Ar m cr).ownBlock\/∃g,x.ownBlock=some g/\wr.heap.size<=g)
 |15,x,w=>x=.pointer (Z gf q)
 |_,_,_=>True
theorem Hq(w0 wr:World)(s gf nf cf gy fy ly cy B1 q m:Nat)(Ar:Option Addr)(cr:Nat)(xs:List Value):∀(i j:Nat) (x:Value) (u u':World),j≠i->(i≠14->u'=u)->Dz w0 wr s gf nf cf gy fy ly cy B1 q m Ar cr xs j x u->Dz w0 wr s gf nf cf gy fy ly cy B1 q m Ar cr xs j x u':=by
 intro i j x u u' Hr hR h;by_cases hi:i=14
 .subst hi
  match j with
  |0|1|2|3|4|5|6|7|8|9|10|11|12|13|15=>exact h
  |14=>exact absurd rfl Hr
  |_+16=>exact trivial
 .rw[hR hi];exact h
theorem dQ(w:World)(r:Option Nat):w.grownBy w r:=⟨rfl,rfl,rfl,V,λ_ _ _=>rfl⟩
theorem Bj{a b c:World}{r:Option Nat}(h:a.grownBy b r)(k:b.grownBy c r):a.grownBy c r:=
 ⟨k.os.t h.os,k.tape.t h.tape,k.output.t h.output,Nat.le_trans h.size k.size,λi hi hn=>(k.block i (Nat.lt_of_lt_of_le hi h.size) hn).t (h.block i hi hn)⟩
theorem oP{a b:World}{r:Option Nat}(h:Below a a b):a.grownBy b r:=⟨h.os,h.tape,h.output,h.size,λk hk _=>h.block k hk⟩
theorem et{a b:World}{r:Option Nat}(h:a.grownBy b r)(o:Obj):a.grownBy (b.alloc o) r:=Bj h (World.grownBy_alloc b o r)
theorem dR{a b:World}{N:Nat}(h:a.grownBy b (some N))(o:Nat)(u:Value):a.grownBy (b.setCell (Z N o) u) (some N):=
 Bj h ⟨rfl,rfl,rfl,by simp[World.setCell],λk _ hk=>Below.heap_setCell _ _ _ _ λe=>hk (by rw[e])⟩
theorem oQ{a b:World}{r:Option Nat}(h:a.grownBy b r){p:Addr}(hp:a.heap.size<=p.block)(u:Value):a.grownBy (b.setCell p u) r:=
 ⟨h.os,h.tape,h.output,by simp[World.setCell];exact h.size,λk hk hn=>(Below.heap_setCell _ _ _ _ U).t (h.block k hk hn)⟩
theorem fM{a b:World}{r:Option Nat}(h:a.grownBy b r):a.grownBy b.drew r:=⟨h.os,h.tape,h.output,h.size,h.block⟩
theorem lD{L:List Nat}{a b:World}(h:ab L L a b)(o:Obj):ab L L a (b.alloc o):=h.t (ab.aj (D.alloc V o))
theorem og{L:List Nat}{a b:World}(h:ab L L a b){p:Addr}(hp:p.block∈L)(u:Value):ab L L a (b.setCell p u):=
 h.t ⟨rfl,rfl,rfl,by simp[World.setCell],λk _ hn=>Below.heap_setCell _ _ _ _ λe=>hn (by rw[e];exact hp),λ_ h=>.inl h⟩
theorem qG{L:List Nat}{a b:World}(h:ab L L a b):ab L L a b.drew:=⟨h.os,h.tape,h.output,h.size,h.aq,h.new⟩
theorem uF{w1 W:World}{B N2 N9:Nat}{v:Value}{l:List Nat}{lH:List Nat}{n:Nat}(h:w1.ownsRow B 3 1 v n (b9 l))(hl:l≠[])(h2:N2<B)(h9:N9<B)(hf:∀k∈lH,k<B)(hk:ab [N2,N9] [N2,N9] w1 W):IL W v l/\aO lH v:=by
 have ho:∀g,v.ownBlock=some g->B<=g:=λg hg=>(h.lt g hg).1;refine ⟨(IL.keep (IL.ia h λ_=>hl) (λg hg hm=>?_) hk).1,λg hg hm=>?_⟩
 .have:=ho g hg;simp at hm;omega
 .have:=ho g hg;have:=hf g hm;omega
theorem aE{w:World}{G e:Nat}{cs:Array Value}{m:Nat×Nat}(h:w.heap[G]?=some (.cells cs e m))(j:Nat)(v:Value):(w.setCell (Z G j) v).heap[G]?=some (.cells (cs.setIfInBounds j v) e m):=by
 simp[World.setCell,Array.getElem?_modify,h]
theorem au{P:Program}{fn:Func}{awO:Ending->World->Prop}{x:Exit}{a:Act}{w:World}(h:∀W,W=w->bodyPost P fn awO x a W):bodyPost P fn awO x a w:=h w rfl
theorem iz{w0:World}{s:Nat}{x2 x3 x4:Value}{b:Pb}{fp lH:List Nat}{w wr W:World}{N:Nat}(hb:qs w0 s x2 x3 x4 b lH wr)(hk:ab fp lH w wr)(hw:w0.heap.size<=w)(hN:w<=N)(Yd:N<wr)(hn:N∉lH)(hg:wr.grownBy W (some N)):qs w0 s x2 x3 x4 b lH W/\ab fp lH w W:=by
 have aB:=hb.lt;have eI:=hb.cW;refine ⟨?_,⟨hg.os.t hk.os,hg.tape.t hk.tape,hg.output.t hk.output,Nat.le_trans hk.size hg.size,λk h1 h2=>(hg.block k (Nat.lt_of_lt_of_le h1 hk.size) (λe=>by injection e with e;omega)).t (hk.aq k h1 h2),λk h=>hk.new k h⟩⟩
 obtain ⟨vs,vf,rows,sv,rfl,h⟩:=hb;refine ⟨vs,vf,rows,sv,rfl,h.same (λk ec=>hg.block k (aB k ec).2 (λe=>by injection e with e;subst e;exact hn ec)) ?_⟩
 refine h.cW.t ⟨hg.os,hg.tape,hg.output,hg.size,λk ec=>hg.block k (by have:=eI.size;omega) (λe=>?_)⟩
 injection e with e;subst e;omega
def af9(w0:World)(s:Nat)(x2 x3 x4:Value)(b:Pb)(x:cI)(fp:List Nat)(w:World)(e:Ending)(w':World):Prop:=∃fp' v1 v2,e=.returned (.agg #[v1,v2,.bool x.emp])/\qs w0 s x2 x3 x4 b fp' w'/\ab fp fp' w w'/\IL w' v1 x.first/\aO fp' v1/\IL w' v2 x.last/\aO fp' v2
theorem uG(w0:World)(s:Nat)(x2 x3 x4:Value)(b:Pb)(fp:List Nat)(w:World)(x y:cI)(PJ PK PL PM:Value)(K:Nat)(fY:qs w0 s x2 x3 x4 b fp w)
  (fk:IL w PJ x.first) (ox1:aO fp PJ) (gO:IL w PK x.last) (ox2:aO fp PK) (xR:IL w PL y.first) (oy1:aO fp PL) (rS:IL w PM y.last) (oy2:aO fp PM)
  (SK:y.first≠[]) (OE:y.last≠[]) (pU:∀p∈x.last,p<b.fol.length) (h1:x.first.length<=50000) (h2:x.last.length<=50000) (h3:y.first.length<=50000) (h4:y.last.length<=50000) (hK:∀l∈b.fol,l.length<=K) (rT:K<=10000000000) :
  Calls Tryz.prog 35 #[.pointer (Z s 0),.agg #[PJ,PK,.bool x.emp],.agg #[PL,PM,.bool y.emp]] w (af9 w0 s x2 x3 x4 (cO b x y) (bD x y) fp w):=by
 obtain ⟨A1,c1,rfl,kr⟩:=fk.form;obtain ⟨A2,c2,rfl,jD⟩:=gO.form;obtain ⟨gy,fy,cy,rfl,-,hgy,hcy,KP⟩:=xR.resolve_left (λh=>SK h.1);obtain ⟨B2,d2,rfl,nw⟩:=rS.form;have aB:=fY.lt;have ZA:=fY.cW;have iw:Below w w (((w.alloc (.cells #[.slice A1 x.first.length c1,.slice A2 x.last.length c2,.bool x.emp] 56)).alloc (.cells #[.slice (Z gy fy) y.first.length cy,.slice B2 y.last.length d2,.bool y.emp] 56)).alloc (.cells #[(),(),.bool false] 56)):=((D.alloc V _).alloc H _).alloc ψ _;have oh:=Y (I fk (I gO (I xR rS)));have Bk:=Y fY;have C8:=Y aB;have tX:=Y iw;have HK:=Y hK;have OG:=Y pU;have OH:=Y (I ox1 (I ox2 (I oy1 oy2)));have HY:=Y KP;clear fk gO xR rS fY aB iw hK pU ox1 ox2 oy1 oy2 KP ZA;obtain ⟨i0,hi,dY,dh,cT⟩:=info_parts dF
 go_enter Tryz.func35,Tryz.ntmps35
 go_wp2_with fail;go_loopw [13] (λiv wr=>∃k de lH,k<=x.last.length/\iv=.int .i64 (k:Int)/\Hid (jd y.first (x.last.drop k) de=jd y.first x.last b.fol/\de.length=b.fol.length/\∀l∈de,l.length<=K+k*y.first.length)/\Hid (qs w0 s x2 x3 x4 ⟨b.sets,de⟩ lH wr/\ab fp lH w wr/\∀q∈lH,q<w.heap.size\/w.heap.size+3<=q)/\Hid (wr.heap[w.heap.size]?=some (.cells #[.slice A1 x.first.length c1,.slice A2 x.last.length c2,.bool x.emp] 56)/\wr.heap[w.heap.size+1]?=some (.cells #[.slice (Z gy fy) y.first.length cy,.slice B2 y.last.length d2,.bool y.emp] 56)/\wr.heap[w.heap.size+1+1]?=some (.cells #[(),(),.bool false] 56))/\w.heap.size+3<=wr) (λiv _=>x.last.length - (intOf iv).toNat)
 case atStart=>
  refine ⟨0,b.fol,fp,U,rfl,⟨by rw[List.drop_zero],rfl,λl hl=>by have:=HK l hl;omega⟩,⟨?_,ab.aj tX.o,λq hq=>.inl (C8 q hq).2⟩,⟨?_,?_,?_⟩,H⟩
  .exact Bk.later tX.o
  .rw[az _ _ _ ψ,az _ _ _ H];exact heap_alloc_new w _
  .rw[az _ _ _ H];simpa using heap_alloc_new (w.alloc _) _
  .simpa using heap_alloc_new ((w.alloc _).alloc _) _
 case round=>
  obtain ⟨k,de,lH,hk,rfl,HF,HB,HX,jn⟩:=hrel;have Un:=oh.2.1;obtain ⟨Uo,ZB⟩:=Un.keep OH.2.1 HB.2.1;by_cases aB:k<x.last.length
  .have hd:decide ((k:Int)<(x.last.length:Int))=true:=τ;have dV:decide (k<x.last.length)=true:=decide_eq_true aB;obtain ⟨g2,f2,qt,Ye,-,dZ,-,oi⟩:=Uo.resolve_left (λh=>by rw[h.1]at aB;simp at aB)
   injection Ye with e1 e2 e3;subst e1 e3;obtain ⟨q,hq⟩:=ν (x.last[k]);have JV:=oi k aB;have rU:=OG x.last[k] (List.getElem_mem aB);rw[hq]at JV rU;have HQ:=Y hq;clear hq oi Un Uo ZB;obtain ⟨vs,vf,rows,sv,pV,jK⟩:=HB.1;have JW:=Y HF.2.1;obtain ⟨gf,cf,rfl,rK,Bg,PN⟩:=jK.yT (by have:=JW.o;show 0<de.length;omega)
   obtain ⟨v,hv,ao⟩:=jK.Dt q (by have:=JW.o;show q<de.length;omega)
   obtain ⟨Ar,cr,rfl,KQ,Hs⟩:=ae ao;have qB:wr.cell? (Z s 1)=some (.slice (Z gf 0) de.length cf):=by rw[Φ jK.cs];rfl
   have aC:=jK.fol.cellAt q (by have:=JW.o;rw[Nat.mul_one];show q<de.length;omega)
   rw[hv]at aC;have Up:=jK.fol.frozenAt q;obtain ⟨y0,y1,y2⟩:=aK HX.2.1;have JX:q<de.length:=by have:=JW.o;omega
   have fw:jd y.first (x.last.drop (k+1)) (de.set q (de[q]++y.first))=jd y.first x.last b.fol:=by
    rw[<-HF.1,List.drop_eq_getElem_cons aB,HQ.o,jd,List.getElem?_eq_getElem JX];rfl
   have hlen:(de[q]).length<=K+k*y.first.length:=HF.2.2 _ (List.getElem_mem JX);have xS:k*y.first.length<=50000*50000:=Nat.mul_le_mul U h3;have apu:gf≠w.heap.size+1:=λe=>by
    have:=HB.2.2 gf (by rw[pV];unfold kY;simp[aq,Value.ownBlock]);omega
   have apv:s≠w.heap.size+1:=λe=>by
    have:=HB.2.2 s (by rw[pV];unfold kY;simp);omega
   have hyc:=IL.keep oh.2.2.1 OH.2.2.1 HB.2.1;have sO:w0.heap.size<=wr:=jK.cW.size;have Uq:gy<wr/\∀i (h:i<y.first.length),wr.cell? (Z gy (fy+i))=some (.int .i64 (y.first[i]:Int)):=by
    obtain ⟨gy',fy',cy',Ur,-,dU,-,wJ⟩:=hyc.1.resolve_left (λh=>SK h.1);injection Ur with e1 e2 e3;injection e1 with e1;injection e1 with e1 e4;subst e1 e4;exact ⟨dU,wJ⟩
   have aga:=Uq.1;have HYC:=Y Uq.2;have wK:=Y jK;have wL:=Y ao;have HV:=Y hv;have j8:=Y fw;have ZC:=Y pV;obtain ⟨m,hm⟩:=ν ((de[q]).length);rw[hm]at hlen KQ aC wL HV;have HM:=Y hm;have KR:(q:Int)<(de.length:Int):=U;have Us:de.length<=9223372036854775807:=Nat.le_trans Bg PN;have yU:=jK.lt;rw[<-pV]at yU;have eP:s<wr:=(γ jK.cs).1;have DA:∀z,some z=(Value.slice Ar m cr).ownBlock->z∈lH:=λz hz=>by
    rw[pV];unfold kY;refine List.mem_cons_of_mem _ (List.mem_append_right _ (List.mem_append_right _ (List.mem_flatMap.2 ⟨_,List.mem_of_getElem? HV.o,af.2 hz.symm⟩)))
   have nT:some s≠(Value.slice Ar m cr).ownBlock:=λe=>by
    have aY:=jK.nd;rw[List.nodup_cons]at aY;exact aY.1 (List.mem_append_right _ (List.mem_append_right _ (List.mem_flatMap.2 ⟨_,List.mem_of_getElem? HV.o,af.2 e.symm⟩)))
   have kZ:some gf≠(Value.slice Ar m cr).ownBlock:=λe=>jK.Dy HV.o rfl e.symm;have agb:w.heap.size+1<wr:=U;have DB:some (w.heap.size+1)≠(Value.slice Ar m cr).ownBlock:=λe=>by have:=HB.2.2 _ (DA _ e);omega
   have dN:PI wr (Value.slice Ar m cr).ownBlock false wr.drew:=⟨⟨rfl,rfl,rfl,V,λ_ _ _=>rfl⟩,λ_=>D.drew⟩;have Ut:=Y (I nT (I kZ DB));clear jK ao hv fw hyc Uq hm pV yU DA;go_wp2_with fail;refine om 16 14 O (λi u u'=>i≠14->u'=u) (λc w'=>PI wr (Value.slice Ar m cr).ownBlock c w') (Dz w0 wr s gf de.length cf gy fy y.first.length cy (w+1) q m Ar cr (b9 de[q]++b9 y.first)) R R R R O dN (Hq w0 wr s gf de.length cf gy fy y.first.length cy (w+1) q m Ar cr (b9 de[q]++b9 y.first)) ?_ ?_
   .simp only[ck,ct];refine ba.cons ?_ (ba.cons ?_ (ba.cons ?_ (ba.cons ?_ (ba.cons ?_ (ba.cons ?_ (ba.cons ?_ (ba.cons ?_ (ba.cons ?_ (ba.cons ?_ (ba.cons ?_ (ba.cons ?_ (ba.cons ?_ (ba.cons ?_ (ba.cons ?_ (ba.cons ?_ ba.nil)))))))))))))))
    all_goals (intro v wz c hc hS hE K hK;simp only[ah,Act.put,dk,dm,dn,Nat.zero_add,Nat.reduceAdd,ck,ct]at hK|-)
    .have HX:=Y hS;clear hS hE hc;go_wp2_with fail;exact hK.out _ _ HX.o (λ_=>rfl) rfl
    .have e0:v 0=_:=hE.1 rfl;rw[e0]at hK|-;have HX:=Y hS;clear hS hE hc;go_wp2_with fail;exact hK.out _ _ HX.o (λ_=>rfl) rfl
    .have e1:v 1=_:=hE.1 rfl;rw[e1]at hK|-;have HX:=Y hS;clear hS hE hc;go_wp2_with fail;exact hK.out _ _ HX.o (λ_=>rfl) rfl
    .have e2:v 2=_:=hE.1 rfl;rw[e2]at hK|-;have c1:=(χ s 1 (hS.1.block s eP nT)).t qB;have HX:=Y hS;clear hS hE hc;go_wp2_with fail;exact hK.out _ _ HX.o (λ_=>rfl) rfl
    .have HX:=Y hS;clear hS hE hc;go_wp2_with fail;exact hK.out _ _ HX.o (λ_=>rfl) rfl
    .have HX:=Y hS;clear hS hE hc;go_wp2_with fail;exact hK.out _ _ HX.o (λ_=>rfl) rfl
    .have e5:v 5=_:=hE.1 rfl;rw[e5]at hK|-;have HX:=Y hS;clear hS hE hc;go_wp2_with fail;exact hK.out _ _ HX.o (λ_=>rfl) rfl
    .have e6:v 6=_:=hE.1 rfl;rw[e6]at hK|-;have HX:=Y hS;clear hS hE hc;go_wp2_with fail;exact hK.out _ _ HX.o (λ_=>rfl) rfl
    .have e7:v 7=_:=hE.1 rfl;rw[e7]at hK|-;have c1:=(χ s 1 (hS.1.block s eP nT)).t qB;have HX:=Y hS;clear hS hE hc;go_wp2_with fail;exact hK.out _ _ HX.o (λ_=>rfl) rfl
    .have HX:=Y hS;clear hS hE hc;go_wp2_with fail;exact hK.out _ _ HX.o (λ_=>rfl) rfl
    .have e8:v 8=_:=hE.1 rfl;have e9:v 9=_:=hE.2.1 rfl;rw[e8,e9]at hK|-;have HX:=Y hS;clear hS hE hc;go_wp2_with fail;exact hK.out _ _ HX.o (λ_=>rfl) rfl
    .have eR:v 10=_:=hE.1 rfl;rw[eR]at hK|-;have c1:=(χ gf q (hS.1.block gf rK kZ)).t aC;have HX:=Y hS;clear hS hE hc;go_wp2_with fail;exact hK.out _ _ HX.o (λ_=>rfl) rfl
    .have HX:=Y hS;clear hS hE hc;go_wp2_with fail;exact hK.out _ _ HX.o (λ_=>rfl) rfl
    .have fG:v 12=_:=hE.1 rfl;rw[fG]at hK|-;have c1:=(χ (w+1) 0 (hS.1.block (w+1) agb DB)).t y0;have HX:=Y hS;clear hS hE hc;go_wp2_with fail;exact hK.out _ _ HX.o (λ_=>rfl) rfl
    .have fZ:v 11=_:=hE.1 rfl;have iH:v 13=_:=hE.2.1 rfl;rw[fZ,iH]at hK|-;have Bg:=hc rfl;subst Bg;have bw:=hS.2 rfl;have xT:wz.ownsRow w0 3 1 (.slice Ar m cr) m (b9 de[q]):=ar wL.o λg hg=>bw.block g (wL.lt g hg).2;have hcy:=fR (w:=wz) (l:=y.first) (g:=gy) (f:=fy) (λi hi=>(χ gy (fy+i) (bw.block gy aga)).t (HYC i hi));have Da:w0.heap.size<=wz:=Nat.le_trans sO bw.size;have HZ:=Y bw;have HX:=Y hS;clear hS hE hc bw;go_wp2_with (at_builtin;refine bn rfl _ _ 22 rfl w0 3 i0 (.int .i64 0) 1 8 Tryz.underlying22 hi dY dh cT rfl O _ m (b9 de[q]) rfl xT (Z gy fy) y.first.length cy (b9 y.first) rfl (by rw[jO];omega) hcy (qH _) (by unfold maxLen;omega) U Da ?_)
     intro v' w1 ai bg dv;have dZ:wr.grownBy w1 (Value.slice Ar m cr).ownBlock:=⟨bg.os.t HX.1.os,bg.tape.t HX.1.tape,bg.output.t HX.1.output,Nat.le_trans HX.1.size bg.size,λk hk hn=>(bg.block k (Nat.lt_of_lt_of_le hk HX.1.size) hn).t (HX.1.block k hk hn)⟩;obtain ⟨A',c',rfl,-,-⟩:=ae ai;exact hK.out _ _ ⟨dZ,λh=>by cases h⟩ (λh=>absurd rfl h) ⟨A',c',rfl,ai,dv.imp id (λ⟨g,h1,h2⟩=>⟨g,h1,Nat.le_trans HZ.size h2⟩)⟩
    .have e3:v 3=_:=hE.1 rfl;have e4:v 4=_:=hE.2.1 rfl;rw[e3,e4]at hK|-;have HX:=Y hS;clear hS hE hc;go_wp2_with fail;exact hK.out _ _ HX.o (λ_=>rfl) rfl
   .intro v wz hS hF;have e0:v 0=_:=hF 0 O;have e1:v 1=_:=hF 1 O;have e2:v 2=_:=hF 2 O;have e3:v 3=_:=hF 3 O;have e4:v 4=_:=hF 4 O;have e5:v 5=_:=hF 5 O;have e6:v 6=_:=hF 6 O;have e7:v 7=_:=hF 7 O;have e8:v 8=_:=hF 8 O;have e9:v 9=_:=hF 9 O;have eR:v 10=_:=hF 10 O;have fZ:v 11=_:=hF 11 O;have fG:v 12=_:=hF 12 O;have iH:v 13=_:=hF 13 O;have pF:v 15=_:=hF 15 O;have FP:=hF 14 O;simp only[ah,Act.put,dk,dm,dn,Nat.zero_add,Nat.reduceAdd,ck,ct,List.drop_succ_cons,List.drop_zero,e0,e1,e2,e3,e4,e5,e6,e7,e8,e9,eR,fZ,fG,iH,pF];clear hF e0 e1 e2 e3 e4 e5 e6 e7 e8 e9 eR fZ fG iH pF;obtain ⟨A',c',Ur,ai,dv⟩:=FP;rw[Ur]at ai dv|-;obtain ⟨A'',c'',e',apx,apy⟩:=ae ai;injection e' with e1 e2 e3;subst e3;have PO:wz.cell? (Z gf q)=some (.slice Ar m cr):=(χ gf q (hS.1.block gf rK kZ)).t aC;have agc:wz.frozen? (Z gf q)=false:=(World.frozen?_of_block (a:=(Z gf q)) (hS.1.block gf rK kZ)).t Up;have oo:=Y (I ai (I hS.1 dv));clear ai hS dv qB JV y0 y1 y2 aC Up Ur e1 e2 nT kZ DB;go_wp2_with fail;go_roundw
    case rel=>
     obtain ⟨ai,bg,dv⟩:=oo.o;have hm:=HM.o;subst hm;obtain ⟨r1,r2⟩:=wK.DC (p:=q) JX y.first HV.o ai bg dv rfl;have pV:=ZC.o;have pW:∀z,w.heap.size<=z->z<w.heap.size+3->z∉kY s vs (.slice (Z gf 0) de.length cf) rows:=λz h1 h2 hm=>by
      have:=HB.2.2 z (by rw[pV];exact hm);omega
     refine ⟨k+1,_,_,U,by go_num,⟨j8.o,by have:=JW.o;simp;omega,λl hl=>?_⟩,⟨⟨_,_,_,_,rfl,r1⟩,(by rw[pV]at HB;exact HB.2.1.t r2),λz hz=>?_⟩,⟨?_,?_,?_⟩,?_⟩
     .rw[Nat.succ_mul];rcases List.mem_or_eq_of_mem_set hl with h1|h1
      .have:=HF.2.2 l h1;omega
      .rw[h1,List.length_append];omega
     .rcases r2.new z hz with h1|h1
      .exact HB.2.2 z (by rw[pV];exact h1)
      .right;omega
     .exact (r2.aq _ U (pW _ U U)).t HX.1
     .exact (r2.aq _ U (pW _ U U)).t HX.2.1
     .exact (r2.aq _ U (pW _ U U)).t HX.2.2
     .exact Nat.le_trans jn r2.size
    case measure=>exact μ
  .obtain rfl:k=x.last.length:=U;have Uu:de=jd y.first x.last b.fol:=by
    have:=HF.1;rw[List.drop_length]at this;exact this
   have DD:(⟨b.sets,de⟩:Pb)=cO b x y:=by rw[Uu];rfl
   have Bl:=HB.1;rw[DD]at Bl;have pj:=Y Bl;have KS:=Y HB.2.1;have DE:=Y HB.2.2;have SM:=IL.keep oh.1 OH.1 HB.2.1;have JY:=IL.keep oh.2.1 OH.2.1 HB.2.1;have ha3:=IL.keep oh.2.2.1 OH.2.2.1 HB.2.1;have ha4:=IL.keep oh.2.2.2 OH.2.2.2 HB.2.1;have HA:=Y (I SM (I JY (I ha3 ha4)));obtain ⟨p0,p1,p2⟩:=aK HX.1;obtain ⟨y0,y1,y2⟩:=aK HX.2.1;have iX:=HX.2.2;have hHF:Hid True:=trivial;clear Uu DD Bl SM JY ha3 ha4 Uo ZB Un HF HB;obtain ⟨ex,hex⟩:=ν x.emp;obtain ⟨ey,KT⟩:=ν y.emp;rw[hex]at p2|-;rw[KT]at y2|-;have HE:=Y (I hex KT);clear hex KT;have n1:¬w.heap.size=wr:=U;have n2:¬wr.heap.size=w:=U;have n3:¬w.heap.size+1=wr:=U;have n4:¬wr.heap.size=w+1:=U;have n5:¬w.heap.size+1+1=wr:=U;have n6:¬wr.heap.size=w+1+1:=U;have l1:w.heap.size<wr:=U;have l2:w.heap.size+1<wr:=U;have l3:w.heap.size+1+1<wr:=U;have agd:=aK iX;obtain ⟨r0,r1,r2⟩:=agd;have Uv:wr.frozen? (Z (w+1+1) 0)=false:=Ψ iX
   have pC:=Y iX;clear iX Uv;have f0:wr.frozen? (Z (w+1+1) 0)=false:=Ψ pC.o
   have f1:wr.frozen? (Z (w+1+1) 1)=false:=Ψ pC.o
   have f2:wr.frozen? (Z (w+1+1) 2)=false:=Ψ pC.o
   have PQ:=λ(va vb:Value) (la lb:List Nat) (W:World) (g c:Nat) (hW:Below wr wr W) (ha:IL wr va la) (hb:IL wr vb lb) (KU:lb≠[]) (SB:la.length<=50000) (apz:lb.length<=50000) (hg:g<W) (hc:2<=c/\c<=9223372036854775807) (c0:W.cell? (Z g 0)=some va) (c1:W.cell? (Z g 1)=some vb)=>pX va vb la lb g c W (ha.later hW) (hb.later hW) KU U hg hc c0 c1;have PR:=Y PQ;have sR:=Y (show w.heap.size+1+1∉lH from λhm=>by have:=DE _ hm;omega)
   have SN:=Y (show w0.heap.size<=w from Bk.cW.size);clear PQ
   cases ex
   .cases ey
    .go_wp2_with fail;refine au λW hW=>?_;obtain ⟨q1,q2⟩:=iz pj.o KS.o SN.o U l3 sR.o (W:=W) (by rw[hW];repeat (first|exact dQ _ _|exact Ht.o|refine et ?_ _|refine dR ?_ _ _|refine oQ ?_ H _|refine fM ?_))
     refine bodyPost_ret (v:=.agg #[.slice A1 x.first.length c1,.slice B2 y.last.length d2,.bool false]) (by rw[hW];simp[results,Tryz.results35,go_sem,r0,r1,r2,l3];try rfl) rfl ?_
     refine ⟨lH,.slice A1 x.first.length c1,.slice B2 y.last.length d2,?_,q1,q2,?_⟩
     .unfold bD;rw[HE.1,HE.2];rfl
     .have i1:=oh.1.keep OH.1 q2;have i2:=oh.2.2.2.keep OH.2.2.2 q2;have e1:(bD x y).first=x.first:=by unfold bD;rw[HE.1];rfl
      have e2:(bD x y).last=y.last:=by unfold bD;rw[HE.2];rfl
      rw[e1,e2];exact ⟨i1.1,i1.2,i2.1,i2.2⟩
    .go_wp2_with fail;refine (PR _ _ x.last y.last _ _ _ ((D.alloc V _).alloc H _) HA.2.1.1 HA.2.2.2.1 OE h2 h4 H O (by go_simp) (by go_simp)).mono ?_
     rintro e w1 ⟨v1,rfl,ai,aM⟩;have bT:Below wr wr w1:=((D.alloc V _).alloc H _).t (aM.mono ψ);have c9:w1.heap[wr.heap.size]?=some (.cells #[.slice A1 x.first.length c1,.slice B2 y.last.length d2,.bool false] 56):=(aM.block _ ψ).t (by rw[az _ _ _ H];exact heap_alloc_new wr _)
     obtain ⟨t0,t1,t2⟩:=aK c9;have u0:w1.frozen? (Z wr 0)=false:=Ψ c9
     have u1:w1.frozen? (Z wr 1)=false:=Ψ c9
     have z9:wr.heap.size<w1:=(γ c9).1;have z1:w.heap.size<w1:=U;have z2:w.heap.size+1<w1:=U;have z3:w.heap.size+1+1<w1:=U;have p0':=(bT.cl w 0 l1).t p0;have Yf:=(bT.cl w 1 l1).t p1;have p2':=(bT.cl w 2 l1).t p2;have y0':=(bT.cl (w+1) 0 l2).t y0;have y1':=(bT.cl (w+1) 1 l2).t y1;have y2':=(bT.cl (w+1) 2 l2).t y2;have SO:=(bT.cl (w+1+1) 0 l3).t r0;have SP:=(bT.cl (w+1+1) 1 l3).t r1;have SQ:=(bT.cl (w+1+1) 2 l3).t r2;have f0':=(bT.frozen (p:=(Z (w+1+1) 0)) l3).t f0;have f1':=(bT.frozen (p:=(Z (w+1+1) 1)) l3).t f1;have f2':=(bT.frozen (p:=(Z (w+1+1) 2)) l3).t f2;obtain ⟨Av,cv,rfl,-,-⟩:=ae ai;have xM:=Y ai;have dc:=Y bT;have Ht:=Y (oP (r:=some (w.heap.size+1+1)) bT);have OI:=Y (show wr.heap.size+2<=w1 by have:=aM.size;simp at this;omega)
     have DF:w1.heap.size=w1:=rfl;clear ai aM bT c9 p0 p1 p2 y0 y1 y2 r0 r1 r2 f0 f1 f2 DF;go_wp2_with fail;refine au λW hW=>?_;obtain ⟨q1,q2⟩:=iz pj.o KS.o SN.o U l3 sR.o (W:=W) (by rw[hW];repeat (first|exact dQ _ _|exact Ht.o|refine et ?_ _|refine dR ?_ _ _|refine oQ ?_ H _|refine fM ?_))
     refine bodyPost_ret (v:=.agg #[.slice A1 x.first.length c1,.slice Av (x.last++y.last).length cv,.bool false]) (by rw[hW];simp[results,Tryz.results35,go_sem,SO,SP,SQ,t0,t1,t2,z3,z9,n5,n6];try rfl) rfl ?_
     refine ⟨lH,.slice A1 x.first.length c1,.slice Av (x.last++y.last).length cv,?_,q1,q2,?_⟩
     .unfold bD;rw[HE.1,HE.2];rfl
     .have i1:=oh.1.keep OH.1 q2;have i2:=uF (N2:=w.heap.size+1+1) (N9:=wr.heap.size) (W:=W) xM.o (by intro h;exact OE (List.append_eq_nil_iff.1 h).2) ψ ψ (λk hk=>by have:=(pj.lt k hk).2;simp;omega) (by rw[hW];repeat (first|exact ab.refl _ _|refine lD ?_ _|refine og ?_ H _|refine qG ?_))
      have e1:(bD x y).first=x.first:=by unfold bD;rw[HE.1];rfl
      have e2:(bD x y).last=x.last++y.last:=by unfold bD;rw[HE.2];rfl
      rw[e1,e2];exact ⟨i1.1,i1.2,i2.1,i2.2⟩
   .cases ey
    .go_wp2_with fail;refine (PR _ _ x.first y.first _ _ _ ((D.alloc V _).alloc H _) HA.1.1 HA.2.2.1.1 SK h1 h3 H O (by go_simp) (by go_simp)).mono ?_
     rintro e w1 ⟨v1,rfl,ai,aM⟩;have bT:Below wr wr w1:=((D.alloc V _).alloc H _).t (aM.mono ψ);have c9:w1.heap[wr.heap.size]?=some (.cells #[.slice A1 x.first.length c1,.slice B2 y.last.length d2,.bool false] 56):=(aM.block _ ψ).t (by rw[az _ _ _ H];exact heap_alloc_new wr _)
     obtain ⟨t0,t1,t2⟩:=aK c9;have u0:w1.frozen? (Z wr 0)=false:=Ψ c9
     have u1:w1.frozen? (Z wr 1)=false:=Ψ c9
     have z9:wr.heap.size<w1:=(γ c9).1;have z1:w.heap.size<w1:=U;have z2:w.heap.size+1<w1:=U;have z3:w.heap.size+1+1<w1:=U;have p0':=(bT.cl w 0 l1).t p0;have Yf:=(bT.cl w 1 l1).t p1;have p2':=(bT.cl w 2 l1).t p2;have y0':=(bT.cl (w+1) 0 l2).t y0;have y1':=(bT.cl (w+1) 1 l2).t y1;have y2':=(bT.cl (w+1) 2 l2).t y2;have SO:=(bT.cl (w+1+1) 0 l3).t r0;have SP:=(bT.cl (w+1+1) 1 l3).t r1;have SQ:=(bT.cl (w+1+1) 2 l3).t r2;have f0':=(bT.frozen (p:=(Z (w+1+1) 0)) l3).t f0;have f1':=(bT.frozen (p:=(Z (w+1+1) 1)) l3).t f1;have f2':=(bT.frozen (p:=(Z (w+1+1) 2)) l3).t f2;obtain ⟨Av,cv,rfl,-,-⟩:=ae ai;have xM:=Y ai;have dc:=Y bT;have Ht:=Y (oP (r:=some (w.heap.size+1+1)) bT);have OI:=Y (show wr.heap.size+2<=w1 by have:=aM.size;simp at this;omega)
     have DF:w1.heap.size=w1:=rfl;clear ai aM bT c9 p0 p1 p2 y0 y1 y2 r0 r1 r2 f0 f1 f2 DF;go_wp2_with fail;refine au λW hW=>?_;obtain ⟨q1,q2⟩:=iz pj.o KS.o SN.o U l3 sR.o (W:=W) (by rw[hW];repeat (first|exact dQ _ _|exact Ht.o|refine et ?_ _|refine dR ?_ _ _|refine oQ ?_ H _|refine fM ?_))
     refine bodyPost_ret (v:=.agg #[.slice Av (x.first++y.first).length cv,.slice B2 y.last.length d2,.bool false]) (by rw[hW];simp[results,Tryz.results35,go_sem,SO,SP,SQ,t0,t1,t2,z3,z9,n5,n6];try rfl) rfl ?_
     refine ⟨lH,.slice Av (x.first++y.first).length cv,.slice B2 y.last.length d2,?_,q1,q2,?_⟩
     .unfold bD;rw[HE.1,HE.2];rfl
     .have i1:=uF (N2:=w.heap.size+1+1) (N9:=wr.heap.size) (W:=W) xM.o (by intro h;exact SK (List.append_eq_nil_iff.1 h).2) ψ ψ (λk hk=>by have:=(pj.lt k hk).2;simp;omega) (by rw[hW];repeat (first|exact ab.refl _ _|refine lD ?_ _|refine og ?_ H _|refine qG ?_))
      have i2:=oh.2.2.2.keep OH.2.2.2 q2;have e1:(bD x y).first=x.first++y.first:=by unfold bD;rw[HE.1];rfl
      have e2:(bD x y).last=y.last:=by unfold bD;rw[HE.2];rfl
      rw[e1,e2];exact ⟨i1.1,i1.2,i2.1,i2.2⟩
    .go_wp2_with fail;refine (PR _ _ x.first y.first _ _ _ ((D.alloc V _).alloc H _) HA.1.1 HA.2.2.1.1 SK h1 h3 H O (by go_simp) (by go_simp)).mono ?_
     rintro e w1 ⟨v1,rfl,ai,aM⟩;rw[List.length_append]at ai;have bT:Below wr wr w1:=((D.alloc V _).alloc H _).t (aM.mono ψ);have c9:w1.heap[wr.heap.size]?=some (.cells #[.slice A1 x.first.length c1,.slice B2 y.last.length d2,.bool true] 56):=(aM.block _ ψ).t (by rw[az _ _ _ H];exact heap_alloc_new wr _)
     obtain ⟨t0,t1,t2⟩:=aK c9;have u0:w1.frozen? (Z wr 0)=false:=Ψ c9
     have u1:w1.frozen? (Z wr 1)=false:=Ψ c9
     have z9:wr.heap.size<w1:=(γ c9).1;have z1:w.heap.size<w1:=U;have z2:w.heap.size+1<w1:=U;have z3:w.heap.size+1+1<w1:=U;have p0':=(bT.cl w 0 l1).t p0;have Yf:=(bT.cl w 1 l1).t p1;have p2':=(bT.cl w 2 l1).t p2;have y0':=(bT.cl (w+1) 0 l2).t y0;have y1':=(bT.cl (w+1) 1 l2).t y1;have y2':=(bT.cl (w+1) 2 l2).t y2;have SO:=(bT.cl (w+1+1) 0 l3).t r0;have SP:=(bT.cl (w+1+1) 1 l3).t r1;have SQ:=(bT.cl (w+1+1) 2 l3).t r2;have f0':=(bT.frozen (p:=(Z (w+1+1) 0)) l3).t f0;have f1':=(bT.frozen (p:=(Z (w+1+1) 1)) l3).t f1;have f2':=(bT.frozen (p:=(Z (w+1+1) 2)) l3).t f2;obtain ⟨Av,cv,rfl,-,-⟩:=ae ai;have xM:=Y ai;have dc:=Y bT;have Ht:=Y (oP (r:=some (w.heap.size+1+1)) bT);have OI:=Y (show wr.heap.size+2<=w1 by have:=aM.size;simp at this;omega)
     have DF:w1.heap.size=w1:=rfl;have C9:=Y c9;clear ai aM bT c9 p0 p1 p2 y0 y1 y2 r0 r1 r2 f0 f1 f2 DF;go_wp2_with fail;have hbS:Below wr wr (w1.setCell (Z wr 0) (.slice Av (x.first.length+y.first.length) cv)):=dc.sc wr 0 V _;have PT:=Y hbS;have c9s:=aE C9.o 0 (.slice Av (x.first.length+y.first.length) cv);have C9S:=Y c9s;have hzS:(w1.setCell (Z wr 0) (.slice Av (x.first.length+y.first.length) cv)).heap.size=w1.heap.size:=by simp[World.setCell]
     have Yg:=Y hzS;clear hbS c9s hzS;refine (PR _ _ x.last y.last _ _ _ (PT.alloc PT.size _) HA.2.1.1 HA.2.2.2.1 OE h2 h4 (by have:=Yg.o;simp;try omega) O (by go_simp) (by go_simp)).mono ?_
     rintro e w2 ⟨v2,rfl,cC,aS⟩;rw[List.length_append]at cC;have yV:Below wr wr w2:=(PT.alloc PT.size _).t (aS.mono (by have:=Yg.o;simp;omega))
     have ZD:w2.heap[wr.heap.size]?=some (.cells #[.slice Av (x.first.length+y.first.length) cv,.slice B2 y.last.length d2,.bool true] 56):=(aS.block _ (by have:=Yg.o;simp;omega)).t ((az _ _ _ (by have:=Yg.o;omega)).t C9S.o)
     have k1:IL w2 (.slice Av (x.first.length+y.first.length) cv) (x.first++y.first):=by
      have:=(IL.ia xM.o λ_=>(by intro h;exact SK (List.append_eq_nil_iff.1 h).2)).keep (fp:=[wr.heap.size]) (fp':=[wr.heap.size]) (w':=w2) (λg hg hm=>?_) ?_
      .exact this.1
      .have:=(xM.lt g hg).1;simp at hm this;omega
      .exact (lD (og (ab.refl _ _) H _) _).t (ab.aj aS)
     have O1:=Y k1;have V1G:=Y (λg hg=>(xM.lt g hg).1);have V1L:=Y (λg hg=>(xM.lt g hg).2);clear t0 t1 t2 u0 u1 z9 z1 z2 z3 p0' Yf p2' y0' y1' y2';obtain ⟨t0,t1,t2⟩:=aK ZD;have u0:w2.frozen? (Z wr 0)=false:=Ψ ZD
     have u1:w2.frozen? (Z wr 1)=false:=Ψ ZD
     have z9:wr.heap.size<w2:=(γ ZD).1;have z3:w.heap.size+1+1<w2:=U;have KV:=(yV.block _ l3).t pC.o;clear SO SP SQ f0' f1' f2';obtain ⟨SO,SP,SQ⟩:=aK KV;have f0':w2.frozen? (Z (w+1+1) 0)=false:=Ψ KV
     have f1':w2.frozen? (Z (w+1+1) 1)=false:=Ψ KV
     have f2':w2.frozen? (Z (w+1+1) 2)=false:=Ψ KV
     obtain ⟨Uw,Ux,rfl,-,-⟩:=ae cC;have Db:=Y cC;have agk:=Y (oP (r:=some (w.heap.size+1+1)) yV);clear cC aS yV ZD KV k1;go_wp2_with fail;refine au λW hW=>?_;obtain ⟨q1,q2⟩:=iz pj.o KS.o SN.o U l3 sR.o (W:=W) (by rw[hW];repeat (first|exact dQ _ _|exact agk.o|refine et ?_ _|refine dR ?_ _ _|refine oQ ?_ H _|refine fM ?_))
     refine bodyPost_ret (v:=.agg #[.slice Av (x.first.length+y.first.length) cv,.slice Uw (x.last.length+y.last.length) Ux,.bool true]) (by rw[hW];simp[results,Tryz.results35,go_sem,SO,SP,SQ,t0,t1,t2,z3,z9,n5,n6];try rfl) rfl ?_
     refine ⟨lH,.slice Av (x.first.length+y.first.length) cv,.slice Uw (x.last.length+y.last.length) Ux,?_,q1,q2,?_⟩
     .unfold bD;rw[HE.1,HE.2];rfl
     .have i1:=O1.keep (fp:=[w.heap.size+1+1,wr.heap.size]) (fp':=[w.heap.size+1+1,wr.heap.size]) (w':=W) (λg hg hm=>by have:=V1G g hg;simp at hm this;omega) (by rw[hW];repeat (first|exact ab.refl _ _|refine lD ?_ _|refine og ?_ H _|refine qG ?_))
      have i1':aO lH (.slice Av (x.first.length+y.first.length) cv):=λg hg hm=>by have:=V1G g hg;have:=(pj.lt g hm).2;simp at *;omega
      have i2:=uF (N2:=w.heap.size+1+1) (N9:=wr.heap.size) (W:=W) Db.o (by intro h;exact OE (List.append_eq_nil_iff.1 h).2) (by have:=Yg.o;have:=OI.o;simp;omega) (by have:=Yg.o;have:=OI.o;simp;omega) (λk hk=>by have:=(pj.lt k hk).2;have:=OI.o;simp;omega) (by rw[hW];repeat (first|exact ab.refl _ _|refine lD ?_ _|refine og ?_ H _|refine qG ?_))
      have e1:(bD x y).first=x.first++y.first:=by unfold bD;rw[HE.1];rfl
      have e2:(bD x y).last=x.last++y.last:=by unfold bD;rw[HE.2];rfl
      rw[e1,e2];exact ⟨i1.1,i1',i2.1,i2.2⟩
theorem _root_.Go.World.ownsRow.lQ{w:World}{B B':Nat}{e:TypeId}{k:Nat}{v:Value}{n:Nat}{xs:List Value}(h:w.ownsRow B e k v n xs)(hB:B'<=B):w.ownsRow B' e k v n xs:=by
 refine ⟨h.1,?_⟩;rcases h.2 with h1|⟨g,cap,cur,h1,h2,rest⟩
 .exact .inl h1
 .exact .inr ⟨g,cap,cur,h1,Nat.le_trans hB h2,rest⟩
theorem aR{w w':World}{B:Nat}{e:TypeId}{k:Nat}{v:Value}{n:Nat}{xs:List Value}(h:w.ownsRow B e k v n xs)(hb:Below w w w'):w'.ownsRow B e k v n xs:=ar h λg hg=>hb.block g (h.lt g hg).2
def Ee(N B0:Nat)(A1 A2 B1 B2:Option Addr)(n1 c1 n2 c2 m1 d1 m2 d2:Nat)(ex ey:Bool)(xf xl yf yl:List Nat):Nat->Nat->Value->World->Prop
 |c,0,x,w=>x=.pointer (Z N 0)
 |c,1,x,w=>x=.slice A1 n1 c1
 |c,2,x,w=>x=.pointer (Z (N+1) 0)
 |c,3,x,w=>x=.slice B1 m1 d1
 |c,4,x,w=>∃g,x=.slice (Z g 0) 2 2/\g<w.heap.size/\w.cell? (Z g 0)=some (.slice A1 n1 c1)/\w.cell? (Z g 1)=some (.slice B1 m1 d1)
 |c,5,x,w=>∃A c',x=.slice A (n1+m1) c'/\w.ownsRow B0 3 1 x (n1+m1) (b9 (xf++yf))
 |c,6,x,w=>x=.pointer (Z N 1)
 |c,7,x,w=>x=.slice A2 n2 c2
 |c,8,x,w=>x=.pointer (Z (N+1) 1)
 |c,9,x,w=>x=.slice B2 m2 d2
 |c,10,x,w=>∃g,x=.slice (Z g 0) 2 2/\g<w.heap.size/\w.cell? (Z g 0)=some (.slice A2 n2 c2)/\w.cell? (Z g 1)=some (.slice B2 m2 d2)
 |c,11,x,w=>∃A c',x=.slice A (n2+m2) c'/\w.ownsRow B0 3 1 x (n2+m2) (b9 (xl++yl))
 |c,12,x,w=>x=.pointer (Z N 2)
 |c,13,x,w=>x=.bool ex
 |c,14,x,w=>x=.bool ex
 |c,15,x,w=>x=cond ex undef (.pointer (Z (N+1) 2))
 |c,16,x,w=>x=cond ex undef (.bool ey)
 | c,17,x,w=>x=.bool (ex || ey)
 | c,18,x,w=>∃a1 k1 a2 k2,x=.agg #[.slice a1 (n1+m1) k1,.slice a2 (n2+m2) k2,.bool (ex || ey)]/\w.ownsRow B0 3 1 (.slice a1 (n1+m1) k1) (n1+m1) (b9 (xf++yf))/\w.ownsRow B0 3 1 (.slice a2 (n2+m2) k2) (n2+m2) (b9 (xl++yl))
 |_,_,_,_=>True
theorem oW{N B0:Nat}{A1 A2 B1 B2:Option Addr}{n1 c1 n2 c2 m1 d1 m2 d2:Nat}{ex ey:Bool}{xf xl yf yl:List Nat}{u u':World}(hb:Below u u u'){c j:Nat}{x:Value}
  (h:Ee N B0 A1 A2 B1 B2 n1 c1 n2 c2 m1 d1 m2 d2 ex ey xf xl yf yl c j x u):Ee N B0 A1 A2 B1 B2 n1 c1 n2 c2 m1 d1 m2 d2 ex ey xf xl yf yl c j x u':=by
 match j with
 |0|1|2|3|6|7|8|9|12|13|14|15|16|17=>exact h
 |4|10=>
  obtain ⟨g,e,hg,h0,h1⟩:=h;exact ⟨g,e,Nat.lt_of_lt_of_le hg hb.size,(hb.cl g 0 hg).t h0,(hb.cl g 1 hg).t h1⟩
 |5|11=>
  obtain ⟨A,c',e,ho⟩:=h;exact ⟨A,c',e,aR ho hb⟩
 |18=>
  obtain ⟨a1,k1,a2,k2,e,h1,h2⟩:=h;exact ⟨a1,k1,a2,k2,e,aR h1 hb,aR h2 hb⟩
 |_+19=>exact trivial
theorem vk(xf xl yf yl:List Nat)(ex ey:Bool)(PJ PK PL PM:Value)(w:World)(fk:IL w PJ xf)(gO:IL w PK xl)(xR:IL w PL yf)(rS:IL w PM yl)(SK:yf≠[])(OE:yl≠[])
  (h1:xf.length<=10000000) (h2:xl.length<=10000000) (h3:yf.length<=10000000) (h4:yl.length<=10000000) :
  Calls Tryz.prog 36 #[.agg #[PJ,PK,.bool ex],.agg #[PL,PM,.bool ey]] w λe w'=>∃v1 v2,e=.returned (.agg #[v1,v2,.bool (ex || ey)])/\w'.ownsRow w 3 1 v1 (xf.length+yf.length) (b9 (xf++yf))/\w'.ownsRow w 3 1 v2 (xl.length+yl.length) (b9 (xl++yl))/\Below w w w':=by
 obtain ⟨A1,c1,rfl,kr⟩:=fk.form;obtain ⟨A2,c2,rfl,jD⟩:=gO.form;obtain ⟨B1,d1,rfl,wP⟩:=xR.form;obtain ⟨B2,d2,rfl,nw⟩:=rS.form;have HI:=Y (I fk (I gO (I xR rS)));obtain ⟨n1,ml⟩:∃n,xf.length=n:=⟨_,rfl⟩;obtain ⟨n2,gG⟩:∃n,xl.length=n:=⟨_,rfl⟩;obtain ⟨m1,qd⟩:∃n,yf.length=n:=⟨_,rfl⟩;obtain ⟨m2,sY⟩:∃n,yl.length=n:=⟨_,rfl⟩;rw[ml,gG,qd,sY]at HI;rw[ml]at h1 kr|-;rw[gG]at h2 jD|-;rw[qd]at h3 wP|-;rw[sY]at h4 nw|-;have HN:=Y (I ml (I gG (I qd sY)));clear fk gO xR rS ml gG qd sY
 go_enter Tryz.func36,Tryz.ntmps36
 go_wp2_with fail;obtain ⟨N,hN⟩:∃N,N=w.heap.size:=⟨_,rfl⟩;obtain ⟨WA,VF⟩:∃W,W=(((w.alloc (.cells #[.slice A1 n1 c1,.slice A2 n2 c2,.bool ex] 56)).alloc (.cells #[.slice B1 m1 d1,.slice B2 m2 d2,.bool ey] 56)).alloc (.cells #[(),(),.bool false] 56)):=⟨_,rfl⟩;have nz:Below w w WA:=by rw[VF];exact ((D.alloc V _).alloc H _).alloc ψ _
 have Ts:WA.heap.size=w+3:=by rw[VF];simp
 have r0:WA.heap[w.heap.size]?=some (.cells #[.slice A1 n1 c1,.slice A2 n2 c2,.bool ex] 56):=by rw[VF,az _ _ _ ψ,az _ _ _ H];exact heap_alloc_new w _
 have r1:WA.heap[w.heap.size+1]?=some (.cells #[.slice B1 m1 d1,.slice B2 m2 d2,.bool ey] 56):=by rw[VF,az _ _ _ H];simpa using heap_alloc_new (w.alloc _) _
 have r2:WA.heap[w.heap.size+1+1]?=some (.cells #[(),(),.bool false] 56):=by rw[VF];simpa using heap_alloc_new ((w.alloc _).alloc _) _
 rw[<-VF];obtain ⟨p0,p1,p2⟩:=aK r0;obtain ⟨q0,q1,q2⟩:=aK r1;have I1:=Y (HI.1.later nz);have I2:=Y (HI.2.1.later nz);have J1:=Y (HI.2.2.1.later nz);have J2:=Y (HI.2.2.2.later nz);have ue:=Y nz;have jn:w.heap.size<=WA:=U;rw[<-hN]at r2 p0 p1 p2 q0 q1 q2|-;have pC:=Y r2;have l1:N<WA:=U;have l2:N+1<WA.heap.size:=U;have l3:N+1+1<WA.heap.size:=U;have jU:=Y hN;have dN:Below WA WA WA.drew:=D.drew;clear nz Ts r0 r1 r2 VF hN;refine ay 19 [] (Ee N WA A1 A2 B1 B2 n1 c1 n2 c2 m1 d1 m2 d2 ex ey xf xl yf yl) (λ_ w'=>Below WA WA w') R R R R R R O dN ?_ ?_
 .simp only[ck,ct];refine aa.pure O ?_ (aa.pure O ?_ (aa.pure O ?_ (aa.pure O ?_ (aa.gp O ?_ (aa.gp O ?_ (aa.pure O ?_ (aa.pure O ?_ (aa.pure O ?_ (aa.pure O ?_ (aa.gp O ?_ (aa.gp O ?_ (aa.pure O ?_ (aa.pure O ?_ (aa.pure O ?_ (aa.pure O ?_ (aa.pure O ?_ (aa.pure O ?_ (aa.pure O ?_ (aa.nil)))))))))))))))))))
  all_goals first | (intro v wz c bX hS hE K hK;simp only[ah,Act.put,dk,dm,dn,Nat.zero_add,Nat.reduceAdd,ck,ct]at hK|-) | (intro v wz hS hE K hK;simp only[ah,Act.put,dk,dm,dn,Nat.zero_add,Nat.reduceAdd,ck,ct]at hK|-)
  .exact ζ
  .have e0:v 0=_:=hE.1 rfl;rw[e0]at hK|-;have c1:=(hS.cl N 0 l1).t p0;exact ζ
  .exact ζ
  .have e2:v 2=_:=hE.1 rfl;rw[e2]at hK|-;have c1:=(hS.cl (N+1) 0 l2).t q0;exact ζ
  .have e1:v 1=_:=hE.1 rfl;have e3:v 3=_:=hE.2.1 rfl;rw[e1,e3]at hK|-;have bw:Below wz wz (wz.alloc (.cells #[.slice A1 n1 c1,.slice B1 m1 d1] 22)):=D.alloc V _;have HX:=Y hS;have iZ:=Y bw;clear hS hE bX bw;go_wp2_with fail;exact hK.out _ _ (λj y _ h=>oW iZ.o h) (HX.t (iZ.mono HX.size)) ⟨wz.heap.size,rfl,H,by go_simp,by go_simp⟩
  .have E4:=hE.1 rfl;obtain ⟨g,e4,hg,g0,g1⟩:=E4;rw[e4]at hK|-;have hz:=hS.size;have nZ:=pX _ _ xf yf g 2 wz (I1.later hS) (J1.later hS) SK (by have:=HN.o;omega) hg O g0 g1
   have xr:=Y nZ;have HX:=Y hS;clear hS hE bX nZ g0 g1;go_wp2_with fail;refine xr.mono ?_;rintro e w1 ⟨v1,rfl,ao,hb⟩;rw[List.length_append,HN.1,HN.2.2.1]at ao;have cC:w1.ownsRow WA 3 1 v1 _ _:=ao.lQ hz;obtain ⟨A',c',rfl,-,-⟩:=ae cC;have HO:=Y cC;have HB:=Y hb;clear ao cC hb;go_wp2_with fail;exact hK.out _ _ (λj y _ h=>oW HB.o h) (HX.t (HB.mono HX.size)) ⟨A',c',rfl,HO.o⟩
  .exact ζ
  .have e6:v 6=_:=hE.1 rfl;rw[e6]at hK|-;have c1:=(hS.cl N 1 l1).t p1;exact ζ
  .exact ζ
  .have e8:v 8=_:=hE.1 rfl;rw[e8]at hK|-;have c1:=(hS.cl (N+1) 1 l2).t q1;exact ζ
  .have e7:v 7=_:=hE.1 rfl;have e9:v 9=_:=hE.2.1 rfl;rw[e7,e9]at hK|-;have bw:Below wz wz (wz.alloc (.cells #[.slice A2 n2 c2,.slice B2 m2 d2] 22)):=D.alloc V _;have HX:=Y hS;have iZ:=Y bw;clear hS hE bX bw;go_wp2_with fail;exact hK.out _ _ (λj y _ h=>oW iZ.o h) (HX.t (iZ.mono HX.size)) ⟨wz.heap.size,rfl,H,by go_simp,by go_simp⟩
  .have Mg:=hE.1 rfl;obtain ⟨g,e4,hg,g0,g1⟩:=Mg;rw[e4]at hK|-;have hz:=hS.size;have nZ:=pX _ _ xl yl g 2 wz (I2.later hS) (J2.later hS) OE (by have:=HN.o;omega) hg O g0 g1
   have xr:=Y nZ;have HX:=Y hS;clear hS hE bX nZ g0 g1;go_wp2_with fail;refine xr.mono ?_;rintro e w1 ⟨v1,rfl,ao,hb⟩;rw[List.length_append,HN.2.1,HN.2.2.2]at ao;have cC:w1.ownsRow WA 3 1 v1 _ _:=ao.lQ hz;obtain ⟨A',c',rfl,-,-⟩:=ae cC;have HO:=Y cC;have HB:=Y hb;clear ao cC hb;go_wp2_with fail;exact hK.out _ _ (λj y _ h=>oW HB.o h) (HX.t (HB.mono HX.size)) ⟨A',c',rfl,HO.o⟩
  .exact ζ
  .have fG:v 12=_:=hE.1 rfl;rw[fG]at hK|-;have c1:=(hS.cl N 2 l1).t p2;exact ζ
  .have iH:v 13=_:=hE.1 rfl;rw[iH]at hK|-;exact ζ
  .have jw:v 14=_:=hE.1 rfl;rw[jw]at hK|-
   cases ex
   all_goals
    exact ζ
  .have pF:v 15=_:=hE.1 rfl;have jw:v 14=_:=hE.2.1 rfl;rw[pF,jw]at hK|-;have c1:=(hS.cl (N+1) 2 l2).t q2
   cases ex
   all_goals
    exact ζ
  .have jw:v 14=_:=hE.1 rfl;have oV:v 16=_:=hE.2.1 rfl;rw[jw,oV]at hK|-
   cases ex
   all_goals
    exact ζ
  .have nR:v 17=_:=hE.2.2.1 rfl;rw[nR]at hK|-;have E5:=hE.1 rfl;have Bw:=hE.2.1 rfl;obtain ⟨a1,k1,h5,o5⟩:=E5;obtain ⟨a2,k2,h11,o11⟩:=Bw;rw[h5]at o5;rw[h11]at o11;rw[h5,h11]at hK|-;have HO:=Y (I o5 o11);have HX:=Y hS;clear hS hE bX o5 o11 h5 h11;go_wp2_with fail;exact hK.out _ ⟨a1,k1,a2,k2,rfl,HO.1,HO.2⟩
 .intro v wz hS hF;have e0:v 0=_:=hF 0 O;have e1:v 1=_:=hF 1 O;have e2:v 2=_:=hF 2 O;have e3:v 3=_:=hF 3 O;have e6:v 6=_:=hF 6 O;have e7:v 7=_:=hF 7 O;have e8:v 8=_:=hF 8 O;have e9:v 9=_:=hF 9 O;have fG:v 12=_:=hF 12 O;have iH:v 13=_:=hF 13 O;have jw:v 14=_:=hF 14 O;have pF:v 15=_:=hF 15 O;have oV:v 16=_:=hF 16 O;have nR:v 17=_:=hF 17 O;have E4:=hF 4 O;have E5:=hF 5 O;have Mg:=hF 10 O;have Bw:=hF 11 O;have O4:=hF 18 O;simp only[ah,Act.put,dk,dm,dn,Nat.zero_add,Nat.reduceAdd,ck,ct,List.drop_succ_cons,List.drop_zero,e0,e1,e2,e3,e6,e7,e8,e9,fG,iH,jw,pF,oV,nR];clear hF e0 e1 e2 e3 e6 e7 e8 e9 fG iH jw pF oV nR;obtain ⟨a1,k1,a2,k2,B3,o1,o2⟩:=O4;rw[B3];have hr:=(hS.block _ l3).t pC.o;obtain ⟨t0,t1,t2⟩:=aK hr;have f0:wz.frozen? (Z (N+1+1) 0)=false:=Ψ hr
  have f1:wz.frozen? (Z (N+1+1) 1)=false:=Ψ hr
  have f2:wz.frozen? (Z (N+1+1) 2)=false:=Ψ hr
  have HO:=Y (I o1 (I o2 (I hS hr)));clear hS o1 o2 B3 E4 E5 Mg Bw hr;go_wp2_with fail;refine au λW hW=>?_;refine bodyPost_ret (v:=.agg #[.slice a1 (n1+m1) k1,.slice a2 (n2+m2) k2,.bool (ex || ey)]) (by rw[hW];simp[results,Tryz.results36,go_sem,t0,t1,t2];try rfl) rfl ?_
  have bf:=jU.o;have wM:wz.grownBy W (some (N+1+1)):=by rw[hW];repeat (first|exact dQ _ _|refine et ?_ _|refine dR ?_ _ _|refine fM ?_)
  have pH:∀{v:Value} {n:Nat} {xs:List Value},wz.ownsRow WA 3 1 v n xs->W.ownsRow w 3 1 v n xs:=λh=>(ar h λg hg=>wM.block g (h.lt g hg).2 (λe=>by injection e with e;have:=(h.lt g hg).1;omega)).lQ jn
  exact ⟨_,_,rfl,pH HO.1,pH HO.2.1,(ue.t (HO.2.2.1.mono ue.size)).grown wM (by have:=HO.2.2.1.size;omega) (λk hk=>by injection hk with hk;omega)⟩
-- How much longer the followers of a position may become.
mutual
def dp:Nd->Nat
 | .mk op _ kids _ mx=>if op=1 then 0 else if op=4 then mx.toNat*(Ql kids+360000) else cV kids
def cV:List Nd->Nat
 | []=>0
 |k::r=>(dp k+360000)+cV r
def Ql:List Nd->Nat
 | []=>0
 |k::_=>dp k
end
theorem iU:∀{l:List Nd} {k:Nd},k∈l->aL k<=bp l
 |a::r,k,h=>by
  rw[bp];rcases List.mem_cons.1 h with rfl|h
  .omega
  .have:=iU h;omega
theorem iD{rs:List (Nat×Nat)}{kids:List Nd}{op mn mx:Int}(hR:aF (.mk op rs kids mn mx)=true)(h:op=2\/op=3):2<=kids.length:=by
 have h1:=((jZ _).1 hR).1;rw[rp (nd:=.mk op rs kids mn mx) h]at h1;simp only[vS,Bool.and_eq_true,decide_eq_true_eq]at h1;exact h1.1
theorem Gb:∀(m:Nat) (n:Nd),aA n<=m->aF n=true->1<=aL n:=by
 intro m
 induction m with
 |zero=>intro n h;cases n;rw[aA]at h;omega
 |succ m ih=>
  rintro ⟨op,rs,kids,mn,mx⟩ h hR;obtain ⟨jE,xn⟩:=dD hR;rw[aA]at h;have ry:∀k∈kids,1<=aL k:=λk hk=>ih k (by have:=aQ hk;omega) (bh xn hk)
  have aeo:2<=kids.length->1<=bp kids:=λh2=>by
   match kids,h2 with
   |a::r,_=>have:=ry a H;have:=iU (show a∈a::r by simp);omega
  rw[aL];rcases jE with rfl|rfl|rfl|⟨rfl,bQ,Kd,qd,sY⟩
  .simp
  .have:=aeo (iD hR (.inl rfl));simp;omega
  .have:=aeo (iD hR (.inr rfl));simp;omega
  .match kids,bQ with
   | [a],_=>
    have h1:=ry a H;have h2:1*1<=mx.toNat*aL a:=Nat.mul_le_mul U h1;simp[qS];omega
theorem fO{rs:List (Nat×Nat)}{kids:List Nd}{op mn mx:Int}(h:op=2\/op=3)(hp:aL (.mk op rs kids mn mx)<=600):aL (.mk op rs kids mn mx)=bp kids:=by
 rw[aL]at hp|-;rw[if_neg U,if_neg U]at hp|-;omega
theorem oU{rs:List (Nat×Nat)}{kids:List Nd}{mn mx:Int}(hp:aL (.mk 4 rs kids mn mx)<=600):aL (.mk 4 rs kids mn mx)=mx.toNat*qS kids:=by
 rw[aL]at hp|-;rw[if_neg O,if_pos rfl]at hp|-;omega
theorem Lx:∀(m:Nat) (n:Nd),aA n<=m->aF n=true->aL n<=600->dp n<=360000*(bZ n*aL n):=by
 intro m
 induction m with
 |zero=>intro n h;cases n;rw[aA]at h;omega
 |succ m ih=>
  rintro ⟨op,rs,kids,mn,mx⟩ h hR hp;have p8:=hp;obtain ⟨jE,xn⟩:=dD hR;rw[aA]at h;have fH:∀k∈kids,1<=aL k:=λk hk=>Gb _ k V (bh xn hk);have yk:∀(l:List Nd) (awP:Nat),(∀k∈l,k∈kids)->(∀k∈l,bZ k<=awP)->(∀k∈l,aL k<=600)->cV l<=360000*((1+awP)*bp l):=by
   intro l awP
   induction l with
   |nil=>intro _ _ _;rw[cV];exact Nat.zero_le _
   |cons a r ihl=>
    intro h1 h2 h3;have i1:=ihl (λk hk=>h1 k (by simp[hk])) (λk hk=>h2 k (by simp[hk])) (λk hk=>h3 k (by simp[hk]))
    have i2:=ih a (by have:=aQ (h1 a H);omega) (bh xn (h1 a H)) (h3 a H)
    have i3:=fH a (h1 a H);have i4:bZ a*aL a<=awP*aL a:=Nat.mul_le_mul_right _ (h2 a H);rw[cV,bp,Nat.mul_add,Nat.mul_add];have i5:(1+awP)*aL a=aL a+awP*aL a:=by rw[Nat.add_mul,Nat.one_mul]
    omega
  have Zd:∀(l:List Nd),∀k∈l,bZ k<=bS l:=by
   intro l
   induction l with
   |nil=>intro k hk;cases hk
   |cons a r ihl=>
    intro k hk;rw[bS];rcases List.mem_cons.1 hk with rfl|hk
    .omega
    .have:=ihl k hk;omega
  rw[dp,bZ];rcases jE with rfl|rfl|rfl|⟨rfl,bQ,Kd,qd,sY⟩
  .rw[if_pos rfl];exact Nat.zero_le _
  .rw[if_neg O,if_neg O,fO (.inl rfl) p8];rw[fO (.inl rfl) p8]at hp;exact yk kids _ (λ_ h=>h) (Zd kids) λk hk=>Nat.le_trans (iU hk) hp
  .rw[if_neg O,if_neg O,fO (.inr rfl) p8];rw[fO (.inr rfl) p8]at hp;exact yk kids _ (λ_ h=>h) (Zd kids) λk hk=>Nat.le_trans (iU hk) hp
  .rw[if_neg O,if_pos rfl,oU p8];rw[oU p8]at hp
   match kids,bQ with
   | [a],_=>
    simp only[qS]at hp;simp only[Ql,qS,bS,Nat.max_zero];have i1:=fH a H;have i6:1*aL a<=mx.toNat*aL a:=Nat.mul_le_mul_right _ U;have i2:=ih a (by have:=aQ (show a∈[a] by simp);omega) (bh xn (show a∈[a] by simp)) U
    have i7:dp a+360000<=360000*((1+bZ a)*aL a):=by
     have:(1+bZ a)*aL a=aL a+bZ a*aL a:=by rw[Nat.add_mul,Nat.one_mul]
     omega
    have i8:=Nat.mul_le_mul_left mx.toNat i7;have e:mx.toNat*(360000*((1+bZ a)*aL a))=360000*((1+bZ a)*(mx.toNat*aL a)):=by
     rw[Nat.mul_left_comm,Nat.mul_left_comm mx.toNat]
    rw[<-e];exact i8
theorem Wr.iff{b b':Pb}{x:cI}{K K':LA}(h:Wr b b' x K)(hk:∀w,K.l w↔K'.l w)(ha:K.a=K'.a:=by rfl):Wr b b' x K':=⟨h.len,h.sets,h.fol,h.bP,λw=>(h.jk w).t (hk w),ha▸h.uB⟩
theorem Wr.alo{b b1:Pb}{y:cI}{a:Nd}{r:List Nd}(h:Wr b b1 y (gN a)):Wr b b1 y (gC (a::r) 1):=by
 obtain ⟨L,hL⟩:=h.uB;refine ⟨h.len,h.sets,h.fol,h.bP,λw=>(h.jk w).t ?_,_,hL.one (kA rfl)⟩;show dT a w↔(dT a w\/nC [] w);simp[nC]
theorem mD:∀{l:List Nat} {a n:Nat},l.Pairwise (·<·)->(∀p∈l,a<=p/\p<a+n)->l.length<=n
 | [],_,_,_,_=>Nat.zero_le _
 |p::r,a,n,h,hb=>by
  rw[List.pairwise_cons]at h;have hp:=hb p H;have:=mD (a:=p+1) (n:=a+n - (p+1)) h.2 (λq hq=>by have:=h.1 q hq;have:=hb q (by simp[hq]);omega)
  rw[List.length_cons];omega
def P5(w0:World)(s:Nat)(x2 x3 x4:Value)(b:Pb)(fp:List Nat)(Lg:LA)(n K:Nat)(w:World)(e:Ending)(w':World):Prop:=
 ∃b' x fp' v1 v2,e=.returned (.agg #[v1,v2,.bool x.emp])/\qs w0 s x2 x3 x4 b' fp' w'/\ab fp fp' w w'/\(IL w' v1 x.first/\aO fp' v1)/\(IL w' v2 x.last/\aO fp' v2)/\Wr b b' x Lg/\b'.fol.length=b.fol.length+n/\(x.first≠[]/\x.last≠[])/\(x.first.length<=n/\x.last.length<=n)/\∀l∈b'.fol,l.length<=K
def kP(w0:World)(s:Nat)(x2 x3 x4:Value)(nd:Nd)(vs:List Value):Prop:=∀w b fp K,qs w0 s x2 x3 x4 b fp w->b.sets.length=b.fol.length->b.fol.length+aL nd<=600->(∀l∈b.fol,l.length<=K)->K+dp nd<=10000000000->
 Calls Tryz.prog 19 #[.pointer (Z s 0),.agg vs.toArray] w (P5 w0 s x2 x3 x4 b fp (gN nd) (aL nd) (K+dp nd) w)
theorem IL.qN{w:World}{v:Value}{l:List Nat}(h:IL w v l)(hl:l≠[]){N:Nat}{A1 A2:Option Addr}{n1 c1 n2 c2:Nat}{e:Bool}{T:TypeId}(hN:w.heap[N]?=some (.cells #[.slice A1 n1 c1,.slice A2 n2 c2,.bool e] T (0,0))):v.ownBlock≠some N:=by
 rcases h with ⟨h1,-⟩|⟨g,f,c,rfl,h0,hg,hc,ak⟩
 .exact absurd h1 hl
 .intro e;simp[Value.ownBlock]at e;subst e;have h0':0<l.length:=by cases l with|nil=>exact absurd rfl hl|cons a r=>simp
  have h1:=ak 0 h0';rw[Φ hN]at h1
  match f,h1 with
  |0,h1=>simp at h1
  |1,h1=>simp at h1
  |2,h1=>simp at h1
  |f+3,h1=>simp at h1
theorem ab.gV{f1 f2:List Nat}{a b:World}(h:ab f1 f2 a b):ab f1 [] a b:=⟨h.os,h.tape,h.output,h.size,h.aq,λk hk=>by cases hk⟩
def xk(fp:List Nat)(W:World)(c:Nat)(wz:World):Prop:=ab fp [] W wz/\(c=0->Below W W wz)
def CpR(w0:World)(s:Nat)(x2 x3 x4:Value)(b:Pb)(fp:List Nat)(Lg:LA)(pk KK:Nat)(xo:cI)(W:World)(x:Value)(w:World):Prop:=
 ∃b' y gd u1 u2,x=.agg #[u1,u2,.bool (bD xo y).emp]/\qs w0 s x2 x3 x4 (cO b' xo y) gd w/\ab fp gd W w/\(IL w u1 (bD xo y).first/\aO gd u1)/\(IL w u2 (bD xo y).last/\aO gd u2)/\Wr b b' y Lg/\b'.fol.length=b.fol.length+pk/\(y.first≠[]/\y.last≠[])/\(y.first.length<=pk/\y.last.length<=pk)/\∀l∈b'.fol,l.length<=KK
def Vt(w0:World)(s:Nat)(x2 x3 x4:Value)(b:Pb)(fp:List Nat)(Lg:LA)(pk KK:Nat)(W:World)(N g f cK:Nat)(dH dC:Value)(eo:Bool)(kv:Value)(xo:cI):Nat->Nat->Value->World->Prop
 |c,0,x,w=>x=.pointer (Z s 0)
 |c,1,x,w=>x=.agg #[dH,dC,.bool eo]
 |c,2,x,w=>x=.pointer (Z s 0)
 |c,3,x,w=>x=.pointer (Z N 2)
 |c,4,x,w=>x=.slice (Z g f) 1 cK
 |c,5,x,w=>x=.pointer (Z g f)
 |c,6,x,w=>x=kv
 |c,7,x,w=>c=1->P5 w0 s x2 x3 x4 b fp Lg pk KK W (.returned x) w
 |c,8,x,w=>c=2->CpR w0 s x2 x3 x4 b fp Lg pk KK xo W x w
 |_,_,_,_=>True
def Ip(b bi:Pb)(Lg:LA)(j i pk:Nat)(xo xa:cI):Prop:=
 Wr b bi xo (LX Lg i)/\bi.fol.length=b.fol.length+i*pk/\(xo.first.length<=i*pk/\xo.last.length<=i*pk)/\(xa.first.length<=i*(i*pk)/\xa.last.length<=i*(i*pk))/\(i=0\/(xo.first≠[]/\xo.last≠[]))/\(i<j\/(zu b bi Lg j i xo xa/\xa.first≠[]/\xa.last≠[]))
theorem Ip.step{b bi b':Pb}{Lg:LA}{j i pk:Nat}{xo xa y:cI}(h:Ip b bi Lg j i pk xo xa)(hy:Wr bi b' y Lg)(hl:b'.fol.length=bi.fol.length+pk)(bf:y.first≠[]/\y.last≠[])(jh:y.first.length<=pk/\y.last.length<=pk)(hj:1<=j):
  (i+1<j->Ip b (cO b' xo y) Lg j (i+1) pk (bD xo y) xa)/\(i+1=j->Ip b (cO b' xo y) Lg j (i+1) pk (bD xo y) (bD xo y))/\(j<i+1->Ip b (cO b' xo y) Lg j (i+1) pk (bD xo y) (kK xa (bD xo y))/\xa.first≠[]/\xa.last≠[]):=by
 obtain ⟨hw,nO,ho,ha,h0,dt⟩:=h;have xN:Wr b (cO b' xo y) (bD xo y) (LX Lg (i+1)):=hw.beh hy (n:=i) (F:=λ_=>Lg.a) rfl rfl;have Vu:(cO b' xo y).fol.length=b.fol.length+(i+1)*pk:=by
  unfold cO;rw[eT,hl,nO,Nat.succ_mul];omega
 have k5:(bD xo y).first.length<=(i+1)*pk/\(bD xo y).last.length<=(i+1)*pk:=by
  unfold bD;rw[Nat.succ_mul];constructor
  .simp only;split
   .rw[List.length_append];omega
   .omega
  .simp only;split
   .rw[List.length_append];omega
   .omega
 have uw:(bD xo y).first≠[]/\(bD xo y).last≠[]:=by
  unfold bD;constructor
  .simp only;split
   .intro e;exact bf.1 (List.append_eq_nil_iff.1 e).2
   .next he=>
    rcases h0 with h0|h0
    .subst h0;exact absurd ((hw.jk []).2 rfl) he
    .exact h0.1
  .simp only;split
   .intro e;exact bf.2 (List.append_eq_nil_iff.1 e).2
   .exact bf.2
 have hq:i*(i*pk)<=(i+1)*((i+1)*pk):=Nat.mul_le_mul U (Nat.mul_le_mul_right _ U);have Ti:(i+1)*pk<=(i+1)*((i+1)*pk):=by
  have:=Nat.mul_le_mul_right ((i+1)*pk) (show 1<=i+1 by omega)
  rwa [Nat.one_mul]at this
 have hq3:i*(i*pk)+(i+1)*pk<=(i+1)*((i+1)*pk):=by
  have h1:i*(i*pk)<=i*((i+1)*pk):=Nat.mul_le_mul_left _ (Nat.mul_le_mul_right _ U);have h2:(i+1)*((i+1)*pk)=i*((i+1)*pk)+(i+1)*pk:=Nat.succ_mul _ _;omega
 refine ⟨λaB=>⟨xN,Vu,k5,U,.inr uw,.inl aB⟩,λhe=>⟨xN,Vu,k5,U,.inr uw,.inr ⟨?_,uw⟩⟩,λZn=>?_⟩
 .rw[he];rw[he]at xN;exact zu.start xN hj
 .have hr:=dt.resolve_left U;refine ⟨⟨xN,Vu,k5,?_,.inr uw,.inr ⟨hr.1.step hy U hj,?_,?_⟩⟩,hr.2⟩
  .unfold kK;simp only[List.length_append];omega
  .unfold kK;intro e;exact hr.2.1 (List.append_eq_nil_iff.1 e).1
  .unfold kK;intro e;exact hr.2.2 (List.append_eq_nil_iff.1 e).1
abbrev rL (w:World) (k:Nat) (a b c:Value):World:=((w.setCell (Z k 0) a).setCell (Z k 1) b).setCell (Z k 2) c
theorem uf{w:World}{k:Nat}{T:TypeId}{x y z:Value}(h:w.heap[k]?=some (.cells #[x,y,z] T (0,0)))(a b c:Value):(rL w k a b c).heap[k]?=some (.cells #[a,b,c] T (0,0)):=by
 have h1:=aE h 0 a;have h2:=aE h1 1 b;have h3:=aE h2 2 c;simpa using h3
theorem fN{w:World}{k k':Nat}(h:k'≠k)(a b c:Value):(rL w k a b c).heap[k']?=w.heap[k']?:=by
 unfold rL;rw[Below.heap_setCell _ _ _ _ h,Below.heap_setCell _ _ _ _ h,Below.heap_setCell _ _ _ _ h]
theorem iO(w:World)(k:Nat)(a b c:Value):(rL w k a b c).heap.size=w.heap.size:=by simp[rL,World.setCell]
theorem D4(w:World)(k:Nat)(a b c:Value):w.grownBy (rL w k a b c) (some k):=dR (dR (dR (dQ _ _) _ _) _ _) _ _
theorem IL.rL{w:World}{v:Value}{l:List Nat}(h:IL w v l){k:Nat}(hk:l≠[]->v.ownBlock≠some k)(a b c:Value):IL (rL w k a b c) v l:=by
 rcases h with h|⟨g,f,c',rfl,h0,hg,hc,ak⟩
 .exact .inl h
 .have BP:g≠k:=λe=>hk h0 (by rw[e];rfl)
  exact .inr ⟨g,f,c',rfl,h0,by rw[iO];exact hg,hc,λi hi=>(χ g (f+i) (fN BP a b c)).t (ak i hi)⟩
structure ji (w0:World) (s:Nat) (x2 x3 x4:Value) (fp:List Nat) (w:World) (nb:Array Value) (bi:Pb) (cB:List Nat) (xo:cI) (dH dC:Value) (xa:cI) (xm vh:Value) (wr:World):Prop where
 bu:qs w0 s x2 x3 x4 bi cB wr
 kf:ab fp cB w wr
 ap:∀q∈cB,q<w.heap.size\/w.heap.size+4<=q
 n0:wr.heap[w.heap.size]?=some (.cells nb 26 (0,0))
 n1:wr.heap[w.heap.size+1]?=some (.cells #[(),(),.bool false] 56)
 n2:wr.heap[w.heap.size+1+1]?=some (.cells #[dH,dC,.bool xo.emp] 56)
 n3:wr.heap[w.heap.size+1+1+1]?=some (.cells #[xm,vh,.bool xa.emp] 56)
 sz:w.heap.size+4<=wr
 o1:IL wr dH xo.first/\aO cB dH
 o2:IL wr dC xo.last/\aO cB dC
 a1:IL wr xm xa.first/\aO cB xm
 a2:IL wr vh xa.last/\aO cB vh
section
variable {w0:World} {s:Nat} {x2 x3 x4:Value} {fp:List Nat} {w:World} {nb:Array Value} {bi:Pb} {cB:List Nat} {xo:cI} {dH dC:Value} {xa:cI} {xm vh:Value} {wr:World}
theorem ji.later(h:ji w0 s x2 x3 x4 fp w nb bi cB xo dH dC xa xm vh wr){W:World}(hb:Below wr wr W):ji w0 s x2 x3 x4 fp w nb bi cB xo dH dC xa xm vh W:=by
 have hz:=h.sz;exact ⟨h.bu.later hb,h.kf.t (ab.aj hb),h.ap,(hb.block _ U).t h.n0,(hb.block _ U).t h.n1,(hb.block _ U).t h.n2,(hb.block _ U).t h.n3,Nat.le_trans hz hb.size,⟨h.o1.1.later hb,h.o1.2⟩,⟨h.o2.1.later hb,h.o2.2⟩,⟨h.a1.1.later hb,h.a1.2⟩,⟨h.a2.1.later hb,h.a2.2⟩⟩
theorem cZ(h:ji w0 s x2 x3 x4 fp w nb bi cB xo dH dC xa xm vh wr)(k:Nat)(h1:w<=k)(h2:k<w+4):k∉cB:=λhm=>by have:=h.ap k hm;omega
theorem IL.apart{W:World}{v:Value}{l:List Nat}(h:IL W v l){k:Nat}{A1 A2:Option Addr}{m1 c1 m2 c2:Nat}{e:Bool}{T:TypeId}(hk:W.heap[k]?=some (.cells #[.slice A1 m1 c1,.slice A2 m2 c2,.bool e] T (0,0))):l≠[]->v.ownBlock≠some k:=λhl=>h.qN hl hk
theorem ji.out(h:ji w0 s x2 x3 x4 fp w nb bi cB xo dH dC xa xm vh wr){b2:Pb}{x':cI}{gd:List Nat}{u1 u2:Value}{wz:World}(aS:qs w0 s x2 x3 x4 b2 gd wz)(bE:ab cB gd wr wz)(kk:IL wz u1 x'.first/\aO gd u1)(mH:IL wz u2 x'.last/\aO gd u2)(hw:w0.heap.size<=w):
  ji w0 s x2 x3 x4 fp w nb b2 gd x' u1 u2 xa xm vh (rL wz (w+1+1) u1 u2 (.bool x'.emp)):=by
 have hz:=h.sz;have cT:=bE.size;have ew:∀q∈gd,q<w.heap.size\/w.heap.size+4<=q:=λq hq=>(bE.new q hq).elim (h.ap q) λh=>.inr U;have hn:∀k,w.heap.size<=k->k<w.heap.size+4->k∉gd:=λk h1 h2 hm=>by have:=ew k hm;omega
 have m0:=(bE.aq _ U (cZ h _ V U)).t h.n0;have m1:=(bE.aq _ U (cZ h _ U U)).t h.n1;have m2:=(bE.aq _ U (cZ h _ U U)).t h.n2;have m3:=(bE.aq _ U (cZ h _ U U)).t h.n3;have a1:=h.a1.1.keep h.a1.2 bE;have a2:=h.a2.1.keep h.a2.2 bE;obtain ⟨q1,q2⟩:=iz aS (h.kf.t bE) hw (show w.heap.size<=w+1+1 by omega) U (hn _ U U) (D4 wz (w+1+1) u1 u2 (.bool x'.emp))
 obtain ⟨iP,rM,e1,-⟩:=h.o1.1.form;obtain ⟨iQ,rN,e2,-⟩:=h.o2.1.form;rw[e1,e2]at m2;exact ⟨q1,q2,ew,(fN U _ _ _).t m0,(fN U _ _ _).t m1,uf m2 _ _ _,(fN U _ _ _).t m3,by rw[iO];omega,
  ⟨kk.1.rL (kk.1.apart m2) _ _ _,kk.2⟩,⟨mH.1.rL (mH.1.apart m2) _ _ _,mH.2⟩,⟨a1.1.rL (a1.1.apart m2) _ _ _,a1.2⟩,⟨a2.1.rL (a2.1.apart m2) _ _ _,a2.2⟩⟩
theorem ji.all(h:ji w0 s x2 x3 x4 fp w nb bi cB xo dH dC xa xm vh wr){x':cI}{u1 u2:Value}(kk:IL wr u1 x'.first/\aO cB u1)(mH:IL wr u2 x'.last/\aO cB u2)(hw:w0.heap.size<=w):
  ji w0 s x2 x3 x4 fp w nb bi cB xo dH dC x' u1 u2 (rL wr (w+1+1+1) u1 u2 (.bool x'.emp)):=by
 have hz:=h.sz;have m3:=h.n3;obtain ⟨q1,q2⟩:=iz h.bu h.kf hw (show w.heap.size<=w+1+1+1 by omega) U (cZ h _ U U) (D4 wr (w+1+1+1) u1 u2 (.bool x'.emp))
 obtain ⟨iP,rM,e1,-⟩:=h.a1.1.form;obtain ⟨iQ,rN,e2,-⟩:=h.a2.1.form;rw[e1,e2]at m3;exact ⟨q1,q2,h.ap,(fN U _ _ _).t h.n0,(fN U _ _ _).t h.n1,(fN U _ _ _).t h.n2,uf m3 _ _ _,by rw[iO];omega,
  ⟨h.o1.1.rL (h.o1.1.apart m3) _ _ _,h.o1.2⟩,⟨h.o2.1.rL (h.o2.1.apart m3) _ _ _,h.o2.2⟩,⟨kk.1.rL (kk.1.apart m3) _ _ _,kk.2⟩,⟨mH.1.rL (mH.1.apart m3) _ _ _,mH.2⟩⟩
theorem ji.emp(h:ji w0 s x2 x3 x4 fp w nb bi cB xo dH dC xa xm vh wr)(e:Bool)(hw:w0.heap.size<=w):ji w0 s x2 x3 x4 fp w nb bi cB xo dH dC ⟨xa.first,xa.last,e⟩ xm vh (wr.setCell (Z (w+1+1+1) 2) (.bool e)):=by
 have hz:=h.sz;have m3:=h.n3;have ho:∀k,k≠w.heap.size+1+1+1->(wr.setCell (Z (w+1+1+1) 2) (.bool e)).heap[k]?=wr.heap[k]?:=λk hk=>Below.heap_setCell _ _ _ _ hk;have jn:(wr.setCell (Z (w+1+1+1) 2) (.bool e)).heap.size=wr.heap.size:=by simp[World.setCell]
 obtain ⟨q1,q2⟩:=iz h.bu h.kf hw (show w.heap.size<=w+1+1+1 by omega) U (cZ h _ U U) (dR (dQ wr _) 2 (.bool e))
 obtain ⟨iP,rM,e1,-⟩:=h.a1.1.form;obtain ⟨iQ,rN,e2,-⟩:=h.a2.1.form;have dE:∀{v:Value} {l:List Nat},IL wr v l->IL (wr.setCell (Z (w+1+1+1) 2) (.bool e)) v l:=λ{v l} hi=>by
  have Qk:=hi;rw[e1,e2]at m3;have bf:=hi.apart m3;rcases hi with hi|⟨g,f,c',rfl,h0,hg,hc,ak⟩
  .exact .inl hi
  .have BP:g≠w.heap.size+1+1+1:=λe=>bf h0 (by rw[e];rfl)
   exact .inr ⟨g,f,c',rfl,h0,by rw[jn];exact hg,hc,λi hi=>(χ g (f+i) (ho g BP)).t (ak i hi)⟩
 exact ⟨q1,q2,h.ap,(ho _ U).t h.n0,(ho _ U).t h.n1,(ho _ U).t h.n2,by have:=aE h.n3 2 (.bool e);simpa using this,by rw[jn];omega,
  ⟨dE h.o1.1,h.o1.2⟩,⟨dE h.o2.1,h.o2.2⟩,⟨dE h.a1.1,h.a1.2⟩,⟨dE h.a2.1,h.a2.2⟩⟩
end
theorem br{c:Code}{P:Program}{Q:Exit->Act->World->Prop}{a:Act}{w:World}(h:∀W,W=w->c.wp P Q a W):c.wp P Q a w:=h w rfl
theorem Vv{w0:World}{s:Nat}{x2 x3 x4:Value}{b:Pb}{fp lH L L':List Nat}{w wr W:World}(hb:qs w0 s x2 x3 x4 b lH wr)(hk:ab fp lH w wr)(hw:w0.heap.size<=w)(hL:∀k∈L,w.heap.size<=k/\k∉lH)(hg:ab L L' wr W):qs w0 s x2 x3 x4 b lH W/\ab fp lH w W:=by
 have aB:=hb.lt;have eI:=hb.cW;refine ⟨?_,⟨hg.os.t hk.os,hg.tape.t hk.tape,hg.output.t hk.output,Nat.le_trans hk.size hg.size,λk h1 h2=>(hg.aq k (Nat.lt_of_lt_of_le h1 hk.size) (λhm=>by have:=(hL k hm).1;omega)).t (hk.aq k h1 h2),λk h=>hk.new k h⟩⟩
 obtain ⟨vs,vf,rows,sv,rfl,h⟩:=hb;refine ⟨vs,vf,rows,sv,rfl,h.same (λk ec=>hg.aq k (aB k ec).2 (λhm=>(hL k hm).2 ec)) ?_⟩;exact h.cW.t (hg.below (λk hm=>by have:=(hL k hm).1;omega) eI.size)
def zv(N3 B0:Nat)(W:World)(xm vh:Value)(l1 l2:List Nat)(ee:Bool):Nat->Nat->Value->World->Prop
 |c,0,x,w=>x=.pointer (Z N3 0)
 |c,1,x,w=>x=xm
 |c,2,x,w=>∃A c' r,x=.slice A r.length c'/\my l1 r/\w.ownsRow B0 3 1 x r.length (b9 r)
 |c,3,x,w=>x=.pointer (Z N3 1)
 |c,4,x,w=>x=vh
 |c,5,x,w=>∃A c' r,x=.slice A r.length c'/\my l2 r/\w.ownsRow B0 3 1 x r.length (b9 r)
 |c,6,x,w=>x=.pointer (Z N3 0)
 |c,7,x,w=>c=1->∃A c' r,my l1 r/\w.ownsRow B0 3 1 (.slice A r.length c') r.length (b9 r)/\w.heap[N3]?=some (.cells #[.slice A r.length c',vh,.bool ee] 56)/\ab [N3] [] W w
 |c,8,x,w=>x=.pointer (Z N3 1)
 |_,_,_,_=>True
theorem vi{N3 B0:Nat}{W:World}{xm vh:Value}{l1 l2:List Nat}{ee:Bool}{u u':World}(hb:Below u u u'){c j:Nat}{x:Value}(h:zv N3 B0 W xm vh l1 l2 ee c j x u):zv N3 B0 W xm vh l1 l2 ee c j x u':=by
 match j with
 |0|1|3|4|6|8=>exact h
 |2|5=>
  obtain ⟨A,c',r,e,hs,ho⟩:=h;exact ⟨A,c',r,e,hs,aR ho hb⟩
 |7=>
  intro hc;obtain ⟨A,c',r,hs,ho,hr,hk⟩:=h hc;exact ⟨A,c',r,hs,aR ho hb,(hb.block _ (γ hr).1).t hr,hk.t ⟨hb.os,hb.tape,hb.output,hb.size,λk hk _=>hb.block k hk,λk hk=>by cases hk⟩⟩
 |_+9=>exact trivial
theorem D5(w0:World)(s:Nat)(x2 x3 x4:Value)(rs:List (Nat×Nat))(kd:Nd)(mn mx:Int)(A1:Option Addr)(c1 g f c:Nat)(nQ:List Value)(hR:aF (.mk 4 rs [kd] mn mx)=true)(fH:aL (.mk 4 rs [kd] mn mx)<=600)
  (hg:g<w0) (hc:1<=c/\c<=9223372036854775807) (bU:bY w0 kd nQ) (nU:∀j,j<5->w0.cell? (Z g (f+j))=nQ[j]?) (hw:kP w0 s x2 x3 x4 kd nQ) (w:World) (b:Pb) (fp:List Nat) (K:Nat)
  (fY:qs w0 s x2 x3 x4 b fp w) (jh:b.sets.length=b.fol.length) (fW:b.fol.length+aL (.mk 4 rs [kd] mn mx)<=600) (hK:∀l∈b.fol,l.length<=K) (rT:K+dp (.mk 4 rs [kd] mn mx)<=10000000000) :
  Calls Tryz.prog 37 #[.pointer (Z s 0),.agg #[(4:Int),.slice A1 rs.length c1,.slice (Z g f) 1 c,.int .i64 mn,.int .i64 mx]] w (P5 w0 s x2 x3 x4 b fp (gN (.mk 4 rs [kd] mn mx)) (aL (.mk 4 rs [kd] mn mx)) (K+dp (.mk 4 rs [kd] mn mx)) w):=by
 obtain ⟨B1,e1,B2,e2,rfl,-,-,-⟩:=bU.form;obtain ⟨jE,xn⟩:=dD hR;have hle:=D6 hR rfl;obtain ⟨-,-,Kd,qd,sY⟩:(4:Int)=4/\[kd].length=1/\0<=mn/\1<=mx/\mx<=64:=by
  rcases jE with h|h|h|h
  .cases h
  .cases h
  .cases h
  .exact h
 obtain ⟨M,rfl⟩:=Int.eq_ofNat_of_zero_le (show 0<=mx by omega)
 obtain ⟨m,rfl⟩:=Int.eq_ofNat_of_zero_le Kd;have qe:aL (.mk 4 rs [kd] m M)=M*aL kd:=by rw[oU fH];simp[qS]
 have uJ:dp (.mk 4 rs [kd] m M)=M*(dp kd+360000):=by rw[dp,if_neg O,if_pos rfl];simp[Ql]
 rw[qe]at fH fW|-;rw[uJ]at rT|-;have sZ:∀z,dT (.mk 4 rs [kd] m M) z↔∃k,m<=k/\k<=M/\yN (dT kd) k z:=λz=>by
  simp only[dT,Tj];rw[if_neg O,if_neg O,if_neg O];constructor
  .rintro ⟨k,h1,h2,h3⟩;exact ⟨k,U,U,h3⟩
  .rintro ⟨k,h1,h2,h3⟩;exact ⟨k,U,U,h3⟩
 obtain ⟨N,hN⟩:∃N,N=w.heap.size:=⟨_,rfl⟩;have pV:=fY.lt;have sO:=fY.cW.size;have ahs:=Y fY;have aaD:=Y sZ;have aht:=Y (show nt m M 0 (gN kd).a=(gN (.mk 4 rs [kd] m M)).a by
  show _=sV (.mk 4 rs [kd] m M);rw[sV,if_neg O,if_neg O,if_neg O,kA (l:=[kd]) rfl,Int.toNat_natCast,Int.toNat_natCast];rfl)
 have HW:=Y hw;have Tk:=Y nU;have HK:=Y hK;have ZC:=Y pV;clear hR xn jE qe uJ sZ fY hw nU hK pV bU
 go_enter Tryz.func37,Tryz.ntmps37
 go_wp2_with fail;obtain ⟨j,hj⟩:∃j,j=max m 1:=⟨_,rfl⟩;have DZ:max (m:Int) 1=(j:Int):=U;have iI:1<=j:=U;have hjM:j<=M:=U;have wQ:1<=M:=U;have ahu:M<=64:=U;have HJ:=Y hj;obtain ⟨pk,lP⟩:=ν (aL kd);obtain ⟨cs,bH⟩:=ν (dp kd);rw[lP]at fH fW|-;rw[bH]at rT|-;have Di:=Y (I lP bH);have aqA:M*pk<=600:=fH;clear lP bH hj;go_loopw [11] (λiv wr=>∃(i:Nat) (bi:Pb) (cB:List Nat) (xo:cI) (dH dC:Value) (xa:cI) (xm vh:Value),i<=M/\iv=.int .i64 (i:Int)/\Hid (ji w0 s x2 x3 x4 fp w #[(4:Int),.slice A1 rs.length c1,.slice (Z g f) 1 c,.int .i64 m,.int .i64 M] bi cB xo dH dC xa xm vh wr)/\Hid (Ip b bi (gN kd) j i pk xo xa/\∀l∈bi.fol,l.length<=K+i*(cs+360000))) (λiv _=>M - (intOf iv).toNat)
 case atStart=>
  refine ⟨0,b,fp,⟨[],[],true⟩,.slice none 0 0,.slice none 0 0,⟨[],[],false⟩,.slice none 0 0,.slice none 0 0,U,rfl,?_,?_⟩
  .have hB:=(((((Below.refl w w).alloc V (.cells #[(4:Int),.slice A1 rs.length c1,.slice (Z g f) 1 c,.int .i64 m,.int .i64 M] 26)).alloc H (.cells #[(),(),.bool false] 56)).alloc (by simp <;> omega) (.cells #[(),(),.bool true] 56)).alloc (by simp <;> omega) (.cells #[(),(),.bool false] 56))
   have fP:∀(W:World) (fq:List Nat),IL W () []/\aO fq ():=λW fq=>⟨.inl ⟨rfl,rfl⟩,λg hg=>by simp[Value.ownBlock]at hg⟩
   refine ⟨ahs.later hB,ab.aj hB,λq hq=>.inl (ZC q hq).2,?_,?_,?_,?_,H,fP _ _,fP _ _,fP _ _,fP _ _⟩
   .rw[az _ _ _ (by simp <;> omega),az _ _ _ (by simp <;> omega),az _ _ _ H]; exact heap_alloc_new w _
   .rw[az _ _ _ (by simp <;> omega),az _ _ _ H]; simpa using heap_alloc_new (w.alloc _) _
   .rw[az _ _ _ H];simpa using heap_alloc_new ((w.alloc _).alloc _) _
   .simpa using heap_alloc_new (((w.alloc _).alloc _).alloc _) _
  .refine ⟨⟨Wr.nil b jh _,by rw[Nat.zero_mul,Nat.add_zero],⟨Nat.zero_le _,Nat.zero_le _⟩,⟨Nat.zero_le _,Nat.zero_le _⟩,.inl rfl,.inl iI⟩,λl hl=>by rw[Nat.zero_mul,Nat.add_zero];exact HK l hl⟩
 case round=>
  obtain ⟨i,bi,cB,xo,dH,dC,xa,xm,vh,hi,rfl,HM,HI⟩:=hrel;by_cases aB:i<M
  .have hd:decide ((i:Int)<(M:Int))=true:=τ;have dV:decide (i<M)=true:=decide_eq_true aB;obtain ⟨iP,rM,rfl,-⟩:=HM.o1.1.form;obtain ⟨iQ,rN,rfl,-⟩:=HM.o2.1.form;obtain ⟨Iq,Gh,rfl,-⟩:=HM.a1.1.form;obtain ⟨Ir,Gi,rfl,-⟩:=HM.a2.1.form;obtain ⟨eo,vj⟩:=ν xo.emp;have hbi:=HM.bu;have dN:xk cB wr 0 wr.drew:=⟨(ab.aj D.drew).gV,λ_=>D.drew⟩;have jn:=HM.sz;have l0:w.heap.size<wr:=U;have l2:w.heap.size+1+1<wr:=U;have n0:=cZ HM.o w V U;have n2:=cZ HM.o (w+1+1) U U;obtain ⟨b0,b1,b2,b3,b4⟩:=aD HM.n0;have gG:=HM.n2;rw[vj]at gG;obtain ⟨o0,o1,o2⟩:=aK gG;have OU:g∉cB:=λhm=>by have:=(hbi.lt g hm).1;omega
   have jm:g<wr:=by have:=hbi.cW.size;omega
   have nU:=λ(wz:World) (h:wz.heap[g]?=wr.heap[g]?)=>(λj (hj:j<5)=>(χ g (f+j) (h.t (hbi.cW.block g hg))).t (Tk j hj));have ahv:=Y (show ∀wz:World,wz.heap[g]?=wr.heap[g]?->wz.cell? (Z g f)=some (.int .i64 kd.op)/\wz.cell? (Z g (f+1))=some (.slice B1 kd.rs.length e1)/\wz.cell? (Z g (f+2))=some (.slice B2 kd.kids.length e2)/\wz.cell? (Z g (f+3))=some (.int .i64 kd.mn)/\wz.cell? (Z g (f+4))=some (.int .i64 kd.mx) from
    λwz h=>⟨nU wz h 0 U,nU wz h 1 U,nU wz h 2 U,nU wz h 3 U,nU wz h 4 U⟩)
   have Bk:=Y hbi;have yc:=Y (I HM.o1.1 (I HM.o1.2 (I HM.o2.1 HM.o2.2)));have qw:=HI.1;have hlen:=qw.1.len;have LY:i*pk+pk<=M*pk:=by have:=Nat.mul_le_mul_right pk aB;rwa [Nat.succ_mul]at this
   have nO:=qw.2.1;have dG:bi.fol.length+aL kd<=600:=by rw[Di.1,nO];omega
   have pU:∀p∈xo.last,p<bi.fol.length:=λp hp=>(qw.1.bP.iW p hp).2;have tD:=qw.2.2.1;obtain ⟨K0,sa⟩:∃K0,K0=K+i*(cs+360000):=⟨_,rfl⟩;have hKi:i*(cs+360000)+(cs+360000)<=M*(cs+360000):=by have:=Nat.mul_le_mul_right (cs+360000) aB;rwa [Nat.succ_mul]at this
   have Qm:K0+dp kd<=10000000000:=by rw[Di.2];omega
   have HKB:=Y (show ∀l∈bi.fol,l.length<=K0 from λl hl=>by rw[sa];exact HI.2 l hl)
   have OG:=Y pU;have px:=Y tD;have BQ:=Y vj;have Hz:=Y HW.o;have sd:pk<=600:=U;have Qn:aL kd<=600:=by rw[Di.1];exact sd
   have LZ:=Y sa;have JW:=Y nO;have di:=Y (I dG hlen);clear hbi nU qw nO pU tD sa vj gG;go_wp2_with fail;refine ay 9 [7,8] (Vt w0 s x2 x3 x4 bi cB (gN kd) (aL kd) (K0+dp kd) wr w g f c (.slice iP xo.first.length rM) (.slice iQ xo.last.length rN) eo (.agg #[.int .i64 kd.op,.slice B1 kd.rs.length e1,.slice B2 kd.kids.length e2,.int .i64 kd.mn,.int .i64 kd.mx]) xo) (λc w'=>xk cB wr c w') R R R R R R O dN ?_ ?_
   .simp only[ck,ct];refine aa.pure O ?_ (aa.pure O ?_ (aa.pure O ?_ (aa.pure O ?_ (aa.pure O ?_ (aa.pure O ?_ (aa.pure O ?_ (aa.jg 0 rfl ?_ (aa.jg 1 rfl ?_ (aa.nil)))))))))
    all_goals first | (intro v wz c bX hS hE K hK;simp only[ah,Act.put,dk,dm,dn,Nat.zero_add,Nat.reduceAdd,ck,ct]at hK|-) | (intro v wz hS hE K hK;simp only[ah,Act.put,dk,dm,dn,Nat.zero_add,Nat.reduceAdd,ck,ct]at hK|-)
    .exact ζ
    .have cx0:=(χ (w+1+1) 0 (hS.1.aq (w+1+1) l2 n2)).t o0;have Gj:=(χ (w+1+1) 1 (hS.1.aq (w+1+1) l2 n2)).t o1;have cx2:=(χ (w+1+1) 2 (hS.1.aq (w+1+1) l2 n2)).t o2;exact ζ
    .exact ζ
    .exact ζ
    .have e3:v 3=_:=hE.1 rfl;rw[e3]at hK|-;have cn2:=(χ w 2 (hS.1.aq w l0 n0)).t b2;exact ζ
    .have e4:v 4=_:=hE.1 rfl;rw[e4]at hK|-;exact ζ
    .have e5:v 5=_:=hE.1 rfl;rw[e5]at hK|-;obtain ⟨k0,k1,k2,k3,k4⟩:=ahv wz (hS.1.aq g jm OU);exact ζ
    .have e2:v 2=_:=hE.1 rfl;have e6:v 6=_:=hE.2.1 rfl;rw[e2,e6]at hK|-;have hz:=hS.2 rfl;have aG:=Hz wz bi cB K0 (Bk.later hz) di.2 di.1 HKB.o Qm;have HC:=Y aG;have HX:=Y hS;clear hS hE aG;go_wp2_with fail;refine HC.mono ?_;rintro e wy ⟨b',y,fp',v1,v2,rfl,iK,ec,fs,ek,cR,dU,eV,df,gz⟩;have HP:=Y (I iK (I ec (I fs (I ek (I cR (I dU (I eV (I df gz))))))));clear iK ec fs ek cR dU eV df gz;go_wp2_with fail;refine hK.out _ _ (λj z hj h=>?_) ⟨((ab.aj (HX.2 rfl)).t HP.2.1).gV,λh=>by cases h⟩ (λ_=>⟨b',y,fp',v1,v2,rfl,HP.1,(ab.aj (HX.2 rfl)).t HP.2.1,HP.2.2.1,HP.2.2.2.1,HP.2.2.2.2.1,HP.2.2.2.2.2.1,HP.2.2.2.2.2.2.1,HP.2.2.2.2.2.2.2.1,HP.2.2.2.2.2.2.2.2⟩)
     match j with
     |0|1|2|3|4|5|6=>exact h
     |7=>exact absurd rfl hj
     |8=>exact λh=>by cases h
     |_+9=>exact trivial
    .have e0:v 0=_:=hE.1 rfl;have e1:v 1=_:=hE.2.1 rfl;rw[e0,e1]at hK|-;have E7:=hE.2.2.1 rfl;obtain ⟨b',y,fp',v1,v2,ev,iK,ec,fs,ek,cR,dU,eV,df,gz⟩:=E7 rfl;injection ev with ev;rw[ev]at hK|-;have i1:=yc.1.keep yc.2.1 ec;have i2:=yc.2.2.1.keep yc.2.2.2 ec;have pU:∀p∈xo.last,p<b'.fol.length:=λp hp=>by have:=OG p hp;omega
     have aG:=uG w0 s x2 x3 x4 b' fp' wz xo y _ _ v1 v2 _ iK i1.1 i1.2 i2.1 i2.2 fs.1 fs.2 ek.1 ek.2 eV.1 eV.2 pU (by have:=px.o;omega) (by have:=px.o;omega) U U gz U
     rw[BQ.o]at aG;have HC:=Y aG;have HX:=Y hS;have HP:=Y (I iK (I ec (I cR (I dU (I eV (I df gz))))));clear hS hE aG iK ec fs ek cR dU eV df gz i1 i2 pU E7 ev;go_wp2_with fail;refine HC.mono ?_;rintro e wy ⟨gd,u1,u2,rfl,aS,bE,j1,j2,j3,j4⟩;have HQ:=Y (I aS (I bE (I j1 (I j2 (I j3 j4)))));clear aS bE j1 j2 j3 j4;go_wp2_with fail;refine hK.out _ _ (λj z hj h=>?_) ⟨(HP.2.1.t HQ.2.1).gV,λh=>by cases h⟩ (λ_=>⟨b',y,gd,u1,u2,rfl,HQ.1,HP.2.1.t HQ.2.1,⟨HQ.2.2.1,HQ.2.2.2.1⟩,⟨HQ.2.2.2.2.1,HQ.2.2.2.2.2⟩,HP.2.2.1,HP.2.2.2.1,HP.2.2.2.2.1,HP.2.2.2.2.2.1,HP.2.2.2.2.2.2⟩)
     match j with
     |0|1|2|3|4|5|6=>exact h
     |7=>exact λh=>by cases h
     |8=>exact absurd rfl hj
     |_+9=>exact trivial
   .intro v wz hS hF;have e0:v 0=_:=hF 0 O;have e1:v 1=_:=hF 1 O;have e2:v 2=_:=hF 2 O;have e3:v 3=_:=hF 3 O;have e4:v 4=_:=hF 4 O;have e5:v 5=_:=hF 5 O;have e6:v 6=_:=hF 6 O;have E7:=hF 7 O;have E8:=hF 8 O;simp only[ah,Act.put,dk,dm,dn,Nat.zero_add,Nat.reduceAdd,ck,ct,List.drop_succ_cons,List.drop_zero,e0,e1,e2,e3,e4,e5,e6];clear hF e0 e1 e2 e3 e4 e5 e6;obtain ⟨b',y,gd,u1,u2,ev,aS,bE,kk,mH,BR,dU,eV,df,gz⟩:=E8 rfl;rw[ev];obtain ⟨Qo,Ke,rfl,L3⟩:=kk.1.form;obtain ⟨Qp,L4,rfl,L5⟩:=mH.1.form;have fT:w0.heap.size<=w:=sO;have wQ:=HM.o.out (x':=bD xo y) aS bE kk mH fT;have tI:=Y wQ;have iR:=HI.1.step BR (by rw[dU,Di.1]) eV (by rw[Di.1]at df;exact df) iI
    have rO:∀l∈(cO b' xo y).fol,l.length<=K+(i+1)*(cs+360000):=λl hl=>by
     have h1:=qF y.first xo.last b'.fol _ gz l hl;have h2:xo.last.length*y.first.length<=600*600:=Nat.mul_le_mul (by have:=px.o;omega) U
     have h3:=LZ.o;have h4:=Di.2;have h5:(i+1)*(cs+360000)=i*(cs+360000)+(cs+360000):=Nat.succ_mul _ _;omega
    have j8:=Y (I iR rO);obtain ⟨X,hX⟩:=ν (bD xo y);obtain ⟨B',hB'⟩:=ν (cO b' xo y);rw[hX,hB']at tI j8;rw[hX]at L3 L5|-;have hXl:X.first.length<=600/\X.last.length<=600:=by
     have h1:(i+1)*pk<=M*pk:=Nat.mul_le_mul_right _ aB;rcases Nat.lt_trichotomy (i+1) j with h|h|h
     .have:=(j8.1.1 h).2.2.1;omega
     .have:=(j8.1.2.1 h).2.2.1;omega
     .have:=(j8.1.2.2 h).1.2.2.1;omega
    have dY:=(bE.aq _ l0 n0).t HM.n0;have cT:=(bE.aq _ l2 n2).t HM.n2;have sQ:=(bE.aq _ U (cZ HM.o (w+1+1+1) U U)).t HM.n3;obtain ⟨z0,z1,z2,z3,z4⟩:=aD dY;obtain ⟨q0,q1,q2⟩:=aK cT;obtain ⟨t0,t1,t2⟩:=aK sQ;have f0:wz.frozen? (Z (w+1+1) 0)=false:=Ψ cT
    have f1:wz.frozen? (Z (w+1+1) 1)=false:=Ψ cT
    have f2:wz.frozen? (Z (w+1+1) 2)=false:=Ψ cT
    have g0:wz.frozen? (Z (w+1+1+1) 0)=false:=Ψ sQ
    have g1:wz.frozen? (Z (w+1+1+1) 1)=false:=Ψ sQ
    have g2:wz.frozen? (Z (w+1+1+1) 2)=false:=Ψ sQ
    clear hS E7 E8 ev aS bE kk mH BR dU eV df gz wQ iR rO dY cT sQ b0 b1 b2 b3 b4 o0 o1 o2 hX hB' dN;rcases Nat.lt_trichotomy (i+1) j with Qq|Qq|Qq
    .have d1:((i:Int)+1 == (j:Int))=false:=ψ;have d2:decide ((m:Int)<(i:Int)+1)=false:=decide_eq_false (by have:=HJ.o;omega)
     have Yy:=Y Qq;clear Qq;go_wp2_with fail;go_roundw
     case rel=>
      exact ⟨i+1,_,_,_,_,_,_,_,_,U,by go_num,tI,⟨j8.1.1 Yy.o,j8.2⟩⟩
     case measure=>exact μ
    .have d1:((i:Int)+1 == (j:Int))=true:=ψ;have Yy:=Y Qq;have Kf:=tI.all tI.o1 tI.o2 fT;have Gk:=Y Kf;clear Qq Kf;go_wp2_with fail;go_roundw
     case rel=>
      exact ⟨i+1,_,_,_,_,_,_,_,_,U,by go_num,Gk,⟨j8.1.2.1 Yy.o,j8.2⟩⟩
     case measure=>exact μ
    .have d1:((i:Int)+1 == (j:Int))=false:=ψ;have d2:decide ((m:Int)<(i:Int)+1)=true:=decide_eq_true (by have:=HJ.o;omega)
     have hS3:=j8.1.2.2 Qq;have L6:xa.first.length<=10000000/\xa.last.length<=10000000:=by
      have h1:=HI.1.2.2.2.1;have h2:i*(i*pk)<=64*(64*600):=Nat.mul_le_mul U (Nat.mul_le_mul U sd);omega
     have Qr:X.first≠[]/\X.last≠[]:=hS3.1.2.2.2.2.1.resolve_left U;have aG:∀W,W=rL wz (w+1+1) (.slice Qo X.first.length Ke) (.slice Qp X.last.length L4) (.bool X.emp)->Calls Tryz.prog 36 #[.agg #[.slice Iq xa.first.length Gh,.slice Ir xa.last.length Gi,.bool xa.emp],.agg #[.slice Qo X.first.length Ke,.slice Qp X.last.length L4,.bool X.emp]] W _:=λW h=>by
      subst h;exact vk xa.first xa.last X.first X.last xa.emp X.emp _ _ _ _ _ tI.a1.1 tI.a2.1 tI.o1.1 tI.o2.1 Qr.1 Qr.2 L6.1 L6.2 U U
     have nJ:=Y aG;have HS3:=Y hS3;have Yy:=Y Qq;have HXN:=Y Qr;clear Qq hS3 aG Qr;go_wp2_with fail;refine (nJ _ rfl).mono ?_;rintro e w2 ⟨v1,v2,rfl,xh,uS,bT⟩;have Kf:=tI.later bT;obtain ⟨Av1,cv1,rfl,-,-⟩:=ae xh;obtain ⟨Uw,Ux,rfl,-,-⟩:=ae uS;have hfq:∀q∈gd,q<(rL wz (w+1+1) (.slice Qo X.first.length Ke) (.slice Qp X.last.length L4) (.bool X.emp)).heap.size:=λq hq=>(tI.bu.lt q hq).2;have hM3:=Kf.all (x':=kK xa X) ⟨IL.ia xh (λ_ h=>HXN.1 (List.append_eq_nil_iff.1 h).2),λq hq hm=>by have:=(xh.lt q hq).1;have:=hfq q hm;omega⟩ ⟨IL.ia uS (λ_ h=>HXN.2 (List.append_eq_nil_iff.1 h).2),λq hq hm=>by have:=(uS.lt q hq).1;have:=hfq q hm;omega⟩ fT
     have HM3:=Y hM3;obtain ⟨t0',t1',t2'⟩:=aK Kf.n3;have g0':w2.frozen? (Z (w+1+1+1) 0)=false:=Ψ Kf.n3
     have g1':w2.frozen? (Z (w+1+1+1) 1)=false:=Ψ Kf.n3
     have g2':w2.frozen? (Z (w+1+1+1) 2)=false:=Ψ Kf.n3
     clear xh uS bT Kf hM3 hfq t0 t1 t2 g0 g1 g2 q0 q1 q2 f0 f1 f2 z0 z1 z2 z3 z4;go_wp2_with fail;go_roundw
     case rel=>
      exact ⟨i+1,_,_,_,_,_,_,_,_,U,by go_num,HM3,⟨HS3.1,j8.2⟩⟩
     case measure=>exact μ
  .obtain rfl:i=M:=U;obtain ⟨iP,rM,rfl,-⟩:=HM.o1.1.form;obtain ⟨iQ,rN,rfl,-⟩:=HM.o2.1.form;obtain ⟨Iq,Gh,rfl,-⟩:=HM.a1.1.form;obtain ⟨Ir,Gi,rfl,-⟩:=HM.a2.1.form;obtain ⟨b0,b1,b2,b3,b4⟩:=aD HM.n0;obtain ⟨t0,t1,t2⟩:=aK HM.n3;obtain ⟨r0,r1,r2⟩:=aK HM.n1;have g2:wr.frozen? (Z (w+1+1+1) 2)=false:=Ψ HM.n3
   have fT:w0.heap.size<=w:=sO;have Tl:=HI.1.2.2.2.2.2.resolve_left U;have L6:xa.first.length<=10000000/\xa.last.length<=10000000:=by
    have h1:=HI.1.2.2.2.1;have h2:i*(i*pk)<=64*600:=Nat.mul_le_mul U U;omega
   have HXR:=Y (I Tl L6);obtain ⟨ea,hea⟩:=ν xa.emp;rw[hea]at t2;have HEA:=Y hea;clear Tl L6 hea;have uD:∀W,ji w0 s x2 x3 x4 fp w #[(4:Int),.slice A1 rs.length c1,.slice (Z g f) 1 c,.int .i64 m,.int .i64 i] bi cB xo (.slice iP xo.first.length rM) (.slice iQ xo.last.length rN) ⟨xa.first,xa.last,(xa.emp || m == 0)⟩ (.slice Iq xa.first.length Gh) (.slice Ir xa.last.length Gi) W->w.heap.size+1+1+1<W/\w.heap.size+1<W:=λW h=>by have:=h.sz;omega
   have HPO:=Y uD;have J8:∀(e:Bool) (W:World),(xa.emp || m == 0)=e->W=wr.setCell (Z (w+1+1+1) 2) (.bool e)->ji w0 s x2 x3 x4 fp w #[(4:Int),.slice A1 rs.length c1,.slice (Z g f) 1 c,.int .i64 m,.int .i64 i] bi cB xo (.slice iP xo.first.length rM) (.slice iQ xo.last.length rN) ⟨xa.first,xa.last,(xa.emp || m == 0)⟩ (.slice Iq xa.first.length Gh) (.slice Ir xa.last.length Gi) W:=λe W h1 h2=>by
    subst h1 h2;exact HM.emp _ fT
   have HE:=Y J8;clear uD J8;obtain ⟨q,d1⟩:∃q,((m:Int) == 0)=q:=⟨_,rfl⟩;have hq:(xa.emp || m == 0)=(ea || q):=by
    rw[HEA.o,<-d1]
    congr 1
    rw[Bool.eq_iff_iff];simp
   have HQ:=Y hq;clear hq
   cases ea <;> cases q
   all_goals
    go_wp2_with fail;refine br λW hW=>?_;have hM:=HE _ W HQ.o hW;obtain ⟨l3,l1⟩:=HPO W hM;obtain ⟨q0,q1,q2⟩:=aK hM.n3;obtain ⟨SO,SP,SQ⟩:=aK hM.n1;clear hW t0 t1 t2 r0 r1 r2 b0 b1 b2 b3 b4 g2;have t0:=q0;have t1:=q1;have Ga:=Y hM;have HIA:=Y (show IL W (.slice Iq xa.first.length Gh) xa.first/\IL W (.slice Ir xa.last.length Gi) xa.last from ⟨hM.a1.1,hM.a2.1⟩);have ahB:=Y HIA.1;have ahC:=Y HIA.2;have HXA:=Y HXR.2;have HN3:=Y hM.n3;have dN:(0=0->Below W W W.drew):=λ_=>D.drew;clear hM q0 q1 q2;refine ay 9 [7] (zv (w+1+1+1) W W (.slice Iq xa.first.length Gh) (.slice Ir xa.last.length Gi) xa.first xa.last (xa.emp || m == 0)) (λc w'=>c=0->Below W W w') R R R R R R O dN ?_ ?_
    .simp only[ck,ct];refine aa.pure O ?_ (aa.pure O ?_ (aa.gp O ?_ (aa.pure O ?_ (aa.pure O ?_ (aa.gp O ?_ (aa.pure O ?_ (aa.jg 0 rfl ?_ (aa.pure O ?_ (aa.nil)))))))))
     all_goals first | (intro v wz c bX hS hE K hK;simp only[ah,Act.put,dk,dm,dn,Nat.zero_add,Nat.reduceAdd,ck,ct]at hK|-) | (intro v wz hS hE K hK;simp only[ah,Act.put,dk,dm,dn,Nat.zero_add,Nat.reduceAdd,ck,ct]at hK|-)
     .exact ζ
     .have e0:v 0=_:=hE.1 rfl;rw[e0]at hK|-;have tJ:c=0:=Nat.le_zero.1 (bX 0 R);subst tJ;have hz:=hS rfl;have c1:=(hz.cl (w+1+1+1) 0 l3).t t0;clear hz;exact ζ
     .have e1:v 1=_:=hE.1 rfl;rw[e1]at hK|-;have tJ:c=0:=Nat.le_zero.1 (bX 0 R);subst tJ;have hz:=hS rfl;have aG:=jR _ xa.first wz (ahB.later hz) (by have:=HXA.o;omega)
      have HC:=Y aG;have HX:=Y hz;clear hS hE bX aG hz;go_wp2_with fail;refine HC.mono ?_;rintro e w1 ⟨v1,r,rfl,nT,ao,-,hb⟩;have cC:w1.ownsRow W 3 1 v1 _ _:=ao.lQ HX.size;obtain ⟨A',c',rfl,-,-⟩:=ae cC;have HO:=Y cC;have HB:=Y hb;have Ut:=Y nT;clear ao cC hb nT;go_wp2_with fail;exact hK.out _ _ (λj y _ h=>vi HB.o h) (λ_=>HX.t (HB.mono HX.size)) ⟨A',c',r,rfl,Ut.o,HO.o⟩
     .exact ζ
     .have e3:v 3=_:=hE.1 rfl;rw[e3]at hK|-;have tJ:c=0:=Nat.le_zero.1 (bX 0 R);subst tJ;have hz:=hS rfl;have c1:=(hz.cl (w+1+1+1) 1 l3).t t1;clear hz;exact ζ
     .have e4:v 4=_:=hE.1 rfl;rw[e4]at hK|-;have tJ:c=0:=Nat.le_zero.1 (bX 0 R);subst tJ;have hz:=hS rfl;have aG:=jR _ xa.last wz (ahC.later hz) (by have:=HXA.o;omega)
      have HC:=Y aG;have HX:=Y hz;clear hS hE bX aG hz;go_wp2_with fail;refine HC.mono ?_;rintro e w1 ⟨v1,r,rfl,nT,ao,-,hb⟩;have cC:w1.ownsRow W 3 1 v1 _ _:=ao.lQ HX.size;obtain ⟨A',c',rfl,-,-⟩:=ae cC;have HO:=Y cC;have HB:=Y hb;have Ut:=Y nT;clear ao cC hb nT;go_wp2_with fail;exact hK.out _ _ (λj y _ h=>vi HB.o h) (λ_=>HX.t (HB.mono HX.size)) ⟨A',c',r,rfl,Ut.o,HO.o⟩
     .exact ζ
     .have e6:v 6=_:=hE.1 rfl;rw[e6]at hK|-;have E2:=hE.2.1 rfl;obtain ⟨A,c',r,ev,nT,ho⟩:=E2;rw[ev]at hK ho|-;have hz:=hS rfl;have ud:=(hz.block _ l3).t HN3.o;obtain ⟨c0',ka,qt⟩:=aK ud;have fz:wz.frozen? (Z (w+1+1+1) 0)=false:=Ψ ud
      have HO:=Y ho;have HX:=Y hz;have HR:=Y ud;have Ut:=Y nT;clear hS hE hz ho ud nT ev;go_wp2_with fail;have aH:∀k,k≠w.heap.size+1+1+1->(wz.setCell (Z (w+1+1+1) 0) (.slice A r.length c')).heap[k]?=wz.heap[k]?:=λk hk=>Below.heap_setCell _ _ _ _ hk;have hoo:∀{v:Value} {n:Nat} {xs:List Value},wz.ownsRow W 3 1 v n xs->(wz.setCell (Z (w+1+1+1) 0) (.slice A r.length c')).ownsRow W 3 1 v n xs:=λh=>ar h λg hg=>aH g (by have:=(h.lt g hg).1;omega)
      refine hK.out undef _ (λj z hj h=>?_) (λh=>by cases h) (λ_=>⟨A,c',r,Ut.o,hoo HO.o,by have:=aE HR.o 0 (.slice A r.length c');simpa using this,?_⟩)
      .match j with
       |0|1|3|4|6|8=>exact h
       |2|5=>
        obtain ⟨A1',ZI,r1,e,hs,ho⟩:=h;exact ⟨A1',ZI,r1,e,hs,hoo ho⟩
       |7=>exact absurd rfl hj
       |_+9=>exact trivial
      .exact ⟨HX.os,HX.tape,HX.output,by simpa [World.setCell] using HX.size,λk hk hn=>(aH k (λe=>hn (by rw[e];simp))).t (HX.block k hk),λk hk=>by cases hk⟩
     .exact ζ
    .intro v wz hS hF;have e0:v 0=_:=hF 0 O;have e1:v 1=_:=hF 1 O;have e3:v 3=_:=hF 3 O;have e4:v 4=_:=hF 4 O;have e6:v 6=_:=hF 6 O;have e8:v 8=_:=hF 8 O;have E2:=hF 2 O;have E5:=hF 5 O;have E7:=hF 7 O;simp only[ah,Act.put,dk,dm,dn,Nat.zero_add,Nat.reduceAdd,ck,ct,List.drop_succ_cons,List.drop_zero,e0,e1,e3,e4,e6,e8];clear hF e0 e1 e3 e4 e6 e8;obtain ⟨A7,c7,r1,aaI,xh,aC,jr⟩:=E7 rfl;obtain ⟨A5,c5,r2,ev5,aaJ,uS⟩:=E5;rw[ev5]at uS|-;obtain ⟨z0,z1,z2⟩:=aK aC;have fz0:wz.frozen? (Z (w+1+1+1) 0)=false:=Ψ aC
     have Qs:wz.frozen? (Z (w+1+1+1) 1)=false:=Ψ aC
     have qT:=(jr.aq _ l1 H).t Ga.n1;obtain ⟨y0,y1,y2⟩:=aK qT;have vl:wz.frozen? (Z (w+1) 0)=false:=Ψ qT
     have ug:wz.frozen? (Z (w+1) 1)=false:=Ψ qT
     have xp:wz.frozen? (Z (w+1) 2)=false:=Ψ qT
     have HZ:=Y (I aaI (I xh (I aaJ (I uS (I aC jr)))));clear hS E2 E7 ev5 aaI xh aaJ uS aC jr qT;go_wp2_with fail;refine au λWf bG=>?_;have L7:ab [w.heap.size+1+1+1,w.heap.size+1] [w.heap.size+1+1+1,w.heap.size+1] wz Wf:=by
      rw[bG];repeat (first|exact ab.refl _ _|refine lD ?_ _|refine og ?_ H _|refine qG ?_)
     have ahF:ab [w.heap.size+1+1+1,w.heap.size+1] [] W Wf:=by
      have h1:=HZ.2.2.2.2.2;exact ⟨L7.os.t h1.os,L7.tape.t h1.tape,L7.output.t h1.output,Nat.le_trans h1.size L7.size,λk hk hn=>(L7.aq k (Nat.lt_of_lt_of_le hk h1.size) hn).t (h1.aq k hk (λhm=>hn (by simp at hm;simp[hm]))),λk hk=>by cases hk⟩
     obtain ⟨q1,q2⟩:=Vv Ga.bu Ga.kf fT (λk hk=>by
      simp at hk;exact ⟨U,cZ Ga.o k U U⟩) ahF
     refine bodyPost_ret (v:=.agg #[.slice A7 r1.length c7,.slice A5 r2.length c5,.bool (xa.emp || m == 0)]) (by rw[bG];simp[results,Tryz.results37,go_sem,y0,y1,y2,z0,z1,z2,l1,l3];try rfl) rfl ?_
     have ao:∀{v:Value} {n:Nat} {l:List Nat},wz.ownsRow W 3 1 v n (b9 l)->l≠[]->IL Wf v l/\aO cB v:=λ{v n l} h hl=>by
      have jn:=Ga.sz;refine ⟨(IL.keep (IL.ia h λ_=>hl) (λg hg hm=>?_) L7).1,λg hg hm=>?_⟩
      .have:=(h.lt g hg).1;simp at hm;omega
      .have:=(h.lt g hg).1;have:=(Ga.bu.lt g hm).2;omega
     have qw:=HI.1;have Tl:=HXR.1;have OZ:=HZ.1;have hsB:=HZ.2.2.1;have Px:r1≠[]:=λe=>by
      cases hf:xa.first with
      |nil=>exact Tl.2.1 hf
      |cons p l=>have:=(OZ.2 p).2 (by rw[hf];simp);rw[e]at this;cases this
     have uw:r2≠[]:=λe=>by
      cases hf:xa.last with
      |nil=>exact Tl.2.2 hf
      |cons p l=>have:=(hsB.2 p).2 (by rw[hf];simp);rw[e]at this;cases this
     have nO:=qw.2.1;have DF:r1.length<=i*pk:=mD (a:=b.fol.length) OZ.1 λp hp=>by
      have:=qw.1.bP.fst p (Tl.1.fst p ((OZ.2 p).1 hp));omega
     have Qt:r2.length<=i*pk:=mD (a:=b.fol.length) hsB.1 λp hp=>by
      have:=Tl.1.iW p ((hsB.2 p).1 hp);omega
     have L8:=Tl.1.done ⟨r1,r2,(xa.emp || m == 0)⟩ OZ.2 hsB.2 m HJ.o U rfl;obtain ⟨i1,o1⟩:=ao HZ.2.1 Px;obtain ⟨i2,o2⟩:=ao HZ.2.2.2.1 uw;refine ⟨bi,⟨r1,r2,(xa.emp || m == 0)⟩,cB,_,_,rfl,q1,q2,⟨i1,o1⟩,⟨i2,o2⟩,L8.iff (λz=>(aaD z).symm) aht.o,by rw[Di.1];exact nO,⟨Px,uw⟩,by rw[Di.1];exact ⟨DF,Qt⟩,by rw[Di.2];exact HI.2⟩
theorem FJ:(Tryz.prog.info? 23).map (λi=>(i.zero,i.size,i.bytes))=some (some (.slice none 0 0),1,24):=R
theorem tR:(Tryz.prog.info? 22).map (λi=>(i.zero,i.size,i.bytes))=some (some (.slice none 0 0),1,24):=R
def aT(v' v:Value)(N:Nat):Prop:=v'.ownBlock=v.ownBlock\/∃g,v'.ownBlock=some g/\N<=g
theorem AY.Ds{w0:World}{s:Nat}{x2 x3 x4:Value}{b:Pb}{vs vf:Value}{rows sv:List Value}{w w':World}(h:AY w0 s x2 x3 x4 b vs vf rows sv w){AZ Ba rv:Value}{rs:List (Nat×Nat)}
  (bH:w'.heap[s]?=some (.cells #[AZ,Ba,x2,x3,x4] 54)) (xL:w'.ownsRow w0 23 1 AZ (b.sets.length+1) (sv++[rv])) (Pt:w'.ownsRow w0 22 1 Ba (b.fol.length+1) (rows++[.slice none 0 0]))
  (Pu:aT AZ vs w) (Zo:aT Ba vf w) (bf:∀g,AZ.ownBlock=some g->Ba.ownBlock≠some g) (hk:ab (s::(aq vs++aq vf)) [] w w') (rJ:gD w0 rv rs/\ep rs=true) :
  AY w0 s x2 x3 x4 ⟨b.sets++[rs],b.fol++[[]]⟩ AZ Ba (rows++[.slice none 0 0]) (sv++[rv]) w'/\ab (kY s vs vf rows) (kY s AZ Ba (rows++[.slice none 0 0])) w w':=by
 have aB:=h.lt;have aY:=h.nd;rw[List.nodup_cons,List.nodup_append]at aY;obtain ⟨n1,n2,n3,n4⟩:=aY;rw[List.nodup_append]at n3;obtain ⟨n5,n6,n7⟩:=n3;have iy:rows.length=b.fol.length:=by have:=h.fol.1;omega
 have eP:sv.length=b.sets.length:=by have:=h.sets.1;omega
 have fP:aq (Value.slice none 0 0)=[]:=rfl;have SE:(rows++[Value.slice none 0 0]).flatMap aq=rows.flatMap aq:=by simp[List.flatMap_append,fP]
 have hS:∀g∈aq AZ,g∈aq vs\/w.heap.size<=g:=λg hg=>Pu.elim (λe=>.inl (by unfold aq at hg|-;rw[<-e];exact hg)) λ⟨g',e,h2⟩=>.inr (by unfold aq at hg;rw[e]at hg;simp at hg;omega)
 have hF:∀g∈aq Ba,g∈aq vf\/w.heap.size<=g:=λg hg=>Zo.elim (λe=>.inl (by unfold aq at hg|-;rw[<-e];exact hg)) λ⟨g',e,h2⟩=>.inr (by unfold aq at hg;rw[e]at hg;simp at hg;omega)
 have lS:∀g∈aq vs,g<w.heap.size:=λg hg=>(aB g (by unfold kY;simp[hg])).2
 have lF:∀g∈aq vf,g<w.heap.size:=λg hg=>(aB g (by unfold kY;simp[hg])).2
 have lR:∀g∈rows.flatMap aq,g<w.heap.size:=λg hg=>(aB g (by unfold kY;simp only[List.mem_cons,List.mem_append];exact .inr (.inr (.inr hg)))).2
 have ls:s<w:=(aB s (by simp[kY])).2
 have jC:ab (kY s vs vf rows) (kY s AZ Ba (rows++[.slice none 0 0])) w w':=by
  refine ⟨hk.os,hk.tape,hk.output,hk.size,λk h1 h2=>hk.aq k h1 λhm=>h2 ?_,λk hm=>?_⟩
  .unfold kY;simp only[List.mem_cons,List.mem_append]at hm|-;rcases hm with hm|hm|hm
   .exact .inl hm
   .exact .inr (.inl hm)
   .exact .inr (.inr (.inl hm))
  .unfold kY at hm|-;rw[SE]at hm;simp only[List.mem_cons,List.mem_append]at hm|-;rcases hm with hm|hm|hm|hm
   .exact .inl (.inl hm)
   .exact (hS k hm).imp (λh=>.inr (.inl h)) id
   .exact (hF k hm).imp (λh=>.inr (.inr (.inl h))) id
   .exact .inl (.inr (.inr (.inr hm)))
 refine ⟨⟨?_,h.hs,bH,by simpa using xL,λi hi=>?_,by simpa using Pt,λi hi=>?_,h.cW.t (jC.below (λk hk=>(aB k hk).1) h.cW.size)⟩,jC⟩
 .rw[SE,List.nodup_cons,List.nodup_append,List.nodup_append];refine ⟨λhm=>?_,?_,⟨?_,n6,λx hx y hy=>?_⟩,λx hx y hy=>?_⟩
  .rcases List.mem_append.1 hm with hm|hm
   .rcases hS s hm with h1|h1
    .exact n1 (List.mem_append_left _ h1)
    .omega
   .rcases List.mem_append.1 hm with hm|hm
    .rcases hF s hm with h1|h1
     .exact n1 (List.mem_append_right _ (List.mem_append_left _ h1))
     .omega
    .exact n1 (List.mem_append_right _ (List.mem_append_right _ hm))
  .unfold aq; cases AZ.ownBlock <;> simp
  .unfold aq; cases Ba.ownBlock <;> simp
  .rcases hF x hx with h1|h1
   .exact n7 x h1 y hy
   .have:=lR y hy;omega
  .rcases List.mem_append.1 hy with hy|hy
   .exact λe=>bf x (af.1 hx) (by rw[e];exact af.1 hy)
   .rcases hS x hx with h1|h1
    .exact n4 x h1 y (List.mem_append_right _ hy)
    .have:=lR y hy;omega
 .by_cases pe:i<b.sets.length
  .obtain ⟨v,v1,v2⟩:=h.tB i pe;refine ⟨v,by rw[List.getElem?_append_left U];exact v1,?_⟩
   simp only[List.getElem_append_left pe];exact v2
  .simp only[List.length_append,List.length_cons,List.length_nil]at hi;have nY:i=b.sets.length:=U;subst nY;refine ⟨rv,by rw[List.getElem?_append_right U,eP];simp,?_⟩
   simp only[List.getElem_append_right V,Nat.sub_self,List.getElem_cons_zero];exact rJ
 .by_cases pe:i<b.fol.length
  .obtain ⟨v,v1,v2⟩:=h.Dt i pe;refine ⟨v,by rw[List.getElem?_append_left U];exact v1,?_⟩
   simp only[List.getElem_append_left pe];refine ar v2 λg hg=>hk.aq g (v2.lt g hg).2 λhm=>?_;have kZ:g∈rows.flatMap aq:=List.mem_flatMap.2 ⟨v,List.mem_of_getElem? v1,af.2 hg⟩;rcases List.mem_cons.1 hm with e|hm
   .exact n1 (List.mem_append_right _ (List.mem_append_right _ (by rw[<-e];exact kZ)))
   .rcases List.mem_append.1 hm with hm|hm
    .exact n4 g hm g (List.mem_append_right _ kZ) rfl
    .exact n7 g hm g kZ rfl
  .simp only[List.length_append,List.length_cons,List.length_nil]at hi;have nY:i=b.fol.length:=U;subst nY;refine ⟨.slice none 0 0,by rw[List.getElem?_append_right U,iy];simp,?_⟩
   simp only[List.getElem_append_right V,Nat.sub_self,List.getElem_cons_zero];exact World.ownsRow_nil _ _ _ _
def kH(w:World):List (Array Value×TypeId)->World
 | []=>w
 |o::r=>kH (w.alloc (.cells o.1 o.2)) r
theorem sM:∀(os:List (Array Value×TypeId)) (w:World),(kH w os).heap.size=w.heap.size+os.length
 | [],w=>rfl
 |o::r,w=>by rw[kH,sM r];simp;omega
theorem mu:∀(os:List (Array Value×TypeId)) (w:World),Below w w (kH w os)
 | [],w=>D
 |o::r,w=>by
  rw[kH];have h1:Below w w (w.alloc (.cells o.1 o.2)):=D.alloc V _;exact h1.t ((mu r _).mono H)
theorem uv:∀(os:List (Array Value×TypeId)) (w:World) (i:Nat) (h:i<os.length),(kH w os).heap[w.heap.size+i]?=some (.cells os[i].1 os[i].2 (0,0))
 |o::r,w,0,h=>by
  rw[kH,(mu r _).block _ H];exact heap_alloc_new w (.cells o.1 o.2)
 |o::r,w,i+1,h=>by
  have:=uv r (w.alloc (.cells o.1 o.2)) i (by simpa using h)
  rw[kH];have e:(w.alloc (.cells o.1 o.2)).heap.size+i=w.heap.size+(i+1):=ψ;rw[e]at this;exact this
theorem eB{os:List (Array Value×TypeId)}{w:World}(i:Nat){cs:Array Value}{T:TypeId}(h:os[i]?=some (cs,T)):(kH w os).heap[w.heap.size+i]?=some (.cells cs T (0,0)):=by
 obtain ⟨hi,e⟩:=List.getElem?_eq_some_iff.1 h;rw[uv os w i hi,e]
end Go.Proofs.YthamegenljmgmaaGreatDoor
