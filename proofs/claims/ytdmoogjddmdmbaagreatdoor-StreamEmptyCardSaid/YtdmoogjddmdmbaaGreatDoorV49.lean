/- Walks. -/
import Derived.Test.YtdmoogjddmdmbaaGreatDoorV43
import Derived.Test.YtdmoogjddmdmbaaGreatDoorV44
import Derived.Test.YtdmoogjddmdmbaaGreatDoorV47
import Derived.Test.YtdmoogjddmdmbaaGreatDoorV45
import Derived.Test.YtdmoogjddmdmbaaGreatDoorV48
import Derived.Test.YtdmoogjddmdmbaaGreatDoorV11
import Derived.Test.YtdmoogjddmdmbaaGreatDoorV04
set_option maxRecDepth 100000
set_option maxHeartbeats 16000000
set_option linter.unusedVariables false
set_option linter.unusedSimpArgs false
namespace Go.Proofs.YtdmoogjddmdmbaaGreatDoor
open Go.RowKit
section
set_option linter.unusedVariables false
set_option linter.unusedSimpArgs false
open Go.RowKit
def oA (b:List UInt8) (ks:List Kn) (mr:List Mc) (nrs:Nat->Nat) (bx t t2 ba:Nat) (qb Lv Yr kv nv mv:Value) (q:Nat):Nat->Nat->Value->World->Prop
 | _,0,x,_=>x=qb
 | _,1,x,_=>x = .agg #[.int .i64 (t:Int), .int .i64 (ba:Int),kv,nv,mv]
 | _,2,x,_=>x=Lv
 | _,3,x,_=>x = .int .i64 (q:Int)
 | _,4,x,_=>x=Yr
 | _,5,x,w=>∃(gd:Nat) (jd:List Nat) (fM:List Mt) (A1:Option Addr) (c1:Nat) (A2:Option Addr) (c2:Nat) (A3:Option Addr) (c3:Nat),x = .tuple #[.agg #[.int .i64 (t2:Int), .int .i64 (gd:Int), .slice A1 (aZ b gd t2).length c1, .slice A2 jd.length c2, .slice A3 fM.length c3], .int .i64 0]/\DG (bx+1) w (aZ b gd t2) jd fM (.slice A1 (aZ b gd t2).length c1) (.slice A2 jd.length c2) (.slice A3 fM.length c3)/\jL b ks mr nrs t2 gd jd fM
 | _,6,x,w=>∃(gd:Nat) (jd:List Nat) (fM:List Mt) (A1:Option Addr) (c1:Nat) (A2:Option Addr) (c2:Nat) (A3:Option Addr) (c3:Nat),x = .tuple #[.agg #[.int .i64 (t2:Int), .int .i64 (gd:Int), .slice A1 (aZ b gd t2).length c1, .slice A2 jd.length c2, .slice A3 fM.length c3], .int .i64 0]/\DG (bx+1) w (aZ b gd t2) jd fM (.slice A1 (aZ b gd t2).length c1) (.slice A2 jd.length c2) (.slice A3 fM.length c3)/\jL b ks mr nrs t2 gd jd fM
 | _,7,x,w=>∃(gd:Nat) (jd:List Nat) (fM:List Mt) (A1:Option Addr) (c1:Nat) (A2:Option Addr) (c2:Nat) (A3:Option Addr) (c3:Nat),x = .agg #[.int .i64 (t2:Int), .int .i64 (gd:Int), .slice A1 (aZ b gd t2).length c1, .slice A2 jd.length c2, .slice A3 fM.length c3]/\DG (bx+1) w (aZ b gd t2) jd fM (.slice A1 (aZ b gd t2).length c1) (.slice A2 jd.length c2) (.slice A3 fM.length c3)/\jL b ks mr nrs t2 gd jd fM
 | _,8,x,_=>x = .int .i64 0
 | _,9,x,w=>∃(gd:Nat) (jd:List Nat) (fM:List Mt) (A1:Option Addr) (c1:Nat) (A2:Option Addr) (c2:Nat) (A3:Option Addr) (c3:Nat),w.heap[bx]?=some (.cells #[.int .i64 (t2:Int), .int .i64 (gd:Int), .slice A1 (aZ b gd t2).length c1, .slice A2 jd.length c2, .slice A3 fM.length c3] 51 (0,0))/\DG (bx+1) w (aZ b gd t2) jd fM (.slice A1 (aZ b gd t2).length c1) (.slice A2 jd.length c2) (.slice A3 fM.length c3)/\jL b ks mr nrs t2 gd jd fM
 | _,_,_,_=>True
theorem vP {b:List UInt8} {ks:List Kn} {mr:List Mc} {nrs:Nat->Nat} {bx t t2 ba:Nat} {qb Lv Yr kv nv mv:Value} {q j:Nat} {x:Value} {w w':World} (hb:Below w.heap.size w w') (h:oA b ks mr nrs bx t t2 ba qb Lv Yr kv nv mv q 0 j x w):oA b ks mr nrs bx t t2 ba qb Lv Yr kv nv mv q 1 j x w':=by
 unfold oA at h|-
 split at h
 all_goals first
  | exact h
  | (obtain ⟨gd,jd,fM,A1,c1,A2,c2,A3,c3,h1,h2,h3⟩:=h
     exact ⟨gd,jd,fM,A1,c1,A2,c2,A3,c3,h1,h2.keep (λy _ hy=>hb.block y hy),h3⟩)
  | (obtain ⟨gd,jd,fM,A1,c1,A2,c2,A3,c3,h1,h2,h3⟩:=h
     exact ⟨gd,jd,fM,A1,c1,A2,c2,A3,c3,(hb.block _ (Array.getElem?_eq_some_iff.1 h1).1).trans h1,h2.keep (λy _ hy=>hb.block y hy),h3⟩)
theorem vQ {b:List UInt8} {ks:List Kn} {mr:List Mc} {nrs:Nat->Nat} {bx t t2 ba:Nat} {qb Lv Yr kv nv mv:Value} {q j:Nat} {x:Value} {w w':World} (hb:∀y,bx+1<=y->y<w.heap.size->w'.heap[y]?=w.heap[y]?) (hj:j≠9) (h:oA b ks mr nrs bx t t2 ba qb Lv Yr kv nv mv q 1 j x w):oA b ks mr nrs bx t t2 ba qb Lv Yr kv nv mv q 2 j x w':=by
 unfold oA at h|-
 split at h
 all_goals first
  | exact h
  | exact absurd rfl hj
  | (obtain ⟨gd,jd,fM,A1,c1,A2,c2,A3,c3,h1,h2,h3⟩:=h
     exact ⟨gd,jd,fM,A1,c1,A2,c2,A3,c3,h1,h2.keep hb,h3⟩)
theorem O6 {i:Nat} (hi:i<3):(kU i).size<=140737488355328:=by
 rw[show (kU i).size=(bl (kU i)).length from by first | exact aB _ | exact (aB _).symm | (unfold bl;simp;rfl)]
 match i,hi with
 | 0,_=>rw[eL.1];decide
 | 1,_=>rw[eL.2.1];decide
 | 2,_=>rw[eL.2.2];decide
theorem aeI {ks:List Kn} (l1:1<=ks.length) (l3:ks.length<=3) (kd:∀i (h:i<ks.length),ZP i ks[i]):∀er wo,lT ks er wo->er=0:=λer wo h=>h.ok l1 (by omega) (λk hk=>by
 obtain ⟨i,hi,rfl⟩:=List.mem_iff_getElem.1 hk;exact (kd i hi).good (by omega)) (Fz λi j hj hi e=>by
  rw[(kd i (by omega)).1,(kd j hj).1]at e
  have:=NW (by omega) (by omega) e
  omega)
theorem aeJ {ks:List Kn} (l3:ks.length<=3) (kd:∀i (h:i<ks.length),ZP i ks[i]):∀k∈ks,k.nm.size<=140737488355328:=λk hk=>by
 obtain ⟨i,hi,rfl⟩:=List.mem_iff_getElem.1 hk;rw[(kd i hi).1];exact O6 (by omega)
def qK (ks:List Kn) (i:Nat):Nat:=((ks[i]?).map λk=>k.nr.toNat).getD 0
theorem aeK {ks:List Kn} (l3:ks.length<=3) (kd:∀i (h:i<ks.length),ZP i ks[i]):∀i (h:i<ks.length),qG ks[i] (qK ks i):=λi h=>by
 obtain ⟨-,⟨j,hj,hp⟩,-,-,hw⟩:=kd i h;have hg:=C8 hj;have hn:qK ks i=ks[i].nr.toNat:=by unfold qK;rw[List.getElem?_eq_getElem h];rfl
 rw[hn];refine ⟨?_,?_,?_,by rw[hp];exact hg.1,by rw[hp];have:=hg.2.2.2;omega⟩
 .rcases hw with ⟨-,h2⟩ | ⟨-,h2,h3⟩ | ⟨-,h2,h3⟩ <;> omega
 .rcases hw with ⟨-,h2⟩ | ⟨-,h2,h3⟩ | ⟨-,h2,h3⟩ <;> omega
 .rcases hw with ⟨h1,-⟩ | ⟨h1,-⟩ | ⟨h1,-⟩
  .rw[h1];exact λs hs=>absurd hs (by simp)
  .rw[h1];decide
  .rw[h1];decide
theorem O7 {At:Option Addr} {ct:Nat} (h:(At=none/\ct=0)\/∃g f,At=some ⟨g,f,none⟩):Ef At ct 0=At:=by
 rcases h with ⟨rfl,-⟩ | ⟨g,f,rfl⟩
 .rfl
 .simp only[Ef,Nat.add_zero,ite_self]
theorem yM {W:World} {At:Option Addr} {nt ct a z:Nat} {b:List UInt8} (h:Th W At nt ct (b.map UInt8.toNat)) (haz:a<=z) (hz:z<=nt):rH tz 1 W (.slice (Ef At ct a) (z-a) (ct-a)) (aZ b a z):=by
 have hl:b.length=nt:=by have:=h.len;rwa [List.length_map]at this
 have hc:nt<=ct/\ct<=9223372036854775807:=by
  obtain ⟨A',c',e,hc,-⟩:=h.ku;injection e with _ e2 e3;rw[h.len]at hc;omega
 have fO:=zW (k:=a) h.ku h.len hz;refine ⟨_,ct-a,by rw[jc (by omega)],by rw[jc (by omega)];omega,?_⟩
 have hm:(aZ b a z).map UInt8.toNat=((b.map UInt8.toNat).drop a).take (z-a):=qI b a z;rw[<-hm]at fO;rcases fO with h0 | ⟨g,f,e,hg,bD⟩
 .exact .inl (List.map_eq_nil_iff.1 h0)
 .refine .inr ⟨g,f,e,hg,λi hi j hj=>?_⟩;obtain rfl:j=0:=by omega
  rw[Nat.mul_one,Nat.add_zero,bD i (by rw[List.length_map];exact hi)]
  simp[tz]
theorem Ik (W:World) (b:List UInt8) (t:Nat):rH tz 1 W (.slice none 0 0) (aZ b t t):=by
 have e:aZ b t t=[]:=by unfold aZ;rw[Nat.sub_self,List.take_zero]
 rw[e];exact ⟨none,0,rfl,⟨Nat.le_refl _,by decide⟩, .inl rfl⟩
set_option maxHeartbeats 16000000 in
theorem Ka (A:Option Addr) (n c:Nat) (at_:Int) (w:World) (ht:AJ A n w) (hv:cd w) :
  Calls Tryz.prog 5 #[.slice A n c, .int .i64 at_] w λe w'=>e = .returned (.bool true)/\Below w.heap.size w w':=by
 have h0:=O8 (c:=c) ht;have hb0:=(Below.refl w.heap.size w).alloc (Nat.le_refl _) (.cells #[.slice A n c, .int .i64 0] 25);have hz0:(w.alloc (.cells #[.slice A n c, .int .i64 0] 25)).heap.size=w.heap.size+1:=by simp
 generalize Gr:w.alloc (.cells #[.slice A n c, .int .i64 0] 25)=w0 at h0 hb0 hz0;have UZ:=Lib.hid Gr;have HV:=Lib.hid hv;have nO:=Lib.hid (And.intro hb0 hz0);clear hv ht
 go_enter Tryz.func5,Tryz.ntmps5
 go_upto_region 2 with fail
 clear Gr hz0;go_wp2_with fail;refine (Fk w.heap.size w0 h0).mono ?_;rintro e w1 ⟨v,us,ks,rfl,hul,hlk,X4,hkn,cR,kr,gI⟩;obtain ⟨-,Ak,ck,rfl,Bp,eA,-⟩:=hkn w1 (af.refl _ _);obtain ⟨gk,fk,rfl,-,-⟩:=eA.resolve_left (by rintro rfl;simp at hul)
 have Ys:=λW (hs:af w.heap.size w1 W)=>X4.later hs;rw[hlk]at Bp hul;obtain ⟨nk,hnk⟩:∃n,us.length=n:=⟨_,rfl⟩;have Yt:ks.length=nk:=by omega
 rw[Yt]at Bp hul;rw[hnk]at hkn X4 Ys|-;have H1:=Lib.hid (And.intro hkn (And.intro cR (And.intro gI (And.intro Yt Ys))));clear hkn cR gI hb0 h0 hlk X4 Ys hnk eA Yt;go_wp2_with fail;refine (bB w.heap.size 5 w1 (by decide) (by decide) kr).mono ?_
 rintro e w2 ⟨r,rfl,kI,lu,lH,eg⟩;obtain ⟨np,rfl⟩:∃np:Nat,r=(np:Int):=⟨r.toNat,by omega⟩
 clear kr;have PA:=Lib.hid (H1.out.2.2.2.2 w2 (af.dH eg));go_wp2_with fail;refine (O9 w.heap.size np _ w2 PA.out (by omega) lH).mono ?_
 rintro e w3 ⟨v3,b,rfl,Ry,bZ,FC,oT⟩;have FQ:w.heap.size<w2.heap.size:=by have h1:=eg.size;have h2:=H1.out.2.2.1.size;have h3:=nO.out.2;omega
 obtain ⟨At,ct,rfl,Xc⟩:=Iq (e:=5) bZ FQ (by omega) (af.refl _ w3)
 obtain ⟨nt,hnt⟩:∃n,b.length=n:=⟨_,rfl⟩;rw[hnt]at Xc Ry|-;have auZ:nt<=120:=by omega
 have aeL:af w.heap.size w1 w3:=(af.dH eg).trans (af.dH oT);have aeM:=(H1.out.2.2.1.trans eg).trans oT;have X3:Below w.heap.size w w3:=nO.out.1.trans (aeM.below (Nat.le_refl _) nO.out.1.size);have DS:=Lib.hid (And.intro Xc hnt);have HK:=Lib.hid (λ(W:World) (hb:Below w3.heap.size w3 W)=>H1.out.1 W (aeL.trans (af.aa hb)));have qN:=Lib.hid (λ(W:World) (hb:Below w3.heap.size w3 W)=>HV.out.later (X3.trans (hb.mono X3.size)));have bI:=Lib.hid X3;clear lH eg FC oT bZ FQ hnt Ry aeM PA kI lu Xc aeL X3;obtain ⟨m1,m2⟩:0<=bits .and .i64 at_ 255/\bits .and .i64 at_ 255<=255:=LR at_ 255 (by decide)
 obtain ⟨am,ham⟩:∃q:Nat,bits .and .i64 at_ 255=(q:Int):=⟨(bits .and .i64 at_ 255).toNat,by omega⟩
 have hw1:IntKind.i64.wrap ((nt:Int)+1)=(nt:Int)+1:=IntWalk.i64_in _ (by omega)
 clear m1 m2;have gV:=λer wo=>aeI (by have:=H1.out.2.2.2.1;omega) (by have:=H1.out.2.2.2.1;omega) H1.out.2.1 er wo
 have iO:=aeJ (by have:=H1.out.2.2.2.1;omega) H1.out.2.1
 have eQ:=aeK (by have:=H1.out.2.2.2.1;omega) H1.out.2.1
 have HG:=Lib.hid (And.intro gV (And.intro iO eQ));have HNW:=Lib.hid (Ic (some ⟨gk,fk,none⟩) nk ck us ks w3 (HK.out w3 (Below.refl _ _)) (qN.out w3 (Below.refl _ _)) iO gV hul);have HUL:=Lib.hid hul;clear gV iO eQ
 go_upto_region 5 with fail
 obtain ⟨kq,hkq⟩:∃kq:Nat,(am:Int) % ((nt:Int)+1)=(kq:Int):=⟨((am:Int) % ((nt:Int)+1)).toNat,by have:=Int.emod_nonneg (am:Int) (show (nt:Int)+1≠0 by omega);omega⟩
 have hkn:kq<=nt:=by have:=Int.emod_lt_of_pos (am:Int) (show 0<(nt:Int)+1 by omega);omega
 rw[hkq];have HKQ:=Lib.hid (And.intro hkq ham);clear hkq ham hw1;go_wp2_with fail;refine HNW.out.mono ?_;rintro e w4 ⟨ox,nv,mr,sW,rfl,hsc⟩;obtain ⟨_,_,An,cn,_,_,-,rfl,-⟩:=hsc.forms;rw[List.length_replicate]at hsc|-;have H4:=Lib.hid (And.intro ox (And.intro sW hsc));clear ox sW hsc
 go_upto_region 6 with fail
 refine dN λV0 Yl=>?_;have sJ:V0.heap[w4.heap.size]?=some (.cells #[.int .i64 0, .int .i64 0, .slice none 0 0, .slice An nk cn, .slice none 0 0] 51 (0,0)):=by rw[Yl];exact heap_alloc_new w4 _
 have F7:Below w4.heap.size w4 V0:=by rw[Yl];exact (Below.refl _ _).alloc (Nat.le_refl _) _
 have F9:Below w3.heap.size w3 V0:=H4.out.1.trans (F7.mono H4.out.1.size);have hWb:w3.heap.size<=w4.heap.size:=H4.out.1.size;obtain ⟨t0,wQ⟩:∃t0:Nat,t0=0:=⟨0,rfl⟩;have hF1:=qJ (some ⟨gk,fk,none⟩) ck 0 t0 0 us ks (qK ks) b mr (List.replicate nk 0) [] (.slice none 0 0) (.slice An nk cn) (.slice none 0 0) (.slice none 0 0) V0 (by rw[H1.out.2.2.2.1];exact HK.out V0 F9) (qN.out V0 F9) HG.out.2.1 HG.out.1 HG.out.2.2 H4.out.2.1 (H4.out.2.2.v.later F7) (by have h:=jL.start b ks mr (qK ks);rw[H1.out.2.2.2.1]at h;exact h) (by omega) (by omega) (by rw[wQ];exact Ik V0 b 0) (by rw[H1.out.2.2.2.1];exact hul) (by have:=DS.out.2;omega)
 rw[H1.out.2.2.2.1]at hF1;have lI:=Lib.hid hF1;have vz:=Lib.hid (And.intro sJ (And.intro F9 (And.intro hWb wQ)));obtain ⟨c0,c1',IG,c3,c4⟩:=aJ sJ;have lb:=(Array.getElem?_eq_some_iff.1 sJ).1;clear Yl sJ F7 F9 hWb hF1 wQ;go_wp2_with fail;refine lI.out.mono ?_;rintro e w5 ⟨gH,Yu,nx0,ms0,kv,nv,mv,rfl,Yv,aeQ⟩;obtain ⟨B1,d1,B2,d2,B3,d3,rfl,rfl,rfl⟩:=Yv.forms;have LK:=(gH.block _ (Array.getElem?_eq_some_iff.1 vz.out.1).1).trans vz.out.1;clear c0 c1' IG c3 c4 lb;obtain ⟨c0,c1',IG,c3,c4⟩:=aJ LK;obtain ⟨f0,f1,f2,f3,f4,lb⟩:=nD LK;have hbV:=(Array.getElem?_eq_some_iff.1 vz.out.1).1;have H5:=Lib.hid (And.intro gH (And.intro LK (And.intro hbV (And.intro Yv aeQ))));clear gH LK hbV Yv aeQ
 go_upto_region 7 with fail
 refine dN λV4 hV4=>?_;obtain ⟨p1,p2,p3⟩:=nC H5.out.2.1 hV4;have OY:DG (w4.heap.size+1) V4 (aZ b Yu t0) nx0 ms0 (.slice B1 (aZ b Yu t0).length d1) (.slice B2 nx0.length d2) (.slice B3 ms0.length d3):=by
  have h:=H5.out.2.2.2.1.keep (w':=V4) λy h1 h2=>p2 y (by have:=H5.out.2.2.1;omega)
  exact ⟨aS h.k H5.out.2.2.1,aS h.n H5.out.2.2.1,aS h.m H5.out.2.2.1⟩
 have Yn:Below w3.heap.size w3 V4:=p3 _ _ vz.out.2.2.1 (vz.out.2.1.trans (H5.out.1.mono vz.out.2.1.size));have OX:w4.heap.size+1<=V4.heap.size:=(Array.getElem?_eq_some_iff.1 p1).1;clear hV4 p2 p3 c0 c1' IG c3 c4 f0 f1 f2 f3 f4 lb;obtain ⟨AQ,hAQ⟩:∃a,Ef At ct kq=a:=⟨_,rfl⟩;obtain ⟨CQ,hCQ⟩:∃a,ct-kq=a:=⟨_,rfl⟩;have had:=DS.out.1.ad;have au0:nt<=ct/\ct<=9223372036854775807:=by
  obtain ⟨A',c',e,hc,-⟩:=DS.out.1.ku;injection e with _ e2 e3;rw[DS.out.1.len]at hc;omega
 obtain ⟨Lv,htv⟩:∃v,Value.slice At nt ct=v:=⟨_,rfl⟩;obtain ⟨pa,PZ⟩:∃v,Value.slice At kq ct=v:=⟨_,rfl⟩;obtain ⟨pb,sF⟩:∃v,Value.slice AQ (nt-kq) CQ=v:=⟨_,rfl⟩;have HPA:=Lib.hid (λ(W:World) (hb:Below w3.heap.size w3 W)=>(by have h:=yM (DS.out.1.later hb) (Nat.zero_le kq) hkn;rw[O7 had,Nat.sub_zero,Nat.sub_zero]at h;exact h:rH tz 1 W (.slice At kq ct) (aZ b 0 kq)))
 have HPB:=Lib.hid (λ(W:World) (hb:Below w3.heap.size w3 W)=>(by have h:=yM (DS.out.1.later hb) hkn (Nat.le_refl nt);rw[hAQ,hCQ]at h;exact h:rH tz 1 W (.slice AQ (nt-kq) CQ) (aZ b kq nt)))
 have aeS:=Lib.hid (λ(wz:World) (hS:Below V4.heap.size V4 wz)=>(by
  have xp:=Yn.trans (hS.mono Yn.size);have h:=qJ (some ⟨gk,fk,none⟩) ck t0 kq Yu us ks (qK ks) b mr nx0 ms0 _ _ _ (.slice At kq ct) wz (by rw[H1.out.2.2.2.1];exact HK.out wz xp) (qN.out wz xp) HG.out.2.1 HG.out.1 HG.out.2.2 H4.out.2.1 (OY.v.later hS) H5.out.2.2.2.2 (by have:=vz.out.2.2.2;omega) (by have:=DS.out.2;omega) (by rw[vz.out.2.2.2];exact HPA.out wz xp) (by rw[H1.out.2.2.2.1];exact HUL.out) (by have:=DS.out.2;omega)
  rw[H1.out.2.2.2.1]at h;exact h))
 rw[PZ]at aeS;rw[sF]at HPB;have HTV:=Lib.hid htv;have amg:=Lib.hid PZ;have amh:=Lib.hid sF;have vT:=Lib.hid (λ(wz:World) (hS:Below V4.heap.size V4 wz)=>(hS.block _ (Array.getElem?_eq_some_iff.1 p1).1).trans p1);have sw:=Lib.hid OX;have XI:=Lib.hid Yn;have eU:Below w4.heap.size V4 V4.drew/\(0<=1->Below V4.heap.size V4 V4.drew):=⟨(Below.refl _ _).drew,λ_=>(Below.refl _ _).drew⟩;have hA3:(At=none/\ct-kq=0/\AQ=none/\CQ=0/\ct=0)\/(∃g f,At=some ⟨g,f,none⟩/\ct-kq=0/\AQ=some ⟨g,f,none⟩/\CQ=0)\/∃g f,At=some ⟨g,f,none⟩/\¬ct-kq=0/\AQ=some ⟨g,f+kq,none⟩/\CQ=ct-kq:=by
  rcases had with ⟨rfl,h0⟩ | ⟨g,f,rfl⟩
  .exact .inl ⟨rfl,by omega,hAQ.symm,by omega,h0⟩
  .by_cases h:ct-kq=0
   .exact .inr (.inl ⟨g,f,rfl,h,by rw[<-hAQ];simp only[Ef,h,if_true],by omega⟩)
   .exact .inr (.inr ⟨g,f,rfl,h,by rw[<-hAQ];simp only[Ef,h,if_false],hCQ.symm⟩)
 have iD:(kq:Int)<=(ct:Int):=by omega
 have ez:(kq:Int)<=(nt:Int):=by omega
 have Ec:(nt:Int)<=(ct:Int):=by omega
 clear p1 OY Yn OX hAQ hCQ had htv PZ sF;rcases hA3 with ⟨rfl,lK,rfl,rfl,-⟩ | ⟨g,f,rfl,lK,rfl,rfl⟩ | ⟨g,f,rfl,lK,rfl,rfl⟩
 all_goals
  refine aq 10 [5,9] (oA b ks mr (qK ks) w4.heap.size t0 kq Yu (.slice (some ⟨gk,fk,none⟩) nk ck) Lv pa (.slice B1 (aZ b Yu t0).length d1) (.slice B2 nx0.length d2) (.slice B3 ms0.length d3) kq) (λc w'=>Below w4.heap.size V4 w'/\(c<=1->Below V4.heap.size V4 w')) (by kernel_rfl) (by kernel_rfl) (by kernel_rfl) (by kernel_rfl) (by kernel_rfl) (by kernel_rfl) (by decide) eU ?_ ?_
  .simp only[cP,cQ];refine ae.pure (by decide) ?_ (ae.pure (by decide) ?_ (ae.pure (by decide) ?_ (ae.pure (by decide) ?_ (ae.pure (by decide) ?_ (ae.oJ 0 rfl ?_ (ae.pure (by decide) ?_ (ae.pure (by decide) ?_ (ae.pure (by decide) ?_ (ae.oJ 1 rfl ?_ (ae.nil))))))))))
   all_goals first | (with_reducible intro v wz c aD hS hE K hK;simp only[ai,Act.put,eh,ek,ep,Nat.zero_add,Nat.reduceAdd,cP,cQ]at hK|-) | (intro v wz hS hE K hK;simp only[ai,Act.put,eh,ek,ep,Nat.zero_add,Nat.reduceAdd,cP,cQ]at hK|-)
   .have HX:=Lib.hid hS;clear hS hE aD;go_wp2_with fail;exact hK.out _ rfl
   .have hz:=vT.out wz (hS.2 (aD 1 (by first | rfl | decide | kernel_rfl)))
    obtain ⟨c0,c1,c2,c3,c4⟩:=aJ hz;have Ls:=(Array.getElem?_eq_some_iff.1 hz).1;clear hz;have HX:=Lib.hid hS;clear hS hE aD;go_wp2_with fail;exact hK.out _ rfl
   .have HX:=Lib.hid hS;clear hS hE aD;go_wp2_with fail;exact hK.out _ HTV.out
   .have HX:=Lib.hid hS;clear hS hE aD;go_wp2_with fail;exact hK.out _ rfl
   .have e2:v 2=_:=hE.1 rfl;have e3:v 3=_:=hE.2.1 rfl;rw[e2,e3]at hK|-;rw[<-HTV.out]at hK|-;have HX:=Lib.hid hS;clear hS hE aD;go_wp2_with fail;exact hK.out _ amg.out
   .have e0:v 0=_:=hE.1 rfl;have e1:v 1=_:=hE.2.1 rfl;have e4:v 4=_:=hE.2.2.1 rfl;rw[e0,e1,e4]at hK|-;have HC:=Lib.hid (aeS.out wz (hS.2 (by decide)))
    have HX:=Lib.hid hS;clear hS hE;go_wp2_with fail;refine HC.out.mono ?_;rintro e wy ⟨hy,gd,jd,fM,kv2,nv2,Yd,rfl,hsc,bT⟩;obtain ⟨A1,c1,A2,c2,A3,c3,rfl,rfl,rfl⟩:=hsc.forms;have AK:w4.heap.size+1<=wz.heap.size:=Nat.le_trans sw.out (HX.out.2 (by decide)).size
    have hP:=(⟨gd,jd,fM,A1,c1,A2,c2,A3,c3,rfl,⟨aS hsc.k AK,aS hsc.n AK,aS hsc.m AK⟩,bT⟩:oA b ks mr (qK ks) w4.heap.size t0 kq Yu (.slice (some ⟨gk,fk,none⟩) nk ck) Lv pa (.slice B1 (aZ b Yu t0).length d1) (.slice B2 nx0.length d2) (.slice B3 ms0.length d3) kq 1 5 (.tuple #[.agg #[.int .i64 (kq:Int), .int .i64 (gd:Int), .slice A1 (aZ b gd kq).length c1, .slice A2 jd.length c2, .slice A3 fM.length c3], .int .i64 0]) wy);have HP:=Lib.hid (And.intro hy hP);clear hy hP hsc bT AK;go_wp2_with fail;refine hK.out _ _ (λj z hj h=>vP HP.out.1 h) ⟨HX.out.1.trans (HP.out.1.mono (Nat.le_trans (Nat.le_of_succ_le sw.out) (HX.out.2 (by decide)).size)),λ_=>(HX.out.2 (by decide)).trans (HP.out.1.mono (HX.out.2 (by decide)).size)⟩ HP.out.2
   .have E5:=hE.1 rfl;obtain ⟨gd,jd,fM,A1,c1,A2,c2,A3,c3,e5,hsc,bT⟩:=E5;rw[e5]at hK|-;have HX:=Lib.hid (And.intro hsc bT);clear hS hE aD hsc bT e5;go_wp2_with fail;exact hK.out _ ⟨gd,jd,fM,A1,c1,A2,c2,A3,c3,rfl,HX.out.1,HX.out.2⟩
   .have E6:=hE.1 rfl;obtain ⟨gd,jd,fM,A1,c1,A2,c2,A3,c3,e6,hsc,bT⟩:=E6;rw[e6]at hK|-;have HX:=Lib.hid (And.intro hsc bT);clear hS hE aD hsc bT e6;go_wp2_with fail;exact hK.out _ ⟨gd,jd,fM,A1,c1,A2,c2,A3,c3,rfl,HX.out.1,HX.out.2⟩
   .have E6:=hE.1 rfl;obtain ⟨gd,jd,fM,A1,c1,A2,c2,A3,c3,e6,hsc,bT⟩:=E6;rw[e6]at hK|-;clear hS hE aD hsc bT e6;go_wp2_with fail;exact hK.out _ rfl
   .have E7:=hE.1 rfl;obtain ⟨gd,jd,fM,A1,c1,A2,c2,A3,c3,e7,hsc,bT⟩:=E7;rw[e7]at hK|-;have hz:=vT.out wz (hS.2 (by decide))
    obtain ⟨y0,y1,y2,y3,y4⟩:=aJ hz;obtain ⟨f0,f1,f2,f3,f4,Ls⟩:=nD hz;have HX:=Lib.hid (And.intro hS (And.intro hz (And.intro hsc bT)));clear hS hE hz hsc bT e7;go_wp2_with fail;obtain ⟨wy,Cq⟩:∃Wx,((((wz.setCell ⟨w4.heap.size,0,none⟩ (.int .i64 (kq:Int))).setCell ⟨w4.heap.size,1,none⟩ (.int .i64 (gd:Int))).setCell ⟨w4.heap.size,2,none⟩ (.slice A1 (aZ b gd kq).length c1)).setCell ⟨w4.heap.size,3,none⟩ (.slice A2 jd.length c2)).setCell ⟨w4.heap.size,4,none⟩ (.slice A3 fM.length c3)=Wx:=⟨_,rfl⟩;obtain ⟨p1,p2,p3⟩:=nC HX.out.2.1 Cq.symm;rw[Cq];refine hK.out (.int .i64 0) _ (λj z hj h=>vQ (λy h1 h2=>p2 y (by omega)) hj h) ⟨p3 _ _ (Nat.le_refl _) HX.out.1.1,λh=>absurd h (by decide)⟩ ⟨gd,jd,fM,A1,c1,A2,c2,A3,c3,p1,HX.out.2.2.1.keep (λy h1 h2=>p2 y (by omega)),HX.out.2.2.2⟩
  .intro v wz hS hF;have e8:v 8=_:=hF 8 (by decide)
   have hQ:=hF 9 (by decide)
   simp only[ai,Act.put,eh,ek,ep,Nat.zero_add,Nat.reduceAdd,cP,cQ,List.drop_succ_cons,List.drop_zero,e8];obtain ⟨ba2,nx2,pJ,D1,g1,D2,g2,D3,g3,AA,Kt,aeT⟩:=hQ;have sA:=XI.out.trans (hS.1.mono vz.out.2.2.1);obtain ⟨c0,c1',IG,c3,c4⟩:=aJ AA;have lb:=(Array.getElem?_eq_some_iff.1 AA).1;have hF8:=qJ (some ⟨gk,fk,none⟩) ck kq kq ba2 us ks (qK ks) b mr nx2 pJ _ _ _ (.slice none 0 0) wz (by rw[H1.out.2.2.2.1];exact HK.out wz sA) (qN.out wz sA) HG.out.2.1 HG.out.1 HG.out.2.2 H4.out.2.1 Kt.v aeT (Nat.le_refl _) (by have:=DS.out.2;omega) (Ik wz b kq) (by rw[H1.out.2.2.2.1];exact HUL.out) (by have:=DS.out.2;omega)
   rw[H1.out.2.2.2.1]at hF8;have HF8:=Lib.hid hF8;have H6:=Lib.hid (And.intro AA (And.intro sA lb));clear AA Kt aeT sA hF8 hS hF e8 eU;go_wp2_with fail;refine HF8.out.mono ?_;rintro e w7 ⟨qs,Yw,nx3,ms3,kv,nv,mv,rfl,Ku,aeW⟩;obtain ⟨F1,h1',F2,h2',F3,h3',rfl,rfl,rfl⟩:=Ku.forms;have sQ:=(qs.block _ (Array.getElem?_eq_some_iff.1 H6.out.1).1).trans H6.out.1;clear c0 c1' IG c3 c4 lb;obtain ⟨c0,c1',IG,c3,c4⟩:=aJ sQ;obtain ⟨f0,f1,f2,f3,f4,lb⟩:=nD sQ;have H7:=Lib.hid (And.intro qs (And.intro sQ (And.intro Ku aeW)));clear qs sQ Ku aeW
   go_upto_region 9 with fail
   refine dN λV7 hV7=>?_;obtain ⟨p1,p2,p3⟩:=nC H7.out.2.1 hV7;have Pc:DG (w4.heap.size+1) V7 (aZ b Yw kq) nx3 ms3 (.slice F1 (aZ b Yw kq).length h1') (.slice F2 nx3.length h2') (.slice F3 ms3.length h3'):=by
    have h:=H7.out.2.2.1.keep (w':=V7) λy q1 q2=>p2 y (by have:=H6.out.2.2;omega)
    exact ⟨aS h.k H6.out.2.2,aS h.n H6.out.2.2,aS h.m H6.out.2.2⟩
   have Lj:Below w3.heap.size w3 V7:=p3 _ _ vz.out.2.2.1 (H6.out.2.1.trans (H7.out.1.mono H6.out.2.1.size));have DK:w4.heap.size+1<=V7.heap.size:=(Array.getElem?_eq_some_iff.1 p1).1;have amk:=Lib.hid (λ(wz:World) (hS:Below V7.heap.size V7 wz)=>(by
    have xp:=Lj.trans (hS.mono Lj.size);have h:=qJ (some ⟨gk,fk,none⟩) ck kq nt Yw us ks (qK ks) b mr nx3 ms3 _ _ _ pb wz (by rw[H1.out.2.2.2.1];exact HK.out wz xp) (qN.out wz xp) HG.out.2.1 HG.out.1 HG.out.2.2 H4.out.2.1 (Pc.v.later hS) H7.out.2.2.2 hkn (by have:=DS.out.2;omega) (HPB.out wz xp) (by rw[H1.out.2.2.2.1];exact HUL.out) (by have:=DS.out.2;omega)
    rw[H1.out.2.2.2.1]at h;exact h))
   have vT:=Lib.hid (λ(wz:World) (hS:Below V7.heap.size V7 wz)=>(hS.block _ (Array.getElem?_eq_some_iff.1 p1).1).trans p1);have sw:=Lib.hid DK;have HW7:=Lib.hid Lj;have eU:Below w4.heap.size V7 V7.drew/\(0<=1->Below V7.heap.size V7 V7.drew):=⟨(Below.refl _ _).drew,λ_=>(Below.refl _ _).drew⟩;clear hV7 p1 p2 p3 c0 c1' IG c3 c4 f0 f1 f2 f3 f4 lb Pc Lj DK;refine aq 10 [5,9] (oA b ks mr (qK ks) w4.heap.size kq nt Yw (.slice (some ⟨gk,fk,none⟩) nk ck) Lv pb (.slice F1 (aZ b Yw kq).length h1') (.slice F2 nx3.length h2') (.slice F3 ms3.length h3') kq) (λc w'=>Below w4.heap.size V7 w'/\(c<=1->Below V7.heap.size V7 w')) (by kernel_rfl) (by kernel_rfl) (by kernel_rfl) (by kernel_rfl) (by kernel_rfl) (by kernel_rfl) (by decide) eU ?_ ?_
   .simp only[cP,cQ];refine ae.pure (by decide) ?_ (ae.pure (by decide) ?_ (ae.pure (by decide) ?_ (ae.pure (by decide) ?_ (ae.pure (by decide) ?_ (ae.oJ 0 rfl ?_ (ae.pure (by decide) ?_ (ae.pure (by decide) ?_ (ae.pure (by decide) ?_ (ae.oJ 1 rfl ?_ (ae.nil))))))))))
    all_goals first | (with_reducible intro v wz c aD hS hE K hK;simp only[ai,Act.put,eh,ek,ep,Nat.zero_add,Nat.reduceAdd,cP,cQ]at hK|-) | (intro v wz hS hE K hK;simp only[ai,Act.put,eh,ek,ep,Nat.zero_add,Nat.reduceAdd,cP,cQ]at hK|-)
    .have HX:=Lib.hid hS;clear hS hE aD;go_wp2_with fail;exact hK.out _ rfl
    .have hz:=vT.out wz (hS.2 (aD 1 (by first | rfl | decide | kernel_rfl)))
     obtain ⟨c0,c1,c2,c3,c4⟩:=aJ hz;have Ls:=(Array.getElem?_eq_some_iff.1 hz).1;clear hz;have HX:=Lib.hid hS;clear hS hE aD;go_wp2_with fail;exact hK.out _ rfl
    .have HX:=Lib.hid hS;clear hS hE aD;go_wp2_with fail;exact hK.out _ HTV.out
    .have HX:=Lib.hid hS;clear hS hE aD;go_wp2_with fail;exact hK.out _ rfl
    .have e2:v 2=_:=hE.1 rfl;have e3:v 3=_:=hE.2.1 rfl;rw[e2,e3]at hK|-;rw[<-HTV.out]at hK|-;have HX:=Lib.hid hS;clear hS hE aD;go_wp2_with fail;exact hK.out _ amh.out
    .have e0:v 0=_:=hE.1 rfl;have e1:v 1=_:=hE.2.1 rfl;have e4:v 4=_:=hE.2.2.1 rfl;rw[e0,e1,e4]at hK|-;have HC:=Lib.hid (amk.out wz (hS.2 (by decide)))
     have HX:=Lib.hid hS;clear hS hE;go_wp2_with fail;refine HC.out.mono ?_;rintro e wy ⟨hy,gd,jd,fM,kv2,nv2,Yd,rfl,hsc,bT⟩;obtain ⟨A1,c1,A2,c2,A3,c3,rfl,rfl,rfl⟩:=hsc.forms;have AK:w4.heap.size+1<=wz.heap.size:=Nat.le_trans sw.out (HX.out.2 (by decide)).size
     have hP:=(⟨gd,jd,fM,A1,c1,A2,c2,A3,c3,rfl,⟨aS hsc.k AK,aS hsc.n AK,aS hsc.m AK⟩,bT⟩:oA b ks mr (qK ks) w4.heap.size kq nt Yw (.slice (some ⟨gk,fk,none⟩) nk ck) Lv pb (.slice F1 (aZ b Yw kq).length h1') (.slice F2 nx3.length h2') (.slice F3 ms3.length h3') kq 1 5 (.tuple #[.agg #[.int .i64 (nt:Int), .int .i64 (gd:Int), .slice A1 (aZ b gd nt).length c1, .slice A2 jd.length c2, .slice A3 fM.length c3], .int .i64 0]) wy);have HP:=Lib.hid (And.intro hy hP);clear hy hP hsc bT AK;go_wp2_with fail;refine hK.out _ _ (λj z hj h=>vP HP.out.1 h) ⟨HX.out.1.trans (HP.out.1.mono (Nat.le_trans (Nat.le_of_succ_le sw.out) (HX.out.2 (by decide)).size)),λ_=>(HX.out.2 (by decide)).trans (HP.out.1.mono (HX.out.2 (by decide)).size)⟩ HP.out.2
    .have E5:=hE.1 rfl;obtain ⟨gd,jd,fM,A1,c1,A2,c2,A3,c3,e5,hsc,bT⟩:=E5;rw[e5]at hK|-;have HX:=Lib.hid (And.intro hsc bT);clear hS hE aD hsc bT e5;go_wp2_with fail;exact hK.out _ ⟨gd,jd,fM,A1,c1,A2,c2,A3,c3,rfl,HX.out.1,HX.out.2⟩
    .have E6:=hE.1 rfl;obtain ⟨gd,jd,fM,A1,c1,A2,c2,A3,c3,e6,hsc,bT⟩:=E6;rw[e6]at hK|-;have HX:=Lib.hid (And.intro hsc bT);clear hS hE aD hsc bT e6;go_wp2_with fail;exact hK.out _ ⟨gd,jd,fM,A1,c1,A2,c2,A3,c3,rfl,HX.out.1,HX.out.2⟩
    .have E6:=hE.1 rfl;obtain ⟨gd,jd,fM,A1,c1,A2,c2,A3,c3,e6,hsc,bT⟩:=E6;rw[e6]at hK|-;clear hS hE aD hsc bT e6;go_wp2_with fail;exact hK.out _ rfl
    .have E7:=hE.1 rfl;obtain ⟨gd,jd,fM,A1,c1,A2,c2,A3,c3,e7,hsc,bT⟩:=E7;rw[e7]at hK|-;have hz:=vT.out wz (hS.2 (by decide))
     obtain ⟨y0,y1,y2,y3,y4⟩:=aJ hz;obtain ⟨f0,f1,f2,f3,f4,Ls⟩:=nD hz;have HX:=Lib.hid (And.intro hS (And.intro hz (And.intro hsc bT)));clear hS hE hz hsc bT e7;go_wp2_with fail;obtain ⟨wy,Cq⟩:∃Wx,((((wz.setCell ⟨w4.heap.size,0,none⟩ (.int .i64 (nt:Int))).setCell ⟨w4.heap.size,1,none⟩ (.int .i64 (gd:Int))).setCell ⟨w4.heap.size,2,none⟩ (.slice A1 (aZ b gd nt).length c1)).setCell ⟨w4.heap.size,3,none⟩ (.slice A2 jd.length c2)).setCell ⟨w4.heap.size,4,none⟩ (.slice A3 fM.length c3)=Wx:=⟨_,rfl⟩;obtain ⟨p1,p2,p3⟩:=nC HX.out.2.1 Cq.symm;rw[Cq];refine hK.out (.int .i64 0) _ (λj z hj h=>vQ (λy h1 h2=>p2 y (by omega)) hj h) ⟨p3 _ _ (Nat.le_refl _) HX.out.1.1,λh=>absurd h (by decide)⟩ ⟨gd,jd,fM,A1,c1,A2,c2,A3,c3,p1,HX.out.2.2.1.keep (λy h1 h2=>p2 y (by omega)),HX.out.2.2.2⟩
   .intro v wz hS hF;have e8:v 8=_:=hF 8 (by decide)
    have hQ:=hF 9 (by decide)
    simp only[ai,Act.put,eh,ek,ep,Nat.zero_add,Nat.reduceAdd,cP,cQ,List.drop_succ_cons,List.drop_zero,e8];obtain ⟨ba4,nx4,ms4,D1',g1',D2',g2',D3',g3',Ta,Pc,aeX⟩:=hQ;have ua:=HW7.out.trans (hS.1.mono vz.out.2.2.1);obtain ⟨c0,c1',IG,c3,c4⟩:=aJ Ta;have lb:=(Array.getElem?_eq_some_iff.1 Ta).1;have Pr:=DS.out.2;have hFI:=S8 (some ⟨gk,fk,none⟩) ck ba4 us ks (qK ks) b mr nx4 ms4 _ _ _ wz (by rw[H1.out.2.2.2.1];exact HK.out wz ua) (qN.out wz ua) HG.out.2.1 HG.out.1 HG.out.2.2 H4.out.2.1 (by rw[Pr];exact Pc.v) (by rw[Pr];exact aeX) (by rw[H1.out.2.2.2.1];exact HUL.out) (by omega)
    rw[H1.out.2.2.2.1,Pr]at hFI;have HFI:=Lib.hid hFI;have H9:=Lib.hid (And.intro Ta ua);clear Ta Pc aeX ua hFI hS hF e8 eU Pr;go_wp2_with fail;refine HFI.out.mono ?_;rintro e ZS ⟨qp,v,o,rfl,aeY,aeZ,Yx⟩;obtain ⟨A10,k10,rfl,amm,-⟩:=id Yx;have Pd:=H9.out.2.trans (qp.mono H9.out.2.size);have hAL:=S9 (some ⟨gk,fk,none⟩) ck us ks (qK ks) b mr _ ct ZS (by rw[H1.out.2.2.2.1];exact HK.out ZS Pd) (qN.out ZS Pd) HG.out.2.1 HG.out.1 HG.out.2.2 H4.out.2.1 (by rw[DS.out.2];exact DS.out.1.later Pd) (by rw[H1.out.2.2.2.1];exact HUL.out) (by have:=DS.out.2;omega)
    rw[H1.out.2.2.2.1,DS.out.2]at hAL;have HAL:=Lib.hid hAL;have UB:=(qp.block _ (Array.getElem?_eq_some_iff.1 H9.out.1).1).trans H9.out.1;have Yy:=Lib.hid (And.intro aeY (And.intro aeZ (And.intro Yx (And.intro Pd UB))));clear qp aeY aeZ Yx Pd hAL UB c0 c1' IG c3 c4 lb amm;go_wp2_with fail;refine HAL.out.mono ?_;rintro e w11 ⟨rD,v,o2,rfl,ae0,ae1,Yz⟩;obtain ⟨A11,k11,rfl,-,-⟩:=id Yz;have hoo:o=o2:=vF (Yy.out.1.trans ae0.symm) Yy.out.2.1 ae1;subst hoo;have ae2:=Yy.out.2.2.2.1.trans (rD.mono Yy.out.2.2.2.1.size);have Pe:=(rD.block _ (Array.getElem?_eq_some_iff.1 Yy.out.2.2.2.2).1).trans Yy.out.2.2.2.2;obtain ⟨c0,c1',IG,c3,c4⟩:=aJ Pe;have lb:=(Array.getElem?_eq_some_iff.1 Pe).1;have HSA:=Lib.hid (DR _ _ o w11 (Yy.out.2.2.1.later rD) Yz);have ae3:=Lib.hid ae2;have DV:((nt:Int) == (nt:Int))=true:=by simp
    clear rD ae0 ae1 Yz ae2 Pe;go_wp2_with fail;refine HSA.out.mono ?_;rintro e w12 ⟨rfl,oQ⟩;have YA:=ae3.out.trans (oQ.mono ae3.out.size);have HAW:=Lib.hid (DN w12 (qN.out w12 YA));have ae4:=Lib.hid (bI.out.trans (YA.mono bI.out.size));clear oQ YA c0 c1' IG c3 c4 lb;go_wp2_with fail;refine HAW.out.mono ?_;rintro e w13 ⟨rfl,oR⟩;have amo:=Lib.hid (ae4.out.trans (oR.mono ae4.out.size));clear oR;go_wp2_with fail;go_ret;exact ⟨rfl,amo.out⟩
end
end Go.Proofs.YtdmoogjddmdmbaaGreatDoor
