/- Libraries that made.Plain makes: valid; their matches part at spaces and line ends. · The law ScanShifts: the call returns true, for every tape and number. -/
import Derived.Test.YtoaibhacognbjaaGreatDoorY41
import Derived.Test.YtoaibhacognbjaaGreatDoorY45
import Derived.Test.YtoaibhacognbjaaGreatDoorY05
import Derived.Test.YtoaibhacognbjaaGreatDoorY43
import Derived.Test.YtoaibhacognbjaaGreatDoorY27
import Derived.Test.YtoaibhacognbjaaGreatDoorY04
import Derived.Test.YtoaibhacognbjaaGreatDoorY37
namespace Go.Proofs.YtoaibhacognbjaaGreatDoor
set_option linter.unusedVariables false
set_option linter.unusedSimpArgs false
set_option maxRecDepth 100000
open Go.RowKit
def GoodK (k:Kn):Prop:=nmOK (bl k.nm)=true∧validF k.pat=0∧posF k.pat≤10∧LcOK k=true
theorem LcA.ok {k:Kn} {er:Int} {m:Mc} (h:LcA k er m) (hg:GoodK k):er=0:=by
 rcases h with ⟨h,-⟩ | ⟨-,er0,hc,h⟩
 ·rw[hg.1]at h;cases h
 ·have h0:=hc.few hg.2.1 hg.2.2.1;rcases h with ⟨h1,-⟩ | ⟨-,h2⟩
  ·exact absurd h0 h1
  ·rw[h2,hg.2.2.2];rfl
theorem LaA.ok {ks:List Kn} {er:Int} {ms:List Mc} (h:LaA ks er ms) (h1:1≤ks.length) (h2:ks.length≤32) (hg:∀k∈ks,GoodK k) (hd:dupF ks=false):er=0:=by
 rcases h with ⟨h,-⟩ | ⟨-,⟨i,hi,-,⟨m,hm⟩,hne⟩ | ⟨-,-,h⟩⟩
 ·omega
 ·exact absurd (hm.ok (hg _ (List.getElem_mem hi))) hne
 ·rw[h,hd];rfl
theorem plN_bl:bl (plN 0)=[112,108,97,105,110,48]∧bl (plN 1)=[112,108,97,105,110,49]:=by
 have h:∀s t:ByteArray,bl (s++t)=bl s++bl t:=fun s t=>by unfold bl;simp
 unfold plN;have d0:Lib.decDigits 0=[48]:=by rw[Lib.decDigits];rfl
 have d1:Lib.decDigits 1=[49]:=by rw[Lib.decDigits];rfl
 rw[h,h,bl_bs,bl_bs,d0,d1];exact ⟨rfl,rfl⟩
theorem plN_ne:plN 0≠plN 1:=fun e=>by
 have:=congrArg bl e;rw[plN_bl.1,plN_bl.2]at this;exact absurd this (by decide)
theorem plGood (i j:Nat) (hi:i<2) (hj:j<2):GoodK ⟨plN i,shN j,true,0,0,[],0⟩:=by
 have hi2:i=0∨i=1:=by omega
 have hj2:j=0∨j=1:=by omega
 rcases hi2 with rfl | rfl <;> rcases hj2 with rfl | rfl <;> exact ⟨by first | (show nmOK (bl (plN 0))=true; rw[plN_bl.1]; decide) | (show nmOK (bl (plN 1))=true; rw[plN_bl.2]; decide),by decide,by decide,by decide⟩
theorem plK_mem {js:List Nat} {k:Kn} (h:k∈plK 0 js) (hl:js.length≤2) (hj:∀j∈js,j<2):GoodK k∧∃j,j<2∧k.pat=shN j∧k.wh=true:=by
 obtain ⟨i,hi,rfl⟩:=List.mem_iff_getElem.1 h;have h2:i<js.length:=by rw[plK_len]at hi;exact hi
 rw[plK_get js 0 i hi h2,Nat.zero_add];have:=hj _ (List.getElem_mem h2);exact ⟨plGood i _ (by omega) this,_,this,rfl,rfl⟩
theorem plK_dup (js:List Nat) (hl:js.length≤2):dupF (plK 0 js)=false:=by
 match js,hl with
 | [],_=>rfl
 | [a],_=>rfl
 | [a,b],_=>
  unfold dupF;have h:=plN_ne;simp[plK,List.range_succ,h]
theorem sh_no (j:Nat) (hj:j<2):noB 32 (shN j)=true∧noB 10 (shN j)=true:=by
 have hj2:j=0∨j=1:=by omega
 rcases hj2 with rfl | rfl <;> exact ⟨by decide,by decide⟩
theorem chA_lang {m1 m2:Mc} (h:∀u,acF m1 u 0=acF m2 u 0) (wh:Bool) (bs:List Nat):chA m1 wh bs=chA m2 wh bs:=by
 have hf:∀i,i<bs.length→chF m1 wh bs i=chF m2 wh bs i:=fun i hi=>by
  refine Option.ext fun t=>?_;have e:∀x,AccT m1 wh bs i x↔AccT m2 wh bs i x:=fun x=>by unfold AccT;rw[h]
  rw[chF_is m1 wh bs i t (by omega),chF_is m2 wh bs i t (by omega),e]
  constructor
  ·rintro ⟨h1,h2⟩;exact ⟨h1,fun x hx=>h2 x ((e x).2 hx)⟩
  ·rintro ⟨h1,h2⟩;exact ⟨h1,fun x hx=>h2 x ((e x).1 hx)⟩
 have gen:∀k i,chsF (chF m1 wh bs) bs.length k i=chsF (chF m2 wh bs) bs.length k i:=by
  intro k
  induction k with
  | zero=>intro i;rfl
  | succ k ih=>
   intro i;rw[chsF,chsF];by_cases hi:i<bs.length
   ·rw[if_pos hi,if_pos hi,hf i hi]
    cases chF m2 wh bs i with
    | none=>exact ih (i+1)
    | some t=>show (i,t)::_=(i,t)::_;rw[ih t]
   ·rw[if_neg hi,if_neg hi]
 exact gen _ _
def plF (ks:List Kn) (ms:List Mc) (bs:List Nat) (i:Nat):List (Nat×Nat):=chA ((ms[i]?).getD ⟨[],[]⟩) ((ks[i]?).map Kn.wh |>.getD false) bs
theorem plF_le {ks:List Kn} {ms:List Mc} {bs:List Nat} {n:Nat} {o:List Mt} (hp:o.Perm (allK (plF ks ms bs) n 0)) {a:Mt} (ha:a∈o):a.f<a.t∧a.t≤bs.length∧a.k<n:=by
 have h:=allK_mem.1 (hp.subset ha);exact ⟨(chA_in h.2).1.1,(chA_in h.2).1.2,by omega⟩
theorem evK_all (ks:List Kn) (ms:List Mc) (bs:List Nat) (i:Nat):evK ks ms bs (fun _ _ _=>true) i=plF ks ms bs i:=by
 unfold evK plF;exact List.filter_eq_self.2 fun _ _=>rfl
theorem plF_no {ks:List Kn} {ms:List Mc} (h:LaA ks 0 ms) (hk:∀k∈ks,∃j,j<2∧k.pat=shN j∧k.wh=true) (i:Nat) (hi:i<ks.length):∃m:Mc,(∀bs,plF ks ms bs i=chA m true bs)∧(∀w,acF m w 0=true→32∉w)∧(∀w,acF m w 0=true→10∉w)∧∀w,acF m w 0=true↔langN ks[i].pat w:=by
 obtain ⟨-,l1,q1⟩:=h.all;have hl:=(q1 i hi (by omega)).good.1.vld.2.2.2.2
 obtain ⟨j,hj,e1,e2⟩:=hk _ (List.getElem_mem hi);obtain ⟨n1,n2⟩:=sh_no j hj;refine ⟨ms[i]'(by omega),fun bs=>?_,fun w hw=>?_,fun w hw=>?_,hl⟩
 ·unfold plF;rw[List.getElem?_eq_getElem (show i<ms.length by omega),List.getElem?_eq_getElem hi]
  simp only[Option.getD_some,Option.map_some];rw[e2]
 ·exact no_byte n1 (e1▸(hl w).1 hw)
 ·exact no_byte n2 (e1▸(hl w).1 hw)
theorem allK_shift {f g:Nat→List (Nat×Nat)} {d:Nat}:∀{n i:Nat},(∀j,i≤j→j<i+n→g j=shiftL d (f j))→allK g n i=shM d (allK f n i)
 | 0,i,_=>rfl
 | n+1,i,hh=>by
  rw[allK,allK,hh i (by omega) (by omega),mtK_shift,shM_app,allK_shift (n:=n) (i:=i+1) (fun j h1 h2=>hh j (by omega) (by omega))]
theorem shM_perm {d:Nat} {l1 l2:List Mt} (h:l1.Perm l2):(shM d l1).Perm (shM d l2):=h.map _
theorem pass_plain {u:KC} {A:Option Addr} {n c:Nat} {l:List Nat} {w:World} (hu:u.ck=0∧u.en=0∧u.n3=0) (hby:ByIn w (.slice A n c) l) (hn:l.length=n) (hnl:n≤900000) (h256:∀b∈l,b<256):PassH u (.slice A n c) n (fun _ _=>true) w:=fun W a z hW h1 h2=>by
 have h:=passes_nw u A n c a z l true W (hby.later hW) hn hnl h256 h1 h2 hu.2.2 (fun V _=>by rw[hu.1];exact (chold0 _ V).mono fun e w' ⟨q1,q2⟩=>⟨q1,q2▸Below.refl _ _⟩)
 have hd:decide (u.en≤((meaF ((l.drop a).take (z-a)):Nat):Int))=true:=decide_eq_true (by rw[hu.2.1];omega)
 rw[hd]at h;exact h
def SpPost (ks:List Kn) (bs:List Nat) (w:World) (e:Ending) (w':World):Prop:=∃v o ms,e = .returned (.tuple #[v, .int .i64 0])∧MtIn w' v o∧LaA ks 0 ms∧o.Perm (allK (plF ks ms bs) ks.length 0)∧o.Pairwise LeMt∧Below w.heap.size w w'
theorem plN_size (i:Nat) (hi:i<2):(plN i).size≤100:=by
 have hi2:i=0∨i=1:=by omega
 rcases hi2 with rfl | rfl
 ·rw[←size_list,plN_bl.1];decide
 ·rw[←size_list,plN_bl.2];decide
theorem splain_any (v vt:Value) (us:List KC) (js:List Nat) (bs:List Nat) (w:World) (h:KnsIn w v us (plK 0 js)) (hl:1≤js.length∧js.length≤2) (hj:∀j∈js,j<2) (hu:∀u∈us,u.ck=0∧u.en=0∧u.n3=0∧u.wh=true) (hvr:VrOK w) (hb:ByIn w vt bs) (hbl:bs.length≤60000) (h256:∀b∈bs,b<256) :
  Calls Tryz.prog 29 #[v,vt] w (SpPost (plK 0 js) bs w):=by
 obtain ⟨hlk,Ak,ck,rfl,-⟩:=id h;obtain ⟨A,c,rfl,-⟩:=id hb;have hkl:=plK_len js 0;refine (sall_any Ak us.length ck us (plK 0 js) A bs.length c bs (fun _ _ _=>true) w h hvr (fun k hk=>?_) hb rfl (by omega) (by rw[hkl];have:js.length*bs.length≤2*bs.length:=Nat.mul_le_mul_right _ hl.2;omega) h256 (fun i hi=>?_)).mono ?_
 ·obtain ⟨i,hi,rfl⟩:=List.mem_iff_getElem.1 hk;have h2:i<js.length:=by rw[hkl]at hi;exact hi
  rw[plK_get js 0 i hi h2,Nat.zero_add];have:=plN_size i (by omega)
  show (plN i).size≤_;omega
 ·obtain ⟨q1,q2,q3,-⟩:=hu _ (List.getElem_mem hi);exact pass_plain ⟨q1,q2,q3⟩ hb rfl (by omega) h256
 ·rintro e w' ⟨hbw,er,ms,hla,hpost⟩;have h0:er=0:=hla.ok (by rw[hkl];exact hl.1) (by rw[hkl];omega) (fun k hk=>(plK_mem hk hl.2 hj).1) (plK_dup js hl.2)
  subst h0;rcases hpost with ⟨h1,-⟩ | ⟨-,h1,-⟩ | ⟨-,-,v2,o,rfl,q1,q2,q3⟩
  ·exact absurd rfl h1
  ·omega
  ·refine ⟨v2,o,ms,rfl,q1,hla,?_,q3,hbw⟩;have:=allK_congr (f:=evK (plK 0 js) ms bs (fun _ _ _=>true)) (g:=plF (plK 0 js) ms bs) (n:=(plK 0 js).length) (i:=0) (fun j _ _=>evK_all _ _ _ _);rw[←this];exact q2
theorem shifts_plain {js:List Nat} {ms1 ms2:List Mc} {bs:List Nat} {k:Nat} {o1 o2:List Mt} (hj:∀j∈js,j<2) (hl:js.length≤2) (h1:LaA (plK 0 js) 0 ms1) (h2:LaA (plK 0 js) 0 ms2) (p1:o1.Perm (allK (plF (plK 0 js) ms1 bs) (plK 0 js).length 0)) (s1:o1.Pairwise LeMt)
  (p2:o2.Perm (allK (plF (plK 0 js) ms2 (List.replicate k 32++bs++[10,10])) (plK 0 js).length 0)) (s2:o2.Pairwise LeMt):o2=shM k o1:=by
 have hk:∀q∈plK 0 js,∃j,j<2∧q.pat=shN j∧q.wh=true:=fun q hq=>(plK_mem hq hl hj).2;have hf:∀i,0≤i→i<0+(plK 0 js).length→plF (plK 0 js) ms2 (List.replicate k 32++bs++[10,10]) i=shiftL k (plF (plK 0 js) ms1 bs i):=fun i _ hi=>by
  have hi':i<(plK 0 js).length:=by omega
  obtain ⟨m1,e1,-,-,l1⟩:=plF_no h1 hk i hi';obtain ⟨m2,e2,n32,n10,l2⟩:=plF_no h2 hk i hi';rw[e1,e2,List.append_assoc,chA_front n32 (by decide),show ([10,10]:List Nat)=List.replicate 2 10 from rfl,chA_back n10 (by decide) bs 2]
  rw[chA_lang (m1:=m2) (m2:=m1) fun u=>by rw[Bool.eq_iff_iff,l1,l2]]
 rw[allK_shift hf]at p2;exact sorted_one (p2.trans (shM_perm p1.symm)) s2 (shM_sorted s1)
theorem rep_snoc (k:Nat):List.replicate (k+1) (32:UInt8)=List.replicate k 32++[32]:=List.replicate_succ'
set_option maxHeartbeats 16000000 in
theorem shifts_law (A:Option Addr) (n c:Nat) (nn:Int) (w:World) (ht:TapeArg A n w) (hv:VrOK w) :
  Calls Tryz.prog 9 #[.slice A n c, .int .i64 nn] w fun e w'=>e = .returned (.bool true)∧Below w.heap.size w w':=by
 have h0:=tape_new (c:=c) ht;have hb0:=(Below.refl w.heap.size w).alloc (Nat.le_refl _) (.cells #[.slice A n c, .int .i64 0] 25);have hz0:(w.alloc (.cells #[.slice A n c, .int .i64 0] 25)).heap.size=w.heap.size+1:=by simp
 generalize hw0:w.alloc (.cells #[.slice A n c, .int .i64 0] 25)=w0 at h0 hb0 hz0;have HW0:=Lib.hid hw0;have HV:=Lib.hid hv;obtain ⟨p,hp⟩:∃p,bits .and .i64 nn 31=p:=⟨_,rfl⟩;obtain ⟨hp0,hp1⟩:=mask_bd nn 31 (by decide) (by decide)
 rw[hp]at hp0 hp1;obtain ⟨kk,rfl⟩:=Int.eq_ofNat_of_zero_le hp0;have HP:=Lib.hid hp;have hkk:kk≤31:=by omega
 obtain ⟨i0,hi,hz00,hz1,hz2⟩:=info_parts info_u8;clear hv ht hp hp0 hp1
 go_enter Tryz.func9,Tryz.ntmps9
 go_upto_region 2 with fail
 clear hw0;go_wp2_with fail;refine (mplain_any w.heap.size w0 h0).mono ?_;rintro e w1 ⟨v,us,js,rfl,hul,hlj,hj2,hkn,hks,hup,ht1,hf1⟩;have HK:=Lib.hid (And.intro hul (And.intro hlj (And.intro hj2 (And.intro hkn (And.intro hks hup)))));have HF1:=Lib.hid (And.intro ht1 hf1);clear hul hlj hj2 hkn hks hup;go_wp2_with fail;refine (next_any w.heap.size 5 _ (by omega) (by omega) ht1).mono ?_
 rintro e w2 ⟨ri,rfl,r0,r1,ht2,hf2⟩;obtain ⟨r,rfl⟩:=Int.eq_ofNat_of_zero_le r0;have hr5:r≤4:=by omega
 have HF2:=Lib.hid (And.intro ht2 hf2);have hkn2:KnV w.heap.size w2 v:=HK.out.2.2.2.1.later (Stay.of_fr hf2);clear ht1 hf1 r0 r1 hf2;go_wp2_with fail;refine (text_any w.heap.size r v w2 hkn2 (by omega) ht2).mono ?_
 rintro e w3 ⟨vt,l,rfl,hll,hob,ht3,hf3⟩;obtain ⟨Av,nv,cv,rfl⟩:=hob.form_;have HT:=Lib.hid (And.intro hll hob);have HF3:=Lib.hid (HF1.out.2.trans (HF2.out.2.trans hf3));have HF13:=Lib.hid (HF2.out.2.trans hf3);clear ht2 hkn2 hll hob ht3 hf3;have hpp:=HP.out;go_wp2_with fail;clear hpp
 go_loopw [9,10] (fun fv iv wr=>∃i:Nat,i≤kk∧iv = .int .i64 (i:Int)∧OB 5 w3.heap.size fv (List.replicate i 32) wr∧Below w3.heap.size w3 wr) (fun _ iv _=>kk - (intOf iv).toNat)
 case atStart=>exact ⟨0,by omega,rfl,OB.nil_ _ _ _,Below.refl _ _⟩
 case round=>
  obtain ⟨i,hi',rfl,hown,hbw⟩:=hrel;by_cases hlt:i<kk
  ·have hd:decide ((i:Int)<(kk:Int))=true:=decide_eq_true (by omega)
   have hdn:decide (i<kk)=true:=decide_eq_true hlt;have hsz:=hbw.size;go_wp2_with (at_builtin;refine app_u8 Tryz.underlying41 hi hz00 hz1 hz2 _ _ _ (List.replicate i 32) 32 32 w3.heap.size rfl rfl rfl rfl hown rfl (by rw[List.length_replicate];omega) hsz ?_;intro v4 w4 hown4 hb4 _ _)
   go_roundw
   case rel=>exact ⟨i+1,by omega,by go_num,by rw[rep_snoc];exact hown4,hbw.trans hb4⟩
   case measure=>simp[intOf];omega
  ·obtain rfl:i=kk:=by omega
   have hd:decide ((i:Int)<(i:Int))=false:=decide_eq_false (by omega)
   have hdn:decide (i<i)=false:=decide_eq_false (by omega)
   have hz13:=HF3.out.size;have hfw:Fr w.heap.size w0 wr:=HF3.out.then (hbw.mono hz13);have hf1r:Fr w.heap.size w1 wr:=HF13.out.then (hbw.mono HF13.out.size);have hbel:Below w.heap.size w wr:=hb0.trans (hfw.below (Nat.le_refl _) (by omega))
   have hby:ByIn wr (.slice Av nv cv) (l.map UInt8.toNat):=OBs.reads (HT.out.2.below hbw);obtain ⟨bs,hbs⟩:∃bs,l.map UInt8.toNat=bs:=⟨_,rfl⟩;rw[hbs]at hby;have hbl:bs.length≤120:=by rw[←hbs,List.length_map];have:=HT.out.1;omega
   have h256:∀b∈bs,b<256:=fun b hb=>by rw[←hbs]at hb;obtain ⟨u,-,rfl⟩:=List.mem_map.1 hb;exact u.toNat_lt
   have HA1:=Lib.hid (splain_any v (.slice Av nv cv) us js bs wr (HK.out.2.2.2.2.1 wr (Stay.of_fr hf1r)) ⟨by have:=HK.out.1;have:=HK.out.2.1;omega,by have:=HK.out.1;have:=HK.out.2.1;omega⟩ HK.out.2.2.1 HK.out.2.2.2.2.2 (HV.out.later hbel) hby (by omega) h256)
   have H4:=Lib.hid (And.intro hown (And.intro hbw (And.intro hf1r (And.intro hbel (And.intro hby (And.intro hbs (And.intro hbl h256)))))));clear hown hbw hz13 hfw hf1r hbel hby hbs hbl h256;go_wp2_with fail;refine HA1.out.mono ?_;rintro e w5 ⟨v5,o1,ms1,rfl,hm1,hla1,hp1,hs1,hb5⟩;obtain ⟨Ax,cx,rfl,hcx,hxc⟩:=id hm1;have H5:=Lib.hid (And.intro hm1 (And.intro hla1 (And.intro hp1 (And.intro hs1 hb5))));have HX:=Lib.hid hxc;have he0:OB 5 w5.heap.size (.slice (some ⟨w5.heap.size,0,none⟩) 0 0) [] (w5.alloc (.cells #[] 5)):=⟨rfl, .inr ⟨w5.heap.size,0,#[],rfl,Nat.le_refl _,heap_alloc_new _ _,Nat.le_refl _,Nat.zero_le _,rfl,rfl⟩⟩;have hbA:Below wr.heap.size wr (w5.alloc (.cells #[] 5)):=hb5.trans (((Below.refl _ _).alloc (Nat.le_refl _) _).mono hb5.size);have hfr5:=H4.out.1.below hbA;have hlw5:OB 5 w2.heap.size (.slice Av nv cv) l w5:=(HT.out.2.below H4.out.2.1).below hb5;have H4l:=Lib.hid hlw5;have h5:Below w5.heap.size w5 (w5.alloc (.cells #[] 5)):=(Below.refl _ _).alloc (Nat.le_refl _) _;have hlen:=HT.out.1;have hz5:w5.heap.size≤(w5.alloc (.cells #[] 5)).heap.size:=by simp
   clear hm1 hla1 hp1 hs1 hb5 hxc;go_wp2_with (at_builtin;first
    | (have prb:=hown7;clear prb;refine app_text Tryz.underlying41 Tryz.underlying9 hi hz00 hz1 hz2 _ _ _ _ ⟨#[10,10]⟩ w5.heap.size rfl rfl rfl rfl hown7 (by rw[show (⟨#[10,10]⟩:ByteArray).size=2 from rfl];simp;omega) hz7 ?_;intro v8 w8 hown8 hb8)
    | (have prb:=hown6;clear prb;refine app_OB Tryz.underlying41 hi hz00 hz1 hz2 _ _ _ _ _ l w5.heap.size _ rfl rfl rfl rfl hown6 hl6 (by simp;omega) hz6 ?_;intro v7 w7 hown7 hb7;have hz7:w5.heap.size≤w7.heap.size:=Nat.le_trans hz6 hb7.size)
    | (refine app_OB Tryz.underlying41 hi hz00 hz1 hz2 _ _ _ _ [] (List.replicate i 32) w5.heap.size _ rfl rfl rfl rfl he0 hfr5 (by rw[List.length_replicate];simp;omega) hz5 ?_;intro v6 w6 hown6 hb6;have hl6:OB 5 w2.heap.size (.slice Av nv cv) l w6:=H4l.out.below (h5.trans hb6);have hz6:w5.heap.size≤w6.heap.size:=Nat.le_trans hz5 hb6.size))
   have hb58:Below w5.heap.size w5 w8:=((h5.trans hb6).trans hb7).trans hb8;have hbel8:Below w.heap.size w w8:=H4.out.2.2.2.1.trans ((H5.out.2.2.2.2.trans (hb58.mono H5.out.2.2.2.2.size)).mono H4.out.2.2.2.1.size);have hst8:Stay w.heap.size w1 w8:=Stay.of_fr (H4.out.2.2.1.then ((H5.out.2.2.2.2.trans (hb58.mono H5.out.2.2.2.2.size)).mono H4.out.2.2.1.size));obtain ⟨A8,n8,c8,rfl⟩:=hown8.form_;have hby8:=OBs.reads hown8;have hlst:([]++List.replicate i (32:UInt8)++l++bl ⟨#[10,10]⟩).map UInt8.toNat=List.replicate i 32++bs++[10,10]:=by
    rw[←H4.out.2.2.2.2.2.1];simp
    rfl
   rw[hlst]at hby8;have HA2:=Lib.hid (splain_any v (.slice A8 n8 c8) us js (List.replicate i 32++bs++[10,10]) w8 (HK.out.2.2.2.2.1 w8 hst8) ⟨by have:=HK.out.1;have:=HK.out.2.1;omega,by have:=HK.out.1;have:=HK.out.2.1;omega⟩ HK.out.2.2.1 HK.out.2.2.2.2.2 (HV.out.later hbel8) hby8 (by have:=H4.out.2.2.2.2.2.2.1;simp;omega) (fun b hb=>by
    rcases List.mem_append.1 hb with hb | hb
    ·rcases List.mem_append.1 hb with hb | hb
     ·have:=List.eq_of_mem_replicate hb;omega
     ·exact H4.out.2.2.2.2.2.2.2 b hb
    ·simp at hb;omega))
   have H8:=Lib.hid (And.intro hb58 hbel8);clear hb58 hbel8 hst8 hby8 hlst hown8 hb8 hown7 hb7 hown6 hb6 hl6 hz6 hz7 he0 hbA hfr5 hlw5 H4l h5 hz5;refine HA2.out.mono ?_;rintro e w9 ⟨v9,o2,ms2,rfl,hm2,hla2,hp2,hs2,hb9⟩;have heq:o2=shM i o1:=shifts_plain HK.out.2.2.1 (by have:=HK.out.1;have:=HK.out.2.1;omega) H5.out.2.1 hla2 H5.out.2.2.1 H5.out.2.2.2.1 hp2 hs2
   subst heq;obtain ⟨Ay,cy,rfl,hcy,hyc⟩:=id hm2;have hlo:(shM i o1).length=o1.length:=by unfold shM;simp
   obtain ⟨N,hN⟩:∃N,o1.length=N:=⟨_,rfl⟩;rw[hlo,hN]at hcy⊢;rw[hN]at hcx;have hbel9:=H8.out.2.trans (hb9.mono H8.out.2.size);have H9:=Lib.hid (And.intro hbel9 (And.intro (H8.out.1.trans (hb9.mono H8.out.1.size)) (And.intro hyc hN)));have hNi:(N:Int)≤9223372036854775807:=by omega
   clear hbel9 hb9 hm2 hla2 hp2 hs2 hyc hlo hN;have HAW:=Lib.hid fun W (hb:Below w.heap.size w W)=>awake08 W (HV.out.later hb);go_wp2_with fail
   go_loopw [15] (fun iv wr=>∃q:Nat,q≤N∧iv = .int .i64 (q:Int)∧Below w9.heap.size w9 wr) (fun iv _=>N - (intOf iv).toNat)
   case atStart=>exact ⟨0,by omega,rfl,Below.refl _ _⟩
   case round=>
    obtain ⟨q,hq,rfl,hbq⟩:=hrel;by_cases hlt2:q<N
    ·have hd2:decide ((q:Int)<(N:Int))=true:=decide_eq_true (by omega)
     have hdn2:decide (q<N)=true:=decide_eq_true hlt2;have hq1:q<o1.length:=by have:=H9.out.2.2.2;omega
     have hq2:q<(shM i o1).length:=by unfold shM;simpa using hq1
     obtain ⟨gx,fx,rfl,hgx,hxx⟩:=HX.out.resolve_left (by rintro rfl;cases hq1)
     obtain ⟨gy,fy,rfl,hgy,hyy⟩:=H9.out.2.2.1.resolve_left (by intro h;rw[h]at hq2;cases hq2)
     obtain ⟨a,ha⟩:∃a,o1[q]=a:=⟨_,rfl⟩;have hsh:(shM i o1)[q]=⟨a.k,a.f+i,a.t+i⟩:=by rw[←ha];exact List.getElem_map _
     have hb5q:Below w5.heap.size w5 wr:=H9.out.2.1.trans (hbq.mono H9.out.2.1.size);have hx':=fun (d:BelT wr.heap.size wr) j hj=>((hb5q.trans (d.property.mono hb5q.size)).cell (p:=⟨gx,fx+q*3+j,none⟩) hgx).trans (hxx q hq1 j hj);have hy':=fun (d:BelT wr.heap.size wr) j hj=>((hbq.trans (d.property.mono hbq.size)).cell (p:=⟨gy,fy+q*3+j,none⟩) hgy).trans (hyy q hq2 j hj);rw[ha]at hx';rw[hsh]at hy';have x0:∀d:BelT wr.heap.size wr,d.val.cell? ⟨gx,fx+q*3,none⟩=some (.int .i64 (a.k:Int)):=fun d=>hx' d 0 (by decide)
     have x1:∀d:BelT wr.heap.size wr,d.val.cell? ⟨gx,fx+q*3+1,none⟩=some (.int .i64 (a.f:Int)):=fun d=>hx' d 1 (by decide)
     have x2:∀d:BelT wr.heap.size wr,d.val.cell? ⟨gx,fx+q*3+2,none⟩=some (.int .i64 (a.t:Int)):=fun d=>hx' d 2 (by decide)
     have y0:∀d:BelT wr.heap.size wr,d.val.cell? ⟨gy,fy+q*3,none⟩=some (.int .i64 (a.k:Int)):=fun d=>hy' d 0 (by decide)
     have y1:∀d:BelT wr.heap.size wr,d.val.cell? ⟨gy,fy+q*3+1,none⟩=some (.int .i64 ((a.f:Int)+(i:Int))):=fun d=>(hy' d 1 (by decide)).trans (by show some (Value.int .i64 ((a.f+i:Nat):Int))=_;push_cast;rfl)
     have y2:∀d:BelT wr.heap.size wr,d.val.cell? ⟨gy,fy+q*3+2,none⟩=some (.int .i64 ((a.t:Int)+(i:Int))):=fun d=>(hy' d 2 (by decide)).trans (by show some (Value.int .i64 ((a.t+i:Nat):Int))=_;push_cast;rfl)
     have gx0:∀d:BelT wr.heap.size wr,gx<d.val.heap.size:=fun d=>Nat.lt_of_lt_of_le hgx (hb5q.trans (d.property.mono hb5q.size)).size;have gy0:∀d:BelT wr.heap.size wr,gy<d.val.heap.size:=fun d=>Nat.lt_of_lt_of_le hgy (hbq.trans (d.property.mono hbq.size)).size;have HBQ:=Lib.hid hbq;have hab:a.f≤1000000∧a.t≤1000000:=by
      have h7:=plF_le H5.out.2.2.1 (List.getElem_mem hq1);rw[ha]at h7;have h8:=H4.out.2.2.2.2.2.2.1;omega
     have hw1:IntKind.i64.wrap ((a.f:Int)+(i:Int))=(a.f:Int)+(i:Int):=IntWalk.i64_in _ (by omega)
     have hw2:IntKind.i64.wrap ((a.t:Int)+(i:Int))=(a.t:Int)+(i:Int):=IntWalk.i64_in _ (by omega)
     clear hxx hyy hx' hy' hsh ha hb5q hbq hab hgx hgy;go_wp2_with fail;refine wp_region_below (Below.refl wr.heap.size wr) (by kernel_rfl) (by kernel_rfl) ?_
     repeat (go_big_quiet_step (fail))
     refine wpQuiet_nil ?_;intro wz hw';have hwz:Below wr.heap.size wr wz:=by obtain ⟨d9,rfl⟩:=hw';exact d9.property
     have HBZ:=Lib.hid (HBQ.out.trans (hwz.mono HBQ.out.size));clear hw' x0 x1 x2 y0 y1 y2 gx0 gy0 hwz;go_wp2_with fail;go_roundw
     case rel=>exact ⟨q+1,by omega,by go_num,HBZ.out⟩
     case measure=>simp[intOf];omega
    ·obtain rfl:q=N:=by omega
     have hd2:decide ((q:Int)<(q:Int))=false:=decide_eq_false (by omega)
     have hdn2:decide (q<q)=false:=decide_eq_false (by omega)
     have HBQ:=Lib.hid (H9.out.1.trans (hbq.mono H9.out.1.size));clear hbq;go_wp2_with fail;refine (HAW.out wr HBQ.out).mono ?_;rintro e wf ⟨rfl,hbf⟩;have HBF:=Lib.hid (HBQ.out.trans (hbf.mono HBQ.out.size));clear hbf;go_wp2_with fail;go_ret;exact ⟨rfl,HBF.out⟩
end Go.Proofs.YtoaibhacognbjaaGreatDoor
