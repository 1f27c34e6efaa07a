/- Texts joined anew. -/
import Derived.Test.YtoaibhacognbjaaGreatDoorY41
import Derived.Test.YtoaibhacognbjaaGreatDoorY38
import Derived.Test.YtoaibhacognbjaaGreatDoorY31
import Derived.Deep.RegionHeld3
import Derived.Deep.AppendLies
import Derived.Test.YtoaibhacognbjaaGreatDoorY03
import Derived.Laws.AppendOwnNone
import Derived.Test.YtoaibhacognbjaaGreatDoorY02
import Derived.WalkKit
import Derived.WalkSpells
import Derived.WalkLawsBesides
import Derived.Lib.Hide
import Derived.Lib.ConvBytes
import Derived.BigQuiet
import Derived.Test.YtoaibhacognbjaaGreatDoorY01
import Derived.IntWalk
import Derived.Laws.Entries
import Derived.Laws.Closers25b
import Derived.Laws.BitsAllLaws
import Derived.Lib.Strings
import Derived.Test.YtoaibhacognbjaaGreatDoorY30
import Derived.Test.YtoaibhacognbjaaGreatDoorY28
import Derived.Test.YtoaibhacognbjaaGreatDoorY23
import Derived.Test.YtoaibhacognbjaaGreatDoorY22
import Derived.Test.YtoaibhacognbjaaGreatDoorY21
import Derived.Test.YtoaibhacognbjaaGreatDoorY16
import Derived.Test.YtoaibhacognbjaaGreatDoorY14
import Derived.Test.YtoaibhacognbjaaGreatDoorY12
import Derived.Test.YtoaibhacognbjaaGreatDoorY10
import Derived.Test.YtoaibhacognbjaaGreatDoorY08
import Derived.Test.YtoaibhacognbjaaGreatDoorY07
import Derived.Test.YtoaibhacognbjaaGreatDoorY06
import Derived.Test.YtoaibhacognbjaaGreatDoorY04
import Derived.Test.YtoaibhacognbjaaGreatDoorY05
import Derived.Deep.QuietTactic
import Derived.Laws.OwnMore
import Derived.Test.YtoaibhacognbjaaGreatDoorY09
import Derived.Lib.AppendZerosOnto
import Derived.Lib.SliceRun
import Derived.Lib.OwnBridge
import Derived.LoopN
import Derived.StillTailTactics
import Derived.Test.YtoaibhacognbjaaGreatDoorY11
import Derived.Maps.Own
import Derived.Maps.OwnOps
import Derived.Maps.OwnSet
import Derived.Maps.Views
import Derived.Test.YtoaibhacognbjaaGreatDoorY13
import Derived.Lib.ItoaNum
import Derived.Lib.Itoa
import Derived.Test.YtoaibhacognbjaaGreatDoorY15
import Derived.RangeFuncRecord
import Derived.Test.YtoaibhacognbjaaGreatDoorY20
import Derived.Test.YtoaibhacognbjaaGreatDoorY17
import Derived.Lib.AppendStr
import Derived.Shelf.Strings.Builder1
import Derived.Lib.FrozenHead
import Derived.Test.YtoaibhacognbjaaGreatDoorY19
import Derived.Test.YtoaibhacognbjaaGreatDoorY18
import Derived.Lib.LaidTab
import Derived.Laws.MakeOwn
import Derived.Shelf.Slices.Turned
import Derived.Deep.LoopGhost
import Derived.Test.YtoaibhacognbjaaGreatDoorY24
import Derived.Test.YtoaibhacognbjaaGreatDoorY27
import Derived.Test.YtoaibhacognbjaaGreatDoorY25
import Derived.Test.YtoaibhacognbjaaGreatDoorY26
import Derived.Lib.AsciiSet
import Derived.Deep.WholeRow
import Derived.Lib.SmallJoins
import Derived.Test.YtoaibhacognbjaaGreatDoorY29
import Derived.Deep.CutRange
import Derived.Test.YtoaibhacognbjaaGreatDoorY37
import Derived.Test.YtoaibhacognbjaaGreatDoorY32
import Derived.RangeFuncNested
import Derived.RangeFuncBound
import Derived.RangeFuncCalls
import Derived.RangeFuncLeaves
import Derived.RangeFuncWrites
import Derived.Shelf.Abstract
import Derived.Shelf.RegionOpen
import Derived.OwnWalkIn
import Derived.TacticsInMore
import Derived.LoopNIn
import Derived.LoopIn
import Derived.Test.YtoaibhacognbjaaGreatDoorY36
import Derived.Test.YtoaibhacognbjaaGreatDoorY35
import Derived.Test.YtoaibhacognbjaaGreatDoorY34
import Derived.Test.YtoaibhacognbjaaGreatDoorY33
import Derived.Test.YtoaibhacognbjaaGreatDoorY40
import Derived.Shelf.SlSortCmp.NoneTotal
import Derived.Test.YtoaibhacognbjaaGreatDoorY48
import Derived.Test.YtoaibhacognbjaaGreatDoorY45
import Derived.Test.YtoaibhacognbjaaGreatDoorY44
import Derived.Test.YtoaibhacognbjaaGreatDoorY43
import Derived.Test.YtoaibhacognbjaaGreatDoorY42
import Derived.Laws.Rows
namespace Go.Proofs.YtoaibhacognbjaaGreatDoor
set_option linter.unusedVariables false
set_option linter.unusedSimpArgs false
set_option maxRecDepth 100000
open Go.RowKit
def GoodK (k:Kn):Prop:=nmOK (bl k.nm)=true∧validF k.pat=0∧posF k.pat≤10∧LcOK k=true
theorem LcA.ok {k:Kn} {er:Int} {m:Mc} (h:LcA k er m) (hg:GoodK k):er=0:=by
 rcases h with ⟨h,-⟩ | ⟨-,er0,hc,h⟩
 ·rw[hg.1]at h;cases h
 ·have h0:=hc.few hg.2.1 hg.2.2.1;rcases h with ⟨h1,-⟩ | ⟨-,h2⟩
  ·exact absurd h0 h1
  ·rw[h2,hg.2.2.2];rfl
theorem LaA.ok {ks:List Kn} {er:Int} {ms:List Mc} (h:LaA ks er ms) (h1:1≤ks.length) (h2:ks.length≤32) (hg:∀k∈ks,GoodK k) (hd:dupF ks=false):er=0:=by
 rcases h with ⟨h,-⟩ | ⟨-,⟨i,hi,-,⟨m,hm⟩,hne⟩ | ⟨-,-,h⟩⟩
 ·omega
 ·exact absurd (hm.ok (hg _ (List.getElem_mem hi))) hne
 ·rw[h,hd];rfl
theorem plN_bl:bl (plN 0)=[112,108,97,105,110,48]∧bl (plN 1)=[112,108,97,105,110,49]:=by
 have h:∀s t:ByteArray,bl (s++t)=bl s++bl t:=fun s t=>by unfold bl;simp
 unfold plN;have d0:Lib.decDigits 0=[48]:=by rw[Lib.decDigits];rfl
 have d1:Lib.decDigits 1=[49]:=by rw[Lib.decDigits];rfl
 rw[h,h,bl_bs,bl_bs,d0,d1];exact ⟨rfl,rfl⟩
theorem plN_ne:plN 0≠plN 1:=fun e=>by
 have:=congrArg bl e;rw[plN_bl.1,plN_bl.2]at this;exact absurd this (by decide)
theorem plGood (i j:Nat) (hi:i<2) (hj:j<2):GoodK ⟨plN i,shN j,true,0,0,[],0⟩:=by
 have hi2:i=0∨i=1:=by omega
 have hj2:j=0∨j=1:=by omega
 rcases hi2 with rfl | rfl <;> rcases hj2 with rfl | rfl <;> exact ⟨by first | (show nmOK (bl (plN 0))=true; rw[plN_bl.1]; decide) | (show nmOK (bl (plN 1))=true; rw[plN_bl.2]; decide),by decide,by decide,by decide⟩
theorem plK_mem {js:List Nat} {k:Kn} (h:k∈plK 0 js) (hl:js.length≤2) (hj:∀j∈js,j<2):GoodK k∧∃j,j<2∧k.pat=shN j∧k.wh=true:=by
 obtain ⟨i,hi,rfl⟩:=List.mem_iff_getElem.1 h;have h2:i<js.length:=by rw[plK_len]at hi;exact hi
 rw[plK_get js 0 i hi h2,Nat.zero_add];have:=hj _ (List.getElem_mem h2);exact ⟨plGood i _ (by omega) this,_,this,rfl,rfl⟩
theorem plK_dup (js:List Nat) (hl:js.length≤2):dupF (plK 0 js)=false:=by
 match js,hl with
 | [],_=>rfl
 | [a],_=>rfl
 | [a,b],_=>
  unfold dupF;have h:=plN_ne;simp[plK,List.range_succ,h]
theorem sh_no (j:Nat) (hj:j<2):noB 32 (shN j)=true∧noB 10 (shN j)=true:=by
 have hj2:j=0∨j=1:=by omega
 rcases hj2 with rfl | rfl <;> exact ⟨by decide,by decide⟩
theorem chA_lang {m1 m2:Mc} (h:∀u,acF m1 u 0=acF m2 u 0) (wh:Bool) (bs:List Nat):chA m1 wh bs=chA m2 wh bs:=by
 have hf:∀i,i<bs.length→chF m1 wh bs i=chF m2 wh bs i:=fun i hi=>by
  refine Option.ext fun t=>?_;have e:∀x,AccT m1 wh bs i x↔AccT m2 wh bs i x:=fun x=>by unfold AccT;rw[h]
  rw[chF_is m1 wh bs i t (by omega),chF_is m2 wh bs i t (by omega),e]
  constructor
  ·rintro ⟨h1,h2⟩;exact ⟨h1,fun x hx=>h2 x ((e x).2 hx)⟩
  ·rintro ⟨h1,h2⟩;exact ⟨h1,fun x hx=>h2 x ((e x).1 hx)⟩
 have gen:∀k i,chsF (chF m1 wh bs) bs.length k i=chsF (chF m2 wh bs) bs.length k i:=by
  intro k
  induction k with
  | zero=>intro i;rfl
  | succ k ih=>
   intro i;rw[chsF,chsF];by_cases hi:i<bs.length
   ·rw[if_pos hi,if_pos hi,hf i hi]
    cases chF m2 wh bs i with
    | none=>exact ih (i+1)
    | some t=>show (i,t)::_=(i,t)::_;rw[ih t]
   ·rw[if_neg hi,if_neg hi]
 exact gen _ _
def plF (ks:List Kn) (ms:List Mc) (bs:List Nat) (i:Nat):List (Nat×Nat):=chA ((ms[i]?).getD ⟨[],[]⟩) ((ks[i]?).map Kn.wh |>.getD false) bs
theorem plF_le {ks:List Kn} {ms:List Mc} {bs:List Nat} {n:Nat} {o:List Mt} (hp:o.Perm (allK (plF ks ms bs) n 0)) {a:Mt} (ha:a∈o):a.f<a.t∧a.t≤bs.length∧a.k<n:=by
 have h:=allK_mem.1 (hp.subset ha);exact ⟨(chA_in h.2).1.1,(chA_in h.2).1.2,by omega⟩
theorem evK_all (ks:List Kn) (ms:List Mc) (bs:List Nat) (i:Nat):evK ks ms bs (fun _ _ _=>true) i=plF ks ms bs i:=by
 unfold evK plF;exact List.filter_eq_self.2 fun _ _=>rfl
theorem plF_no {ks:List Kn} {ms:List Mc} (h:LaA ks 0 ms) (hk:∀k∈ks,∃j,j<2∧k.pat=shN j∧k.wh=true) (i:Nat) (hi:i<ks.length):∃m:Mc,(∀bs,plF ks ms bs i=chA m true bs)∧(∀w,acF m w 0=true→32∉w)∧(∀w,acF m w 0=true→10∉w)∧∀w,acF m w 0=true↔langN ks[i].pat w:=by
 obtain ⟨-,l1,q1⟩:=h.all;have hl:=(q1 i hi (by omega)).good.1.vld.2.2.2.2
 obtain ⟨j,hj,e1,e2⟩:=hk _ (List.getElem_mem hi);obtain ⟨n1,n2⟩:=sh_no j hj;refine ⟨ms[i]'(by omega),fun bs=>?_,fun w hw=>?_,fun w hw=>?_,hl⟩
 ·unfold plF;rw[List.getElem?_eq_getElem (show i<ms.length by omega),List.getElem?_eq_getElem hi]
  simp only[Option.getD_some,Option.map_some];rw[e2]
 ·exact no_byte n1 (e1▸(hl w).1 hw)
 ·exact no_byte n2 (e1▸(hl w).1 hw)
theorem shM_perm {d:Nat} {l1 l2:List Mt} (h:l1.Perm l2):(shM d l1).Perm (shM d l2):=h.map _
theorem pass_plain {u:KC} {A:Option Addr} {n c:Nat} {l:List Nat} {w:World} (hu:u.ck=0∧u.en=0∧u.n3=0) (hby:ByIn w (.slice A n c) l) (hn:l.length=n) (hnl:n≤900000) (h256:∀b∈l,b<256):PassH u (.slice A n c) n (fun _ _=>true) w:=fun W a z hW h1 h2=>by
 have h:=passes_nw u A n c a z l true W (hby.later hW) hn hnl h256 h1 h2 hu.2.2 (fun V _=>by rw[hu.1];exact (chold0 _ V).mono fun e w' ⟨q1,q2⟩=>⟨q1,q2▸Below.refl _ _⟩)
 have hd:decide (u.en≤((meaF ((l.drop a).take (z-a)):Nat):Int))=true:=decide_eq_true (by rw[hu.2.1];omega)
 rw[hd]at h;exact h
def SpPost (ks:List Kn) (bs:List Nat) (w:World) (e:Ending) (w':World):Prop:=∃v o ms,e = .returned (.tuple #[v, .int .i64 0])∧MtIn w' v o∧LaA ks 0 ms∧o.Perm (allK (plF ks ms bs) ks.length 0)∧o.Pairwise LeMt∧Below w.heap.size w w'
theorem plN_size (i:Nat) (hi:i<2):(plN i).size≤100:=by
 have hi2:i=0∨i=1:=by omega
 rcases hi2 with rfl | rfl
 ·rw[←size_list,plN_bl.1];decide
 ·rw[←size_list,plN_bl.2];decide
theorem splain_any (v vt:Value) (us:List KC) (js:List Nat) (bs:List Nat) (w:World) (h:KnsIn w v us (plK 0 js)) (hl:1≤js.length∧js.length≤2) (hj:∀j∈js,j<2) (hu:∀u∈us,u.ck=0∧u.en=0∧u.n3=0∧u.wh=true) (hvr:VrOK w) (hb:ByIn w vt bs) (hbl:bs.length≤60000) (h256:∀b∈bs,b<256) :
  Calls Tryz.prog 29 #[v,vt] w (SpPost (plK 0 js) bs w):=by
 obtain ⟨hlk,Ak,ck,rfl,-⟩:=id h;obtain ⟨A,c,rfl,-⟩:=id hb;have hkl:=plK_len js 0;refine (sall_any Ak us.length ck us (plK 0 js) A bs.length c bs (fun _ _ _=>true) w h hvr (fun k hk=>?_) hb rfl (by omega) (by rw[hkl];have:js.length*bs.length≤2*bs.length:=Nat.mul_le_mul_right _ hl.2;omega) h256 (fun i hi=>?_)).mono ?_
 ·obtain ⟨i,hi,rfl⟩:=List.mem_iff_getElem.1 hk;have h2:i<js.length:=by rw[hkl]at hi;exact hi
  rw[plK_get js 0 i hi h2,Nat.zero_add];have:=plN_size i (by omega)
  show (plN i).size≤_;omega
 ·obtain ⟨q1,q2,q3,-⟩:=hu _ (List.getElem_mem hi);exact pass_plain ⟨q1,q2,q3⟩ hb rfl (by omega) h256
 ·rintro e w' ⟨hbw,er,ms,hla,hpost⟩;have h0:er=0:=hla.ok (by rw[hkl];exact hl.1) (by rw[hkl];omega) (fun k hk=>(plK_mem hk hl.2 hj).1) (plK_dup js hl.2)
  subst h0;rcases hpost with ⟨h1,-⟩ | ⟨-,h1,-⟩ | ⟨-,-,v2,o,rfl,q1,q2,q3⟩
  ·exact absurd rfl h1
  ·omega
  ·refine ⟨v2,o,ms,rfl,q1,hla,?_,q3,hbw⟩;have:=allK_congr (f:=evK (plK 0 js) ms bs (fun _ _ _=>true)) (g:=plF (plK 0 js) ms bs) (n:=(plK 0 js).length) (i:=0) (fun j _ _=>evK_all _ _ _ _);rw[←this];exact q2
end Go.Proofs.YtoaibhacognbjaaGreatDoor
