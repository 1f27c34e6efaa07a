/- Walks: the number of a group. Conditions: the variables read as laid. · ref05's parser at one text: item. · ref05's parser at one text: seq, choice. · ref05: Valid and Text at the node of a{1,2}. -/
import Derived.Test.YtoaibhacognbjaaGreatDoorY14
import Derived.Test.YtoaibhacognbjaaGreatDoorY17
import Derived.Test.YtoaibhacognbjaaGreatDoorY19
import Derived.Test.YtoaibhacognbjaaGreatDoorY12
namespace Go.Proofs.YtoaibhacognbjaaGreatDoor
set_option linter.unusedVariables false
set_option linter.unusedSimpArgs false
set_option maxRecDepth 100000
open Go.RowKit
open Go.Maps (Keyed)
theorem IsB.later {b:Nat} {l:List UInt8} {w w':World} (h:IsB b l w) (hb:Below w.heap.size w w'):IsB b l w':=by
 obtain ⟨h,hw⟩:=h;refine ⟨?_,Nat.le_trans hw hb.size⟩;rcases h with ⟨h0,v,hbk,hown,hne⟩ | ⟨h0,v,hbk,hown,hne⟩
 ·exact .inl ⟨h0,v,(hb.block b (Array.getElem?_eq_some_iff.1 hbk).1).trans hbk,own_same hown fun g hg=>hb.block g (hown.lt g hg).2,hne⟩
 ·exact .inr ⟨h0,v,(hb.block b (Array.getElem?_eq_some_iff.1 hbk).1).trans hbk,own_same hown fun g hg=>hb.block g (hown.lt g hg).2,hne⟩
theorem IL.at_ {w:World} {A:Option Addr} {n c:Nat} {l:List Nat} (h:IL w (.slice A n c) l) {k:Nat} (hk:k<l.length):∃g f,A=some ⟨g,f,none⟩∧g<w.heap.size∧∀w':World,w'.heap[g]?=w.heap[g]?→w'.cell? ⟨g,f+k,none⟩=some (.int .i64 (l[k]:Int)):=by
 rcases h with ⟨rfl,-⟩ | ⟨g,f,c',e,h0,hg,hc,hcell⟩
 ·cases hk
 ·injection e with e1 e2 e3;exact ⟨g,f,e1,hg,fun w' hw=>(World.cell?_of_block (a:=⟨g,f+k,none⟩) hw).trans (hcell k hk)⟩
def IsF (b:Nat) (l:List UInt8) (w:World):Prop:=Lib.IsBuilderF 214 5 b b (Lib.byteCells l) w∧b≤w.heap.size
theorem string_f (b:Nat) (l:List UInt8) (w:World) (h:IsF b l w) :
  Calls Tryz.prog 173 #[.pointer (some ⟨b,0,none⟩)] w fun e w'=>e = .returned (.string (bs l))∧IsF b l w'∧Below b w w':=
 (Any.Builder_String_any_f lays169 Builder_Extra_169 b b l w h.1 h.2).mono fun _ _ ⟨h1,h2,h3⟩=>⟨h1,⟨h2,Nat.le_trans h.2 h3.size⟩,h3⟩
theorem idxV_in {gs:List (List Nat)} {l:List Nat} (h:l∈gs):(idxV gs l).getD (.int .i64 0) = .int .i64 ((gs.idxOf l:Nat):Int)∧(idxV gs l).isSome=true:=by unfold idxV;rw[if_pos h];exact ⟨rfl,rfl⟩
theorem idxV_out {gs:List (List Nat)} {l:List Nat} (h:l∉gs):(idxV gs l).getD (.int .i64 0) = .int .i64 0∧(idxV gs l).isSome=false:=by unfold idxV;rw[if_neg h];exact ⟨rfl,rfl⟩
def factNb7 (s mb:Nat) (nm:List UInt8) (r:Int) (q:Bool):Nat→Nat→Value→World→Prop
 | c,0,x,w=>x = .pointer (some ⟨s,0,none⟩)
 | c,1,x,w=>x = .pointer (some ⟨s,0,none⟩)
 | c,2,x,w=>x = .pointer (some ⟨s,3,none⟩)
 | c,3,x,w=>x = .map (some mb)
 | c,4,x,w=>x = .string (bs nm)
 | c,5,x,w=>x = .tuple #[.int .i64 r, .bool q]
 | c,6,x,w=>x = .tuple #[.int .i64 r, .bool q]
 | c,7,x,w=>x = .int .i64 r
 | c,8,x,w=>x = .bool q
 | c,9,x,w=>x = .int .i64 r
 | _,_,_,_=>True
def factNb10 (s mb:Nat) (nm:List UInt8) (ng:Nat):Nat→Nat→Value→World→Prop
 | c,0,x,w=>x = .pointer (some ⟨s,0,none⟩)
 | c,1,x,w=>x = .pointer (some ⟨s,0,none⟩)
 | c,2,x,w=>x = .pointer (some ⟨s,3,none⟩)
 | c,3,x,w=>x = .map (some mb)
 | c,4,x,w=>x = .string (bs nm)
 | c,5,x,w=>x = .int .i64 (ng:Int)
 | _,_,_,_=>True
theorem nameG_step {l:List Nat} {k:Nat} (h:k<l.length):nameG (l.take k)++(Lib.decDigits l[k]++[32])=nameG (l.take (k+1)):=by
 rw[List.take_succ_eq_append_getElem h,nameG_snoc]
def NbPost (B s mb:Nat) (v0 v1 v2:Value) (gs:List (List Nat)) (l:List Nat) (fp:List Nat) (w:World) (e:Ending) (w':World):Prop:=∃fp',e = .returned (.int .i64 (((addG gs l).idxOf l:Nat):Int))∧SbI B s mb v0 v1 v2 (addG gs l) fp' w'∧KeepF fp fp' w w'
set_option maxHeartbeats 8000000 in
theorem number_any (B s mb:Nat) (v0 v1 v2:Value) (gs:List (List Nat)) (fp:List Nat) (w:World) (l:List Nat) (v:Value) (h:SbI B s mb v0 v1 v2 gs fp w) (hv:IL w v l) (ho:outOf fp v) (ht:TI w v) (hl:l.length≤1000) (hp:∀p∈l,p<1000) (hgs:gs.length≤1000000) (hvr:VrOK w) :
  Calls Tryz.prog 136 #[.pointer (some ⟨s,0,none⟩),v] w (NbPost B s mb v0 v1 v2 gs l fp w):=by
 obtain ⟨vg,gv,F,rfl,hb⟩:=h;obtain ⟨A,c,rfl,hc1,hc2⟩:=hv.form;obtain ⟨Ag,cg,rfl,hcg1,hcg2⟩:=own_form hb.own;have K:Keyed Tryz.prog 9:=Maps.string_keyed Tryz.underlying9;have hz:∀w,(zeroValue 3).run Tryz.prog w = .ok (.int .i64 0) w:=fun _=>by kernel_rfl
 have hlt:=hb.lt;have hls:s<w.heap.size:=(hlt s (by simp[fpG])).2
 have hcs:=hb.cs;have hlen:=nameG_len l (fun p h=>by have:=hp p h;omega)
 obtain ⟨nl,hnl⟩:∃n,l.length=n:=⟨_,rfl⟩;obtain ⟨ng,hng⟩:∃n,gs.length=n:=⟨_,rfl⟩;have HTI:=Lib.hid ht;have HV:=Lib.hid hv;have HB:=Lib.hid hb;have HO:=Lib.hid ho;have HP:=Lib.hid hp;have HVR:=Lib.hid hvr;have HLT:=Lib.hid hlt;have HNL:=Lib.hid (And.intro hnl hng);rw[hnl]at hc1 hl hlen⊢;rw[hng]at hgs hcs hcg1;clear hv hb ho hp hvr hlt hnl hng;have HCS:=Lib.hid hcs;clear hcs
 go_enter Tryz.func136,Tryz.ntmps136
 go_wp2_with fail
 go_loopw [12] (fun iv wr=>∃k:Nat,k≤nl∧iv = .int .i64 (k:Int)∧Hid (IsB w.heap.size (nameG (l.take k)) wr)∧Hid (Below w.heap.size w wr)) (fun iv _=>nl - (intOf iv).toNat)
 case atStart=>exact ⟨0,Nat.zero_le _,rfl,⟨Lib.fresh_isBuilder _ _ w,by simp⟩,(Below.refl _ w).alloc (Nat.le_refl _) _⟩
 case round=>
  obtain ⟨k,hk,rfl,HI,HBW⟩:=hrel;by_cases hlt:k<nl
  ·have hd:decide ((k:Int)<(nl:Int))=true:=decide_eq_true (by omega)
   have hkl:k<l.length:=by rw[HNL.out.1];exact hlt
   obtain ⟨g,f,rfl,hg,hcell⟩:=HV.out.at_ hkl;have hc0:=hcell wr (HBW.out.block g hg);have hglr:g<wr.heap.size:=by have:=HBW.out.size;omega
   obtain ⟨p,hpe⟩:∃p,l[k]=p:=⟨_,rfl⟩;have hp1:p<1000:=by rw[←hpe];exact HP.out _ (List.getElem_mem hkl)
   have hst:=nameG_step hkl;rw[hpe]at hc0 hst;have hvw:=HVR.out.later HBW.out;have hit:=fun W (h:VrOK W)=>itoa_any p (by omega) W h
   have hdl:=dec_len p 2 (by omega)
   have hss:(bs (Lib.decDigits p)).size=(Lib.decDigits p).length:=size_bs _;have hsz:¬(9223372036854775807:Nat)<(bs (Lib.decDigits p)).size+ByteArray.size ⟨#[32]⟩:=by rw[hss];show ¬(9223372036854775807:Nat)<(Lib.decDigits p).length+1;omega
   have hbl:bl (bs (Lib.decDigits p)++⟨#[32]⟩)=Lib.decDigits p++[32]:=by rw[show (⟨#[32]⟩:ByteArray)=bs [32] from rfl];simp[bl,bs]
   have hs6:(bs (Lib.decDigits p)++⟨#[32]⟩).size≤1000000:=by rw[ByteArray.size_append,hss];show _+1≤_;omega
   have hln6:(nameG (l.take k)).length≤1000000000:=by
    have:=nameG_len (l.take k) (fun p h=>by have:=HP.out p (List.mem_of_mem_take h);omega)
    have h2:(l.take k).length≤k:=List.length_take_le _ _;omega
   have HIT:=Lib.hid hit;have HST:=Lib.hid (And.intro hst hbl);have HLN:=Lib.hid hln6;have HVW:=Lib.hid hvw;clear hcell hpe hst hit hdl hss hbl hln6 hvw hkl;go_wp2_with (go_at_call 172;refine (HIT.out _ HVW.out).mono ?_;rintro e w1 ⟨rfl,hb1⟩);go_wp2_with (go_at_call 171;refine (builder_str _ _ _ _ (HI.out.later hb1) HLN.out hs6).mono ?_;rintro e w2 ⟨rfl,hi2,hb2⟩);have hi3:IsB w.heap.size (nameG (l.take (k+1))) w2:=by rw[HST.out.2,HST.out.1]at hi2;exact hi2
   have HI3:=Lib.hid hi3;have HB3:=Lib.hid (HBW.out.trans ((hb1.mono HBW.out.size).trans hb2));clear hi2 hi3 hb1 hb2;go_wp2_with fail;go_roundw
   case rel=>exact ⟨k+1,by omega,by go_num,HI3,HB3⟩
   case measure=>simp[intOf];omega
  ·obtain rfl:k=nl:=by omega
   have hbw:=HBW.out;have hib:IsB w.heap.size (nameG l) wr:=by have:=HI.out;rwa [List.take_of_length_le (by rw[HNL.out.1];exact Nat.le_refl _)]at this
   have HIB:=Lib.hid hib;obtain ⟨nm,hnm⟩:∃x,nameG l=x:=⟨_,rfl⟩;have HNM:=Lib.hid hnm;have hlw:w.heap.size<wr.heap.size:=by
    rcases hib.1 with ⟨_,v,hbk,_⟩ | ⟨_,v,hbk,_⟩ <;> exact (Array.getElem?_eq_some_iff.1 hbk).1
   have hsl:s<wr.heap.size:=by omega
   have hif:IsF w.heap.size nm wr:=by rw[←hnm];exact ⟨Lib.IsBuilderF.of hib.1,hib.2⟩
   have hmbl:=(HLT.out mb (by simp[fpG])).2
   have hcD:∀d:World,Below w.heap.size wr d→d.heap[s]?=some (.cells #[v0,v1,v2, .map (some mb), .slice Ag ng cg] 182 (0,0)):=fun d hd=>(hd.block s hls).trans ((hbw.block s hls).trans HCS.out);have hmD:∀d:World,Below w.heap.size wr d→MV Tryz.prog 9 mb gs.length F d:=fun d hd=>HB.out.mv.kept ((hd.block mb hmbl).trans (hbw.block mb hmbl));have hkey:keyOf Tryz.prog 9 (.string (bs nm))=some (.string nm):=by
    have:=WideMaps.keyOf_string_mk (P:=Tryz.prog) (k:=9) Tryz.underlying9 (s:=bs nm) (by rw[size_bs,←hnm];unfold maxLen;omega)
    rwa [bs_data]at this
   have HCD:=Lib.hid hcD;have HMD:=Lib.hid hmD;have HKEY:=Lib.hid hkey;have HIF:=Lib.hid hif;have hS0:Below w.heap.size wr wr.drew∧IsF w.heap.size nm wr.drew:=⟨(Below.refl wr.heap.size wr).drew.mono (by omega),hif⟩
   obtain ⟨r,q,hrq⟩:∃(r:Int) (q:Bool),(idxV gs l).getD (.int .i64 0) = .int .i64 r∧(idxV gs l).isSome=q∧(if l∈gs then r=((gs.idxOf l:Nat):Int)∧q=true else q=false):=by
    by_cases hm:l∈gs
    ·exact ⟨_,_,(idxV_in hm).1,(idxV_in hm).2,by rw[if_pos hm];exact ⟨rfl,rfl⟩⟩
    ·exact ⟨_,_,(idxV_out hm).1,(idxV_out hm).2,by rw[if_neg hm]⟩
   have hlook:∀d:World,Below w.heap.size wr d→(Instr.lookup 163 (.map (some mb)) (.string (bs nm)) true).run Tryz.prog d = .ok (.tuple #[.int .i64 r, .bool q]) d:=fun d hd=>by
    have h1:=(HMD.out d hd).look_ok K Tryz.underlying163 hz HKEY.out trivial;rw[←hnm,HB.out.says l,hrq.1,hrq.2.1]at h1;rw[hnm]at h1;exact h1
   have HLK:=Lib.hid hlook;have HRQ:=Lib.hid hrq.2.2;clear hib hnm hif hcD hmD hkey hrq hlook hbw;go_wp2_with fail;refine wp_region_chain 10 [] (factNb7 s mb nm r q) (fun _ w'=>Below w.heap.size wr w'∧IsF w.heap.size nm w') (by kernel_rfl) (by kernel_rfl) (by kernel_rfl) (by kernel_rfl) (by kernel_rfl) (by kernel_rfl) (by decide) hS0 ?_ ?_
   ·simp only[pq4,pq5];refine HSteps.pure (by decide) ?_ (HSteps.pure (by decide) ?_ (HSteps.pure (by decide) ?_ (HSteps.pure (by decide) ?_ (HSteps.free (by decide) ?_ (HSteps.pure (by decide) ?_ (HSteps.pure (by decide) ?_ (HSteps.pure (by decide) ?_ (HSteps.pure (by decide) ?_ (HSteps.pure (by decide) ?_ (HSteps.nil))))))))))
    all_goals first | (intro v wz c hlo hS hE K hK;simp only[putAll,Act.put,pq1,pq2,pq3,Nat.zero_add,Nat.reduceAdd,pq4,pq5]at hK⊢) | (intro v wz hS hE K hK;simp only[putAll,Act.put,pq1,pq2,pq3,Nat.zero_add,Nat.reduceAdd,pq4,pq5]at hK⊢)
    ·have HX:=Lib.hid hS;clear hS hE hlo;go_wp2_with fail;exact hK.out _ rfl
    ·have e0:v 0=_:=hE.1 rfl;rw[e0]at hK⊢;have HX:=Lib.hid hS;clear hS hE hlo;go_wp2_with fail;exact hK.out _ rfl
    ·have e1:v 1=_:=hE.1 rfl;rw[e1]at hK⊢;have HX:=Lib.hid hS;clear hS hE hlo;go_wp2_with fail;exact hK.out _ rfl
    ·have e2:v 2=_:=hE.1 rfl;rw[e2]at hK⊢;have cs3:wz.cell? ⟨s,3,none⟩=some (.map (some mb)):=by rw[cell_of_row _ _ _ _ _ _ (HCD.out wz hS.1)];rfl
     have lsz:s<wz.heap.size:=by have:=hS.1.size;omega
     have HX:=Lib.hid hS;clear hS hE hlo;go_wp2_with fail;exact hK.out _ rfl
    ·have hcall:=string_f w.heap.size nm wz hS.2;have HC:=Lib.hid hcall;have HX:=Lib.hid hS;clear hS hE hlo hcall;go_wp2_with fail;refine HC.out.mono ?_;rintro e wy ⟨rfl,hf,hb⟩;have HY:=Lib.hid (And.intro (HX.out.1.trans hb) hf);clear hf hb;go_wp2_with fail;refine hK.out _ _ (fun j z hj h=>?_) HY.out rfl
     match j with
     | 0 | 1 | 2 | 3 | 5 | 6 | 7 | 8 | 9=>exact h
     | 4=>exact absurd rfl hj
     | _+10=>exact trivial
    ·have e3:v 3=_:=hE.1 rfl;rw[e3]at hK⊢;have E4:=hE.2.1 rfl;have e4:v 4=_:=E4;rw[e4]at hK⊢;have hlk:=HLK.out wz hS.1;have HX:=Lib.hid hS;clear hS hE hlo;go_wp2_with fail;exact hK.out _ rfl
    ·have E5:=hE.1 rfl;have e5:v 5=_:=E5;rw[e5]at hK⊢;have HX:=Lib.hid hS;clear hS hE hlo;go_wp2_with fail;exact hK.out _ rfl
    ·have E6:=hE.1 rfl;have e6:v 6=_:=E6;rw[e6]at hK⊢;have HX:=Lib.hid hS;clear hS hE hlo;go_wp2_with fail;exact hK.out _ rfl
    ·have E6:=hE.1 rfl;have e6:v 6=_:=E6;rw[e6]at hK⊢;have HX:=Lib.hid hS;clear hS hE hlo;go_wp2_with fail;exact hK.out _ rfl
    ·have E7:=hE.1 rfl;have e7:v 7=_:=E7;rw[e7]at hK⊢;have HX:=Lib.hid hS;clear hS hE hlo;go_wp2_with fail;exact hK.out _ rfl
   ·intro v wz hS hF;have e0:v 0=_:=hF 0 (by decide)
    have e1:v 1=_:=hF 1 (by decide)
    have e2:v 2=_:=hF 2 (by decide)
    have e3:v 3=_:=hF 3 (by decide)
    have E4:=hF 4 (by decide)
    have E5:=hF 5 (by decide)
    have E6:=hF 6 (by decide)
    have E7:=hF 7 (by decide)
    have E8:=hF 8 (by decide)
    have E9:=hF 9 (by decide)
    simp only[putAll,Act.put,pq1,pq2,pq3,Nat.zero_add,Nat.reduceAdd,pq4,pq5,List.drop_succ_cons,List.drop_zero,e0,e1,e2,e3];clear hF e0 e1 e2 e3;have e4:v 4=_:=E4;have e5:v 5=_:=E5;have e6:v 6=_:=E6;have e7:v 7=_:=E7;have e8:v 8=_:=E8;have e9:v 9=_:=E9;rw[e4,e5,e6,e7,e8,e9];have HS:=Lib.hid hS;clear hS E4 E5 E6 E7 E8 E9 e4 e5 e6 e7 e8 e9;have hcs4:=HCD.out wz HS.out.1;have hz4:=HS.out.1.size;have cs4:wz.cell? ⟨s,4,none⟩=some (.slice Ag ng cg):=by rw[cell_of_row _ _ _ _ _ _ hcs4];rfl
    have cs3:wz.cell? ⟨s,3,none⟩=some (.map (some mb)):=by rw[cell_of_row _ _ _ _ _ _ hcs4];rfl
    have lsz:s<wz.heap.size:=by omega
    clear hcs4
    cases q with
    | true=>
     have hm:l∈gs:=by
      by_cases hm:l∈gs
      ·exact hm
      ·have:=HRQ.out;rw[if_neg hm]at this;cases this
     have HM:=Lib.hid hm;clear hm;go_wp2_with fail;refine bodyPost_ret (v:=.int .i64 r) (by simp[results,Tryz.results136,go_sem];try rfl) rfl ?_
     have hm:=HM.out;have hbt:Below w.heap.size w wz:=HBW.out.trans HS.out.1;have h1:addG gs l=gs:=if_pos hm;have h2:=HRQ.out;rw[if_pos hm]at h2;refine ⟨fpG s mb (.slice Ag gs.length cg),?_,?_,KeepF.of_below hbt⟩
     ·rw[h1,h2.1]
     rw[h1];exact SbI.later ⟨_,gv,F,rfl,HB.out⟩ hbt
    | false=>
     have hm:l∉gs:=fun hm=>by have:=HRQ.out;rw[if_pos hm]at this;cases this.2
     have HM:=Lib.hid hm;clear hm;have hS1:Below w.heap.size wr wz.drew∧IsF w.heap.size nm wz.drew:=⟨HS.out.1.drew,HS.out.2⟩;go_wp2_with fail;refine wp_region_chain 6 [] (factNb10 s mb nm ng) (fun _ w'=>Below w.heap.size wr w'∧IsF w.heap.size nm w') (by kernel_rfl) (by kernel_rfl) (by kernel_rfl) (by kernel_rfl) (by kernel_rfl) (by kernel_rfl) (by decide) hS1 ?_ ?_
     ·simp only[pq4,pq5];refine HSteps.pure (by decide) ?_ (HSteps.pure (by decide) ?_ (HSteps.pure (by decide) ?_ (HSteps.pure (by decide) ?_ (HSteps.free (by decide) ?_ (HSteps.pure (by decide) ?_ (HSteps.nil))))))
      all_goals first | (intro v wz c hlo hS hE K hK;simp only[putAll,Act.put,pq1,pq2,pq3,Nat.zero_add,Nat.reduceAdd,pq4,pq5]at hK⊢) | (intro v wz hS hE K hK;simp only[putAll,Act.put,pq1,pq2,pq3,Nat.zero_add,Nat.reduceAdd,pq4,pq5]at hK⊢)
      ·have HX:=Lib.hid hS;clear hS hE hlo;go_wp2_with fail;exact hK.out _ rfl
      ·have e0:v 0=_:=hE.1 rfl;rw[e0]at hK⊢;have HX:=Lib.hid hS;clear hS hE hlo;go_wp2_with fail;exact hK.out _ rfl
      ·have e1:v 1=_:=hE.1 rfl;rw[e1]at hK⊢;have HX:=Lib.hid hS;clear hS hE hlo;go_wp2_with fail;exact hK.out _ rfl
      ·have e2:v 2=_:=hE.1 rfl;rw[e2]at hK⊢;have cs3:wz.cell? ⟨s,3,none⟩=some (.map (some mb)):=by rw[cell_of_row _ _ _ _ _ _ (HCD.out wz hS.1)];rfl
       have lsz:s<wz.heap.size:=by have:=hS.1.size;omega
       have HX:=Lib.hid hS;clear hS hE hlo;go_wp2_with fail;exact hK.out _ rfl
      ·have hcall:=string_f w.heap.size nm wz hS.2;have HC:=Lib.hid hcall;have HX:=Lib.hid hS;clear hS hE hlo hcall;go_wp2_with fail;refine HC.out.mono ?_;rintro e wy ⟨rfl,hf,hb⟩;have HY:=Lib.hid (And.intro (HX.out.1.trans hb) hf);clear hf hb;go_wp2_with fail;refine hK.out _ _ (fun j z hj h=>?_) HY.out rfl
       match j with
       | 0 | 1 | 2 | 3 | 5=>exact h
       | 4=>exact absurd rfl hj
       | _+6=>exact trivial
      ·have HX:=Lib.hid hS;clear hS hE hlo;go_wp2_with fail;exact hK.out _ rfl
     ·intro v wz hS hF;have e0:v 0=_:=hF 0 (by decide)
      have e1:v 1=_:=hF 1 (by decide)
      have e2:v 2=_:=hF 2 (by decide)
      have e3:v 3=_:=hF 3 (by decide)
      have e5:v 5=_:=hF 5 (by decide)
      have E4:=hF 4 (by decide)
      simp only[putAll,Act.put,pq1,pq2,pq3,Nat.zero_add,Nat.reduceAdd,pq4,pq5,List.drop_succ_cons,List.drop_zero,e0,e1,e2,e3,e5];clear hF e0 e1 e2 e3 e5;have e4:v 4=_:=E4;rw[e4];clear E4 e4;obtain ⟨i1,hi1,hj0,hj1,hj2⟩:=info_parts info_li;have hmz:=HMD.out wz hS.1;have hrow:=HCD.out wz hS.1;have hz5:=hS.1.size;have hbt:=HBW.out.trans hS.1;have hownz:wz.ownsRow B 22 1 (.slice Ag ng cg) ng gv:=by rw[←HNL.out.2];exact own_same HB.out.own fun g hg=>hbt.block g (HB.out.own.lt g hg).2
      have hne:=HB.out.ne;have hBB:=HB.out.hs;have hil:=HV.out.later hbt;rw[HNL.out.2]at hne;have HIL:=Lib.hid (And.intro hil hbt);have HSZ:=Lib.hid hS;clear hS hil;refine wpList_put_MV wz rfl _ _ _ _ rfl 9 3 K Tryz.underlying163 mb _ F rfl hmz (by rw[HNL.out.2];unfold maxLen;omega) _ _ _ rfl rfl HKEY.out trivial ?_
      intro w1 hm1 hg1;have hz1:=hg1.size;have hls1:s<w1.heap.size:=by omega
      have hrow1:w1.heap[s]?=_:=(hg1.block s (by omega) (fun e=>hne.1 (by injection e))).trans hrow
      have d4:w1.cell? ⟨s,4,none⟩=some (.slice Ag ng cg):=by rw[cell_of_row _ _ _ _ _ _ hrow1];rfl
      have hown1:w1.ownsRow B 22 1 (.slice Ag ng cg) ng gv:=own_same hownz fun g hg=>hg1.block g (hownz.lt g hg).2 (fun e=>by injection e with e;exact hne.2.2 (by rw[hg,e]))
      have HM1:=Lib.hid hm1;have HG1:=Lib.hid hg1;have HR1:=Lib.hid hrow1;have HO1:=Lib.hid hown1;clear hm1 hg1 hrow1 hown1 hownz hmz hrow;have hlz:w1.heap.size<w1.heap.size+1:=by omega
      have hcx:∀j u,[Value.slice A k c][j]?=some u→(w1.alloc (.cells #[.slice A k c] 22)).cell? ((⟨w1.heap.size,0,none⟩:Addr).add j)=some u:=by
       intro j u hj
       match j,hj with
       | 0,hj=>simp at hj;subst hj;simp[Addr.add]
      have hownA:(w1.alloc (.cells #[.slice A k c] 22)).ownsRow B 22 1 (.slice Ag ng cg) ng gv:=HO1.out.alloc _;go_wp2_with (at_builtin;refine appI_at rfl _ _ 132 rfl B 22 i1 (.slice none 0 0) 1 24 Tryz.underlying132 hi1 hj0 hj1 hj2 rfl (by decide) _ ng gv rfl hownA ⟨w1.heap.size,0,none⟩ 1 1 [.slice A k c] rfl (by simp) hcx (by intro u hu;simp at hu;subst hu;rfl) (by unfold maxLen;omega) (by omega) (by simp;omega) ?_)
      intro v' w3 hown3 hg3 hf3;have hzA:(w1.alloc (.cells #[.slice A k c] 22)).heap.size=w1.heap.size+1:=by simp
      have hz3:=hg3.size;have hls3:s<w3.heap.size:=by omega
      have hrow3:w3.heap[s]?=_:=(hg3.block s (by omega) (fun e=>hne.2.1 e.symm)).trans ((old_alloc w1 _ s (by omega)).trans HR1.out)
      have d4':w3.cell? ⟨s,4,none⟩=some (.slice Ag ng cg):=by rw[cell_of_row _ _ _ _ _ _ hrow3];rfl
      have f4':w3.frozen? ⟨s,4,none⟩=false:=by simp[World.frozen?,hrow3]
      obtain ⟨A',c',rfl,-,-⟩:=own_form hown3;have HX3:=Lib.hid (And.intro hown3 (And.intro hg3 hf3));clear hown3 hg3 hf3 hownA hcx hrow3;go_wp2_with fail;refine post_named fun Wf hWf=>?_;refine bodyPost_ret (v:=.int .i64 (ng:Int)) (by rw[hWf];simp[results,Tryz.results136,go_sem];try rfl) rfl ?_
      have h1:addG gs l=gs++[l]:=if_neg HM.out;have hsz:SbS B s mb v0 v1 v2 gs (.slice Ag gs.length cg) gv F wz:=HB.out.same (fun q hq=>HIL.out.2.block q (HLT.out q hq).2) HIL.out.2.size (fun v l h _ ht=>⟨h.later HIL.out.2,ht.later HIL.out.2⟩);have hadd:=hsz.add (l:=l) (v:=.slice A l.length c) (vg':=.slice A' (ng+1) c') (n:=(ng:Int)) (w1:=w1) (w2:=w1.alloc (.cells #[.slice A k c] 22)) (w3:=w3) HIL.out.1 HO.out (HTI.out.later HIL.out.2) HM.out (by rw[HNL.out.2]) HG1.out (by rw[HNM.out];exact HM1.out) ((Below.refl _ _).alloc (Nat.le_refl _) _) (by rw[HNL.out.2];exact HX3.out.2.1) (by rw[HNL.out.2,HNL.out.1];exact HX3.out.1) (by rw[HNL.out.2,hzA];exact HX3.out.2.2)
      refine ⟨fpG s mb (.slice A' (ng+1) c'),?_,?_,?_⟩
      ·rw[h1,List.idxOf_append,if_neg HM.out];simp[HNL.out.2]
      ·rw[h1,hWf];exact hadd.1
      ·rw[hWf];exact (KeepF.of_below HIL.out.2).trans hadd.2
end Go.Proofs.YtoaibhacognbjaaGreatDoor
namespace Go.Proofs.YtoaibhacognbjaaGreatDoor
set_option linter.unusedVariables false
set_option linter.unusedSimpArgs false
set_option maxRecDepth 100000
open Go.RowKit
def LfA (g q:Nat) (w:World):Prop:=w.heap[g]?=some (.cells #[.int .i64 1, .slice (some ⟨q,0,none⟩) 1 1, .slice none 0 0, .int .i64 0, .int .i64 0] 29 (0,0))∧RgA q w
theorem LfA.later {g q:Nat} {w w':World} (h:LfA g q w) (hb:Below w.heap.size w w'):LfA g q w':=
 ⟨(hb.block g (Array.getElem?_eq_some_iff.1 h.1).1).trans h.1,(hb.block q (Array.getElem?_eq_some_iff.1 h.2).1).trans h.2⟩
theorem LfA.kf {g q pb:Nat} {w w':World} (h:LfA g q w) (hk:KfR pb w w') (hg:g≠pb) (hq:q≠pb):LfA g q w':=
 ⟨(hk.blk g (Array.getElem?_eq_some_iff.1 h.1).1 (by simpa using hg)).trans h.1,(hk.blk q (Array.getElem?_eq_some_iff.1 h.2).1 (by simpa using hq)).trans h.2⟩
theorem kf_at {pb b:Nat} {w w':World} {o:Obj} (hk:KfR pb w w') (hb:b≠pb) (h:w.heap[b]?=some o):w'.heap[b]?=some o:=(hk.blk b (Array.getElem?_eq_some_iff.1 h).1 (by simpa using hb)).trans h
set_option maxHeartbeats 4000000 in
theorem item_A (pb:Nat) (w:World) (h:PaW pb tA 0 false w):Calls Tryz.prog 181 #[.pointer (some ⟨pb,0,none⟩)] w fun e w'=>∃g q,e = .returned (.agg #[.int .i64 4, .slice none 0 0, .slice (some ⟨g,0,none⟩) 1 1, .int .i64 1, .int .i64 2])∧(w.heap.size≤g∧w.heap.size≤q)∧LfA g q w'∧PaW pb tA 6 false w'∧KfR pb w w':=by
 have hl:=h.cells.2.2;have HP:=Lib.hid h;clear h
 go_enter Tryz.func181,Tryz.ntmps181
 go_wp2_with fail;refine calls_nm fun W0 hW0=>?_;have hb0:Below w.heap.size w W0:=by rw[hW0];exact (Below.refl _ _).alloc (Nat.le_refl _) _
 have hX:W0.heap[w.heap.size]?=some (.cells #[.int .i64 0, .slice none 0 0, .slice none 0 0, .int .i64 0, .int .i64 0] 29 (0,0)):=by rw[hW0];exact heap_alloc_new w _
 have H0:=Lib.hid (And.intro hb0 hX);clear hW0 hb0 hX;refine (atom_A pb W0 (HP.out.later H0.out.1)).mono ?_;rintro e w1 ⟨q,rfl,hq,hrg,hp1,hk1⟩;have hz0:=H0.out.1.size;have hzX:=(Array.getElem?_eq_some_iff.1 H0.out.2).1;have hk01:KfR pb w w1:=(kfr_below H0.out.1).tr hk1;have hX1:=kf_at hk1 (by omega) H0.out.2
 have H1:=Lib.hid (And.intro hrg (And.intro hp1 (And.intro hk01 hX1)));have hz1:=hk1.size;clear hrg hp1 hk1 hk01 hX1;go_wp2_with fail;refine calls_nm fun W2 hW2=>?_;have hb2:Below w1.heap.size w1 W2:=by rw[hW2];exact (Below.refl _ _).alloc (Nat.le_refl _) _
 have hY:W2.heap[w1.heap.size]?=some (.cells #[.int .i64 1, .slice (some ⟨q,0,none⟩) 1 1, .slice none 0 0, .int .i64 0, .int .i64 0] 29 (0,0)):=by rw[hW2];exact heap_alloc_new w1 _
 have H2:=Lib.hid (And.intro hb2 hY);clear hW2 hb2 hY;refine (peek_in pb tA 1 123 false W2 (H1.out.2.1.later H2.out.1) tA_lt1 tA_ix1).mono ?_;rintro e w3 ⟨rfl,hb3⟩;have hb13:Below w1.heap.size w1 w3:=H2.out.1.trans (hb3.mono H2.out.1.size);have hp3:=H1.out.2.1.later hb13;have hY3:=(hb3.block _ (Array.getElem?_eq_some_iff.1 H2.out.2).1).trans H2.out.2;obtain ⟨y0,y1,y2,y3,y4⟩:=cells5 hY3;obtain ⟨⟨c0,c1,c2⟩,⟨f1,f2⟩,lp⟩:=hp3.cells;have ly:w1.heap.size<w3.heap.size:=(Array.getElem?_eq_some_iff.1 hY3).1;have ne1:w1.heap.size≠pb:=by omega
 have ne2:pb≠w1.heap.size:=by omega
 have H3:=Lib.hid (And.intro hb13 hp3);clear hb3 hb13 hp3 hY3;go_wp2_with fail;refine calls_nm fun W4 hW4=>?_;have hs3:(w3.setCell ⟨pb,1,none⟩ (.int .i64 2)).heap.size=w3.heap.size:=by simp[World.setCell]
 have hb4:Below w3.heap.size (w3.setCell ⟨pb,1,none⟩ (.int .i64 2)) W4:=by rw[hW4];exact ((Below.refl _ _).alloc (by rw[hs3];exact Nat.le_refl _) _).alloc (by simp[World.setCell]) _
 have hG:W4.heap[w3.heap.size]?=some (.cells #[.int .i64 1, .slice (some ⟨q,0,none⟩) 1 1, .slice none 0 0, .int .i64 0, .int .i64 0] 29 (0,0)):=by
  rw[hW4,old_alloc _ _ _ (by simp[World.setCell])]
  have h9:=heap_alloc_new (w3.setCell ⟨pb,1,none⟩ (.int .i64 2)) (.cells #[.int .i64 1, .slice (some ⟨q,0,none⟩) 1 1, .slice none 0 0, .int .i64 0, .int .i64 0] 29);rw[hs3]at h9;exact h9
 have hR:W4.heap[w3.heap.size+1]?=some (.cells #[.int .i64 4, .slice none 0 0, .slice (some ⟨w3.heap.size,0,none⟩) 1 1, .int .i64 0, .int .i64 0] 29 (0,0)):=by
  rw[hW4];have h9:=heap_alloc_new ((w3.setCell ⟨pb,1,none⟩ (.int .i64 2)).alloc (.cells #[.int .i64 1, .slice (some ⟨q,0,none⟩) 1 1, .slice none 0 0, .int .i64 0, .int .i64 0] 29)) (.cells #[.int .i64 4, .slice none 0 0, .slice (some ⟨w3.heap.size,0,none⟩) 1 1, .int .i64 0, .int .i64 0] 29);simpa [World.setCell] using h9
 have hp4:PaW pb tA 2 false W4:=((H3.out.2.at_ 2).later (hb4.mono (by rw[hs3];exact Nat.le_refl _)))
 have hk4:KfR pb w W4:=((H1.out.2.2.1.tr (kfr_below H3.out.1)).tr kfr_set).tr (kfr_below (hb4.mono (by rw[hs3];exact Nat.le_refl _)))
 have hX4:W4.heap[w.heap.size]?=_:=(hb4.block _ (by omega)).trans ((Below.heap_setCell w3 ⟨pb,1,none⟩ (.int .i64 2) w.heap.size (by show w.heap.size≠pb;omega)).trans ((H3.out.1.block _ (by omega)).trans H1.out.2.2.2))
 have hq4:RgA q W4:=(hb4.block _ (by have:=(Array.getElem?_eq_some_iff.1 H1.out.1).1;omega)).trans ((Below.heap_setCell w3 ⟨pb,1,none⟩ (.int .i64 2) q (by show q≠pb;omega)).trans ((H3.out.1.block _ (Array.getElem?_eq_some_iff.1 H1.out.1).1).trans H1.out.1))
 obtain ⟨g,hg⟩:∃g,w3.heap.size=g:=⟨_,rfl⟩;have hgw:w.heap.size<g:=by omega
 have hqg:q<g:=by have:=(Array.getElem?_eq_some_iff.1 H1.out.1).1;have:=H3.out.1.size;omega
 rw[hg]at hG hR⊢;have H4:=Lib.hid (And.intro hp4 (And.intro hk4 (And.intro hX4 (And.intro (show LfA g q W4 from ⟨hG,hq4⟩) hR))));have hqw:w.heap.size≤q:=by omega
 clear hW4 hb4 hG hR hp4 hk4 hX4 hq4 y0 y1 y2 y3 y4 c0 c1 c2 f1 f2 lp ly ne1 ne2 hs3;refine (times_2 pb W4 H4.out.1).mono ?_;rintro e w5 ⟨rfl,hp5,hk5⟩;have hR5:=kf_at hk5 (by omega) H4.out.2.2.2.2
 have H5:=Lib.hid (And.intro hp5 (And.intro (H4.out.2.1.tr hk5) (And.intro (kf_at hk5 (by omega) H4.out.2.2.1) (And.intro (H4.out.2.2.2.1.kf hk5 (by omega) (by omega)) hR5))))
 obtain ⟨r0,r1,r2,r3,r4⟩:=cells5 hR5;obtain ⟨z0,z1,z2,z3,z4⟩:=frz5 hR5;have lr:g+1<w5.heap.size:=(Array.getElem?_eq_some_iff.1 hR5).1;clear hp5 hk5 hR5;go_wp2_with fail;refine calls_nm fun W6 hW6=>?_;have hR6:W6.heap[g+1]?=some (.cells #[.int .i64 4, .slice none 0 0, .slice (some ⟨g,0,none⟩) 1 1, .int .i64 1, .int .i64 1] 29 (0,0)):=by
  rw[hW6];have:=set_row3 (set_row3 H5.out.2.2.2.2 3 (.int .i64 1)) 4 (.int .i64 1);simpa using this
 have hs6:∀k,k≠g+1→W6.heap[k]?=w5.heap[k]?:=fun k hk=>by rw[hW6];exact (Below.heap_setCell _ ⟨g+1,4,none⟩ _ k hk).trans (Below.heap_setCell _ ⟨g+1,3,none⟩ _ k hk)
 have hz6:W6.heap.size=w5.heap.size:=by rw[hW6];simp[World.setCell]
 have ho6:W6.os=w5.os∧W6.tape=w5.tape∧W6.output=w5.output:=by rw[hW6];exact ⟨rfl,rfl,rfl⟩
 have hp6:PaW pb tA 3 false W6:=(hs6 pb (by omega)).trans H5.out.1
 have H6:=Lib.hid (And.intro hp6 (And.intro (kfr_box H5.out.2.1 (by omega) hs6 hz6 ho6) (And.intro ((hs6 _ (by omega)).trans H5.out.2.2.1) (And.intro (show LfA g q W6 from ⟨(hs6 g (by omega)).trans H5.out.2.2.2.1.1,(hs6 q (by omega)).trans H5.out.2.2.2.1.2⟩) hR6))))
 clear hW6 hR6 hs6 hz6 ho6 hp6 r0 r1 r2 r3 r4 z0 z1 z2 z3 z4 lr;refine (peek_in pb tA 3 44 false W6 H6.out.1 tA_lt3 tA_ix3).mono ?_;rintro e w7 ⟨rfl,hb7⟩;have hp7:=H6.out.1.later hb7;obtain ⟨⟨c0,c1,c2⟩,⟨f1,f2⟩,lp⟩:=hp7.cells;have hR7:=(hb7.block _ (Array.getElem?_eq_some_iff.1 H6.out.2.2.2.2).1).trans H6.out.2.2.2.2;have H7:=Lib.hid (And.intro hp7 (And.intro (H6.out.2.1.tr (kfr_below hb7)) (And.intro ((hb7.block _ (Array.getElem?_eq_some_iff.1 H6.out.2.2.1).1).trans H6.out.2.2.1) (And.intro (H6.out.2.2.2.1.later hb7) hR7))));clear hb7 hp7 hR7;go_wp2_with fail;refine calls_nm fun W8 hW8=>?_;have hk78:KfR pb w7 W8:=by rw[hW8];exact kfr_set
 have hp8:PaW pb tA 4 false W8:=by rw[hW8];exact H7.out.1.at_ 4
 have H8:=Lib.hid (And.intro hp8 (And.intro (H7.out.2.1.tr hk78) (And.intro (kf_at hk78 (by omega) H7.out.2.2.1) (And.intro (H7.out.2.2.2.1.kf hk78 (by omega) (by omega)) (kf_at hk78 (by omega) H7.out.2.2.2.2)))))
 clear hW8 hk78 hp8 c0 c1 c2 f1 f2 lp;refine (times_4 pb W8 H8.out.1).mono ?_;rintro e w9 ⟨rfl,hp9,hk9⟩;have hR9:=kf_at hk9 (by omega) H8.out.2.2.2.2
 have H9:=Lib.hid (And.intro hp9 (And.intro (H8.out.2.1.tr hk9) (And.intro (kf_at hk9 (by omega) H8.out.2.2.1) (And.intro (H8.out.2.2.2.1.kf hk9 (by omega) (by omega)) hR9))))
 obtain ⟨r0,r1,r2,r3,r4⟩:=cells5 hR9;obtain ⟨z0,z1,z2,z3,z4⟩:=frz5 hR9;have lr:g+1<w9.heap.size:=(Array.getElem?_eq_some_iff.1 hR9).1;obtain ⟨⟨c0,c1,c2⟩,⟨f1,f2⟩,lp⟩:=hp9.cells;have ne1:g+1≠pb:=by omega
 have ne2:pb≠g+1:=by omega
 clear hp9 hk9 hR9;go_wp2_with fail;refine calls_nm fun W10 hW10=>?_;have hR10:W10.heap[g+1]?=some (.cells #[.int .i64 4, .slice none 0 0, .slice (some ⟨g,0,none⟩) 1 1, .int .i64 1, .int .i64 2] 29 (0,0)):=by
  rw[hW10];have:=set_row3 H9.out.2.2.2.2 4 (.int .i64 2);simpa using this
 have hs10:∀k,k≠g+1→W10.heap[k]?=w9.heap[k]?:=fun k hk=>by rw[hW10];exact Below.heap_setCell _ ⟨g+1,4,none⟩ _ k hk
 have hz10:W10.heap.size=w9.heap.size:=by rw[hW10];simp[World.setCell]
 have ho10:W10.os=w9.os∧W10.tape=w9.tape∧W10.output=w9.output:=by rw[hW10];exact ⟨rfl,rfl,rfl⟩
 have hp10:PaW pb tA 5 false W10:=(hs10 pb (by omega)).trans H9.out.1
 have H10:=Lib.hid (And.intro hp10 (And.intro (kfr_box H9.out.2.1 (by omega) hs10 hz10 ho10) (And.intro ((hs10 _ (by omega)).trans H9.out.2.2.1) (And.intro (show LfA g q W10 from ⟨(hs10 g (by omega)).trans H9.out.2.2.2.1.1,(hs10 q (by omega)).trans H9.out.2.2.2.1.2⟩) hR10))))
 clear hW10 hR10 hs10 hz10 ho10 hp10 r0 r1 r2 r3 r4 z0 z1 z2 z3 z4 lr c0 c1 c2 f1 f2 lp;refine (peek_in pb tA 5 125 false W10 H10.out.1 tA_lt5 tA_ix5).mono ?_;rintro e w11 ⟨rfl,hb11⟩;have hp11:=H10.out.1.later hb11;obtain ⟨⟨c0,c1,c2⟩,⟨f1,f2⟩,lp⟩:=hp11.cells;have hR11:=(hb11.block _ (Array.getElem?_eq_some_iff.1 H10.out.2.2.2.2).1).trans H10.out.2.2.2.2;have hX11:=(hb11.block _ (Array.getElem?_eq_some_iff.1 H10.out.2.2.1).1).trans H10.out.2.2.1;obtain ⟨r0,r1,r2,r3,r4⟩:=cells5 hR11;obtain ⟨x0,x1,x2,x3,x4⟩:=cells5 hX11;obtain ⟨z0,z1,z2,z3,z4⟩:=frz5 hX11;have lr:g+1<w11.heap.size:=(Array.getElem?_eq_some_iff.1 hR11).1;have lx:w.heap.size<w11.heap.size:=(Array.getElem?_eq_some_iff.1 hX11).1;have ne3:w.heap.size≠pb:=by omega
 have ne4:pb≠w.heap.size:=by omega
 have H11:=Lib.hid (And.intro hp11 (And.intro (H10.out.2.1.tr (kfr_below hb11)) (And.intro hX11 (And.intro (H10.out.2.2.2.1.later hb11) hR11))));clear hb11 hp11 hR11 hX11;go_wp2_with fail;refine post_named fun Wf hWf=>?_;refine bodyPost_ret (v:=.agg #[.int .i64 4, .slice none 0 0, .slice (some ⟨g,0,none⟩) 1 1, .int .i64 1, .int .i64 2]) (by rw[hWf];simp[results,Tryz.results181,go_sem,x0,x1,x2,x3,x4,lx,ne3,ne4];try rfl) rfl ?_
 obtain ⟨V,hV⟩:∃V,V=(w11.setCell ⟨pb,2,none⟩ (.bool false)).setCell ⟨pb,1,none⟩ (.int .i64 6):=⟨_,rfl⟩;rw[←hV]at hWf;obtain ⟨s1,s2,s3,-⟩:=st5 hWf;have hkV:KfR pb w11 V:=by rw[hV];exact kfr_set.tr kfr_set
 have hpV:PaW pb tA 6 false V:=by rw[hV];exact (H11.out.1.bad_ false).at_ 6
 have hk9:KfR pb w Wf:=kfr_box (H11.out.2.1.tr hkV) (Nat.le_refl _) s1 s2 s3;have hLV:=H11.out.2.2.2.1.kf hkV (by omega) (by omega)
 exact ⟨g,q,rfl,⟨by omega,by omega⟩,⟨(s1 g (by omega)).trans hLV.1,(s1 q (by omega)).trans hLV.2⟩,(s1 pb (by omega)).trans hpV,hk9⟩
theorem info_nd5:(Tryz.prog.info? 29).map (fun i=>(i.zero,i.size,i.bytes))=some (some (.agg #[.int .i64 0, .slice none 0 0, .slice none 0 0, .int .i64 0, .int .i64 0]),5,72):=by kernel_rfl
theorem wp_nm {P:Program} {c:Code} {Q:Exit→Act→World→Prop} {a:Act} {w:World} (h:∀W,W=w→c.wp P Q a W):c.wp P Q a w:=h w rfl
theorem own5_at {w:World} {B n c:Nat} {e:TypeId} {xs:List Value} {A:Option Addr} (h:w.ownsRow B e 5 (.slice A n c) n xs) (hn:0<n):∃g,A=some ⟨g,0,none⟩∧B≤g∧g<w.heap.size∧∀j,j<5→w.cell? ⟨g,j,none⟩=xs[j]?:=by
 rcases h.2 with ⟨h1,h2⟩ | ⟨g,cap,cur,h1,hB,hg,-⟩
 ·exfalso;injection h1 with h1 h1';omega
 ·injection h1 with h1 _ h3;subst h1;exact ⟨g,rfl,hB,(Array.getElem?_eq_some_iff.1 hg).1,fun j hj=>World.ownsRow.cellAt h j (by omega)⟩
set_option maxHeartbeats 4000000 in
theorem seq_A (pb:Nat) (w:World) (h:PaW pb tA 0 false w):Calls Tryz.prog 143 #[.pointer (some ⟨pb,0,none⟩)] w fun e w'=>∃g q,e = .returned (.agg #[.int .i64 4, .slice none 0 0, .slice (some ⟨g,0,none⟩) 1 1, .int .i64 1, .int .i64 2])∧(w.heap.size≤g∧w.heap.size≤q)∧LfA g q w'∧PaW pb tA 6 false w'∧KfR pb w w':=by
 have hl:=h.cells.2.2;have HP:=Lib.hid h;obtain ⟨ie,hie,hk0,hk1,hk2⟩:=info_parts info_nd5;clear h
 go_enter Tryz.func143,Tryz.ntmps143
 go_wp2_with fail;refine wp_nm fun W0 hW0=>?_;have hb0:Below w.heap.size w W0:=by rw[hW0];exact (Below.refl _ _).alloc (Nat.le_refl _) _
 have hX:W0.heap[w.heap.size]?=some (.cells #[.int .i64 0, .slice none 0 0, .slice none 0 0, .int .i64 0, .int .i64 0] 29 (0,0)):=by rw[hW0];exact heap_alloc_new w _
 have hp0:=HP.out.later hb0;have d0:∀d:BelT W0.heap.size W0,d.val.cell? ⟨pb,0,none⟩=some (.string tA):=fun d=>(hp0.later d.property).cells.1.1;have d1:∀d:BelT W0.heap.size W0,d.val.cell? ⟨pb,1,none⟩=some (.int .i64 0):=fun d=>(hp0.later d.property).cells.1.2.1;have d2:∀d:BelT W0.heap.size W0,d.val.cell? ⟨pb,2,none⟩=some (.bool false):=fun d=>(hp0.later d.property).cells.1.2.2;have d3:∀d:BelT W0.heap.size W0,pb<d.val.heap.size:=fun d=>(hp0.later d.property).cells.2.2;have K1:=Lib.hid fun d:BelT W0.heap.size W0=>peek_in pb tA 0 97 false d.val (hp0.later d.property) tA_lt0 tA_ix0;have t0:decide ((0:Int)<(tA.size:Int))=true:=by decide
 have t0n:decide (0<tA.size)=true:=by decide
 have H0:=Lib.hid (And.intro hb0 (And.intro hX hp0));clear hW0 hb0 hX hp0;refine wp_loop_rounds 2 ?_;rw[rounds_succ];go_wp2_with fail;refine wp_region_below (Below.refl W0.heap.size W0) (by kernel_rfl) (by kernel_rfl) ?_
 repeat (go_big_quiet_step (fail))
 go_big_quiet_step ((go_at_call 144;exact Calls.below_of (Nat.le_refl _) (K1.out _)))
 repeat (go_big_quiet_step (fail))
 go_big_quiet_step ((go_at_call 144;exact Calls.below_of (Nat.le_refl _) (K1.out _)))
 repeat (go_big_quiet_step (fail))
 refine wpQuiet_nil ?_;intro w1 hw';have hw1:Below W0.heap.size W0 w1:=by obtain ⟨d9,rfl⟩:=hw';exact d9.property
 have hX1:=(hw1.block _ (Array.getElem?_eq_some_iff.1 H0.out.2.1).1).trans H0.out.2.1;have H1:=Lib.hid (And.intro (kfr_below (H0.out.1.trans (hw1.mono H0.out.1.size)):KfR pb w w1) (And.intro hX1 (H0.out.2.2.later hw1)));clear hw' hw1 d0 d1 d2 d3 t0 t0n K1 hX1;go_wp2_with fail;refine (item_A pb w1 H1.out.2.2).mono ?_;rintro e w2 ⟨g,q,rfl,⟨hg,hq⟩,hlf,hp2,hk2'⟩;have hzw:=H1.out.1.size;have hz1:=(Array.getElem?_eq_some_iff.1 H1.out.2.1).1;have H2:=Lib.hid (And.intro (H1.out.1.tr hk2') (And.intro (kf_at hk2' (by omega) H1.out.2.1) (And.intro hlf hp2)))
 have hz2:=hk2'.size;clear hlf hp2 hk2';have hown:(w2.alloc (.cells #[.int .i64 4, .slice none 0 0, .slice (some ⟨g,0,none⟩) 1 1, .int .i64 1, .int .i64 2] 29)).ownsRow w2.heap.size 29 5 (.slice none 0 0) 0 []:=World.ownsRow_nil _ _ _ _;have hcx:∀j u,[Value.int .i64 4, .slice none 0 0, .slice (some ⟨g,0,none⟩) 1 1, .int .i64 1, .int .i64 2][j]?=some u→(w2.alloc (.cells #[.int .i64 4, .slice none 0 0, .slice (some ⟨g,0,none⟩) 1 1, .int .i64 1, .int .i64 2] 29)).cell? ((⟨w2.heap.size,0,none⟩:Addr).add j)=some u:=by
  intro j u hj;rw[Addr.add_lit,Nat.zero_add,World.cell?_alloc_mark];simpa using hj
 have hbz:w2.heap.size≤(w2.alloc (.cells #[.int .i64 4, .slice none 0 0, .slice (some ⟨g,0,none⟩) 1 1, .int .i64 1, .int .i64 2] 29)).heap.size:=by simp
 go_wp2_with (at_builtin; refine appI_at rfl _ _ 27 rfl w2.heap.size 29 ie _ 5 72 Tryz.underlying27 hie hk0 hk1 hk2 rfl (by decide) _ 0 [] rfl hown ⟨w2.heap.size,0,none⟩ 1 1 [.int .i64 4, .slice none 0 0, .slice (some ⟨g,0,none⟩) 1 1, .int .i64 1, .int .i64 2] rfl rfl hcx (by intro u hu; simp only[List.mem_cons,List.not_mem_nil,or_false]at hu; rcases hu with rfl | rfl | rfl | rfl | rfl <;> rfl) (by unfold maxLen; omega) (by omega) hbz ?_)
 intro v9 w9 hown9 hg9 hf9;obtain ⟨A9,c9,rfl,-,-⟩:=own_form hown9;obtain ⟨g9,rfl,hB9,hl9,hc9⟩:=own5_at hown9 (by omega)
 have hb9:Below w2.heap.size w2 w9:=((Below.refl _ _).alloc (Nat.le_refl _) _).grown hg9 (by simp) (fun k hk=>by simp[Value.ownBlock]at hk)
 have hp9:=H2.out.2.2.2.later hb9;have hX9:=(hb9.block _ (Array.getElem?_eq_some_iff.1 H2.out.2.1).1).trans H2.out.2.1;have d0:∀d:BelT w9.heap.size w9,d.val.cell? ⟨pb,0,none⟩=some (.string tA):=fun d=>(hp9.later d.property).cells.1.1;have d1:∀d:BelT w9.heap.size w9,d.val.cell? ⟨pb,1,none⟩=some (.int .i64 6):=fun d=>(hp9.later d.property).cells.1.2.1;have d2:∀d:BelT w9.heap.size w9,pb<d.val.heap.size:=fun d=>(hp9.later d.property).cells.2.2;have t0:decide ((6:Int)<(tA.size:Int))=false:=by decide
 have t0n:decide (6<tA.size)=false:=by decide
 have HC:=Lib.hid hc9;have H9:=Lib.hid (And.intro (H2.out.1.tr (kfr_below hb9)) (And.intro hX9 (And.intro (H2.out.2.2.1.later hb9) hp9)));clear hown9 hg9 hf9 hb9 hp9 hX9 hc9 hown hcx hbz;go_wp2_with fail;rw[rounds_succ];go_wp2_with fail;refine wp_region_below (Below.refl w9.heap.size w9) (by kernel_rfl) (by kernel_rfl) ?_
 repeat (go_big_quiet_step (fail))
 refine wpQuiet_nil ?_;intro w10 hw';have hw10:Below w9.heap.size w9 w10:=by obtain ⟨d9,rfl⟩:=hw';exact d9.property
 have hX10:=(hw10.block _ (Array.getElem?_eq_some_iff.1 H9.out.2.1).1).trans H9.out.2.1;have hy:=fun j hj=>(hw10.cell (p:=⟨g9,j,none⟩) hl9).trans (HC.out j hj);have y0:w10.cell? ⟨g9,0,none⟩=some (.int .i64 4):=hy 0 (by decide)
 have y1:w10.cell? ⟨g9,1,none⟩=some (.slice none 0 0):=hy 1 (by decide)
 have y2:w10.cell? ⟨g9,2,none⟩=some (.slice (some ⟨g,0,none⟩) 1 1):=hy 2 (by decide)
 have y3:w10.cell? ⟨g9,3,none⟩=some (.int .i64 1):=hy 3 (by decide)
 have y4:w10.cell? ⟨g9,4,none⟩=some (.int .i64 2):=hy 4 (by decide)
 have ly:g9<w10.heap.size:=by have:=hw10.size;omega
 obtain ⟨x0,x1,x2,x3,x4⟩:=cells5 hX10;obtain ⟨z0,z1,z2,z3,z4⟩:=frz5 hX10;have lx:w.heap.size<w10.heap.size:=(Array.getElem?_eq_some_iff.1 hX10).1;have H10:=Lib.hid (And.intro (H9.out.1.tr (kfr_below hw10)) (And.intro hX10 (And.intro (H9.out.2.2.1.later hw10) (H9.out.2.2.2.later hw10))));clear hw' hw10 d0 d1 d2 t0 t0n hX10 hy;go_wp2_with fail;refine post_named fun Wf hWf=>?_;refine bodyPost_ret (v:=.agg #[.int .i64 4, .slice none 0 0, .slice (some ⟨g,0,none⟩) 1 1, .int .i64 1, .int .i64 2]) (by rw[hWf];simp[results,Tryz.results143,go_sem,x0,x1,x2,x3,x4,lx];try rfl) rfl ?_
 obtain ⟨s1,s2,s3,-⟩:=st5 hWf;have hk9:KfR pb w Wf:=kfr_box H10.out.1 (Nat.le_refl _) s1 s2 s3;exact ⟨g,q,rfl,⟨by omega,by omega⟩,⟨(s1 g (by omega)).trans H10.out.2.2.1.1,(s1 q (by omega)).trans H10.out.2.2.1.2⟩,(s1 pb (by omega)).trans H10.out.2.2.2,hk9⟩
set_option maxHeartbeats 4000000 in
theorem choice_A (pb:Nat) (w:World) (h:PaW pb tA 0 false w):Calls Tryz.prog 112 #[.pointer (some ⟨pb,0,none⟩)] w fun e w'=>∃g q,e = .returned (.agg #[.int .i64 4, .slice none 0 0, .slice (some ⟨g,0,none⟩) 1 1, .int .i64 1, .int .i64 2])∧(w.heap.size≤g∧w.heap.size≤q)∧LfA g q w'∧PaW pb tA 6 false w'∧KfR pb w w':=by
 have hl:=h.cells.2.2;have HP:=Lib.hid h;clear h
 go_enter Tryz.func112,Tryz.ntmps112
 go_wp2_with fail;refine calls_nm fun W0 hW0=>?_;have hb0:Below w.heap.size w W0:=by rw[hW0];exact (Below.refl _ _).alloc (Nat.le_refl _) _
 have hX:W0.heap[w.heap.size]?=some (.cells #[.int .i64 0, .slice none 0 0, .slice none 0 0, .int .i64 0, .int .i64 0] 29 (0,0)):=by rw[hW0];exact heap_alloc_new w _
 have H0:=Lib.hid (And.intro hb0 (And.intro hX (HP.out.later hb0)));clear hW0 hb0 hX;refine (seq_A pb W0 H0.out.2.2).mono ?_;rintro e w2 ⟨g,q,rfl,⟨hg,hq⟩,hlf,hp2,hk2'⟩;have hzw:=H0.out.1.size;have hz1:=(Array.getElem?_eq_some_iff.1 H0.out.2.1).1;have H2:=Lib.hid (And.intro ((kfr_below H0.out.1).tr hk2') (And.intro (kf_at hk2' (by omega) H0.out.2.1) (And.intro hlf hp2)))
 have hz2:=hk2'.size;clear hlf hp2 hk2';go_wp2_with fail;refine wp_nm fun W3 hW3=>?_;have hb3:Below w2.heap.size w2 W3:=by rw[hW3];exact (Below.refl _ _).alloc (Nat.le_refl _) _
 have hY3:W3.heap[w2.heap.size]?=some (.cells #[.int .i64 4, .slice none 0 0, .slice (some ⟨g,0,none⟩) 1 1, .int .i64 1, .int .i64 2] 29 (0,0)):=by rw[hW3];exact heap_alloc_new w2 _
 have H3:=Lib.hid (And.intro (H2.out.1.tr (kfr_below hb3)) (And.intro ((hb3.block _ (Array.getElem?_eq_some_iff.1 H2.out.2.1).1).trans H2.out.2.1) (And.intro (H2.out.2.2.1.later hb3) (And.intro (H2.out.2.2.2.later hb3) hY3))));clear hW3 hb3 hY3;refine wp_loop_rounds 1 ?_;rw[rounds_succ];go_wp2_with fail;refine (peek_end pb tA 6 false W3 H3.out.2.2.2.1 tA_end).mono ?_;rintro e w10 ⟨rfl,hw10⟩;have hX10:=(hw10.block _ (Array.getElem?_eq_some_iff.1 H3.out.2.1).1).trans H3.out.2.1;have hY10:=(hw10.block _ (Array.getElem?_eq_some_iff.1 H3.out.2.2.2.2).1).trans H3.out.2.2.2.2;obtain ⟨y0,y1,y2,y3,y4⟩:=cells5 hY10;have ly:w2.heap.size<w10.heap.size:=(Array.getElem?_eq_some_iff.1 hY10).1;obtain ⟨x0,x1,x2,x3,x4⟩:=cells5 hX10;obtain ⟨z0,z1,z2,z3,z4⟩:=frz5 hX10;have lx:w.heap.size<w10.heap.size:=(Array.getElem?_eq_some_iff.1 hX10).1;have H10:=Lib.hid (And.intro (H3.out.1.tr (kfr_below hw10)) (And.intro hX10 (And.intro (H3.out.2.2.1.later hw10) (H3.out.2.2.2.1.later hw10))));clear hw10 hX10 hY10;go_wp2_with fail;refine post_named fun Wf hWf=>?_;refine bodyPost_ret (v:=.agg #[.int .i64 4, .slice none 0 0, .slice (some ⟨g,0,none⟩) 1 1, .int .i64 1, .int .i64 2]) (by rw[hWf];simp[results,Tryz.results112,go_sem,x0,x1,x2,x3,x4,lx];try rfl) rfl ?_
 obtain ⟨s1,s2,s3,-⟩:=st5 hWf;have hk9:KfR pb w Wf:=kfr_box H10.out.1 (Nat.le_refl _) s1 s2 s3;exact ⟨g,q,rfl,⟨by omega,by omega⟩,⟨(s1 g (by omega)).trans H10.out.2.2.1.1,(s1 q (by omega)).trans H10.out.2.2.1.2⟩,(s1 pb (by omega)).trans H10.out.2.2.2,hk9⟩
def bxL (q b:Nat) (w:World):Prop:=w.heap[b]?=some (.cells #[.int .i64 1, .slice (some ⟨q,0,none⟩) 1 1, .slice none 0 0, .int .i64 0, .int .i64 0] 29 (0,0))
def bxR (g b:Nat) (w:World):Prop:=w.heap[b]?=some (.cells #[.int .i64 4, .slice none 0 0, .slice (some ⟨g,0,none⟩) 1 1, .int .i64 1, .int .i64 2] 29 (0,0))
set_option maxHeartbeats 4000000 in
theorem count_lf (q:Nat) (n n1:Int) (w:World) (hn:IntKind.i64.wrap (n+1)=n1):Calls Tryz.prog 102 #[(.agg #[.int .i64 1, .slice (some ⟨q,0,none⟩) 1 1, .slice none 0 0, .int .i64 0, .int .i64 0]), .int .i64 n] w fun e w'=>e = .returned (.int .i64 n1)∧Below w.heap.size w w':=by
 go_enter Tryz.func102,Tryz.ntmps102
 go_wp2_with fail;refine wp_nm fun W0 hW0=>?_;have hb0:Below w.heap.size w W0:=by rw[hW0];exact (Below.refl _ _).alloc (Nat.le_refl _) _
 have hX:bxL q w.heap.size W0:=by rw[hW0];exact heap_alloc_new w _
 have HB:=Lib.hid hb0;obtain ⟨b0,b1,b2,b3,b4⟩:=cells5 hX;have lb:w.heap.size<W0.heap.size:=(Array.getElem?_eq_some_iff.1 hX).1;have HX:=Lib.hid hX;clear hW0 hb0 hX;refine wp_loop_rounds 1 ?_;rw[rounds_succ];go_wp2_with fail;go_ret;exact ⟨rfl,HB.out⟩
set_option maxHeartbeats 4000000 in
theorem count_rt (g q:Nat) (w:World) (h:LfA g q w):Calls Tryz.prog 102 #[(.agg #[.int .i64 4, .slice none 0 0, .slice (some ⟨g,0,none⟩) 1 1, .int .i64 1, .int .i64 2]), .int .i64 0] w fun e w'=>e = .returned (.int .i64 2)∧Below w.heap.size w w':=by
 have HLF:=Lib.hid h;clear h
 go_enter Tryz.func102,Tryz.ntmps102
 go_wp2_with fail;refine wp_nm fun W0 hW0=>?_;have hb0:Below w.heap.size w W0:=by rw[hW0];exact (Below.refl _ _).alloc (Nat.le_refl _) _
 have hX:bxR g w.heap.size W0:=by rw[hW0];exact heap_alloc_new w _
 have HB:=Lib.hid hb0;obtain ⟨b0,b1,b2,b3,b4⟩:=cells5 hX;have lb:w.heap.size<W0.heap.size:=(Array.getElem?_eq_some_iff.1 hX).1;have HX:=Lib.hid hX;clear hW0 hb0 hX;have hlf:=HLF.out.later HB.out;obtain ⟨k0,k1,k2,k3,k4⟩:=cells5 hlf.1;have lg:g<W0.heap.size:=(Array.getElem?_eq_some_iff.1 hlf.1).1;clear hlf;refine wp_loop_rounds 2 ?_;rw[rounds_succ];go_wp2_with fail;refine (count_lf q 1 2 W0 rfl).mono ?_;rintro e w1 ⟨rfl,hb1⟩;have HB1:=Lib.hid (HB.out.trans (hb1.mono HB.out.size));obtain ⟨c0,c1,c2,c3,c4⟩:=cells5 ((hb1.block w.heap.size lb).trans HX.out);have lb1:w.heap.size<w1.heap.size:=Nat.lt_of_lt_of_le lb hb1.size;clear hb1 b0 b1 b2 b3 b4 k0 k1 k2 k3 k4;go_wp2_with fail;rw[rounds_succ];go_wp2_with fail;go_ret;exact ⟨rfl,HB1.out⟩
set_option maxHeartbeats 4000000 in
theorem nodes_rt (g q:Nat) (w:World) (h:LfA g q w):Calls Tryz.prog 66 #[(.agg #[.int .i64 4, .slice none 0 0, .slice (some ⟨g,0,none⟩) 1 1, .int .i64 1, .int .i64 2])] w fun e w'=>e = .returned (.int .i64 2)∧Below w.heap.size w w':=by
 have HLF:=Lib.hid h;clear h
 go_enter Tryz.func66,Tryz.ntmps66
 go_wp2_with fail;refine calls_nm fun W0 hW0=>?_;have hb0:Below w.heap.size w W0:=by rw[hW0];exact (Below.refl _ _).alloc (Nat.le_refl _) _
 have HB:=Lib.hid hb0;clear hW0 hb0;refine (count_rt g q W0 (HLF.out.later HB.out)).mono ?_;rintro e w1 ⟨rfl,hb1⟩;have HB1:=Lib.hid (HB.out.trans (hb1.mono HB.out.size));clear hb1;go_wp2_with fail;go_ret;exact ⟨rfl,HB1.out⟩
set_option maxHeartbeats 4000000 in
theorem depth_lf (q:Nat) (w:World):Calls Tryz.prog 67 #[(.agg #[.int .i64 1, .slice (some ⟨q,0,none⟩) 1 1, .slice none 0 0, .int .i64 0, .int .i64 0])] w fun e w'=>e = .returned (.int .i64 1)∧Below w.heap.size w w':=by
 go_enter Tryz.func67,Tryz.ntmps67
 go_wp2_with fail;refine wp_nm fun W0 hW0=>?_;have hb0:Below w.heap.size w W0:=by rw[hW0];exact (Below.refl _ _).alloc (Nat.le_refl _) _
 have hX:bxL q w.heap.size W0:=by rw[hW0];exact heap_alloc_new w _
 have HB:=Lib.hid hb0;obtain ⟨b0,b1,b2,b3,b4⟩:=cells5 hX;have lb:w.heap.size<W0.heap.size:=(Array.getElem?_eq_some_iff.1 hX).1;have HX:=Lib.hid hX;clear hW0 hb0 hX;refine wp_loop_rounds 1 ?_;rw[rounds_succ];go_wp2_with fail;go_ret;exact ⟨rfl,HB.out⟩
set_option maxHeartbeats 4000000 in
theorem depth_rt (g q:Nat) (w:World) (h:LfA g q w):Calls Tryz.prog 67 #[(.agg #[.int .i64 4, .slice none 0 0, .slice (some ⟨g,0,none⟩) 1 1, .int .i64 1, .int .i64 2])] w fun e w'=>e = .returned (.int .i64 2)∧Below w.heap.size w w':=by
 have HLF:=Lib.hid h;clear h
 go_enter Tryz.func67,Tryz.ntmps67
 go_wp2_with fail;refine wp_nm fun W0 hW0=>?_;have hb0:Below w.heap.size w W0:=by rw[hW0];exact (Below.refl _ _).alloc (Nat.le_refl _) _
 have hX:bxR g w.heap.size W0:=by rw[hW0];exact heap_alloc_new w _
 have HB:=Lib.hid hb0;obtain ⟨b0,b1,b2,b3,b4⟩:=cells5 hX;have lb:w.heap.size<W0.heap.size:=(Array.getElem?_eq_some_iff.1 hX).1;have HX:=Lib.hid hX;clear hW0 hb0 hX;have hlf:=HLF.out.later HB.out;obtain ⟨k0,k1,k2,k3,k4⟩:=cells5 hlf.1;have lg:g<W0.heap.size:=(Array.getElem?_eq_some_iff.1 hlf.1).1;clear hlf;refine wp_loop_rounds 2 ?_;rw[rounds_succ];go_wp2_with fail;refine (depth_lf q W0).mono ?_;rintro e w1 ⟨rfl,hb1⟩;have HB1:=Lib.hid (HB.out.trans (hb1.mono HB.out.size));obtain ⟨c0,c1,c2,c3,c4⟩:=cells5 ((hb1.block w.heap.size lb).trans HX.out);have lb1:w.heap.size<w1.heap.size:=Nat.lt_of_lt_of_le lb hb1.size;clear hb1 b0 b1 b2 b3 b4 k0 k1 k2 k3 k4;go_wp2_with fail;rw[rounds_succ];go_wp2_with fail;go_ret;exact ⟨rfl,HB1.out⟩
set_option maxHeartbeats 4000000 in
theorem ranges_lf (q:Nat) (w:World) (h:RgA q w):Calls Tryz.prog 103 #[.slice (some ⟨q,0,none⟩) 1 1] w fun e w'=>e = .returned (.bool true)∧Below w.heap.size w w':=by
 have d0:∀d:BelT w.heap.size w,d.val.cell? ⟨q,0,none⟩=some (.int .u8 97):=fun d=>by rw[cell_of_row _ _ _ _ _ _ ((d.property.block q (Array.getElem?_eq_some_iff.1 h).1).trans h)];rfl
 have d1:∀d:BelT w.heap.size w,d.val.cell? ⟨q,1,none⟩=some (.int .u8 97):=fun d=>by rw[cell_of_row _ _ _ _ _ _ ((d.property.block q (Array.getElem?_eq_some_iff.1 h).1).trans h)];rfl
 have d2:∀d:BelT w.heap.size w,q<d.val.heap.size:=fun d=>Nat.lt_of_lt_of_le (Array.getElem?_eq_some_iff.1 h).1 d.property.size;clear h
 go_enter Tryz.func103,Tryz.ntmps103
 go_wp2_with fail;refine wp_loop_rounds 2 ?_;rw[rounds_succ];go_wp2_with fail;refine wp_region_below (Below.refl w.heap.size w) (by kernel_rfl) (by kernel_rfl) ?_
 repeat (go_big_quiet_step (fail))
 refine wpQuiet_nil ?_;intro w1 hw';have hw1:Below w.heap.size w w1:=by obtain ⟨d9,rfl⟩:=hw';exact d9.property
 have HB1:=Lib.hid hw1;clear hw' hw1 d0 d1 d2;go_wp2_with fail;rw[rounds_succ];go_wp2_with fail;go_ret;exact ⟨rfl,HB1.out⟩
set_option maxHeartbeats 4000000 in
theorem right_lf (q:Nat) (w:World) (h:RgA q w):Calls Tryz.prog 68 #[(.agg #[.int .i64 1, .slice (some ⟨q,0,none⟩) 1 1, .slice none 0 0, .int .i64 0, .int .i64 0])] w fun e w'=>e = .returned (.bool true)∧Below w.heap.size w w':=by
 have HR:=Lib.hid h;clear h
 go_enter Tryz.func68,Tryz.ntmps68
 go_wp2_with fail;refine calls_nm fun W0 hW0=>?_;have hb0:Below w.heap.size w W0:=by rw[hW0];exact (Below.refl _ _).alloc (Nat.le_refl _) _
 have hX:bxL q w.heap.size W0:=by rw[hW0];exact heap_alloc_new w _
 have HB:=Lib.hid hb0;have HX:=Lib.hid hX;have lb:w.heap.size<W0.heap.size:=(Array.getElem?_eq_some_iff.1 hX).1;clear hW0 hb0 hX;refine (ranges_lf q W0 ((HB.out.block q (Array.getElem?_eq_some_iff.1 HR.out).1).trans HR.out)).mono ?_;rintro e w1 ⟨rfl,hb1⟩;have HB1:=Lib.hid (HB.out.trans (hb1.mono HB.out.size));obtain ⟨c0,c1,c2,c3,c4⟩:=cells5 ((hb1.block w.heap.size lb).trans HX.out);have lb1:w.heap.size<w1.heap.size:=Nat.lt_of_lt_of_le lb hb1.size;clear hb1;go_wp2_with fail;refine wp_loop_rounds 1 ?_;rw[rounds_succ];go_wp2_with fail;go_ret;exact ⟨rfl,HB1.out⟩
set_option maxHeartbeats 4000000 in
theorem right_rt (g q:Nat) (w:World) (h:LfA g q w):Calls Tryz.prog 68 #[(.agg #[.int .i64 4, .slice none 0 0, .slice (some ⟨g,0,none⟩) 1 1, .int .i64 1, .int .i64 2])] w fun e w'=>e = .returned (.bool true)∧Below w.heap.size w w':=by
 have HLF:=Lib.hid h;clear h
 go_enter Tryz.func68,Tryz.ntmps68
 go_wp2_with fail;refine wp_nm fun W0 hW0=>?_;have hb0:Below w.heap.size w W0:=by rw[hW0];exact (Below.refl _ _).alloc (Nat.le_refl _) _
 have hX:bxR g w.heap.size W0:=by rw[hW0];exact heap_alloc_new w _
 have HB:=Lib.hid hb0;obtain ⟨b0,b1,b2,b3,b4⟩:=cells5 hX;have lb:w.heap.size<W0.heap.size:=(Array.getElem?_eq_some_iff.1 hX).1;have HX:=Lib.hid hX;clear hW0 hb0 hX;have hlf:=HLF.out.later HB.out;obtain ⟨k0,k1,k2,k3,k4⟩:=cells5 hlf.1;have lg:g<W0.heap.size:=(Array.getElem?_eq_some_iff.1 hlf.1).1;clear hlf;refine wp_loop_rounds 2 ?_;rw[rounds_succ];go_wp2_with fail;refine (right_lf q W0 (HLF.out.later HB.out).2).mono ?_;rintro e w1 ⟨rfl,hb1⟩;have HB1:=Lib.hid (HB.out.trans (hb1.mono HB.out.size));obtain ⟨c0,c1,c2,c3,c4⟩:=cells5 ((hb1.block w.heap.size lb).trans HX.out);have lb1:w.heap.size<w1.heap.size:=Nat.lt_of_lt_of_le lb hb1.size;clear hb1 b0 b1 b2 b3 b4 k0 k1 k2 k3 k4;go_wp2_with fail;rw[rounds_succ];go_wp2_with fail;go_ret;exact ⟨rfl,HB1.out⟩
set_option maxHeartbeats 4000000 in
theorem size_lf (q:Nat) (b:Bool) (w:World):Calls Tryz.prog 40 #[(.agg #[.int .i64 1, .slice (some ⟨q,0,none⟩) 1 1, .slice none 0 0, .int .i64 0, .int .i64 0]), .bool b] w fun e w'=>e = .returned (.int .i64 1)∧Below w.heap.size w w':=by
 go_enter Tryz.func40,Tryz.ntmps40
 go_wp2_with fail;go_ret;exact ⟨rfl,(Below.refl _ _).alloc (Nat.le_refl _) _⟩
set_option maxHeartbeats 4000000 in
theorem size_rt (g q:Nat) (w:World) (h:LfA g q w):Calls Tryz.prog 40 #[(.agg #[.int .i64 4, .slice none 0 0, .slice (some ⟨g,0,none⟩) 1 1, .int .i64 1, .int .i64 2]), .bool true] w fun e w'=>e = .returned (.int .i64 2)∧Below w.heap.size w w':=by
 have k:=cells5 h.1;obtain ⟨k0,k1,k2,k3,k4⟩:=k;have lg:g<w.heap.size:=(Array.getElem?_eq_some_iff.1 h.1).1;have lg2:g<w.heap.size+1:=by omega
 have ng:g≠w.heap.size:=by omega
 clear h
 go_enter Tryz.func40,Tryz.ntmps40
 go_wp2_with fail;refine calls_nm fun W0 hW0=>?_;have hb0:Below w.heap.size w W0:=by rw[hW0];exact (Below.refl _ _).alloc (Nat.le_refl _) _
 have HB:=Lib.hid hb0;clear hW0 hb0;refine (size_lf q true W0).mono ?_;rintro e w1 ⟨rfl,hb1⟩;have HB1:=Lib.hid (HB.out.trans (hb1.mono HB.out.size));clear hb1;go_wp2_with fail;go_ret;exact ⟨rfl,HB1.out⟩
end Go.Proofs.YtoaibhacognbjaaGreatDoor
