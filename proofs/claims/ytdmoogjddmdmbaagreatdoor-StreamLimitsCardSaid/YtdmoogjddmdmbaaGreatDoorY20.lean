/- Walks: the number of a group. Conditions: the variables read as laid. -/
import Derived.Test.YtdmoogjddmdmbaaGreatDoorY14
import Derived.Test.YtdmoogjddmdmbaaGreatDoorY17
import Derived.Test.YtdmoogjddmdmbaaGreatDoorY19
import Derived.Test.YtdmoogjddmdmbaaGreatDoorY12
namespace Go.Proofs.YtdmoogjddmdmbaaGreatDoor
set_option linter.unusedVariables false
set_option linter.unusedSimpArgs false
set_option maxRecDepth 100000
open Go.RowKit
open Go.Maps (Keyed)
theorem IsB.later {b:Nat} {l:List UInt8} {w w':World} (h:IsB b l w) (hb:Below w.heap.size w w'):IsB b l w':=by
 obtain ⟨h,hw⟩:=h;refine ⟨?_,Nat.le_trans hw hb.size⟩;rcases h with ⟨h0,v,hbk,hown,hne⟩ | ⟨h0,v,hbk,hown,hne⟩
 .exact .inl ⟨h0,v,(hb.block b (Array.getElem?_eq_some_iff.1 hbk).1).trans hbk,own_same hown λg hg=>hb.block g (hown.lt g hg).2,hne⟩
 .exact .inr ⟨h0,v,(hb.block b (Array.getElem?_eq_some_iff.1 hbk).1).trans hbk,own_same hown λg hg=>hb.block g (hown.lt g hg).2,hne⟩
theorem IL.at_ {w:World} {A:Option Addr} {n c:Nat} {l:List Nat} (h:IL w (.slice A n c) l) {k:Nat} (hk:k<l.length):∃g f,A=some ⟨g,f,none⟩/\g<w.heap.size/\∀w':World,w'.heap[g]?=w.heap[g]?->w'.cell? ⟨g,f+k,none⟩=some (.int .i64 (l[k]:Int)):=by
 rcases h with ⟨rfl,-⟩ | ⟨g,f,c',e,h0,hg,hc,hcell⟩
 .cases hk
 .injection e with e1 e2 e3;exact ⟨g,f,e1,hg,λw' hw=>(World.cell?_of_block (a:=⟨g,f+k,none⟩) hw).trans (hcell k hk)⟩
def IsF (b:Nat) (l:List UInt8) (w:World):Prop:=Lib.IsBuilderF 205 5 b b (Lib.byteCells l) w/\b<=w.heap.size
theorem string_f (b:Nat) (l:List UInt8) (w:World) (h:IsF b l w) :
  Calls Tryz.prog 166 #[.pointer (some ⟨b,0,none⟩)] w λe w'=>e = .returned (.string (bs l))/\IsF b l w'/\Below b w w':=
 (Any.Builder_String_any_f lays169 Builder_Extra_169 b b l w h.1 h.2).mono λ_ _ ⟨h1,h2,h3⟩=>⟨h1,⟨h2,Nat.le_trans h.2 h3.size⟩,h3⟩
theorem idxV_in {gs:List (List Nat)} {l:List Nat} (h:l∈gs):(idxV gs l).getD (.int .i64 0) = .int .i64 ((gs.idxOf l:Nat):Int)/\(idxV gs l).isSome=true:=by unfold idxV;rw[if_pos h];exact ⟨rfl,rfl⟩
theorem idxV_out {gs:List (List Nat)} {l:List Nat} (h:l∉gs):(idxV gs l).getD (.int .i64 0) = .int .i64 0/\(idxV gs l).isSome=false:=by unfold idxV;rw[if_neg h];exact ⟨rfl,rfl⟩
def factNb7 (s mb:Nat) (nm:List UInt8) (r:Int) (q:Bool):Nat->Nat->Value->World->Prop
 | c,0,x,w=>x = .pointer (some ⟨s,0,none⟩)
 | c,1,x,w=>x = .pointer (some ⟨s,0,none⟩)
 | c,2,x,w=>x = .pointer (some ⟨s,3,none⟩)
 | c,3,x,w=>x = .map (some mb)
 | c,4,x,w=>x = .string (bs nm)
 | c,5,x,w=>x = .tuple #[.int .i64 r, .bool q]
 | c,6,x,w=>x = .tuple #[.int .i64 r, .bool q]
 | c,7,x,w=>x = .int .i64 r
 | c,8,x,w=>x = .bool q
 | c,9,x,w=>x = .int .i64 r
 | _,_,_,_=>True
def factNb10 (s mb:Nat) (nm:List UInt8) (ng:Nat):Nat->Nat->Value->World->Prop
 | c,0,x,w=>x = .pointer (some ⟨s,0,none⟩)
 | c,1,x,w=>x = .pointer (some ⟨s,0,none⟩)
 | c,2,x,w=>x = .pointer (some ⟨s,3,none⟩)
 | c,3,x,w=>x = .map (some mb)
 | c,4,x,w=>x = .string (bs nm)
 | c,5,x,w=>x = .int .i64 (ng:Int)
 | _,_,_,_=>True
theorem nameG_step {l:List Nat} {k:Nat} (h:k<l.length):nameG (l.take k)++(Lib.decDigits l[k]++[32])=nameG (l.take (k+1)):=by
 rw[List.take_succ_eq_append_getElem h,nameG_snoc]
def NbPost (B s mb:Nat) (v0 v1 v2:Value) (gs:List (List Nat)) (l:List Nat) (fp:List Nat) (w:World) (e:Ending) (w':World):Prop:=∃fp',e = .returned (.int .i64 (((addG gs l).idxOf l:Nat):Int))/\SbI B s mb v0 v1 v2 (addG gs l) fp' w'/\KeepF fp fp' w w'
set_option maxHeartbeats 8000000 in
theorem number_any (B s mb:Nat) (v0 v1 v2:Value) (gs:List (List Nat)) (fp:List Nat) (w:World) (l:List Nat) (v:Value) (h:SbI B s mb v0 v1 v2 gs fp w) (hv:IL w v l) (ho:outOf fp v) (ht:TI w v) (hl:l.length<=1000) (hp:∀p∈l,p<1000) (hgs:gs.length<=1000000) (hvr:VrOK w) :
  Calls Tryz.prog 136 #[.pointer (some ⟨s,0,none⟩),v] w (NbPost B s mb v0 v1 v2 gs l fp w):=by
 obtain ⟨vg,gv,F,rfl,hb⟩:=h;obtain ⟨A,c,rfl,hc1,hc2⟩:=hv.form;obtain ⟨Ag,cg,rfl,hcg1,hcg2⟩:=own_form hb.own;have K:Keyed Tryz.prog 9:=Maps.string_keyed Tryz.underlying9;have hz:∀w,(zeroValue 3).run Tryz.prog w = .ok (.int .i64 0) w:=λ_=>by kernel_rfl
 have hlt:=hb.lt;have hls:s<w.heap.size:=(hlt s (by simp[fpG])).2
 have hcs:=hb.cs;have hlen:=nameG_len l (λp h=>by have:=hp p h;omega)
 obtain ⟨nl,hnl⟩:∃n,l.length=n:=⟨_,rfl⟩;obtain ⟨ng,hng⟩:∃n,gs.length=n:=⟨_,rfl⟩;have HTI:=Lib.hid ht;have HV:=Lib.hid hv;have HB:=Lib.hid hb;have HO:=Lib.hid ho;have HP:=Lib.hid hp;have HVR:=Lib.hid hvr;have HLT:=Lib.hid hlt;have HNL:=Lib.hid (And.intro hnl hng);rw[hnl]at hc1 hl hlen|-;rw[hng]at hgs hcs hcg1;clear hv hb ho hp hvr hlt hnl hng;have HCS:=Lib.hid hcs;clear hcs
 go_enter Tryz.func136,Tryz.ntmps136
 go_wp2_with fail
 go_loopw [12] (λiv wr=>∃k:Nat,k<=nl/\iv = .int .i64 (k:Int)/\Hid (IsB w.heap.size (nameG (l.take k)) wr)/\Hid (Below w.heap.size w wr)) (λiv _=>nl - (intOf iv).toNat)
 case atStart=>exact ⟨0,Nat.zero_le _,rfl,⟨Lib.fresh_isBuilder _ _ w,by simp⟩,(Below.refl _ w).alloc (Nat.le_refl _) _⟩
 case round=>
  obtain ⟨k,hk,rfl,HI,HBW⟩:=hrel;by_cases hlt:k<nl
  .have hd:decide ((k:Int)<(nl:Int))=true:=decide_eq_true (by omega)
   have hkl:k<l.length:=by rw[HNL.out.1];exact hlt
   obtain ⟨g,f,rfl,hg,hcell⟩:=HV.out.at_ hkl;have hc0:=hcell wr (HBW.out.block g hg);have hglr:g<wr.heap.size:=by have:=HBW.out.size;omega
   obtain ⟨p,hpe⟩:∃p,l[k]=p:=⟨_,rfl⟩;have hp1:p<1000:=by rw[<-hpe];exact HP.out _ (List.getElem_mem hkl)
   have hst:=nameG_step hkl;rw[hpe]at hc0 hst;have hvw:=HVR.out.later HBW.out;have hit:=λW (h:VrOK W)=>itoa_any p (by omega) W h
   have hdl:=dec_len p 2 (by omega)
   have hss:(bs (Lib.decDigits p)).size=(Lib.decDigits p).length:=size_bs _;have hsz:¬(9223372036854775807:Nat)<(bs (Lib.decDigits p)).size+ByteArray.size ⟨#[32]⟩:=by rw[hss];show ¬(9223372036854775807:Nat)<(Lib.decDigits p).length+1;omega
   have hbl:bl (bs (Lib.decDigits p)++⟨#[32]⟩)=Lib.decDigits p++[32]:=by rw[show (⟨#[32]⟩:ByteArray)=bs [32] from rfl];simp[bl,bs]
   have hs6:(bs (Lib.decDigits p)++⟨#[32]⟩).size<=1000000:=by rw[ByteArray.size_append,hss];show _+1<=_;omega
   have hln6:(nameG (l.take k)).length<=1000000000:=by
    have:=nameG_len (l.take k) (λp h=>by have:=HP.out p (List.mem_of_mem_take h);omega)
    have h2:(l.take k).length<=k:=List.length_take_le _ _;omega
   have HIT:=Lib.hid hit;have HST:=Lib.hid (And.intro hst hbl);have HLN:=Lib.hid hln6;have HVW:=Lib.hid hvw;clear hcell hpe hst hit hdl hss hbl hln6 hvw hkl;go_wp2_with (go_at_call 165;refine (HIT.out _ HVW.out).mono ?_;rintro e w1 ⟨rfl,hb1⟩);go_wp2_with (go_at_call 164;refine (builder_str _ _ _ _ (HI.out.later hb1) HLN.out hs6).mono ?_;rintro e w2 ⟨rfl,hi2,hb2⟩);have hi3:IsB w.heap.size (nameG (l.take (k+1))) w2:=by rw[HST.out.2,HST.out.1]at hi2;exact hi2
   have HI3:=Lib.hid hi3;have HB3:=Lib.hid (HBW.out.trans ((hb1.mono HBW.out.size).trans hb2));clear hi2 hi3 hb1 hb2;go_wp2_with fail;go_roundw
   case rel=>exact ⟨k+1,by omega,by go_num,HI3,HB3⟩
   case measure=>simp[intOf];omega
  .obtain rfl:k=nl:=by omega
   have hbw:=HBW.out;have hib:IsB w.heap.size (nameG l) wr:=by have:=HI.out;rwa [List.take_of_length_le (by rw[HNL.out.1];exact Nat.le_refl _)]at this
   have HIB:=Lib.hid hib;obtain ⟨nm,hnm⟩:∃x,nameG l=x:=⟨_,rfl⟩;have HNM:=Lib.hid hnm;have hlw:w.heap.size<wr.heap.size:=by
    rcases hib.1 with ⟨_,v,hbk,_⟩ | ⟨_,v,hbk,_⟩ <;> exact (Array.getElem?_eq_some_iff.1 hbk).1
   have hsl:s<wr.heap.size:=by omega
   have hif:IsF w.heap.size nm wr:=by rw[<-hnm];exact ⟨Lib.IsBuilderF.of hib.1,hib.2⟩
   have hmbl:=(HLT.out mb (by simp[fpG])).2
   have hcD:∀d:World,Below w.heap.size wr d->d.heap[s]?=some (.cells #[v0,v1,v2, .map (some mb), .slice Ag ng cg] 182 (0,0)):=λd hd=>(hd.block s hls).trans ((hbw.block s hls).trans HCS.out);have hmD:∀d:World,Below w.heap.size wr d->MV Tryz.prog 9 mb gs.length F d:=λd hd=>HB.out.mv.kept ((hd.block mb hmbl).trans (hbw.block mb hmbl));have hkey:keyOf Tryz.prog 9 (.string (bs nm))=some (.string nm):=by
    have:=WideMaps.keyOf_string_mk (P:=Tryz.prog) (k:=9) Tryz.underlying9 (s:=bs nm) (by rw[size_bs,<-hnm];unfold maxLen;omega)
    rwa [bs_data]at this
   have HCD:=Lib.hid hcD;have HMD:=Lib.hid hmD;have HKEY:=Lib.hid hkey;have HIF:=Lib.hid hif;have hS0:Below w.heap.size wr wr.drew/\IsF w.heap.size nm wr.drew:=⟨(Below.refl wr.heap.size wr).drew.mono (by omega),hif⟩
   obtain ⟨r,q,hrq⟩:∃(r:Int) (q:Bool),(idxV gs l).getD (.int .i64 0) = .int .i64 r/\(idxV gs l).isSome=q/\(if l∈gs then r=((gs.idxOf l:Nat):Int)/\q=true else q=false):=by
    by_cases hm:l∈gs
    .exact ⟨_,_,(idxV_in hm).1,(idxV_in hm).2,by rw[if_pos hm];exact ⟨rfl,rfl⟩⟩
    .exact ⟨_,_,(idxV_out hm).1,(idxV_out hm).2,by rw[if_neg hm]⟩
   have hlook:∀d:World,Below w.heap.size wr d->(Instr.lookup 176 (.map (some mb)) (.string (bs nm)) true).run Tryz.prog d = .ok (.tuple #[.int .i64 r, .bool q]) d:=λd hd=>by
    have h1:=(HMD.out d hd).look_ok K Tryz.underlying176 hz HKEY.out trivial;rw[<-hnm,HB.out.says l,hrq.1,hrq.2.1]at h1;rw[hnm]at h1;exact h1
   have HLK:=Lib.hid hlook;have HRQ:=Lib.hid hrq.2.2;clear hib hnm hif hcD hmD hkey hrq hlook hbw;go_wp2_with fail;refine wp_region_chain 10 [] (factNb7 s mb nm r q) (λ_ w'=>Below w.heap.size wr w'/\IsF w.heap.size nm w') (by kernel_rfl) (by kernel_rfl) (by kernel_rfl) (by kernel_rfl) (by kernel_rfl) (by kernel_rfl) (by decide) hS0 ?_ ?_
   .simp only[pq4,pq5];refine HSteps.pure (by decide) ?_ (HSteps.pure (by decide) ?_ (HSteps.pure (by decide) ?_ (HSteps.pure (by decide) ?_ (HSteps.free (by decide) ?_ (HSteps.pure (by decide) ?_ (HSteps.pure (by decide) ?_ (HSteps.pure (by decide) ?_ (HSteps.pure (by decide) ?_ (HSteps.pure (by decide) ?_ (HSteps.nil))))))))))
    all_goals first | (with_reducible intro v wz c hlo hS hE K hK;simp only[putAll,Act.put,pq1,pq2,pq3,Nat.zero_add,Nat.reduceAdd,pq4,pq5]at hK|-) | (intro v wz hS hE K hK;simp only[putAll,Act.put,pq1,pq2,pq3,Nat.zero_add,Nat.reduceAdd,pq4,pq5]at hK|-)
    .have HX:=Lib.hid hS;clear hS hE hlo;go_wp2_with fail;exact hK.out _ rfl
    .have e0:v 0=_:=hE.1 rfl;rw[e0]at hK|-;have HX:=Lib.hid hS;clear hS hE hlo;go_wp2_with fail;exact hK.out _ rfl
    .have e1:v 1=_:=hE.1 rfl;rw[e1]at hK|-;have HX:=Lib.hid hS;clear hS hE hlo;go_wp2_with fail;exact hK.out _ rfl
    .have e2:v 2=_:=hE.1 rfl;rw[e2]at hK|-;have cs3:wz.cell? ⟨s,3,none⟩=some (.map (some mb)):=by rw[cell_of_row _ _ _ _ _ _ (HCD.out wz hS.1)];rfl
     have lsz:s<wz.heap.size:=by have:=hS.1.size;omega
     have HX:=Lib.hid hS;clear hS hE hlo;go_wp2_with fail;exact hK.out _ rfl
    .have hcall:=string_f w.heap.size nm wz hS.2;have HC:=Lib.hid hcall;have HX:=Lib.hid hS;clear hS hE hlo hcall;go_wp2_with fail;refine HC.out.mono ?_;rintro e wy ⟨rfl,hf,hb⟩;have HY:=Lib.hid (And.intro (HX.out.1.trans hb) hf);clear hf hb;go_wp2_with fail;refine hK.out _ _ (λj z hj h=>?_) HY.out rfl
     match j with
     | 0 | 1 | 2 | 3 | 5 | 6 | 7 | 8 | 9=>exact h
     | 4=>exact absurd rfl hj
     | _+10=>exact trivial
    .have e3:v 3=_:=hE.1 rfl;rw[e3]at hK|-;have E4:=hE.2.1 rfl;have e4:v 4=_:=E4;rw[e4]at hK|-;have hlk:=HLK.out wz hS.1;have HX:=Lib.hid hS;clear hS hE hlo;go_wp2_with fail;exact hK.out _ rfl
    .have E5:=hE.1 rfl;have e5:v 5=_:=E5;rw[e5]at hK|-;have HX:=Lib.hid hS;clear hS hE hlo;go_wp2_with fail;exact hK.out _ rfl
    .have E6:=hE.1 rfl;have e6:v 6=_:=E6;rw[e6]at hK|-;have HX:=Lib.hid hS;clear hS hE hlo;go_wp2_with fail;exact hK.out _ rfl
    .have E6:=hE.1 rfl;have e6:v 6=_:=E6;rw[e6]at hK|-;have HX:=Lib.hid hS;clear hS hE hlo;go_wp2_with fail;exact hK.out _ rfl
    .have E7:=hE.1 rfl;have e7:v 7=_:=E7;rw[e7]at hK|-;have HX:=Lib.hid hS;clear hS hE hlo;go_wp2_with fail;exact hK.out _ rfl
   .intro v wz hS hF;have e0:v 0=_:=hF 0 (by decide)
    have e1:v 1=_:=hF 1 (by decide)
    have e2:v 2=_:=hF 2 (by decide)
    have e3:v 3=_:=hF 3 (by decide)
    have E4:=hF 4 (by decide)
    have E5:=hF 5 (by decide)
    have E6:=hF 6 (by decide)
    have E7:=hF 7 (by decide)
    have E8:=hF 8 (by decide)
    have E9:=hF 9 (by decide)
    simp only[putAll,Act.put,pq1,pq2,pq3,Nat.zero_add,Nat.reduceAdd,pq4,pq5,List.drop_succ_cons,List.drop_zero,e0,e1,e2,e3];clear hF e0 e1 e2 e3;have e4:v 4=_:=E4;have e5:v 5=_:=E5;have e6:v 6=_:=E6;have e7:v 7=_:=E7;have e8:v 8=_:=E8;have e9:v 9=_:=E9;rw[e4,e5,e6,e7,e8,e9];have HS:=Lib.hid hS;clear hS E4 E5 E6 E7 E8 E9 e4 e5 e6 e7 e8 e9;have hcs4:=HCD.out wz HS.out.1;have hz4:=HS.out.1.size;have cs4:wz.cell? ⟨s,4,none⟩=some (.slice Ag ng cg):=by rw[cell_of_row _ _ _ _ _ _ hcs4];rfl
    have cs3:wz.cell? ⟨s,3,none⟩=some (.map (some mb)):=by rw[cell_of_row _ _ _ _ _ _ hcs4];rfl
    have lsz:s<wz.heap.size:=by omega
    clear hcs4
    cases q with
    | true=>
     have hm:l∈gs:=by
      by_cases hm:l∈gs
      .exact hm
      .have:=HRQ.out;rw[if_neg hm]at this;cases this
     have HM:=Lib.hid hm;clear hm;go_wp2_with fail;refine bodyPost_ret (v:=.int .i64 r) (by simp[results,Tryz.results136,go_sem];try rfl) rfl ?_
     have hm:=HM.out;have hbt:Below w.heap.size w wz:=HBW.out.trans HS.out.1;have h1:addG gs l=gs:=if_pos hm;have h2:=HRQ.out;rw[if_pos hm]at h2;refine ⟨fpG s mb (.slice Ag gs.length cg),?_,?_,KeepF.of_below hbt⟩
     .rw[h1,h2.1]
     rw[h1];exact SbI.later ⟨_,gv,F,rfl,HB.out⟩ hbt
    | false=>
     have hm:l∉gs:=λhm=>by have:=HRQ.out;rw[if_pos hm]at this;cases this.2
     have HM:=Lib.hid hm;clear hm;have hS1:Below w.heap.size wr wz.drew/\IsF w.heap.size nm wz.drew:=⟨HS.out.1.drew,HS.out.2⟩;go_wp2_with fail;refine wp_region_chain 6 [] (factNb10 s mb nm ng) (λ_ w'=>Below w.heap.size wr w'/\IsF w.heap.size nm w') (by kernel_rfl) (by kernel_rfl) (by kernel_rfl) (by kernel_rfl) (by kernel_rfl) (by kernel_rfl) (by decide) hS1 ?_ ?_
     .simp only[pq4,pq5];refine HSteps.pure (by decide) ?_ (HSteps.pure (by decide) ?_ (HSteps.pure (by decide) ?_ (HSteps.pure (by decide) ?_ (HSteps.free (by decide) ?_ (HSteps.pure (by decide) ?_ (HSteps.nil))))))
      all_goals first | (with_reducible intro v wz c hlo hS hE K hK;simp only[putAll,Act.put,pq1,pq2,pq3,Nat.zero_add,Nat.reduceAdd,pq4,pq5]at hK|-) | (intro v wz hS hE K hK;simp only[putAll,Act.put,pq1,pq2,pq3,Nat.zero_add,Nat.reduceAdd,pq4,pq5]at hK|-)
      .have HX:=Lib.hid hS;clear hS hE hlo;go_wp2_with fail;exact hK.out _ rfl
      .have e0:v 0=_:=hE.1 rfl;rw[e0]at hK|-;have HX:=Lib.hid hS;clear hS hE hlo;go_wp2_with fail;exact hK.out _ rfl
      .have e1:v 1=_:=hE.1 rfl;rw[e1]at hK|-;have HX:=Lib.hid hS;clear hS hE hlo;go_wp2_with fail;exact hK.out _ rfl
      .have e2:v 2=_:=hE.1 rfl;rw[e2]at hK|-;have cs3:wz.cell? ⟨s,3,none⟩=some (.map (some mb)):=by rw[cell_of_row _ _ _ _ _ _ (HCD.out wz hS.1)];rfl
       have lsz:s<wz.heap.size:=by have:=hS.1.size;omega
       have HX:=Lib.hid hS;clear hS hE hlo;go_wp2_with fail;exact hK.out _ rfl
      .have hcall:=string_f w.heap.size nm wz hS.2;have HC:=Lib.hid hcall;have HX:=Lib.hid hS;clear hS hE hlo hcall;go_wp2_with fail;refine HC.out.mono ?_;rintro e wy ⟨rfl,hf,hb⟩;have HY:=Lib.hid (And.intro (HX.out.1.trans hb) hf);clear hf hb;go_wp2_with fail;refine hK.out _ _ (λj z hj h=>?_) HY.out rfl
       match j with
       | 0 | 1 | 2 | 3 | 5=>exact h
       | 4=>exact absurd rfl hj
       | _+6=>exact trivial
      .have HX:=Lib.hid hS;clear hS hE hlo;go_wp2_with fail;exact hK.out _ rfl
     .intro v wz hS hF;have e0:v 0=_:=hF 0 (by decide)
      have e1:v 1=_:=hF 1 (by decide)
      have e2:v 2=_:=hF 2 (by decide)
      have e3:v 3=_:=hF 3 (by decide)
      have e5:v 5=_:=hF 5 (by decide)
      have E4:=hF 4 (by decide)
      simp only[putAll,Act.put,pq1,pq2,pq3,Nat.zero_add,Nat.reduceAdd,pq4,pq5,List.drop_succ_cons,List.drop_zero,e0,e1,e2,e3,e5];clear hF e0 e1 e2 e3 e5;have e4:v 4=_:=E4;rw[e4];clear E4 e4;obtain ⟨i1,hi1,hj0,hj1,hj2⟩:=info_parts info_li;have hmz:=HMD.out wz hS.1;have hrow:=HCD.out wz hS.1;have hz5:=hS.1.size;have hbt:=HBW.out.trans hS.1;have hownz:wz.ownsRow B 22 1 (.slice Ag ng cg) ng gv:=by rw[<-HNL.out.2];exact own_same HB.out.own λg hg=>hbt.block g (HB.out.own.lt g hg).2
      have hne:=HB.out.ne;have hBB:=HB.out.hs;have hil:=HV.out.later hbt;rw[HNL.out.2]at hne;have HIL:=Lib.hid (And.intro hil hbt);have HSZ:=Lib.hid hS;clear hS hil;refine wpList_put_MV wz rfl _ _ _ _ rfl 9 3 K Tryz.underlying176 mb _ F rfl hmz (by rw[HNL.out.2];unfold maxLen;omega) _ _ _ rfl rfl HKEY.out trivial ?_
      intro w1 hm1 hg1;have hz1:=hg1.size;have hls1:s<w1.heap.size:=by omega
      have hrow1:w1.heap[s]?=_:=(hg1.block s (by omega) (λe=>hne.1 (by injection e))).trans hrow
      have d4:w1.cell? ⟨s,4,none⟩=some (.slice Ag ng cg):=by rw[cell_of_row _ _ _ _ _ _ hrow1];rfl
      have hown1:w1.ownsRow B 22 1 (.slice Ag ng cg) ng gv:=own_same hownz λg hg=>hg1.block g (hownz.lt g hg).2 (λe=>by injection e with e;exact hne.2.2 (by rw[hg,e]))
      have HM1:=Lib.hid hm1;have HG1:=Lib.hid hg1;have HR1:=Lib.hid hrow1;have HO1:=Lib.hid hown1;clear hm1 hg1 hrow1 hown1 hownz hmz hrow;have hlz:w1.heap.size<w1.heap.size+1:=by omega
      have hcx:∀j u,[Value.slice A k c][j]?=some u->(w1.alloc (.cells #[.slice A k c] 22)).cell? ((⟨w1.heap.size,0,none⟩:Addr).add j)=some u:=by
       intro j u hj
       match j,hj with
       | 0,hj=>simp at hj;subst hj;simp[Addr.add]
      have hownA:(w1.alloc (.cells #[.slice A k c] 22)).ownsRow B 22 1 (.slice Ag ng cg) ng gv:=HO1.out.alloc _;go_wp2_with (at_builtin;refine appI_at rfl _ _ 178 rfl B 22 i1 (.slice none 0 0) 1 24 Tryz.underlying178 hi1 hj0 hj1 hj2 rfl (by decide) _ ng gv rfl hownA ⟨w1.heap.size,0,none⟩ 1 1 [.slice A k c] rfl (by simp) hcx (by intro u hu;simp at hu;subst hu;rfl) (by unfold maxLen;omega) (by omega) (by simp;omega) ?_)
      intro v' w3 hown3 hg3 hf3;have hzA:(w1.alloc (.cells #[.slice A k c] 22)).heap.size=w1.heap.size+1:=by simp
      have hz3:=hg3.size;have hls3:s<w3.heap.size:=by omega
      have hrow3:w3.heap[s]?=_:=(hg3.block s (by omega) (λe=>hne.2.1 e.symm)).trans ((old_alloc w1 _ s (by omega)).trans HR1.out)
      have d4':w3.cell? ⟨s,4,none⟩=some (.slice Ag ng cg):=by rw[cell_of_row _ _ _ _ _ _ hrow3];rfl
      have f4':w3.frozen? ⟨s,4,none⟩=false:=by simp[World.frozen?,hrow3]
      obtain ⟨A',c',rfl,-,-⟩:=own_form hown3;have HX3:=Lib.hid (And.intro hown3 (And.intro hg3 hf3));clear hown3 hg3 hf3 hownA hcx hrow3;go_wp2_with fail;refine post_named λWf hWf=>?_;refine bodyPost_ret (v:=.int .i64 (ng:Int)) (by rw[hWf];simp[results,Tryz.results136,go_sem];try rfl) rfl ?_
      have h1:addG gs l=gs++[l]:=if_neg HM.out;have hsz:SbS B s mb v0 v1 v2 gs (.slice Ag gs.length cg) gv F wz:=HB.out.same (λq hq=>HIL.out.2.block q (HLT.out q hq).2) HIL.out.2.size (λv l h _ ht=>⟨h.later HIL.out.2,ht.later HIL.out.2⟩);have hadd:=hsz.add (l:=l) (v:=.slice A l.length c) (vg':=.slice A' (ng+1) c') (n:=(ng:Int)) (w1:=w1) (w2:=w1.alloc (.cells #[.slice A k c] 22)) (w3:=w3) HIL.out.1 HO.out (HTI.out.later HIL.out.2) HM.out (by rw[HNL.out.2]) HG1.out (by rw[HNM.out];exact HM1.out) ((Below.refl _ _).alloc (Nat.le_refl _) _) (by rw[HNL.out.2];exact HX3.out.2.1) (by rw[HNL.out.2,HNL.out.1];exact HX3.out.1) (by rw[HNL.out.2,hzA];exact HX3.out.2.2)
      refine ⟨fpG s mb (.slice A' (ng+1) c'),?_,?_,?_⟩
      .rw[h1,List.idxOf_append,if_neg HM.out];simp[HNL.out.2]
      .rw[h1,hWf];exact hadd.1
      .rw[hWf];exact (KeepF.of_below HIL.out.2).trans hadd.2
end Go.Proofs.YtdmoogjddmdmbaaGreatDoor
