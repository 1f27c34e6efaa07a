/- Walks: the number of a group. Conditions: the variables read as laid. · A strings.Builder anywhere: what its calls write is its box and its buffer alone. -/
import Derived.Test.YtljgapfmgegifaaGreatDoorV14
import Derived.Test.YtljgapfmgegifaaGreatDoorV23
import Derived.Test.YtljgapfmgegifaaGreatDoorV18
import Derived.Lib.AppendStr
import Derived.Test.YtljgapfmgegifaaGreatDoorV12
namespace Go.Proofs.YtljgapfmgegifaaGreatDoor
set_option linter.unusedVariables false
set_option linter.unusedSimpArgs false
set_option maxRecDepth 100000
open Go.RowKit
open Go.Maps (Keyed)
theorem IsB.later {b:Nat} {l:List UInt8} {w w':World} (h:IsB b l w) (hb:Below w.heap.size w w'):IsB b l w':=by
 obtain ⟨h,hw⟩:=h;refine ⟨?_,Nat.le_trans hw hb.size⟩;rcases h with ⟨h0,v,hbk,hown,hne⟩ | ⟨h0,v,hbk,hown,hne⟩
 .exact .inl ⟨h0,v,(hb.block b (Array.getElem?_eq_some_iff.1 hbk).1).trans hbk,own_same hown λg hg=>hb.block g (hown.lt g hg).2,hne⟩
 .exact .inr ⟨h0,v,(hb.block b (Array.getElem?_eq_some_iff.1 hbk).1).trans hbk,own_same hown λg hg=>hb.block g (hown.lt g hg).2,hne⟩
theorem IL.at_ {w:World} {A:Option Addr} {n c:Nat} {l:List Nat} (h:IL w (.slice A n c) l) {k:Nat} (hk:k<l.length):∃g f,A=some ⟨g,f,none⟩/\g<w.heap.size/\∀w':World,w'.heap[g]?=w.heap[g]?->w'.cell? ⟨g,f+k,none⟩=some (.int .i64 (l[k]:Int)):=by
 rcases h with ⟨rfl,-⟩ | ⟨g,f,c',e,h0,hg,hc,hcell⟩
 .cases hk
 .injection e with e1 e2 e3;exact ⟨g,f,e1,hg,λw' hw=>(World.cell?_of_block (a:=⟨g,f+k,none⟩) hw).trans (hcell k hk)⟩
def IsF (b:Nat) (l:List UInt8) (w:World):Prop:=Lib.IsBuilderF 105 5 b b (Lib.byteCells l) w/\b<=w.heap.size
theorem string_f (b:Nat) (l:List UInt8) (w:World) (h:IsF b l w) :
  Calls Tryz.prog 67 #[.pointer (some ⟨b,0,none⟩)] w λe w'=>e = .returned (.string (bs l))/\IsF b l w'/\Below b w w':=
 (Any.Builder_String_any_f lays169 Builder_Extra_169 b b l w h.1 h.2).mono λ_ _ ⟨h1,h2,h3⟩=>⟨h1,⟨h2,Nat.le_trans h.2 h3.size⟩,h3⟩
theorem idxV_in {gs:List (List Nat)} {l:List Nat} (h:l∈gs):(idxV gs l).getD (.int .i64 0) = .int .i64 ((gs.idxOf l:Nat):Int)/\(idxV gs l).isSome=true:=by unfold idxV;rw[if_pos h];exact ⟨rfl,rfl⟩
theorem idxV_out {gs:List (List Nat)} {l:List Nat} (h:l∉gs):(idxV gs l).getD (.int .i64 0) = .int .i64 0/\(idxV gs l).isSome=false:=by unfold idxV;rw[if_neg h];exact ⟨rfl,rfl⟩
def factNb7 (s mb:Nat) (nm:List UInt8) (r:Int) (q:Bool):Nat->Nat->Value->World->Prop
 | c,0,x,w=>x = .pointer (some ⟨s,0,none⟩)
 | c,1,x,w=>x = .pointer (some ⟨s,0,none⟩)
 | c,2,x,w=>x = .pointer (some ⟨s,3,none⟩)
 | c,3,x,w=>x = .map (some mb)
 | c,4,x,w=>x = .string (bs nm)
 | c,5,x,w=>x = .tuple #[.int .i64 r, .bool q]
 | c,6,x,w=>x = .tuple #[.int .i64 r, .bool q]
 | c,7,x,w=>x = .int .i64 r
 | c,8,x,w=>x = .bool q
 | c,9,x,w=>x = .int .i64 r
 | _,_,_,_=>True
def factNb10 (s mb:Nat) (nm:List UInt8) (ng:Nat):Nat->Nat->Value->World->Prop
 | c,0,x,w=>x = .pointer (some ⟨s,0,none⟩)
 | c,1,x,w=>x = .pointer (some ⟨s,0,none⟩)
 | c,2,x,w=>x = .pointer (some ⟨s,3,none⟩)
 | c,3,x,w=>x = .map (some mb)
 | c,4,x,w=>x = .string (bs nm)
 | c,5,x,w=>x = .int .i64 (ng:Int)
 | _,_,_,_=>True
theorem nameG_step {l:List Nat} {k:Nat} (h:k<l.length):nameG (l.take k)++(Lib.decDigits l[k]++[32])=nameG (l.take (k+1)):=by
 rw[List.take_succ_eq_append_getElem h,nameG_snoc]
def NbPost (B s mb:Nat) (v0 v1 v2:Value) (gs:List (List Nat)) (l:List Nat) (fp:List Nat) (w:World) (e:Ending) (w':World):Prop:=∃fp',e = .returned (.int .i64 (((addG gs l).idxOf l:Nat):Int))/\SbI B s mb v0 v1 v2 (addG gs l) fp' w'/\KeepF fp fp' w w'
set_option maxHeartbeats 8000000 in
theorem number_any (B s mb:Nat) (v0 v1 v2:Value) (gs:List (List Nat)) (fp:List Nat) (w:World) (l:List Nat) (v:Value) (h:SbI B s mb v0 v1 v2 gs fp w) (hv:IL w v l) (ho:outOf fp v) (ht:TI w v) (hl:l.length<=1000) (hp:∀p∈l,p<1000) (hgs:gs.length<=1000000) (hvr:VrOK w) :
  Calls Tryz.prog 114 #[.pointer (some ⟨s,0,none⟩),v] w (NbPost B s mb v0 v1 v2 gs l fp w):=by
 obtain ⟨vg,gv,F,rfl,hb⟩:=h;obtain ⟨A,c,rfl,hc1,hc2⟩:=hv.form;obtain ⟨Ag,cg,rfl,hcg1,hcg2⟩:=own_form hb.own;have K:Keyed Tryz.prog 9:=Maps.string_keyed Tryz.underlying9;have hz:∀w,(zeroValue 3).run Tryz.prog w = .ok (.int .i64 0) w:=λ_=>by kernel_rfl
 have hlt:=hb.lt;have hls:s<w.heap.size:=(hlt s (by simp[fpG])).2
 have hcs:=hb.cs;have hlen:=nameG_len l (λp h=>by have:=hp p h;omega)
 obtain ⟨nl,hnl⟩:∃n,l.length=n:=⟨_,rfl⟩;obtain ⟨ng,hng⟩:∃n,gs.length=n:=⟨_,rfl⟩;have HTI:=Lib.hid ht;have HV:=Lib.hid hv;have HB:=Lib.hid hb;have HO:=Lib.hid ho;have HP:=Lib.hid hp;have HVR:=Lib.hid hvr;have HLT:=Lib.hid hlt;have HNL:=Lib.hid (And.intro hnl hng);rw[hnl]at hc1 hl hlen|-;rw[hng]at hgs hcs hcg1;clear hv hb ho hp hvr hlt hnl hng;have HCS:=Lib.hid hcs;clear hcs
 go_enter Tryz.func114,Tryz.ntmps114
 go_wp2_with fail
 go_loopw [12] (λiv wr=>∃k:Nat,k<=nl/\iv = .int .i64 (k:Int)/\Hid (IsB w.heap.size (nameG (l.take k)) wr)/\Hid (Below w.heap.size w wr)) (λiv _=>nl - (intOf iv).toNat)
 case atStart=>exact ⟨0,Nat.zero_le _,rfl,⟨Lib.fresh_isBuilder _ _ w,by simp⟩,(Below.refl _ w).alloc (Nat.le_refl _) _⟩
 case round=>
  obtain ⟨k,hk,rfl,HI,HBW⟩:=hrel;by_cases hlt:k<nl
  .have hd:decide ((k:Int)<(nl:Int))=true:=decide_eq_true (by omega)
   have hkl:k<l.length:=by rw[HNL.out.1];exact hlt
   obtain ⟨g,f,rfl,hg,hcell⟩:=HV.out.at_ hkl;have hc0:=hcell wr (HBW.out.block g hg);have hglr:g<wr.heap.size:=by have:=HBW.out.size;omega
   obtain ⟨p,hpe⟩:∃p,l[k]=p:=⟨_,rfl⟩;have hp1:p<1000:=by rw[<-hpe];exact HP.out _ (List.getElem_mem hkl)
   have hst:=nameG_step hkl;rw[hpe]at hc0 hst;have hvw:=HVR.out.later HBW.out;have hit:=λW (h:VrOK W)=>itoa_any p (by omega) W h
   have hdl:=dec_len p 2 (by omega)
   have hss:(bs (Lib.decDigits p)).size=(Lib.decDigits p).length:=size_bs _;have hsz:¬(9223372036854775807:Nat)<(bs (Lib.decDigits p)).size+ByteArray.size ⟨#[32]⟩:=by rw[hss];show ¬(9223372036854775807:Nat)<(Lib.decDigits p).length+1;omega
   have hbl:bl (bs (Lib.decDigits p)++⟨#[32]⟩)=Lib.decDigits p++[32]:=by rw[show (⟨#[32]⟩:ByteArray)=bs [32] from rfl];simp[bl,bs]
   have hs6:(bs (Lib.decDigits p)++⟨#[32]⟩).size<=1000000:=by rw[ByteArray.size_append,hss];show _+1<=_;omega
   have hln6:(nameG (l.take k)).length<=1000000000:=by
    have:=nameG_len (l.take k) (λp h=>by have:=HP.out p (List.mem_of_mem_take h);omega)
    have h2:(l.take k).length<=k:=List.length_take_le _ _;omega
   have HIT:=Lib.hid hit;have HST:=Lib.hid (And.intro hst hbl);have HLN:=Lib.hid hln6;have HVW:=Lib.hid hvw;clear hcell hpe hst hit hdl hss hbl hln6 hvw hkl;go_wp2_with (go_at_call 98;refine (HIT.out _ HVW.out).mono ?_;rintro e w1 ⟨rfl,hb1⟩);go_wp2_with (go_at_call 65;refine (builder_str _ _ _ _ (HI.out.later hb1) HLN.out hs6).mono ?_;rintro e w2 ⟨rfl,hi2,hb2⟩);have hi3:IsB w.heap.size (nameG (l.take (k+1))) w2:=by rw[HST.out.2,HST.out.1]at hi2;exact hi2
   have HI3:=Lib.hid hi3;have HB3:=Lib.hid (HBW.out.trans ((hb1.mono HBW.out.size).trans hb2));clear hi2 hi3 hb1 hb2;go_wp2_with fail;go_roundw
   case rel=>exact ⟨k+1,by omega,by go_num,HI3,HB3⟩
   case measure=>simp[intOf];omega
  .obtain rfl:k=nl:=by omega
   have hbw:=HBW.out;have hib:IsB w.heap.size (nameG l) wr:=by have:=HI.out;rwa [List.take_of_length_le (by rw[HNL.out.1];exact Nat.le_refl _)]at this
   have HIB:=Lib.hid hib;obtain ⟨nm,hnm⟩:∃x,nameG l=x:=⟨_,rfl⟩;have HNM:=Lib.hid hnm;have hlw:w.heap.size<wr.heap.size:=by
    rcases hib.1 with ⟨_,v,hbk,_⟩ | ⟨_,v,hbk,_⟩ <;> exact (Array.getElem?_eq_some_iff.1 hbk).1
   have hsl:s<wr.heap.size:=by omega
   have hif:IsF w.heap.size nm wr:=by rw[<-hnm];exact ⟨Lib.IsBuilderF.of hib.1,hib.2⟩
   have hmbl:=(HLT.out mb (by simp[fpG])).2
   have hcD:∀d:World,Below w.heap.size wr d->d.heap[s]?=some (.cells #[v0,v1,v2, .map (some mb), .slice Ag ng cg] 148 (0,0)):=λd hd=>(hd.block s hls).trans ((hbw.block s hls).trans HCS.out);have hmD:∀d:World,Below w.heap.size wr d->MV Tryz.prog 9 mb gs.length F d:=λd hd=>HB.out.mv.kept ((hd.block mb hmbl).trans (hbw.block mb hmbl));have hkey:keyOf Tryz.prog 9 (.string (bs nm))=some (.string nm):=by
    have:=WideMaps.keyOf_string_mk (P:=Tryz.prog) (k:=9) Tryz.underlying9 (s:=bs nm) (by rw[size_bs,<-hnm];unfold maxLen;omega)
    rwa [bs_data]at this
   have HCD:=Lib.hid hcD;have HMD:=Lib.hid hmD;have HKEY:=Lib.hid hkey;have HIF:=Lib.hid hif;have hS0:Below w.heap.size wr wr.drew/\IsF w.heap.size nm wr.drew:=⟨(Below.refl wr.heap.size wr).drew.mono (by omega),hif⟩
   obtain ⟨r,q,hrq⟩:∃(r:Int) (q:Bool),(idxV gs l).getD (.int .i64 0) = .int .i64 r/\(idxV gs l).isSome=q/\(if l∈gs then r=((gs.idxOf l:Nat):Int)/\q=true else q=false):=by
    by_cases hm:l∈gs
    .exact ⟨_,_,(idxV_in hm).1,(idxV_in hm).2,by rw[if_pos hm];exact ⟨rfl,rfl⟩⟩
    .exact ⟨_,_,(idxV_out hm).1,(idxV_out hm).2,by rw[if_neg hm]⟩
   have hlook:∀d:World,Below w.heap.size wr d->(Instr.lookup 142 (.map (some mb)) (.string (bs nm)) true).run Tryz.prog d = .ok (.tuple #[.int .i64 r, .bool q]) d:=λd hd=>by
    have h1:=(HMD.out d hd).look_ok K Tryz.underlying142 hz HKEY.out trivial;rw[<-hnm,HB.out.says l,hrq.1,hrq.2.1]at h1;rw[hnm]at h1;exact h1
   have HLK:=Lib.hid hlook;have HRQ:=Lib.hid hrq.2.2;clear hib hnm hif hcD hmD hkey hrq hlook hbw;go_wp2_with fail;refine wp_region_chain 10 [] (factNb7 s mb nm r q) (λ_ w'=>Below w.heap.size wr w'/\IsF w.heap.size nm w') (by kernel_rfl) (by kernel_rfl) (by kernel_rfl) (by kernel_rfl) (by kernel_rfl) (by kernel_rfl) (by decide) hS0 ?_ ?_
   .simp only[pq4,pq5];refine HSteps.pure (by decide) ?_ (HSteps.pure (by decide) ?_ (HSteps.pure (by decide) ?_ (HSteps.pure (by decide) ?_ (HSteps.free (by decide) ?_ (HSteps.pure (by decide) ?_ (HSteps.pure (by decide) ?_ (HSteps.pure (by decide) ?_ (HSteps.pure (by decide) ?_ (HSteps.pure (by decide) ?_ (HSteps.nil))))))))))
    all_goals first | (intro v wz c hlo hS hE K hK;simp only[putAll,Act.put,pq1,pq2,pq3,Nat.zero_add,Nat.reduceAdd,pq4,pq5]at hK|-) | (intro v wz hS hE K hK;simp only[putAll,Act.put,pq1,pq2,pq3,Nat.zero_add,Nat.reduceAdd,pq4,pq5]at hK|-)
    .have HX:=Lib.hid hS;clear hS hE hlo;go_wp2_with fail;exact hK.out _ rfl
    .have e0:v 0=_:=hE.1 rfl;rw[e0]at hK|-;have HX:=Lib.hid hS;clear hS hE hlo;go_wp2_with fail;exact hK.out _ rfl
    .have e1:v 1=_:=hE.1 rfl;rw[e1]at hK|-;have HX:=Lib.hid hS;clear hS hE hlo;go_wp2_with fail;exact hK.out _ rfl
    .have e2:v 2=_:=hE.1 rfl;rw[e2]at hK|-;have cs3:wz.cell? ⟨s,3,none⟩=some (.map (some mb)):=by rw[cell_of_row _ _ _ _ _ _ (HCD.out wz hS.1)];rfl
     have lsz:s<wz.heap.size:=by have:=hS.1.size;omega
     have HX:=Lib.hid hS;clear hS hE hlo;go_wp2_with fail;exact hK.out _ rfl
    .have hcall:=string_f w.heap.size nm wz hS.2;have HC:=Lib.hid hcall;have HX:=Lib.hid hS;clear hS hE hlo hcall;go_wp2_with fail;refine HC.out.mono ?_;rintro e wy ⟨rfl,hf,hb⟩;have HY:=Lib.hid (And.intro (HX.out.1.trans hb) hf);clear hf hb;go_wp2_with fail;refine hK.out _ _ (λj z hj h=>?_) HY.out rfl
     match j with
     | 0 | 1 | 2 | 3 | 5 | 6 | 7 | 8 | 9=>exact h
     | 4=>exact absurd rfl hj
     | _+10=>exact trivial
    .have e3:v 3=_:=hE.1 rfl;rw[e3]at hK|-;have E4:=hE.2.1 rfl;have e4:v 4=_:=E4;rw[e4]at hK|-;have hlk:=HLK.out wz hS.1;have HX:=Lib.hid hS;clear hS hE hlo;go_wp2_with fail;exact hK.out _ rfl
    .have E5:=hE.1 rfl;have e5:v 5=_:=E5;rw[e5]at hK|-;have HX:=Lib.hid hS;clear hS hE hlo;go_wp2_with fail;exact hK.out _ rfl
    .have E6:=hE.1 rfl;have e6:v 6=_:=E6;rw[e6]at hK|-;have HX:=Lib.hid hS;clear hS hE hlo;go_wp2_with fail;exact hK.out _ rfl
    .have E6:=hE.1 rfl;have e6:v 6=_:=E6;rw[e6]at hK|-;have HX:=Lib.hid hS;clear hS hE hlo;go_wp2_with fail;exact hK.out _ rfl
    .have E7:=hE.1 rfl;have e7:v 7=_:=E7;rw[e7]at hK|-;have HX:=Lib.hid hS;clear hS hE hlo;go_wp2_with fail;exact hK.out _ rfl
   .intro v wz hS hF;have e0:v 0=_:=hF 0 (by decide)
    have e1:v 1=_:=hF 1 (by decide)
    have e2:v 2=_:=hF 2 (by decide)
    have e3:v 3=_:=hF 3 (by decide)
    have E4:=hF 4 (by decide)
    have E5:=hF 5 (by decide)
    have E6:=hF 6 (by decide)
    have E7:=hF 7 (by decide)
    have E8:=hF 8 (by decide)
    have E9:=hF 9 (by decide)
    simp only[putAll,Act.put,pq1,pq2,pq3,Nat.zero_add,Nat.reduceAdd,pq4,pq5,List.drop_succ_cons,List.drop_zero,e0,e1,e2,e3];clear hF e0 e1 e2 e3;have e4:v 4=_:=E4;have e5:v 5=_:=E5;have e6:v 6=_:=E6;have e7:v 7=_:=E7;have e8:v 8=_:=E8;have e9:v 9=_:=E9;rw[e4,e5,e6,e7,e8,e9];have HS:=Lib.hid hS;clear hS E4 E5 E6 E7 E8 E9 e4 e5 e6 e7 e8 e9;have hcs4:=HCD.out wz HS.out.1;have hz4:=HS.out.1.size;have cs4:wz.cell? ⟨s,4,none⟩=some (.slice Ag ng cg):=by rw[cell_of_row _ _ _ _ _ _ hcs4];rfl
    have cs3:wz.cell? ⟨s,3,none⟩=some (.map (some mb)):=by rw[cell_of_row _ _ _ _ _ _ hcs4];rfl
    have lsz:s<wz.heap.size:=by omega
    clear hcs4
    cases q with
    | true=>
     have hm:l∈gs:=by
      by_cases hm:l∈gs
      .exact hm
      .have:=HRQ.out;rw[if_neg hm]at this;cases this
     have HM:=Lib.hid hm;clear hm;go_wp2_with fail;refine bodyPost_ret (v:=.int .i64 r) (by simp[results,Tryz.results114,go_sem];try rfl) rfl ?_
     have hm:=HM.out;have hbt:Below w.heap.size w wz:=HBW.out.trans HS.out.1;have h1:addG gs l=gs:=if_pos hm;have h2:=HRQ.out;rw[if_pos hm]at h2;refine ⟨fpG s mb (.slice Ag gs.length cg),?_,?_,KeepF.of_below hbt⟩
     .rw[h1,h2.1]
     rw[h1];exact SbI.later ⟨_,gv,F,rfl,HB.out⟩ hbt
    | false=>
     have hm:l∉gs:=λhm=>by have:=HRQ.out;rw[if_pos hm]at this;cases this.2
     have HM:=Lib.hid hm;clear hm;have hS1:Below w.heap.size wr wz.drew/\IsF w.heap.size nm wz.drew:=⟨HS.out.1.drew,HS.out.2⟩;go_wp2_with fail;refine wp_region_chain 6 [] (factNb10 s mb nm ng) (λ_ w'=>Below w.heap.size wr w'/\IsF w.heap.size nm w') (by kernel_rfl) (by kernel_rfl) (by kernel_rfl) (by kernel_rfl) (by kernel_rfl) (by kernel_rfl) (by decide) hS1 ?_ ?_
     .simp only[pq4,pq5];refine HSteps.pure (by decide) ?_ (HSteps.pure (by decide) ?_ (HSteps.pure (by decide) ?_ (HSteps.pure (by decide) ?_ (HSteps.free (by decide) ?_ (HSteps.pure (by decide) ?_ (HSteps.nil))))))
      all_goals first | (intro v wz c hlo hS hE K hK;simp only[putAll,Act.put,pq1,pq2,pq3,Nat.zero_add,Nat.reduceAdd,pq4,pq5]at hK|-) | (intro v wz hS hE K hK;simp only[putAll,Act.put,pq1,pq2,pq3,Nat.zero_add,Nat.reduceAdd,pq4,pq5]at hK|-)
      .have HX:=Lib.hid hS;clear hS hE hlo;go_wp2_with fail;exact hK.out _ rfl
      .have e0:v 0=_:=hE.1 rfl;rw[e0]at hK|-;have HX:=Lib.hid hS;clear hS hE hlo;go_wp2_with fail;exact hK.out _ rfl
      .have e1:v 1=_:=hE.1 rfl;rw[e1]at hK|-;have HX:=Lib.hid hS;clear hS hE hlo;go_wp2_with fail;exact hK.out _ rfl
      .have e2:v 2=_:=hE.1 rfl;rw[e2]at hK|-;have cs3:wz.cell? ⟨s,3,none⟩=some (.map (some mb)):=by rw[cell_of_row _ _ _ _ _ _ (HCD.out wz hS.1)];rfl
       have lsz:s<wz.heap.size:=by have:=hS.1.size;omega
       have HX:=Lib.hid hS;clear hS hE hlo;go_wp2_with fail;exact hK.out _ rfl
      .have hcall:=string_f w.heap.size nm wz hS.2;have HC:=Lib.hid hcall;have HX:=Lib.hid hS;clear hS hE hlo hcall;go_wp2_with fail;refine HC.out.mono ?_;rintro e wy ⟨rfl,hf,hb⟩;have HY:=Lib.hid (And.intro (HX.out.1.trans hb) hf);clear hf hb;go_wp2_with fail;refine hK.out _ _ (λj z hj h=>?_) HY.out rfl
       match j with
       | 0 | 1 | 2 | 3 | 5=>exact h
       | 4=>exact absurd rfl hj
       | _+6=>exact trivial
      .have HX:=Lib.hid hS;clear hS hE hlo;go_wp2_with fail;exact hK.out _ rfl
     .intro v wz hS hF;have e0:v 0=_:=hF 0 (by decide)
      have e1:v 1=_:=hF 1 (by decide)
      have e2:v 2=_:=hF 2 (by decide)
      have e3:v 3=_:=hF 3 (by decide)
      have e5:v 5=_:=hF 5 (by decide)
      have E4:=hF 4 (by decide)
      simp only[putAll,Act.put,pq1,pq2,pq3,Nat.zero_add,Nat.reduceAdd,pq4,pq5,List.drop_succ_cons,List.drop_zero,e0,e1,e2,e3,e5];clear hF e0 e1 e2 e3 e5;have e4:v 4=_:=E4;rw[e4];clear E4 e4;obtain ⟨i1,hi1,hj0,hj1,hj2⟩:=info_parts info_li;have hmz:=HMD.out wz hS.1;have hrow:=HCD.out wz hS.1;have hz5:=hS.1.size;have hbt:=HBW.out.trans hS.1;have hownz:wz.ownsRow B 22 1 (.slice Ag ng cg) ng gv:=by rw[<-HNL.out.2];exact own_same HB.out.own λg hg=>hbt.block g (HB.out.own.lt g hg).2
      have hne:=HB.out.ne;have hBB:=HB.out.hs;have hil:=HV.out.later hbt;rw[HNL.out.2]at hne;have HIL:=Lib.hid (And.intro hil hbt);have HSZ:=Lib.hid hS;clear hS hil;refine wpList_put_MV wz rfl _ _ _ _ rfl 9 3 K Tryz.underlying142 mb _ F rfl hmz (by rw[HNL.out.2];unfold maxLen;omega) _ _ _ rfl rfl HKEY.out trivial ?_
      intro w1 hm1 hg1;have hz1:=hg1.size;have hls1:s<w1.heap.size:=by omega
      have hrow1:w1.heap[s]?=_:=(hg1.block s (by omega) (λe=>hne.1 (by injection e))).trans hrow
      have d4:w1.cell? ⟨s,4,none⟩=some (.slice Ag ng cg):=by rw[cell_of_row _ _ _ _ _ _ hrow1];rfl
      have hown1:w1.ownsRow B 22 1 (.slice Ag ng cg) ng gv:=own_same hownz λg hg=>hg1.block g (hownz.lt g hg).2 (λe=>by injection e with e;exact hne.2.2 (by rw[hg,e]))
      have HM1:=Lib.hid hm1;have HG1:=Lib.hid hg1;have HR1:=Lib.hid hrow1;have HO1:=Lib.hid hown1;clear hm1 hg1 hrow1 hown1 hownz hmz hrow;have hlz:w1.heap.size<w1.heap.size+1:=by omega
      have hcx:∀j u,[Value.slice A k c][j]?=some u->(w1.alloc (.cells #[.slice A k c] 22)).cell? ((⟨w1.heap.size,0,none⟩:Addr).add j)=some u:=by
       intro j u hj
       match j,hj with
       | 0,hj=>simp at hj;subst hj;simp[Addr.add]
      have hownA:(w1.alloc (.cells #[.slice A k c] 22)).ownsRow B 22 1 (.slice Ag ng cg) ng gv:=HO1.out.alloc _;go_wp2_with (at_builtin;refine appI_at rfl _ _ 144 rfl B 22 i1 (.slice none 0 0) 1 24 Tryz.underlying144 hi1 hj0 hj1 hj2 rfl (by decide) _ ng gv rfl hownA ⟨w1.heap.size,0,none⟩ 1 1 [.slice A k c] rfl (by simp) hcx (by intro u hu;simp at hu;subst hu;rfl) (by unfold maxLen;omega) (by omega) (by simp;omega) ?_)
      intro v' w3 hown3 hg3 hf3;have hzA:(w1.alloc (.cells #[.slice A k c] 22)).heap.size=w1.heap.size+1:=by simp
      have hz3:=hg3.size;have hls3:s<w3.heap.size:=by omega
      have hrow3:w3.heap[s]?=_:=(hg3.block s (by omega) (λe=>hne.2.1 e.symm)).trans ((old_alloc w1 _ s (by omega)).trans HR1.out)
      have d4':w3.cell? ⟨s,4,none⟩=some (.slice Ag ng cg):=by rw[cell_of_row _ _ _ _ _ _ hrow3];rfl
      have f4':w3.frozen? ⟨s,4,none⟩=false:=by simp[World.frozen?,hrow3]
      obtain ⟨A',c',rfl,-,-⟩:=own_form hown3;have HX3:=Lib.hid (And.intro hown3 (And.intro hg3 hf3));clear hown3 hg3 hf3 hownA hcx hrow3;go_wp2_with fail;refine post_named λWf hWf=>?_;refine bodyPost_ret (v:=.int .i64 (ng:Int)) (by rw[hWf];simp[results,Tryz.results114,go_sem];try rfl) rfl ?_
      have h1:addG gs l=gs++[l]:=if_neg HM.out;have hsz:SbS B s mb v0 v1 v2 gs (.slice Ag gs.length cg) gv F wz:=HB.out.same (λq hq=>HIL.out.2.block q (HLT.out q hq).2) HIL.out.2.size (λv l h _ ht=>⟨h.later HIL.out.2,ht.later HIL.out.2⟩);have hadd:=hsz.add (l:=l) (v:=.slice A l.length c) (vg':=.slice A' (ng+1) c') (n:=(ng:Int)) (w1:=w1) (w2:=w1.alloc (.cells #[.slice A k c] 22)) (w3:=w3) HIL.out.1 HO.out (HTI.out.later HIL.out.2) HM.out (by rw[HNL.out.2]) HG1.out (by rw[HNM.out];exact HM1.out) ((Below.refl _ _).alloc (Nat.le_refl _) _) (by rw[HNL.out.2];exact HX3.out.2.1) (by rw[HNL.out.2,HNL.out.1];exact HX3.out.1) (by rw[HNL.out.2,hzA];exact HX3.out.2.2)
      refine ⟨fpG s mb (.slice A' (ng+1) c'),?_,?_,?_⟩
      .rw[h1,List.idxOf_append,if_neg HM.out];simp[HNL.out.2]
      .rw[h1,hWf];exact hadd.1
      .rw[hWf];exact (KeepF.of_below HIL.out.2).trans hadd.2
end Go.Proofs.YtljgapfmgegifaaGreatDoor
namespace Go.Proofs.YtljgapfmgegifaaGreatDoor
set_option linter.unusedVariables false
set_option linter.unusedSimpArgs false
set_option maxRecDepth 100000
open Go.RowKit
theorem own_freshS {P:Program} {w w':World} {base:Nat} {t u ty e:TypeId} {i:TypeInfo} (ht:P.underlying t=some (.slice e)) (hu:P.underlying u=some .string) (hi:P.info? e=some i) (hz:i.zero=some (.int .u8 0)) (hsize:i.size=1) (hby:i.bytes=1)
  {v v':Value} {n:Nat} {xs:List Value} (hown:w.ownsRow base e 1 v n xs) (s:ByteArray) (h63:n+s.size<=maxLen) (hbytes:n+s.size<=140737488355328)
  (hr:(Builtin.append_ #[t,u] ty #[v, .string s]).run P w = .ok v' w'):v'.ownBlock=v.ownBlock\/∃g,v'.ownBlock=some g/\w.heap.size<=g:=by
 have hxl:xs.length=n:=by simpa using hown.1
 have hsmall:n+s.size<=9223372036854775807:=by simp only[maxLen]at h63;omega
 rcases hown.2 with ⟨rfl,rfl⟩ | ⟨g,cap,cur,rfl,hbg,hg,hnc,hcm,hcs,htake⟩
 .have hx:xs=[]:=List.eq_nil_of_length_eq_zero hxl;subst hx;obtain ⟨v2,w2,h2,h3,-⟩:=Lib.run_append_own_string (P:=P) w w.heap.size t u ty e i ht hu hi hz hsize hby (.slice none 0 0) 0 [] (World.ownsRow_nil _ _ _ _) s h63 hbytes (Nat.le_refl _);rw[h2]at hr;injection hr with e1 e2;subst e1
  cases hv:v2.ownBlock with
  | none=>exact .inl rfl
  | some g=>exact .inr ⟨g,rfl,(h3.lt g hv).1⟩
 .by_cases hroom:n+s.size<=cap
  .have hcs':cur.size=cap:=by simpa using hcs
   have h2:=Lib.run_append_room_string (P:=P) w t u ty e i ht hu hi hsize g n cap cur hg s hroom (by omega)
   rw[h2]at hr;injection hr with e1 e2;subst e1;exact .inl rfl
  .have holds:∀j u,xs[j]?=some u->w.cell? ((⟨g,0,none⟩:Addr).add j)=some u:=hown.cells (g:=g) rfl;have h2:=Lib.run_append_grow_string (P:=P) w t u ty e i (.int .u8 0) ht hu hi hz ⟨g,0,none⟩ n cap xs (by rw[hsize];simpa using hxl) holds s (by omega) (by omega) (by rw[hby];exact growslice_fits (by omega) (by omega))
   rw[h2]at hr;injection hr with e1 e2;subst e1;exact .inr ⟨_,rfl,Nat.le_refl _⟩
theorem appS_at {P:Program} {w:World} {ops:Array Oper} {rest:List Oper} {o:Oper} {a:Act} {Q:Exit->Act->World->Prop} (hgd:o.guard=none) (sl x:Operand) (t u:TypeId)
  (ho:o.op = .call { callee:=.builtin .append,args:=#[sl,x],argTypes:=#[t,u] })
  (base:Nat) (e:TypeId) (i:TypeInfo) (ht:P.underlying t=some (.slice e)) (hu:P.underlying u=some .string) (hi:P.info? e=some i) (hz:i.zero=some (.int .u8 0)) (hsize:i.size=1) (hby:i.bytes=1)
  (v:Value) (n:Nat) (xs:List Value) (hs:a.eval sl=v) (hown:w.ownsRow base e 1 v n xs) (s:ByteArray) (hx:a.eval x = .string s)
  (h63:n+s.size<=maxLen) (hbytes:n+s.size<=140737488355328) (hbase:base<=w.heap.size)
  (h:∀v' w',w'.ownsRow base e 1 v' (n+s.size) (xs++Lib.strCells s)->w.grownBy w' v.ownBlock->(v'.ownBlock=v.ownBlock\/∃g,v'.ownBlock=some g/\w.heap.size<=g)->wpList P ops Q rest (a.put o.dst v') w'):wpList P ops Q (o::rest) a w:=by
 refine wpList_plain hgd λK hK=>?_;obtain ⟨v',w',hr,h2,h3,-⟩:=Lib.run_append_own_string (P:=P) w base t u o.type e i ht hu hi hz hsize hby v n xs hown s h63 hbytes hbase;have h5:=own_freshS (P:=P) ht hu hi hz hsize hby hown s h63 hbytes hr;unfold Oper.wp execOp;simp only[ho,resolve,invoke,builtin,Sem.run_bind,Sem.run_pure,Result.andThen_ok,List.map_toArray,List.map_cons,List.map_nil,hs,hx,hr];exact hK _ _ (h v' w' h2 h3 h5)
def BuK (b:Nat) (l:List UInt8) (fp:List Nat) (w:World):Prop:=∃p v,(p = .pointer none\/p = .pointer (some ⟨b,0,none⟩))/\fp=b::blk v/\v.ownBlock≠some b/\w.heap[b]?=some (.cells #[p,v] 105 (0,0))/\w.ownsRow 0 5 1 v l.length (Lib.byteCells l)
theorem BuK.fresh {b:Nat} {w:World} (hb:w.heap[b]?=some (.cells #[.pointer none, .slice none 0 0] 105 (0,0))):BuK b [] [b] w:=⟨_,_, .inl rfl,rfl,by simp[Value.ownBlock],hb,World.ownsRow_nil _ _ _ _⟩
theorem BuK.lt {b:Nat} {l:List UInt8} {fp:List Nat} {w:World} (h:BuK b l fp w):∀k∈fp,k<w.heap.size:=by
 obtain ⟨p,v,-,rfl,-,hb,ho⟩:=h;intro k hk;rcases List.mem_cons.1 hk with rfl | hk
 .exact (Array.getElem?_eq_some_iff.1 hb).1
 .exact (ho.lt k (mem_blk.1 hk)).2
theorem BuK.later {b:Nat} {l:List UInt8} {fp:List Nat} {w w':World} (h:BuK b l fp w) (hk:∀k∈fp,w'.heap[k]?=w.heap[k]?):BuK b l fp w':=by
 obtain ⟨p,v,hp,rfl,hn,hb,ho⟩:=h;exact ⟨p,v,hp,rfl,hn,(hk b (by simp)).trans hb,own_same ho λg hg=>hk g (by simp[mem_blk,hg])⟩
theorem BuK.below {b:Nat} {l:List UInt8} {fp:List Nat} {w w':World} (h:BuK b l fp w) (hb:Below w.heap.size w w'):BuK b l fp w':=h.later λk hk=>hb.block k (h.lt k hk)
theorem copy_K (b:Nat) (l:List UInt8) (fp:List Nat) (w:World) (h:BuK b l fp w) :
  Calls Tryz.prog 96 #[.pointer (some ⟨b,0,none⟩)] w λe w'=>e = .returned (.tuple #[])/\(∃v,fp=b::blk v/\v.ownBlock≠some b/\w'.heap[b]?=some (.cells #[.pointer (some ⟨b,0,none⟩),v] 105 (0,0))/\w'.ownsRow 0 5 1 v l.length (Lib.byteCells l))/\KeepF fp fp w w':=by
 obtain ⟨p,v,hp,rfl,hn,hb,ho⟩:=h;rcases hp with rfl | rfl
 .refine (copy_fresh b w (by rw[Lib.cell_of_heap hb];rfl) (by simp[World.shape?,hb]) (Lib.frozen_of_heap hb 0)).mono ?_
  rintro e w' ⟨rfl,rfl⟩;refine ⟨rfl,⟨v,rfl,hn,by have:=set_row3 hb 0 (.pointer (some ⟨b,0,none⟩));simpa using this,own_same ho λg hg=>Below.heap_setCell _ _ _ _ (by rintro rfl;exact hn hg)⟩,kf_set (KeepF.refl _ _) (by simp) _⟩
 .refine (copy_used b w (by rw[Lib.cell_of_heap hb];rfl)).mono ?_
  rintro e w' ⟨rfl,rfl⟩;exact ⟨rfl,⟨v,rfl,hn,hb,ho⟩,KeepF.refl _ _⟩
theorem buK_end {b:Nat} {l l':List UInt8} {w w1 w2:World} {v v':Value} (hn:v.ownBlock≠some b) (hb:w1.heap[b]?=some (.cells #[.pointer (some ⟨b,0,none⟩),v] 105 (0,0))) (hk:KeepF (b::blk v) (b::blk v) w w1)
  (hg:w1.grownBy w2 v.ownBlock) (hf:v'.ownBlock=v.ownBlock\/∃g,v'.ownBlock=some g/\w1.heap.size<=g) (ho:w2.ownsRow 0 5 1 v' l'.length (Lib.byteCells l')) :
  BuK b l' (b::blk v') (w2.setCell ⟨b,1,none⟩ v')/\KeepF (b::blk v) (b::blk v') w (w2.setCell ⟨b,1,none⟩ v'):=by
 have hbl:b<w1.heap.size:=(Array.getElem?_eq_some_iff.1 hb).1;have hn':v'.ownBlock≠some b:=λe=>hf.elim (λh=>hn (h▸e)) λ⟨g,h,h2⟩=>by rw[h]at e;injection e with e;omega
 have hb2:=(hg.block b hbl (λe=>hn e.symm)).trans hb;have hset:∀k,k≠b->(w2.setCell ⟨b,1,none⟩ v').heap[k]?=w2.heap[k]?:=λk hk=>Below.heap_setCell _ _ _ _ hk;refine ⟨⟨_,v', .inr rfl,rfl,hn',by have:=set_row3 hb2 1 v';simpa using this,own_same ho λg hg2=>hset g (by rintro rfl;exact hn' hg2)⟩,?_⟩
 have h1:KeepF (b::blk v) (b::blk v') w1 (w2.setCell ⟨b,1,none⟩ v'):=by
  refine ⟨hg.os,hg.tape,hg.output,by simp[World.setCell];exact hg.size,λk hk2 hn2=>?_,λk hk2=>?_⟩
  .simp only[List.mem_cons,not_or,mem_blk]at hn2;exact (hset k hn2.1).trans (hg.block k hk2 (λe=>hn2.2 e.symm))
  .simp only[List.mem_cons,mem_blk]at hk2|-;rcases hk2 with h | h
   .exact .inl (.inl h)
   .rcases hf with hf | ⟨g,hf,h2⟩
    .exact .inl (.inr (hf▸h))
    .rw[hf]at h;injection h with h;exact .inr (h▸h2)
 exact hk.trans h1
set_option maxHeartbeats 1000000 in
theorem str_K (b:Nat) (l:List UInt8) (fp:List Nat) (s:ByteArray) (w:World) (h:BuK b l fp w) (hlen:l.length<=1000000000) (hs:s.size<=1000000) :
  Calls Tryz.prog 65 #[.pointer (some ⟨b,0,none⟩), .string s] w λe w'=>e = .returned (.tuple #[.int .i64 s.size, .nilIface])/\∃fp',BuK b (l++bl s) fp' w'/\KeepF fp fp' w w':=by
 obtain ⟨i0,hi,hz0,hz1,hz2⟩:=info_parts info_u8;have HC:=Lib.hid (copy_K b l fp w h);clear h
 go_enter Tryz.func65,Tryz.ntmps65
 go_wp2_with fail;refine HC.out.mono ?_;rintro e w1 ⟨rfl,⟨v,rfl,hn,hb,ho⟩,hk⟩;obtain ⟨A,c,rfl,-,-⟩:=own_form ho;obtain ⟨n,hnl⟩:∃n,l.length=n:=⟨_,rfl⟩;rw[hnl]at ho hb hn hk;have c0:w1.cell? ⟨b,0,none⟩=some (.pointer (some ⟨b,0,none⟩)):=by rw[Lib.cell_of_heap hb];rfl
 have c1:w1.cell? ⟨b,1,none⟩=some (.slice A n c):=by rw[Lib.cell_of_heap hb];rfl
 have hlt:b<w1.heap.size:=(Array.getElem?_eq_some_iff.1 hb).1;have HH:=Lib.hid (And.intro hn (And.intro hb (And.intro hk (And.intro hnl ho))));clear hn hb hk ho;go_wp2_with (at_builtin;refine appS_at rfl _ _ 41 9 rfl 0 5 i0 Tryz.underlying41 Tryz.underlying9 hi hz0 hz1 hz2 _ n _ rfl HH.out.2.2.2.2 s rfl (by unfold maxLen;omega) (by omega) (Nat.zero_le _) ?_)
 intro v' w2 hown2 hg2 hf2;obtain ⟨A2,c2,rfl,-,-⟩:=own_form hown2;have hb2:=(hg2.block b hlt (λe=>HH.out.1 e.symm)).trans HH.out.2.1;have d1:w2.cell? ⟨b,1,none⟩=some (.slice A n c):=by rw[Lib.cell_of_heap hb2];rfl
 have f1:w2.frozen? ⟨b,1,none⟩=false:=Lib.frozen_of_heap hb2 1;have l2:b<w2.heap.size:=(Array.getElem?_eq_some_iff.1 hb2).1;have hx:Lib.byteCells l++Lib.strCells s=Lib.byteCells (l++bl s):=by simp[Lib.byteCells,Lib.strCells,bl]
 have hl2:(l++bl s).length=n+s.size:=by rw[List.length_append,HH.out.2.2.2.1];congr 1
 rw[hx]at hown2;have hfin:=buK_end (l:=l) (l':=l++bl s) HH.out.1 HH.out.2.1 (by rw[<-HH.out.2.2.2.1];rw[HH.out.2.2.2.1];exact HH.out.2.2.1) hg2 hf2 (by rw[hl2];exact hown2)
 have HF:=Lib.hid hfin;clear hown2 hg2 hf2 hb2 hx hl2 hfin
 go_wp2
 go_ret2
 exact ⟨rfl,_,HF.out.1,by rw[HH.out.2.2.2.1];exact HF.out.2⟩
set_option maxHeartbeats 1000000 in
theorem byte_K (b:Nat) (l:List UInt8) (fp:List Nat) (c:Int) (u:UInt8) (hu:c=u.toNat) (w:World) (h:BuK b l fp w) (hlen:l.length<=1000000000) :
  Calls Tryz.prog 89 #[.pointer (some ⟨b,0,none⟩), .int .u8 c] w λe w'=>e = .returned .nilIface/\∃fp',BuK b (l++[u]) fp' w'/\KeepF fp fp' w w':=by
 obtain ⟨i0,hi,hz0,hz1,hz2⟩:=info_parts info_u8;have HC:=Lib.hid (copy_K b l fp w h);have hx:=Lib.hid (show Lib.byteCells l++[Value.int .u8 c]=Lib.byteCells (l++[u]) by subst hu;simp[Lib.byteCells])
 clear h hu
 go_enter Tryz.func89,Tryz.ntmps89
 go_wp2_with fail;refine HC.out.mono ?_;rintro e w1 ⟨rfl,⟨v,rfl,hn,hb,ho⟩,hk⟩;obtain ⟨A,c',rfl,-,-⟩:=own_form ho;obtain ⟨n,hnl⟩:∃n,l.length=n:=⟨_,rfl⟩;rw[hnl]at ho hb hn hk;have c0:w1.cell? ⟨b,0,none⟩=some (.pointer (some ⟨b,0,none⟩)):=by rw[Lib.cell_of_heap hb];rfl
 have c1:w1.cell? ⟨b,1,none⟩=some (.slice A n c'):=by rw[Lib.cell_of_heap hb];rfl
 have hlt:b<w1.heap.size:=(Array.getElem?_eq_some_iff.1 hb).1;have hownA:=ho.alloc (.cells #[.int .u8 c] 5);have hcx:∀j x,([.int .u8 c]:List Value)[j]?=some x->(w1.alloc (.cells #[.int .u8 c] 5)).cell? ((⟨w1.heap.size,0,none⟩:Addr).add j)=some x:=λj x hj=>by
  match j,hj with
  | 0,hj=>simp at hj;rw[<-hj,Addr.add_lit,cell_of_row _ _ _ _ _ _ (heap_alloc_new w1 _)];rfl
 have HH:=Lib.hid (And.intro hn (And.intro hb (And.intro hk (And.intro hnl hownA))));clear hn hb hk ho hownA;go_wp2_with (at_builtin;refine appI_at rfl _ _ 41 rfl 0 5 i0 (.int .u8 0) 1 1 Tryz.underlying41 hi hz0 hz1 hz2 rfl (by decide) _ n _ rfl HH.out.2.2.2.2 ⟨w1.heap.size,0,none⟩ 1 1 [.int .u8 c] rfl rfl hcx (by intro x hx;simp at hx;subst hx;rfl) (by unfold maxLen;omega) (by omega) (Nat.zero_le _) ?_)
 intro v' w2 hown2 hg2 hf2;obtain ⟨A2,c2,rfl,-,-⟩:=own_form hown2;have hbA:Below w1.heap.size w1 (w1.alloc (.cells #[.int .u8 c] 5)):=(Below.refl _ _).alloc (Nat.le_refl _) _;have hbb:=(hbA.block b hlt).trans HH.out.2.1;have hb2:=(hg2.block b (by simp;omega) (λe=>HH.out.1 e.symm)).trans hbb
 have d1:w2.cell? ⟨b,1,none⟩=some (.slice A n c'):=by rw[Lib.cell_of_heap hb2];rfl
 have f1:w2.frozen? ⟨b,1,none⟩=false:=Lib.frozen_of_heap hb2 1;have l2:b<w2.heap.size:=(Array.getElem?_eq_some_iff.1 hb2).1;have hl2:(l++[u]).length=n+1:=by rw[List.length_append,HH.out.2.2.2.1];rfl
 rw[hx.out]at hown2;have hf2':(Value.slice A2 (n+1) c2).ownBlock=(Value.slice A n c').ownBlock\/∃g,(Value.slice A2 (n+1) c2).ownBlock=some g/\(w1.alloc (.cells #[.int .u8 c] 5)).heap.size<=g:=by
  rw[show (w1.alloc (.cells #[.int .u8 c] 5)).heap.size=w1.heap.size+1 by simp]
  exact hf2
 have hfin:=buK_end (l:=l) (l':=l++[u]) HH.out.1 hbb (HH.out.2.2.1.trans (KeepF.of_below hbA)) hg2 hf2' (by rw[hl2];exact hown2)
 have HF:=Lib.hid hfin;clear hown2 hg2 hf2 hf2' hb2 hbb hbA hl2 hfin hcx
 go_wp2
 go_ret;exact ⟨rfl,_,HF.out.1,by rw[HH.out.2.2.2.1];exact HF.out.2⟩
end Go.Proofs.YtljgapfmgegifaaGreatDoor
