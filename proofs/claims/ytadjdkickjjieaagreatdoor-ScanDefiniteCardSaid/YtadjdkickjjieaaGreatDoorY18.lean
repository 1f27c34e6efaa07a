/- Walks: the number of a group. Conditions: the variables read as laid. · ref05's parser at one text: seq, choice. · ref05's numbers of a pattern, in general. · ref05.kids and right, in general. · ref05.right, in general. · ref05.size where most is asked for; ref05.Valid, in general. · ref05.In, ref06.sets and Positions, in general. -/
import Derived.Test.YtadjdkickjjieaaGreatDoorY12
import Derived.Test.YtadjdkickjjieaaGreatDoorY15
import Derived.Test.YtadjdkickjjieaaGreatDoorY17
import Derived.Test.YtadjdkickjjieaaGreatDoorY10
import Derived.Test.YtadjdkickjjieaaGreatDoorY05
namespace Go.Proofs.YtadjdkickjjieaaGreatDoor
set_option linter.unusedVariables false
set_option linter.unusedSimpArgs false
set_option maxRecDepth 100000
open Go.RowKit
open Go.Maps (Keyed)
theorem IsB.later {b:Nat} {l:List UInt8} {w w':World} (h:IsB b l w) (hb:Below w.heap.size w w'):IsB b l w':=by
 obtain ⟨h,hw⟩:=h;refine ⟨?_,Nat.le_trans hw hb.size⟩;rcases h with ⟨h0,v,hbk,hown,hne⟩ | ⟨h0,v,hbk,hown,hne⟩
 .exact .inl ⟨h0,v,(hb.block b (Array.getElem?_eq_some_iff.1 hbk).1).trans hbk,zAN hown λg hg=>hb.block g (hown.lt g hg).2,hne⟩
 .exact .inr ⟨h0,v,(hb.block b (Array.getElem?_eq_some_iff.1 hbk).1).trans hbk,zAN hown λg hg=>hb.block g (hown.lt g hg).2,hne⟩
theorem IL.at_ {w:World} {A:Option Addr} {n c:Nat} {l:List Nat} (h:IL w (.slice A n c) l) {k:Nat} (hk:k<l.length):∃g f,A=some ⟨g,f,none⟩/\g<w.heap.size/\∀w':World,w'.heap[g]?=w.heap[g]?->w'.cell? ⟨g,f+k,none⟩=some (.int .i64 (l[k]:Int)):=by
 rcases h with ⟨rfl,-⟩ | ⟨g,f,c',e,h0,hg,hc,hcell⟩
 .cases hk
 .injection e with e1 e2 e3;exact ⟨g,f,e1,hg,λw' hw=>(World.cell?_of_block (a:=⟨g,f+k,none⟩) hw).trans (hcell k hk)⟩
def IsF (b:Nat) (l:List UInt8) (w:World):Prop:=Lib.IsBuilderF 199 5 b b (Lib.byteCells l) w/\b<=w.heap.size
theorem zEf (b:Nat) (l:List UInt8) (w:World) (h:IsF b l w) :
  Calls Tryz.prog 153 #[.pointer (some ⟨b,0,none⟩)] w λe w'=>e = .returned (.string (bs l))/\IsF b l w'/\Below b w w':=
 (Any.Builder_String_any_f zLQ zCs b b l w h.1 h.2).mono λ_ _ ⟨h1,h2,h3⟩=>⟨h1,⟨h2,Nat.le_trans h.2 h3.size⟩,h3⟩
theorem zJC {gs:List (List Nat)} {l:List Nat} (h:l∈gs):(idxV gs l).getD (.int .i64 0) = .int .i64 ((gs.idxOf l:Nat):Int)/\(idxV gs l).isSome=true:=by unfold idxV;rw[if_pos h];exact ⟨rfl,rfl⟩
theorem zGt {gs:List (List Nat)} {l:List Nat} (h:l∉gs):(idxV gs l).getD (.int .i64 0) = .int .i64 0/\(idxV gs l).isSome=false:=by unfold idxV;rw[if_neg h];exact ⟨rfl,rfl⟩
def zK5 (s mb:Nat) (nm:List UInt8) (r:Int) (q:Bool):Nat->Nat->Value->World->Prop
 | c,0,x,w=>x = .pointer (some ⟨s,0,none⟩)
 | c,1,x,w=>x = .pointer (some ⟨s,0,none⟩)
 | c,2,x,w=>x = .pointer (some ⟨s,3,none⟩)
 | c,3,x,w=>x = .map (some mb)
 | c,4,x,w=>x = .string (bs nm)
 | c,5,x,w=>x = .tuple #[.int .i64 r, .bool q]
 | c,6,x,w=>x = .tuple #[.int .i64 r, .bool q]
 | c,7,x,w=>x = .int .i64 r
 | c,8,x,w=>x = .bool q
 | c,9,x,w=>x = .int .i64 r
 | _,_,_,_=>True
def zKb (s mb:Nat) (nm:List UInt8) (ng:Nat):Nat->Nat->Value->World->Prop
 | c,0,x,w=>x = .pointer (some ⟨s,0,none⟩)
 | c,1,x,w=>x = .pointer (some ⟨s,0,none⟩)
 | c,2,x,w=>x = .pointer (some ⟨s,3,none⟩)
 | c,3,x,w=>x = .map (some mb)
 | c,4,x,w=>x = .string (bs nm)
 | c,5,x,w=>x = .int .i64 (ng:Int)
 | _,_,_,_=>True
theorem zHY {l:List Nat} {k:Nat} (h:k<l.length):zBC (l.take k)++(Lib.decDigits l[k]++[32])=zBC (l.take (k+1)):=by
 rw[List.take_succ_eq_append_getElem h,zHd]
def zMf (B s mb:Nat) (v0 v1 v2:Value) (gs:List (List Nat)) (l:List Nat) (fp:List Nat) (w:World) (e:Ending) (w':World):Prop:=∃fp',e = .returned (.int .i64 (((addG gs l).idxOf l:Nat):Int))/\SbI B s mb v0 v1 v2 (addG gs l) fp' w'/\KeepF fp fp' w w'
set_option maxHeartbeats 8000000 in
theorem zEJ (B s mb:Nat) (v0 v1 v2:Value) (gs:List (List Nat)) (fp:List Nat) (w:World) (l:List Nat) (v:Value) (h:SbI B s mb v0 v1 v2 gs fp w) (hv:IL w v l) (ho:zAU fp v) (ht:TI w v) (hl:l.length<=1000) (hp:∀p∈l,p<1000) (hgs:gs.length<=1000000) (hvr:VrOK w) :
  Calls Tryz.prog 122 #[.pointer (some ⟨s,0,none⟩),v] w (zMf B s mb v0 v1 v2 gs l fp w):=by
 obtain ⟨vg,gv,F,rfl,hb⟩:=h;obtain ⟨A,c,rfl,hc1,hc2⟩:=hv.form;obtain ⟨Ag,cg,rfl,hcg1,hcg2⟩:=zAC hb.own;have K:Keyed Tryz.prog 9:=Maps.string_keyed Tryz.underlying9;have hz:∀w,(zeroValue 3).run Tryz.prog w = .ok (.int .i64 0) w:=λ_=>by kernel_rfl
 have hlt:=hb.lt;have hls:s<w.heap.size:=(hlt s (by simp[fpG])).2
 have hcs:=hb.cs;have hlen:=zDV l (λp h=>by have:=hp p h;omega)
 obtain ⟨nl,hnl⟩:∃n,l.length=n:=⟨_,rfl⟩;obtain ⟨ng,hng⟩:∃n,gs.length=n:=⟨_,rfl⟩;have HTI:=Lib.hid ht;have HV:=Lib.hid hv;have HB:=Lib.hid hb;have HO:=Lib.hid ho;have HP:=Lib.hid hp;have HVR:=Lib.hid hvr;have HLT:=Lib.hid hlt;have HNL:=Lib.hid (And.intro hnl hng);rw[hnl]at hc1 hl hlen|-;rw[hng]at hgs hcs hcg1;clear hv hb ho hp hvr hlt hnl hng;have HCS:=Lib.hid hcs;clear hcs
 go_enter Tryz.func122,Tryz.ntmps122
 go_wp2_with fail
 go_loopw [12] (λiv wr=>∃k:Nat,k<=nl/\iv = .int .i64 (k:Int)/\Hid (IsB w.heap.size (zBC (l.take k)) wr)/\Hid (Below w.heap.size w wr)) (λiv _=>nl - (intOf iv).toNat)
 case atStart=>exact ⟨0,Nat.zero_le _,rfl,⟨Lib.fresh_isBuilder _ _ w,by simp⟩,(Below.refl _ w).alloc (Nat.le_refl _) _⟩
 case round=>
  obtain ⟨k,hk,rfl,HI,HBW⟩:=hrel;by_cases hlt:k<nl
  .have hd:decide ((k:Int)<(nl:Int))=true:=decide_eq_true (by omega)
   have hkl:k<l.length:=by rw[HNL.out.1];exact hlt
   obtain ⟨g,f,rfl,hg,hcell⟩:=HV.out.at_ hkl;have hc0:=hcell wr (HBW.out.block g hg);have hglr:g<wr.heap.size:=by have:=HBW.out.size;omega
   obtain ⟨p,hpe⟩:∃p,l[k]=p:=⟨_,rfl⟩;have hp1:p<1000:=by rw[<-hpe];exact HP.out _ (List.getElem_mem hkl)
   have hst:=zHY hkl;rw[hpe]at hc0 hst;have hvw:=HVR.out.later HBW.out;have hit:=λW (h:VrOK W)=>zDJ p (by omega) W h
   have hdl:=zBu p 2 (by omega)
   have hss:(bs (Lib.decDigits p)).size=(Lib.decDigits p).length:=zBh _;have hsz:¬(9223372036854775807:Nat)<(bs (Lib.decDigits p)).size+ByteArray.size ⟨#[32]⟩:=by rw[hss];show ¬(9223372036854775807:Nat)<(Lib.decDigits p).length+1;omega
   have hbl:bl (bs (Lib.decDigits p)++⟨#[32]⟩)=Lib.decDigits p++[32]:=by rw[show (⟨#[32]⟩:ByteArray)=bs [32] from rfl];simp[bl,bs]
   have hs6:(bs (Lib.decDigits p)++⟨#[32]⟩).size<=1000000:=by rw[ByteArray.size_append,hss];show _+1<=_;omega
   have hln6:(zBC (l.take k)).length<=1000000000:=by
    have:=zDV (l.take k) (λp h=>by have:=HP.out p (List.mem_of_mem_take h);omega)
    have h2:(l.take k).length<=k:=List.length_take_le _ _;omega
   have HIT:=Lib.hid hit;have HST:=Lib.hid (And.intro hst hbl);have HLN:=Lib.hid hln6;have HVW:=Lib.hid hvw;clear hcell hpe hst hit hdl hss hbl hln6 hvw hkl;go_wp2_with (go_at_call 152;refine (HIT.out _ HVW.out).mono ?_;rintro e w1 ⟨rfl,hb1⟩);go_wp2_with (go_at_call 151;refine (zCI _ _ _ _ (HI.out.later hb1) HLN.out hs6).mono ?_;rintro e w2 ⟨rfl,hi2,hb2⟩);have hi3:IsB w.heap.size (zBC (l.take (k+1))) w2:=by rw[HST.out.2,HST.out.1]at hi2;exact hi2
   have HI3:=Lib.hid hi3;have HB3:=Lib.hid (HBW.out.trans ((hb1.mono HBW.out.size).trans hb2));clear hi2 hi3 hb1 hb2;go_wp2_with fail;go_roundw
   case rel=>exact ⟨k+1,by omega,by go_num,HI3,HB3⟩
   case measure=>simp[intOf];omega
  .obtain rfl:k=nl:=by omega
   have hbw:=HBW.out;have hib:IsB w.heap.size (zBC l) wr:=by have:=HI.out;rwa [List.take_of_length_le (by rw[HNL.out.1];exact Nat.le_refl _)]at this
   have HIB:=Lib.hid hib;obtain ⟨nm,hnm⟩:∃x,zBC l=x:=⟨_,rfl⟩;have HNM:=Lib.hid hnm;have hlw:w.heap.size<wr.heap.size:=by
    rcases hib.1 with ⟨_,v,hbk,_⟩ | ⟨_,v,hbk,_⟩ <;> exact (Array.getElem?_eq_some_iff.1 hbk).1
   have hsl:s<wr.heap.size:=by omega
   have hif:IsF w.heap.size nm wr:=by rw[<-hnm];exact ⟨Lib.IsBuilderF.of hib.1,hib.2⟩
   have hmbl:=(HLT.out mb (by simp[fpG])).2
   have hcD:∀d:World,Below w.heap.size wr d->d.heap[s]?=some (.cells #[v0,v1,v2, .map (some mb), .slice Ag ng cg] 174 (0,0)):=λd hd=>(hd.block s hls).trans ((hbw.block s hls).trans HCS.out);have hmD:∀d:World,Below w.heap.size wr d->MV Tryz.prog 9 mb gs.length F d:=λd hd=>HB.out.mv.kept ((hd.block mb hmbl).trans (hbw.block mb hmbl));have hkey:keyOf Tryz.prog 9 (.string (bs nm))=some (.string nm):=by
    have:=WideMaps.keyOf_string_mk (P:=Tryz.prog) (k:=9) Tryz.underlying9 (s:=bs nm) (by rw[zBh,<-hnm];unfold maxLen;omega)
    rwa [zIz]at this
   have HCD:=Lib.hid hcD;have HMD:=Lib.hid hmD;have HKEY:=Lib.hid hkey;have HIF:=Lib.hid hif;have hS0:Below w.heap.size wr wr.drew/\IsF w.heap.size nm wr.drew:=⟨(Below.refl wr.heap.size wr).drew.mono (by omega),hif⟩
   obtain ⟨r,q,hrq⟩:∃(r:Int) (q:Bool),(idxV gs l).getD (.int .i64 0) = .int .i64 r/\(idxV gs l).isSome=q/\(if l∈gs then r=((gs.idxOf l:Nat):Int)/\q=true else q=false):=by
    by_cases hm:l∈gs
    .exact ⟨_,_,(zJC hm).1,(zJC hm).2,by rw[if_pos hm];exact ⟨rfl,rfl⟩⟩
    .exact ⟨_,_,(zGt hm).1,(zGt hm).2,by rw[if_neg hm]⟩
   have hlook:∀d:World,Below w.heap.size wr d->(Instr.lookup 169 (.map (some mb)) (.string (bs nm)) true).run Tryz.prog d = .ok (.tuple #[.int .i64 r, .bool q]) d:=λd hd=>by
    have h1:=(HMD.out d hd).look_ok K Tryz.underlying169 hz HKEY.out trivial;rw[<-hnm,HB.out.says l,hrq.1,hrq.2.1]at h1;rw[hnm]at h1;exact h1
   have HLK:=Lib.hid hlook;have HRQ:=Lib.hid hrq.2.2;clear hib hnm hif hcD hmD hkey hrq hlook hbw;go_wp2_with fail;refine zAQ 10 [] (zK5 s mb nm r q) (λ_ w'=>Below w.heap.size wr w'/\IsF w.heap.size nm w') (by kernel_rfl) (by kernel_rfl) (by kernel_rfl) (by kernel_rfl) (by kernel_rfl) (by kernel_rfl) (by decide) hS0 ?_ ?_
   .simp only[pq4,pq5];refine HSteps.pure (by decide) ?_ (HSteps.pure (by decide) ?_ (HSteps.pure (by decide) ?_ (HSteps.pure (by decide) ?_ (HSteps.free (by decide) ?_ (HSteps.pure (by decide) ?_ (HSteps.pure (by decide) ?_ (HSteps.pure (by decide) ?_ (HSteps.pure (by decide) ?_ (HSteps.pure (by decide) ?_ (HSteps.nil))))))))))
    all_goals first | (intro v wz c hlo hS hE K hK;simp only[zAJ,Act.put,pq1,pq2,pq3,Nat.zero_add,Nat.reduceAdd,pq4,pq5]at hK|-) | (intro v wz hS hE K hK;simp only[zAJ,Act.put,pq1,pq2,pq3,Nat.zero_add,Nat.reduceAdd,pq4,pq5]at hK|-)
    .have HX:=Lib.hid hS;clear hS hE hlo;go_wp2_with fail;exact hK.out _ rfl
    .have e0:v 0=_:=hE.1 rfl;rw[e0]at hK|-;have HX:=Lib.hid hS;clear hS hE hlo;go_wp2_with fail;exact hK.out _ rfl
    .have e1:v 1=_:=hE.1 rfl;rw[e1]at hK|-;have HX:=Lib.hid hS;clear hS hE hlo;go_wp2_with fail;exact hK.out _ rfl
    .have e2:v 2=_:=hE.1 rfl;rw[e2]at hK|-;have cs3:wz.cell? ⟨s,3,none⟩=some (.map (some mb)):=by rw[cell_of_row _ _ _ _ _ _ (HCD.out wz hS.1)];rfl
     have lsz:s<wz.heap.size:=by have:=hS.1.size;omega
     have HX:=Lib.hid hS;clear hS hE hlo;go_wp2_with fail;exact hK.out _ rfl
    .have hcall:=zEf w.heap.size nm wz hS.2;have HC:=Lib.hid hcall;have HX:=Lib.hid hS;clear hS hE hlo hcall;go_wp2_with fail;refine HC.out.mono ?_;rintro e wy ⟨rfl,hf,hb⟩;have HY:=Lib.hid (And.intro (HX.out.1.trans hb) hf);clear hf hb;go_wp2_with fail;refine hK.out _ _ (λj z hj h=>?_) HY.out rfl
     match j with
     | 0 | 1 | 2 | 3 | 5 | 6 | 7 | 8 | 9=>exact h
     | 4=>exact absurd rfl hj
     | _+10=>exact trivial
    .have e3:v 3=_:=hE.1 rfl;rw[e3]at hK|-;have E4:=hE.2.1 rfl;have e4:v 4=_:=E4;rw[e4]at hK|-;have hlk:=HLK.out wz hS.1;have HX:=Lib.hid hS;clear hS hE hlo;go_wp2_with fail;exact hK.out _ rfl
    .have E5:=hE.1 rfl;have e5:v 5=_:=E5;rw[e5]at hK|-;have HX:=Lib.hid hS;clear hS hE hlo;go_wp2_with fail;exact hK.out _ rfl
    .have E6:=hE.1 rfl;have e6:v 6=_:=E6;rw[e6]at hK|-;have HX:=Lib.hid hS;clear hS hE hlo;go_wp2_with fail;exact hK.out _ rfl
    .have E6:=hE.1 rfl;have e6:v 6=_:=E6;rw[e6]at hK|-;have HX:=Lib.hid hS;clear hS hE hlo;go_wp2_with fail;exact hK.out _ rfl
    .have E7:=hE.1 rfl;have e7:v 7=_:=E7;rw[e7]at hK|-;have HX:=Lib.hid hS;clear hS hE hlo;go_wp2_with fail;exact hK.out _ rfl
   .intro v wz hS hF;have e0:v 0=_:=hF 0 (by decide)
    have e1:v 1=_:=hF 1 (by decide)
    have e2:v 2=_:=hF 2 (by decide)
    have e3:v 3=_:=hF 3 (by decide)
    have E4:=hF 4 (by decide)
    have E5:=hF 5 (by decide)
    have E6:=hF 6 (by decide)
    have E7:=hF 7 (by decide)
    have E8:=hF 8 (by decide)
    have E9:=hF 9 (by decide)
    simp only[zAJ,Act.put,pq1,pq2,pq3,Nat.zero_add,Nat.reduceAdd,pq4,pq5,List.drop_succ_cons,List.drop_zero,e0,e1,e2,e3];clear hF e0 e1 e2 e3;have e4:v 4=_:=E4;have e5:v 5=_:=E5;have e6:v 6=_:=E6;have e7:v 7=_:=E7;have e8:v 8=_:=E8;have e9:v 9=_:=E9;rw[e4,e5,e6,e7,e8,e9];have HS:=Lib.hid hS;clear hS E4 E5 E6 E7 E8 E9 e4 e5 e6 e7 e8 e9;have hcs4:=HCD.out wz HS.out.1;have hz4:=HS.out.1.size;have cs4:wz.cell? ⟨s,4,none⟩=some (.slice Ag ng cg):=by rw[cell_of_row _ _ _ _ _ _ hcs4];rfl
    have cs3:wz.cell? ⟨s,3,none⟩=some (.map (some mb)):=by rw[cell_of_row _ _ _ _ _ _ hcs4];rfl
    have lsz:s<wz.heap.size:=by omega
    clear hcs4
    cases q with
    | true=>
     have hm:l∈gs:=by
      by_cases hm:l∈gs
      .exact hm
      .have:=HRQ.out;rw[if_neg hm]at this;cases this
     have HM:=Lib.hid hm;clear hm;go_wp2_with fail;refine bodyPost_ret (v:=.int .i64 r) (by simp[results,Tryz.results122,go_sem];try rfl) rfl ?_
     have hm:=HM.out;have hbt:Below w.heap.size w wz:=HBW.out.trans HS.out.1;have h1:addG gs l=gs:=if_pos hm;have h2:=HRQ.out;rw[if_pos hm]at h2;refine ⟨fpG s mb (.slice Ag gs.length cg),?_,?_,KeepF.of_below hbt⟩
     .rw[h1,h2.1]
     rw[h1];exact SbI.later ⟨_,gv,F,rfl,HB.out⟩ hbt
    | false=>
     have hm:l∉gs:=λhm=>by have:=HRQ.out;rw[if_pos hm]at this;cases this.2
     have HM:=Lib.hid hm;clear hm;have hS1:Below w.heap.size wr wz.drew/\IsF w.heap.size nm wz.drew:=⟨HS.out.1.drew,HS.out.2⟩;go_wp2_with fail;refine zAQ 6 [] (zKb s mb nm ng) (λ_ w'=>Below w.heap.size wr w'/\IsF w.heap.size nm w') (by kernel_rfl) (by kernel_rfl) (by kernel_rfl) (by kernel_rfl) (by kernel_rfl) (by kernel_rfl) (by decide) hS1 ?_ ?_
     .simp only[pq4,pq5];refine HSteps.pure (by decide) ?_ (HSteps.pure (by decide) ?_ (HSteps.pure (by decide) ?_ (HSteps.pure (by decide) ?_ (HSteps.free (by decide) ?_ (HSteps.pure (by decide) ?_ (HSteps.nil))))))
      all_goals first | (intro v wz c hlo hS hE K hK;simp only[zAJ,Act.put,pq1,pq2,pq3,Nat.zero_add,Nat.reduceAdd,pq4,pq5]at hK|-) | (intro v wz hS hE K hK;simp only[zAJ,Act.put,pq1,pq2,pq3,Nat.zero_add,Nat.reduceAdd,pq4,pq5]at hK|-)
      .have HX:=Lib.hid hS;clear hS hE hlo;go_wp2_with fail;exact hK.out _ rfl
      .have e0:v 0=_:=hE.1 rfl;rw[e0]at hK|-;have HX:=Lib.hid hS;clear hS hE hlo;go_wp2_with fail;exact hK.out _ rfl
      .have e1:v 1=_:=hE.1 rfl;rw[e1]at hK|-;have HX:=Lib.hid hS;clear hS hE hlo;go_wp2_with fail;exact hK.out _ rfl
      .have e2:v 2=_:=hE.1 rfl;rw[e2]at hK|-;have cs3:wz.cell? ⟨s,3,none⟩=some (.map (some mb)):=by rw[cell_of_row _ _ _ _ _ _ (HCD.out wz hS.1)];rfl
       have lsz:s<wz.heap.size:=by have:=hS.1.size;omega
       have HX:=Lib.hid hS;clear hS hE hlo;go_wp2_with fail;exact hK.out _ rfl
      .have hcall:=zEf w.heap.size nm wz hS.2;have HC:=Lib.hid hcall;have HX:=Lib.hid hS;clear hS hE hlo hcall;go_wp2_with fail;refine HC.out.mono ?_;rintro e wy ⟨rfl,hf,hb⟩;have HY:=Lib.hid (And.intro (HX.out.1.trans hb) hf);clear hf hb;go_wp2_with fail;refine hK.out _ _ (λj z hj h=>?_) HY.out rfl
       match j with
       | 0 | 1 | 2 | 3 | 5=>exact h
       | 4=>exact absurd rfl hj
       | _+6=>exact trivial
      .have HX:=Lib.hid hS;clear hS hE hlo;go_wp2_with fail;exact hK.out _ rfl
     .intro v wz hS hF;have e0:v 0=_:=hF 0 (by decide)
      have e1:v 1=_:=hF 1 (by decide)
      have e2:v 2=_:=hF 2 (by decide)
      have e3:v 3=_:=hF 3 (by decide)
      have e5:v 5=_:=hF 5 (by decide)
      have E4:=hF 4 (by decide)
      simp only[zAJ,Act.put,pq1,pq2,pq3,Nat.zero_add,Nat.reduceAdd,pq4,pq5,List.drop_succ_cons,List.drop_zero,e0,e1,e2,e3,e5];clear hF e0 e1 e2 e3 e5;have e4:v 4=_:=E4;rw[e4];clear E4 e4;obtain ⟨i1,hi1,hj0,hj1,hj2⟩:=info_parts zIc;have hmz:=HMD.out wz hS.1;have hrow:=HCD.out wz hS.1;have hz5:=hS.1.size;have hbt:=HBW.out.trans hS.1;have hownz:wz.ownsRow B 22 1 (.slice Ag ng cg) ng gv:=by rw[<-HNL.out.2];exact zAN HB.out.own λg hg=>hbt.block g (HB.out.own.lt g hg).2
      have hne:=HB.out.ne;have hBB:=HB.out.hs;have hil:=HV.out.later hbt;rw[HNL.out.2]at hne;have HIL:=Lib.hid (And.intro hil hbt);have HSZ:=Lib.hid hS;clear hS hil;refine zCX wz rfl _ _ _ _ rfl 9 3 K Tryz.underlying169 mb _ F rfl hmz (by rw[HNL.out.2];unfold maxLen;omega) _ _ _ rfl rfl HKEY.out trivial ?_
      intro w1 hm1 hg1;have hz1:=hg1.size;have hls1:s<w1.heap.size:=by omega
      have hrow1:w1.heap[s]?=_:=(hg1.block s (by omega) (λe=>hne.1 (by injection e))).trans hrow
      have d4:w1.cell? ⟨s,4,none⟩=some (.slice Ag ng cg):=by rw[cell_of_row _ _ _ _ _ _ hrow1];rfl
      have hown1:w1.ownsRow B 22 1 (.slice Ag ng cg) ng gv:=zAN hownz λg hg=>hg1.block g (hownz.lt g hg).2 (λe=>by injection e with e;exact hne.2.2 (by rw[hg,e]))
      have HM1:=Lib.hid hm1;have HG1:=Lib.hid hg1;have HR1:=Lib.hid hrow1;have HO1:=Lib.hid hown1;clear hm1 hg1 hrow1 hown1 hownz hmz hrow;have hlz:w1.heap.size<w1.heap.size+1:=by omega
      have hcx:∀j u,[Value.slice A k c][j]?=some u->(w1.alloc (.cells #[.slice A k c] 22)).cell? ((⟨w1.heap.size,0,none⟩:Addr).add j)=some u:=by
       intro j u hj
       match j,hj with
       | 0,hj=>simp at hj;subst hj;simp[Addr.add]
      have hownA:(w1.alloc (.cells #[.slice A k c] 22)).ownsRow B 22 1 (.slice Ag ng cg) ng gv:=HO1.out.alloc _;go_wp2_with (at_builtin;refine zAt rfl _ _ 170 rfl B 22 i1 (.slice none 0 0) 1 24 Tryz.underlying170 hi1 hj0 hj1 hj2 rfl (by decide) _ ng gv rfl hownA ⟨w1.heap.size,0,none⟩ 1 1 [.slice A k c] rfl (by simp) hcx (by intro u hu;simp at hu;subst hu;rfl) (by unfold maxLen;omega) (by omega) (by simp;omega) ?_)
      intro v' w3 hown3 hg3 hf3;have hzA:(w1.alloc (.cells #[.slice A k c] 22)).heap.size=w1.heap.size+1:=by simp
      have hz3:=hg3.size;have hls3:s<w3.heap.size:=by omega
      have hrow3:w3.heap[s]?=_:=(hg3.block s (by omega) (λe=>hne.2.1 e.symm)).trans ((zAI w1 _ s (by omega)).trans HR1.out)
      have d4':w3.cell? ⟨s,4,none⟩=some (.slice Ag ng cg):=by rw[cell_of_row _ _ _ _ _ _ hrow3];rfl
      have f4':w3.frozen? ⟨s,4,none⟩=false:=by simp[World.frozen?,hrow3]
      obtain ⟨A',c',rfl,-,-⟩:=zAC hown3;have HX3:=Lib.hid (And.intro hown3 (And.intro hg3 hf3));clear hown3 hg3 hf3 hownA hcx hrow3;go_wp2_with fail;refine zAD λWf hWf=>?_;refine bodyPost_ret (v:=.int .i64 (ng:Int)) (by rw[hWf];simp[results,Tryz.results122,go_sem];try rfl) rfl ?_
      have h1:addG gs l=gs++[l]:=if_neg HM.out;have hsz:SbS B s mb v0 v1 v2 gs (.slice Ag gs.length cg) gv F wz:=HB.out.same (λq hq=>HIL.out.2.block q (HLT.out q hq).2) HIL.out.2.size (λv l h _ ht=>⟨h.later HIL.out.2,ht.later HIL.out.2⟩);have hadd:=hsz.add (l:=l) (v:=.slice A l.length c) (vg':=.slice A' (ng+1) c') (n:=(ng:Int)) (w1:=w1) (w2:=w1.alloc (.cells #[.slice A k c] 22)) (w3:=w3) HIL.out.1 HO.out (HTI.out.later HIL.out.2) HM.out (by rw[HNL.out.2]) HG1.out (by rw[HNM.out];exact HM1.out) ((Below.refl _ _).alloc (Nat.le_refl _) _) (by rw[HNL.out.2];exact HX3.out.2.1) (by rw[HNL.out.2,HNL.out.1];exact HX3.out.1) (by rw[HNL.out.2,hzA];exact HX3.out.2.2)
      refine ⟨fpG s mb (.slice A' (ng+1) c'),?_,?_,?_⟩
      .rw[h1,List.idxOf_append,if_neg HM.out];simp[HNL.out.2]
      .rw[h1,hWf];exact hadd.1
      .rw[hWf];exact (KeepF.of_below HIL.out.2).trans hadd.2
end Go.Proofs.YtadjdkickjjieaaGreatDoor
namespace Go.Proofs.YtadjdkickjjieaaGreatDoor
set_option linter.unusedVariables false
set_option linter.unusedSimpArgs false
set_option maxRecDepth 100000
open Go.RowKit
theorem zKA:(Tryz.prog.info? 29).map (λi=>(i.zero,i.size,i.bytes))=some (some (.agg #[.int .i64 0, .slice none 0 0, .slice none 0 0, .int .i64 0, .int .i64 0]),5,72):=by kernel_rfl
theorem zBl {P:Program} {c:Code} {Q:Exit->Act->World->Prop} {a:Act} {w:World} (h:∀W,W=w->c.wp P Q a W):c.wp P Q a w:=h w rfl
theorem zL1 {w:World} {B n c:Nat} {e:TypeId} {xs:List Value} {A:Option Addr} (h:w.ownsRow B e 5 (.slice A n c) n xs) (hn:0<n):∃g,A=some ⟨g,0,none⟩/\B<=g/\g<w.heap.size/\∀j,j<5->w.cell? ⟨g,j,none⟩=xs[j]?:=by
 rcases h.2 with ⟨h1,h2⟩ | ⟨g,cap,cur,h1,hB,hg,-⟩
 .exfalso;injection h1 with h1 h1';omega
 .injection h1 with h1 _ h3;subst h1;exact ⟨g,rfl,hB,(Array.getElem?_eq_some_iff.1 hg).1,λj hj=>World.ownsRow.cellAt h j (by omega)⟩
set_option maxHeartbeats 4000000 in
theorem zNU (pb:Nat) (w:World) (h:PaW pb tA 0 false w):Calls Tryz.prog 132 #[.pointer (some ⟨pb,0,none⟩)] w λe w'=>∃g q,e = .returned (.agg #[.int .i64 4, .slice none 0 0, .slice (some ⟨g,0,none⟩) 1 1, .int .i64 1, .int .i64 2])/\(w.heap.size<=g/\w.heap.size<=q)/\LfA g q w'/\PaW pb tA 6 false w'/\KfR pb w w':=by
 have hl:=h.cells.2.2;have HP:=Lib.hid h;obtain ⟨ie,hie,hk0,hk1,hk2⟩:=info_parts zKA;clear h
 go_enter Tryz.func132,Tryz.ntmps132
 go_wp2_with fail;refine zBl λW0 hW0=>?_;have hb0:Below w.heap.size w W0:=by rw[hW0];exact (Below.refl _ _).alloc (Nat.le_refl _) _
 have hX:W0.heap[w.heap.size]?=some (.cells #[.int .i64 0, .slice none 0 0, .slice none 0 0, .int .i64 0, .int .i64 0] 29 (0,0)):=by rw[hW0];exact heap_alloc_new w _
 have hp0:=HP.out.later hb0;have d0:∀d:BelT W0.heap.size W0,d.val.cell? ⟨pb,0,none⟩=some (.string tA):=λd=>(hp0.later d.property).cells.1.1;have d1:∀d:BelT W0.heap.size W0,d.val.cell? ⟨pb,1,none⟩=some (.int .i64 0):=λd=>(hp0.later d.property).cells.1.2.1;have d2:∀d:BelT W0.heap.size W0,d.val.cell? ⟨pb,2,none⟩=some (.bool false):=λd=>(hp0.later d.property).cells.1.2.2;have d3:∀d:BelT W0.heap.size W0,pb<d.val.heap.size:=λd=>(hp0.later d.property).cells.2.2;have K1:=Lib.hid λd:BelT W0.heap.size W0=>zBS pb tA 0 97 false d.val (hp0.later d.property) zIV zIt;have t0:decide ((0:Int)<(tA.size:Int))=true:=by decide
 have t0n:decide (0<tA.size)=true:=by decide
 have H0:=Lib.hid (And.intro hb0 (And.intro hX hp0));clear hW0 hb0 hX hp0;refine wp_loop_rounds 2 ?_;rw[rounds_succ];go_wp2_with fail;refine zAH (Below.refl W0.heap.size W0) (by kernel_rfl) (by kernel_rfl) ?_
 repeat (go_big_quiet_step (fail))
 go_big_quiet_step ((go_at_call 133;exact Calls.below_of (Nat.le_refl _) (K1.out _)))
 repeat (go_big_quiet_step (fail))
 go_big_quiet_step ((go_at_call 133;exact Calls.below_of (Nat.le_refl _) (K1.out _)))
 repeat (go_big_quiet_step (fail))
 refine wpQuiet_nil ?_;intro w1 hw';have hw1:Below W0.heap.size W0 w1:=by obtain ⟨d9,rfl⟩:=hw';exact d9.property
 have hX1:=(hw1.block _ (Array.getElem?_eq_some_iff.1 H0.out.2.1).1).trans H0.out.2.1;have H1:=Lib.hid (And.intro (zAa (H0.out.1.trans (hw1.mono H0.out.1.size)):KfR pb w w1) (And.intro hX1 (H0.out.2.2.later hw1)));clear hw' hw1 d0 d1 d2 d3 t0 t0n K1 hX1;go_wp2_with fail;refine (zMw pb w1 H1.out.2.2).mono ?_;rintro e w2 ⟨g,q,rfl,⟨hg,hq⟩,hlf,hp2,hk2'⟩;have hzw:=H1.out.1.size;have hz1:=(Array.getElem?_eq_some_iff.1 H1.out.2.1).1;have H2:=Lib.hid (And.intro (H1.out.1.tr hk2') (And.intro (zDx hk2' (by omega) H1.out.2.1) (And.intro hlf hp2)))
 have hz2:=hk2'.size;clear hlf hp2 hk2';have hown:(w2.alloc (.cells #[.int .i64 4, .slice none 0 0, .slice (some ⟨g,0,none⟩) 1 1, .int .i64 1, .int .i64 2] 29)).ownsRow w2.heap.size 29 5 (.slice none 0 0) 0 []:=World.ownsRow_nil _ _ _ _;have hcx:∀j u,[Value.int .i64 4, .slice none 0 0, .slice (some ⟨g,0,none⟩) 1 1, .int .i64 1, .int .i64 2][j]?=some u->(w2.alloc (.cells #[.int .i64 4, .slice none 0 0, .slice (some ⟨g,0,none⟩) 1 1, .int .i64 1, .int .i64 2] 29)).cell? ((⟨w2.heap.size,0,none⟩:Addr).add j)=some u:=by
  intro j u hj;rw[Addr.add_lit,Nat.zero_add,World.cell?_alloc_mark];simpa using hj
 have hbz:w2.heap.size<=(w2.alloc (.cells #[.int .i64 4, .slice none 0 0, .slice (some ⟨g,0,none⟩) 1 1, .int .i64 1, .int .i64 2] 29)).heap.size:=by simp
 go_wp2_with (at_builtin; refine zAt rfl _ _ 27 rfl w2.heap.size 29 ie _ 5 72 Tryz.underlying27 hie hk0 hk1 hk2 rfl (by decide) _ 0 [] rfl hown ⟨w2.heap.size,0,none⟩ 1 1 [.int .i64 4, .slice none 0 0, .slice (some ⟨g,0,none⟩) 1 1, .int .i64 1, .int .i64 2] rfl rfl hcx (by intro u hu; simp only[List.mem_cons,List.not_mem_nil,or_false]at hu; rcases hu with rfl | rfl | rfl | rfl | rfl <;> rfl) (by unfold maxLen; omega) (by omega) hbz ?_)
 intro v9 w9 hown9 hg9 hf9;obtain ⟨A9,c9,rfl,-,-⟩:=zAC hown9;obtain ⟨g9,rfl,hB9,hl9,hc9⟩:=zL1 hown9 (by omega)
 have hb9:Below w2.heap.size w2 w9:=((Below.refl _ _).alloc (Nat.le_refl _) _).grown hg9 (by simp) (λk hk=>by simp[Value.ownBlock]at hk)
 have hp9:=H2.out.2.2.2.later hb9;have hX9:=(hb9.block _ (Array.getElem?_eq_some_iff.1 H2.out.2.1).1).trans H2.out.2.1;have d0:∀d:BelT w9.heap.size w9,d.val.cell? ⟨pb,0,none⟩=some (.string tA):=λd=>(hp9.later d.property).cells.1.1;have d1:∀d:BelT w9.heap.size w9,d.val.cell? ⟨pb,1,none⟩=some (.int .i64 6):=λd=>(hp9.later d.property).cells.1.2.1;have d2:∀d:BelT w9.heap.size w9,pb<d.val.heap.size:=λd=>(hp9.later d.property).cells.2.2;have t0:decide ((6:Int)<(tA.size:Int))=false:=by decide
 have t0n:decide (6<tA.size)=false:=by decide
 have HC:=Lib.hid hc9;have H9:=Lib.hid (And.intro (H2.out.1.tr (zAa hb9)) (And.intro hX9 (And.intro (H2.out.2.2.1.later hb9) hp9)));clear hown9 hg9 hf9 hb9 hp9 hX9 hc9 hown hcx hbz;go_wp2_with fail;rw[rounds_succ];go_wp2_with fail;refine zAH (Below.refl w9.heap.size w9) (by kernel_rfl) (by kernel_rfl) ?_
 repeat (go_big_quiet_step (fail))
 refine wpQuiet_nil ?_;intro w10 hw';have hw10:Below w9.heap.size w9 w10:=by obtain ⟨d9,rfl⟩:=hw';exact d9.property
 have hX10:=(hw10.block _ (Array.getElem?_eq_some_iff.1 H9.out.2.1).1).trans H9.out.2.1;have hy:=λj hj=>(hw10.cell (p:=⟨g9,j,none⟩) hl9).trans (HC.out j hj);have y0:w10.cell? ⟨g9,0,none⟩=some (.int .i64 4):=hy 0 (by decide)
 have y1:w10.cell? ⟨g9,1,none⟩=some (.slice none 0 0):=hy 1 (by decide)
 have y2:w10.cell? ⟨g9,2,none⟩=some (.slice (some ⟨g,0,none⟩) 1 1):=hy 2 (by decide)
 have y3:w10.cell? ⟨g9,3,none⟩=some (.int .i64 1):=hy 3 (by decide)
 have y4:w10.cell? ⟨g9,4,none⟩=some (.int .i64 2):=hy 4 (by decide)
 have ly:g9<w10.heap.size:=by have:=hw10.size;omega
 obtain ⟨x0,x1,x2,x3,x4⟩:=zAB hX10;obtain ⟨z0,z1,z2,z3,z4⟩:=frz5 hX10;have lx:w.heap.size<w10.heap.size:=(Array.getElem?_eq_some_iff.1 hX10).1;have H10:=Lib.hid (And.intro (H9.out.1.tr (zAa hw10)) (And.intro hX10 (And.intro (H9.out.2.2.1.later hw10) (H9.out.2.2.2.later hw10))));clear hw' hw10 d0 d1 d2 t0 t0n hX10 hy;go_wp2_with fail;refine zAD λWf hWf=>?_;refine bodyPost_ret (v:=.agg #[.int .i64 4, .slice none 0 0, .slice (some ⟨g,0,none⟩) 1 1, .int .i64 1, .int .i64 2]) (by rw[hWf];simp[results,Tryz.results132,go_sem,x0,x1,x2,x3,x4,lx];try rfl) rfl ?_
 obtain ⟨s1,s2,s3,-⟩:=st5 hWf;have hk9:KfR pb w Wf:=zCl H10.out.1 (Nat.le_refl _) s1 s2 s3;exact ⟨g,q,rfl,⟨by omega,by omega⟩,⟨(s1 g (by omega)).trans H10.out.2.2.1.1,(s1 q (by omega)).trans H10.out.2.2.1.2⟩,(s1 pb (by omega)).trans H10.out.2.2.2,hk9⟩
set_option maxHeartbeats 4000000 in
theorem zJs (pb:Nat) (w:World) (h:PaW pb tA 0 false w):Calls Tryz.prog 100 #[.pointer (some ⟨pb,0,none⟩)] w λe w'=>∃g q,e = .returned (.agg #[.int .i64 4, .slice none 0 0, .slice (some ⟨g,0,none⟩) 1 1, .int .i64 1, .int .i64 2])/\(w.heap.size<=g/\w.heap.size<=q)/\LfA g q w'/\PaW pb tA 6 false w'/\KfR pb w w':=by
 have hl:=h.cells.2.2;have HP:=Lib.hid h;clear h
 go_enter Tryz.func100,Tryz.ntmps100
 go_wp2_with fail;refine zAM λW0 hW0=>?_;have hb0:Below w.heap.size w W0:=by rw[hW0];exact (Below.refl _ _).alloc (Nat.le_refl _) _
 have hX:W0.heap[w.heap.size]?=some (.cells #[.int .i64 0, .slice none 0 0, .slice none 0 0, .int .i64 0, .int .i64 0] 29 (0,0)):=by rw[hW0];exact heap_alloc_new w _
 have H0:=Lib.hid (And.intro hb0 (And.intro hX (HP.out.later hb0)));clear hW0 hb0 hX;refine (zNU pb W0 H0.out.2.2).mono ?_;rintro e w2 ⟨g,q,rfl,⟨hg,hq⟩,hlf,hp2,hk2'⟩;have hzw:=H0.out.1.size;have hz1:=(Array.getElem?_eq_some_iff.1 H0.out.2.1).1;have H2:=Lib.hid (And.intro ((zAa H0.out.1).tr hk2') (And.intro (zDx hk2' (by omega) H0.out.2.1) (And.intro hlf hp2)))
 have hz2:=hk2'.size;clear hlf hp2 hk2';go_wp2_with fail;refine zBl λW3 hW3=>?_;have hb3:Below w2.heap.size w2 W3:=by rw[hW3];exact (Below.refl _ _).alloc (Nat.le_refl _) _
 have hY3:W3.heap[w2.heap.size]?=some (.cells #[.int .i64 4, .slice none 0 0, .slice (some ⟨g,0,none⟩) 1 1, .int .i64 1, .int .i64 2] 29 (0,0)):=by rw[hW3];exact heap_alloc_new w2 _
 have H3:=Lib.hid (And.intro (H2.out.1.tr (zAa hb3)) (And.intro ((hb3.block _ (Array.getElem?_eq_some_iff.1 H2.out.2.1).1).trans H2.out.2.1) (And.intro (H2.out.2.2.1.later hb3) (And.intro (H2.out.2.2.2.later hb3) hY3))));clear hW3 hb3 hY3;refine wp_loop_rounds 1 ?_;rw[rounds_succ];go_wp2_with fail;refine (zKX pb tA 6 false W3 H3.out.2.2.2.1 zMR).mono ?_;rintro e w10 ⟨rfl,hw10⟩;have hX10:=(hw10.block _ (Array.getElem?_eq_some_iff.1 H3.out.2.1).1).trans H3.out.2.1;have hY10:=(hw10.block _ (Array.getElem?_eq_some_iff.1 H3.out.2.2.2.2).1).trans H3.out.2.2.2.2;obtain ⟨y0,y1,y2,y3,y4⟩:=zAB hY10;have ly:w2.heap.size<w10.heap.size:=(Array.getElem?_eq_some_iff.1 hY10).1;obtain ⟨x0,x1,x2,x3,x4⟩:=zAB hX10;obtain ⟨z0,z1,z2,z3,z4⟩:=frz5 hX10;have lx:w.heap.size<w10.heap.size:=(Array.getElem?_eq_some_iff.1 hX10).1;have H10:=Lib.hid (And.intro (H3.out.1.tr (zAa hw10)) (And.intro hX10 (And.intro (H3.out.2.2.1.later hw10) (H3.out.2.2.2.1.later hw10))));clear hw10 hX10 hY10;go_wp2_with fail;refine zAD λWf hWf=>?_;refine bodyPost_ret (v:=.agg #[.int .i64 4, .slice none 0 0, .slice (some ⟨g,0,none⟩) 1 1, .int .i64 1, .int .i64 2]) (by rw[hWf];simp[results,Tryz.results100,go_sem,x0,x1,x2,x3,x4,lx];try rfl) rfl ?_
 obtain ⟨s1,s2,s3,-⟩:=st5 hWf;have hk9:KfR pb w Wf:=zCl H10.out.1 (Nat.le_refl _) s1 s2 s3;exact ⟨g,q,rfl,⟨by omega,by omega⟩,⟨(s1 g (by omega)).trans H10.out.2.2.1.1,(s1 q (by omega)).trans H10.out.2.2.1.2⟩,(s1 pb (by omega)).trans H10.out.2.2.2,hk9⟩
set_option maxHeartbeats 4000000 in
theorem zG5:∀(m:Nat) (nd:Nd) (vs:List Value) (w:World) (hv:Nat),hv<=200->zAE nd<=m->NdIn w nd vs->Calls Tryz.prog 88 #[.agg vs.toArray, .int .i64 (hv:Int)] w λe w'=>e = .returned (.int .i64 ((min (hv+zAE nd) 201:Nat):Int))/\Below w.heap.size w w':=by
 intro m
 induction m with
 | zero=>intro nd vs w hv _ h;cases nd;rw[zAE]at h;omega
 | succ m ih=>
  rintro ⟨op,rs,kids,mn,mx⟩ vs w hv hhv h hn;have HN:=Lib.hid hn;obtain ⟨v1,v2,rfl,hr,A,c,rfl,hc,hk⟩:=hn;obtain ⟨A1,c1,rfl,-,-⟩:=hr;have hT:zAE (.mk op rs kids mn mx)=1+zAS kids:=by rw[zAE]
  have HT:=Lib.hid hT;rw[hT]at h;have HM:=Lib.hid h;have hkl2:kids.length<=9223372036854775807:=by omega
  clear hT h
  go_enter Tryz.func88,Tryz.ntmps88
  go_wp2_with fail;refine zBl λW0 hW0=>?_;have hb0:Below w.heap.size w W0:=by rw[hW0];exact (Below.refl _ _).alloc (Nat.le_refl _) _
  have hX0:W0.heap[w.heap.size]?=some (.cells #[.int .i64 op, .slice A1 rs.length c1, .slice A kids.length c, .int .i64 mn, .int .i64 mx] 29 (0,0)):=by rw[hW0];exact heap_alloc_new w _
  have HB0:=Lib.hid (And.intro hb0 hX0);clear hW0 hb0 hX0
  go_loopw [1,5] (λov iv wr=>∃(k o:Nat),k<=kids.length/\iv = .int .i64 (k:Int)/\ov = .int .i64 (o:Int)/\o<=201/\Hid (min (o+zAS (kids.drop k)) 201=min (hv+(1+zAS kids)) 201)/\Hid (Below w.heap.size w wr/\wr.heap[w.heap.size]?=some (.cells #[.int .i64 op, .slice A1 rs.length c1, .slice A kids.length c, .int .i64 mn, .int .i64 mx] 29 (0,0)))) (λ_ iv _=>kids.length - (intOf iv).toNat)
  case atStart=>exact ⟨0,hv+1,by omega,rfl,by go_num,by omega,(by show min _ _=_;rw[List.drop_zero];congr 1;omega),HB0.out⟩
  case round=>
   obtain ⟨k,o,hkk,rfl,rfl,ho,HO,HB⟩:=hrel;obtain ⟨b0,b1,b2,b3,b4⟩:=zAB HB.out.2;have lb:w.heap.size<wr.heap.size:=(Array.getElem?_eq_some_iff.1 HB.out.2).1;by_cases hlt:k<kids.length
   .have hd:decide ((k:Int)<(kids.length:Int))=true:=decide_eq_true (by omega)
    have hdn:decide (k<kids.length)=true:=decide_eq_true hlt;by_cases ho2:o<=200
    .have hd2:decide ((o:Int)<=200)=true:=decide_eq_true (by omega)
     have hd2n:decide (o<=200)=true:=decide_eq_true ho2;obtain ⟨g,f,rfl,hg,hkd⟩:=hk.resolve_left (by rintro rfl;simp at hlt)
     obtain ⟨vs,hcv,hnd⟩:=hkd.at k hlt;have hmem:=zAG (List.getElem_mem hlt);have hdr:zAS (kids.drop k)=zAE kids[k]+zAS (kids.drop (k+1)):=by rw[List.drop_eq_getElem_cons hlt,zAS]
     obtain ⟨kd,hkd2⟩:∃kd,kids[k]=kd:=⟨_,rfl⟩;rw[hkd2]at hnd hmem hdr;obtain ⟨B1,e1,B2,e2,rfl,-,-,-⟩:=hnd.form;have q:∀j,j<5->wr.cell? ⟨g,f+k*5+j,none⟩=([.int .i64 kd.op, .slice B1 kd.rs.length e1, .slice B2 kd.kids.length e2, .int .i64 kd.mn, .int .i64 kd.mx]:List Value)[j]?:=λj hj=>(HB.out.1.cell (p:=⟨g,f+k*5+j,none⟩) hg).trans (hcv j hj);have q0:=q 0 (by omega);have q1:=q 1 (by omega);have q2:=q 2 (by omega);have q3:=q 3 (by omega);have q4:=q 4 (by omega)
     simp only[Nat.add_zero,List.getElem?_cons_zero,List.getElem?_cons_succ]at q0 q1 q2 q3 q4;have lg:g<wr.heap.size:=Nat.lt_of_lt_of_le hg HB.out.1.size;have HI:=Lib.hid (λ(w':World) (hw:Below w.heap.size w w')=>ih kd _ w' o ho2 (by have:=HM.out;omega) (hnd.later hw))
     have HD:=Lib.hid hdr;clear q hcv hnd hkd2 hkd hdr;go_wp2_with fail;refine (HI.out wr HB.out.1).mono ?_;rintro e w1 ⟨rfl,hb1⟩;obtain ⟨x,hx⟩:∃x,min (o+zAE kd) 201=x:=⟨_,rfl⟩;rw[hx];have hx2:x<=201:=by omega
     have HX:=Lib.hid hx;have HB1:=Lib.hid (And.intro (HB.out.1.trans (hb1.mono HB.out.1.size)) ((hb1.block _ lb).trans HB.out.2));clear hb1 hx hmem q0 q1 q2 q3 q4 b0 b1 b2 b3 b4;go_wp2_with fail;go_roundw
     case rel=>
      refine ⟨k+1,x,by omega,by go_num,rfl,hx2,?_,HB1⟩
      have h1:=HO.out;have h2:=HD.out;have h3:=HX.out;exact (by omega:min (x+zAS (kids.drop (k+1))) 201=min (hv+(1+zAS kids)) 201)
     case measure=>simp[intOf];omega
    .have hd2:decide ((o:Int)<=200)=false:=decide_eq_false (by omega)
     have hd2n:decide (o<=200)=false:=decide_eq_false ho2;go_wp2_with fail;go_ret;refine ⟨zAO ?_,HB.out.1⟩;have h1:=HO.out;rw[HT.out];omega
   .obtain rfl:k=kids.length:=by omega
    have hd:decide (((kids.length:Nat):Int)<(kids.length:Int))=false:=decide_eq_false (by omega)
    have hdn:decide (kids.length<kids.length)=false:=decide_eq_false (by omega)
    go_wp2_with fail;go_ret;refine ⟨zAO ?_,HB.out.1⟩;have h1:=HO.out;rw[List.drop_length,zAS]at h1;rw[HT.out];omega
mutual
theorem zEd:∀nd:Nd,zAd nd<=zAE nd
 | .mk _ _ kids _ _=>by rw[zAd,zAE];have:=zDh kids;omega
theorem zDh:∀l:List Nd,zAW l<=zAS l
 | []=>by rw[zAW,zAS];exact Nat.le_refl _
 | k::r=>by rw[zAW,zAS];have:=zEd k;have:=zDh r;omega
end
set_option maxHeartbeats 4000000 in
theorem zHF:∀(m:Nat) (nd:Nd) (vs:List Value) (w:World),zAE nd<=m->zAE nd<=1000->NdIn w nd vs->Calls Tryz.prog 58 #[.agg vs.toArray] w λe w'=>e = .returned (.int .i64 ((zAd nd:Nat):Int))/\Below w.heap.size w w':=by
 intro m
 induction m with
 | zero=>intro nd vs w h;cases nd;rw[zAE]at h;omega
 | succ m ih=>
  rintro ⟨op,rs,kids,mn,mx⟩ vs w h h1000 hn;have HN:=Lib.hid hn;obtain ⟨v1,v2,rfl,hr,A,c,rfl,hc,hk⟩:=hn;obtain ⟨A1,c1,rfl,-,-⟩:=hr;have hT:zAE (.mk op rs kids mn mx)=1+zAS kids:=by rw[zAE]
  have hD:zAd (.mk op rs kids mn mx)=1+zAW kids:=by rw[zAd]
  have HT:=Lib.hid hD;rw[hT]at h h1000;have HM:=Lib.hid (And.intro h h1000);have hdl:zAW kids<=1000:=by have:=zDh kids;omega
  have hkl2:kids.length<=9223372036854775807:=by omega
  clear hT hD h h1000
  go_enter Tryz.func58,Tryz.ntmps58
  go_wp2_with fail;refine zBl λW0 hW0=>?_;have hb0:Below w.heap.size w W0:=by rw[hW0];exact (Below.refl _ _).alloc (Nat.le_refl _) _
  have hX0:W0.heap[w.heap.size]?=some (.cells #[.int .i64 op, .slice A1 rs.length c1, .slice A kids.length c, .int .i64 mn, .int .i64 mx] 29 (0,0)):=by rw[hW0];exact heap_alloc_new w _
  have HB0:=Lib.hid (And.intro hb0 hX0);clear hW0 hb0 hX0
  go_loopw [3,4] (λov iv wr=>∃(k o:Nat),k<=kids.length/\iv = .int .i64 (k:Int)/\ov = .int .i64 (o:Int)/\o<=1000/\Hid (max o (zAW (kids.drop k))=zAW kids)/\Hid (Below w.heap.size w wr/\wr.heap[w.heap.size]?=some (.cells #[.int .i64 op, .slice A1 rs.length c1, .slice A kids.length c, .int .i64 mn, .int .i64 mx] 29 (0,0)))) (λ_ iv _=>kids.length - (intOf iv).toNat)
  case atStart=>exact ⟨0,0,by omega,rfl,rfl,by omega,(by show max _ _=_;rw[List.drop_zero];omega),HB0.out⟩
  case round=>
   obtain ⟨k,o,hkk,rfl,rfl,ho,HO,HB⟩:=hrel;obtain ⟨b0,b1,b2,b3,b4⟩:=zAB HB.out.2;have lb:w.heap.size<wr.heap.size:=(Array.getElem?_eq_some_iff.1 HB.out.2).1;by_cases hlt:k<kids.length
   .have hd:decide ((k:Int)<(kids.length:Int))=true:=decide_eq_true (by omega)
    have hdn:decide (k<kids.length)=true:=decide_eq_true hlt;obtain ⟨g,f,rfl,hg,hkd⟩:=hk.resolve_left (by rintro rfl;simp at hlt)
    obtain ⟨vs,hcv,hnd⟩:=hkd.at k hlt;have hmem:=zAG (List.getElem_mem hlt);have hdr:zAW (kids.drop k)=max (zAd kids[k]) (zAW (kids.drop (k+1))):=by rw[List.drop_eq_getElem_cons hlt,zAW]
    obtain ⟨kd,hkd2⟩:∃kd,kids[k]=kd:=⟨_,rfl⟩;rw[hkd2]at hnd hmem hdr;obtain ⟨B1,e1,B2,e2,rfl,-,-,-⟩:=hnd.form;have q:∀j,j<5->wr.cell? ⟨g,f+k*5+j,none⟩=([.int .i64 kd.op, .slice B1 kd.rs.length e1, .slice B2 kd.kids.length e2, .int .i64 kd.mn, .int .i64 kd.mx]:List Value)[j]?:=λj hj=>(HB.out.1.cell (p:=⟨g,f+k*5+j,none⟩) hg).trans (hcv j hj);have q0:=q 0 (by omega);have q1:=q 1 (by omega);have q2:=q 2 (by omega);have q3:=q 3 (by omega);have q4:=q 4 (by omega)
    simp only[Nat.add_zero,List.getElem?_cons_zero,List.getElem?_cons_succ]at q0 q1 q2 q3 q4;have lg:g<wr.heap.size:=Nat.lt_of_lt_of_le hg HB.out.1.size;have HI:=Lib.hid (λ(w':World) (hw:Below w.heap.size w w')=>ih kd _ w' (by have:=HM.out.1;omega) (by have:=HM.out.2;omega) (hnd.later hw))
    have HD:=Lib.hid hdr;clear q hcv hnd hkd2 hkd hdr;go_wp2_with fail;refine (HI.out wr HB.out.1).mono ?_;rintro e w1 ⟨rfl,hb1⟩;obtain ⟨x,hx⟩:∃x,zAd kd=x:=⟨_,rfl⟩;rw[hx];have hx2:x<=1000:=by have h1:=zEd kd;have h2:=HM.out.2;omega
    obtain ⟨y,hy⟩:∃y:Nat,y=max o x:=⟨_,rfl⟩;have hy2:max (o:Int) (x:Int)=(y:Int):=by omega
    have HY:=Lib.hid hy;have hy3:y<=1000:=by omega
    have HX:=Lib.hid hx;have HB1:=Lib.hid (And.intro (HB.out.1.trans (hb1.mono HB.out.1.size)) ((hb1.block _ lb).trans HB.out.2));clear hb1 hx hy hmem q0 q1 q2 q3 q4 b0 b1 b2 b3 b4;go_wp2_with fail;go_roundw
    case rel=>
     refine ⟨k+1,y,by omega,by go_num,by first | rfl | go_num | (simp;omega),hy3,?_,HB1⟩
     have h1:=HO.out;have h2:=HD.out;have h3:=HX.out;have h4:=HY.out;exact (by omega:max y (zAW (kids.drop (k+1)))=zAW kids)
    case measure=>simp[intOf];omega
   .obtain rfl:k=kids.length:=by omega
    have hd:decide (((kids.length:Nat):Int)<(kids.length:Int))=false:=decide_eq_false (by omega)
    have hdn:decide (kids.length<kids.length)=false:=decide_eq_false (by omega)
    go_wp2_with fail;go_ret;refine ⟨zAO ?_,HB.out.1⟩;have h1:=HO.out;rw[List.drop_length,zAW]at h1;rw[HT.out];omega
structure RgJ (rs:List (Nat×Nat)) (k lo hi:Nat):Prop where
 lt:k<rs.length
 e1:rs[k].1=lo
 e2:rs[k].2=hi
structure RgQ (rs:List (Nat×Nat)) (p ph:Nat):Prop where
 lt:p<rs.length
 e2:rs[p].2=ph
set_option maxHeartbeats 4000000 in
theorem zFe (v:Value) (rs:List (Nat×Nat)) (w:World) (h:RgIn w v rs):Calls Tryz.prog 89 #[v] w λe w'=>e = .returned (.bool (rngF rs && !rs.isEmpty))/\Below w.heap.size w w':=by
 obtain ⟨A,c,rfl,⟨hc1,hc2⟩,hcell⟩:=h;obtain ⟨n,hn⟩:∃n,rs.length=n:=⟨_,rfl⟩;have HN:=Lib.hid hn;have HC:=Lib.hid hcell;rw[hn]at hc1|-;clear hn hcell
 go_enter Tryz.func89,Tryz.ntmps89
 go_wp2_with fail
 go_loopw [3] (λiv wr=>∃k:Nat,k<=n/\iv = .int .i64 (k:Int)/\Hid (zFb rs k=rngF rs)/\(∀(h0:0<k),Hid (∃h,(rs[k - 1]'h).1<=(rs[k - 1]'h).2))/\Hid (Below w.heap.size w wr)) (λiv _=>n - (intOf iv).toNat)
 case atStart=>exact ⟨0,by omega,rfl,rfl,λh=>by omega,Below.refl _ _⟩
 case round=>
  obtain ⟨k,hk,rfl,HR,HP,HB⟩:=hrel;by_cases hlt:k<n
  .have hd:decide ((k:Int)<(n:Int))=true:=decide_eq_true (by omega)
   have hdn:decide (k<n)=true:=decide_eq_true hlt;have hkl:k<rs.length:=by rw[HN.out];exact hlt
   obtain ⟨g,f,hA,hg,hrow⟩:=HC.out.resolve_left (by intro e;rw[e]at hkl;simp at hkl)
   subst hA;obtain ⟨⟨c0,c1⟩,hb1,hb2⟩:=hrow k hkl;obtain ⟨lo,hlo⟩:∃lo:Nat,rs[k].1=lo:=⟨_,rfl⟩;obtain ⟨hi,hhi⟩:∃hi:Nat,rs[k].2=hi:=⟨_,rfl⟩;rw[hlo]at c0 hb1;rw[hhi]at c1 hb2;have hbw:=HB.out.size;have d0:∀d:BelT wr.heap.size wr,d.val.cell? ⟨g,f+k*2,none⟩=some (.int .u8 (lo:Int)):=λd=>((HB.out.trans (d.property.mono HB.out.size)).cell (p:=⟨g,f+k*2,none⟩) hg).trans c0;have d1:∀d:BelT wr.heap.size wr,d.val.cell? ⟨g,f+k*2+1,none⟩=some (.int .u8 (hi:Int)):=λd=>((HB.out.trans (d.property.mono HB.out.size)).cell (p:=⟨g,f+k*2+1,none⟩) hg).trans c1;have d2:∀d:BelT wr.heap.size wr,g<d.val.heap.size:=λd=>by have:=d.property.size;omega
   have HL:Hid (RgJ rs k lo hi):=⟨hkl,hlo,hhi⟩;have u1:IntKind.i64.wrap (lo:Int)=(lo:Int):=IntWalk.i64_in _ (by omega)
   clear c0 c1 hlo hhi hkl;by_cases hbad:hi<lo
   .have t1:decide ((hi:Int)<(lo:Int))=true:=decide_eq_true (by omega)
    have t1n:decide (hi<lo)=true:=decide_eq_true hbad;clear hrow;go_wp2_with fail;refine zAH (Below.refl wr.heap.size wr) (by kernel_rfl) (by kernel_rfl) ?_
    repeat (go_big_quiet_step (fail))
    refine wpQuiet_nil ?_;intro w2 hw';have hw2:Below wr.heap.size wr w2:=by obtain ⟨d9,rfl⟩:=hw';exact d9.property
    have HB2:=Lib.hid (HB.out.trans (hw2.mono HB.out.size));clear hw' hw2 d0 d1 d2;go_wp2_with fail;go_ret;refine ⟨zAA ?_,HB2.out⟩;rw[<-HR.out,zCP HL.out.1 (.inl (by have:=HL.out.2;have:=HL.out.3;omega))];rfl
   have t1:decide ((hi:Int)<(lo:Int))=false:=decide_eq_false (by omega)
   have t1n:decide (hi<lo)=false:=decide_eq_false hbad;by_cases hk0:k=0
   .have t2:decide (0<(k:Int))=false:=decide_eq_false (by omega)
    have t2n:decide (0<k)=false:=decide_eq_false (by omega)
    have HK0:=Lib.hid hk0;clear hrow hk0;go_wp2_with fail;refine zAH (Below.refl wr.heap.size wr) (by kernel_rfl) (by kernel_rfl) ?_
    repeat (go_big_quiet_step (fail))
    refine wpQuiet_nil ?_;intro w2 hw';have hw2:Below wr.heap.size wr w2:=by obtain ⟨d9,rfl⟩:=hw';exact d9.property
    have HB2:=Lib.hid (HB.out.trans (hw2.mono HB.out.size));clear hw' hw2 d0 d1 d2;go_wp2_with fail;go_roundw
    case rel=>
     refine ⟨k+1,by omega,by go_num,?_,λh0=>⟨by simpa using HL.out.1,by simp only[Nat.add_sub_cancel];have:=HL.out.2;have:=HL.out.3;omega⟩,HB2.out⟩
     exact (zB6 HL.out.1 (by have:=HL.out.2;have:=HL.out.3;omega) (λh0=>by have:=HK0.out;omega)).trans HR.out
    case measure=>simp[intOf];omega
   .obtain ⟨p,hp⟩:∃p,p+1=k:=⟨k - 1,by omega⟩
    have t2:decide (0<(k:Int))=true:=decide_eq_true (by omega)
    have t2n:decide (0<k)=true:=decide_eq_true (by omega)
    have hpl:p<n:=by omega
    have hpr:p<rs.length:=by rw[HN.out];exact hpl
    obtain ⟨⟨-,p1⟩,-,hpb⟩:=hrow p hpr;obtain ⟨ph,hph⟩:∃x:Nat,(rs[p]'hpr).2=x:=⟨_,rfl⟩;rw[hph]at p1 hpb;have d3:∀d:BelT wr.heap.size wr,d.val.cell? ⟨g,f+p*2+1,none⟩=some (.int .u8 (ph:Int)):=λd=>((HB.out.trans (d.property.mono HB.out.size)).cell (p:=⟨g,f+p*2+1,none⟩) hg).trans p1;have hw1:IntKind.i64.wrap ((k:Int) - 1)=(p:Int):=by rw[IntWalk.i64_in _ (by omega)];omega
    have hw1n:(k:Int) - 1=(p:Int):=by omega
    have t3:decide (p<n)=true:=decide_eq_true hpl;have u2:IntKind.i64.wrap (ph:Int)=(ph:Int):=IntWalk.i64_in _ (by omega)
    have u3:IntKind.i64.wrap ((ph:Int)+2)=(ph:Int)+2:=IntWalk.i64_in _ (by omega)
    have HPH:Hid (p+1=k/\RgQ rs p ph):=⟨hp,hpr,hph⟩;have HPP:=Lib.hid (HP (by omega)).out
    clear hrow hk0 hp hpr hph p1;by_cases hle:lo<ph+2
    .have t4:decide ((lo:Int)<(ph:Int)+2)=true:=decide_eq_true (by omega)
     go_wp2_with fail;refine zAH (Below.refl wr.heap.size wr) (by kernel_rfl) (by kernel_rfl) ?_
     repeat (go_big_quiet_step (fail))
     refine wpQuiet_nil ?_;intro w2 hw';have hw2:Below wr.heap.size wr w2:=by obtain ⟨d9,rfl⟩:=hw';exact d9.property
     have HB2:=Lib.hid (HB.out.trans (hw2.mono HB.out.size));clear hw' hw2 d0 d1 d2 d3;go_wp2_with fail;go_ret;refine ⟨zAA ?_,HB2.out⟩;have hpk:k - 1=p:=by have:=HPH.out.1;omega
     rw[<-HR.out,zCP HL.out.1 (.inr ⟨by have:=HPH.out.1;omega,by
      have e1:(rs[k - 1]'(by have:=HL.out.1;omega)).2=ph:=by simp only[hpk];exact HPH.out.2.2
      rw[e1];have:=HL.out.2;omega⟩)];rfl
    .have t4:decide ((lo:Int)<(ph:Int)+2)=false:=decide_eq_false (by omega)
     go_wp2_with fail;refine zAH (Below.refl wr.heap.size wr) (by kernel_rfl) (by kernel_rfl) ?_
     repeat (go_big_quiet_step (fail))
     refine wpQuiet_nil ?_;intro w2 hw';have hw2:Below wr.heap.size wr w2:=by obtain ⟨d9,rfl⟩:=hw';exact d9.property
     have HB2:=Lib.hid (HB.out.trans (hw2.mono HB.out.size));clear hw' hw2 d0 d1 d2 d3;go_wp2_with fail;go_roundw
     case rel=>
      refine ⟨k+1,by omega,by go_num,?_,λh0=>⟨by simpa using HL.out.1,by simp only[Nat.add_sub_cancel];have:=HL.out.2;have:=HL.out.3;omega⟩,HB2.out⟩
      have hpk:k - 1=p:=by have:=HPH.out.1;omega
      refine (zB6 HL.out.1 (by have:=HL.out.2;have:=HL.out.3;omega) (λh0=>⟨HPP.out.2,?_⟩)).trans HR.out
      have e1:(rs[k - 1]'(by have:=HL.out.1;omega)).2=ph:=by simp only[hpk];exact HPH.out.2.2
      rw[e1];have:=HL.out.2;omega
     case measure=>simp[intOf];omega
  .obtain rfl:k=n:=by omega
   have hd:decide ((k:Int)<(k:Int))=false:=decide_eq_false (by omega)
   have hdn:decide (k<k)=false:=decide_eq_false (by omega)
   have he:rngF rs=true:=by
    rw[<-HR.out,<-HN.out];exact zFM λh0=>by
     obtain ⟨h2,h3⟩:=(HP (by have:=HN.out;omega)).out
     have hkk:rs.length - 1=k - 1:=by rw[HN.out]
     exact ⟨by omega,by simp only[hkk];exact h3⟩
   have HE:=Lib.hid he;clear he;by_cases h0:k=0
   .have e0:decide (0<(k:Int))=false:=decide_eq_false (by omega)
    have e0n:decide (0<k)=false:=decide_eq_false (by omega)
    have HK:=Lib.hid h0;clear h0;go_wp2_with fail;go_ret;exact ⟨zAA (by rw[HE.out,List.length_eq_zero_iff.1 (HN.out.trans HK.out)];rfl),HB.out⟩
   .have e0:decide (0<(k:Int))=true:=decide_eq_true (by omega)
    have e0n:decide (0<k)=true:=decide_eq_true (by omega)
    have HK:=Lib.hid h0;clear h0;go_wp2_with fail;go_ret;refine ⟨zAA ?_,HB.out⟩;rw[HE.out]
    cases hrs:rs with
    | nil=>exact absurd (by rw[<-HN.out,hrs];rfl) HK.out
    | cons a r=>rfl
set_option maxHeartbeats 4000000 in
theorem zIL (nd:Nd) (vs:List Value) (w:World) (hn:NdIn w nd vs):Calls Tryz.prog 90 #[.agg vs.toArray] w λe w'=>e = .returned (.bool (sevN nd))/\Below w.heap.size w w':=by
 obtain ⟨op,rs,kids,mn,mx⟩:=nd;obtain ⟨v1,v2,rfl,hr,A,c,rfl,hc,hk⟩:=hn;obtain ⟨A1,c1,rfl,hc1,-⟩:=hr;obtain ⟨rl,hrl⟩:∃n,rs.length=n:=⟨_,rfl⟩;obtain ⟨kl,hkl⟩:∃n,kids.length=n:=⟨_,rfl⟩;have HK:=Lib.hid hk;have HL:=Lib.hid (And.intro hrl hkl);rw[hrl]at hc1|-;rw[hkl]at hc|-;clear hrl hkl hk
 go_enter Tryz.func90,Tryz.ntmps90
 go_wp2_with fail;refine zBl λW0 hW0=>?_;have hb0:Below w.heap.size w W0:=by rw[hW0];exact (Below.refl _ _).alloc (Nat.le_refl _) _
 have hX0:W0.heap[w.heap.size]?=some (.cells #[.int .i64 op, .slice A1 rl c1, .slice A kl c, .int .i64 mn, .int .i64 mx] 29 (0,0)):=by rw[hW0];exact heap_alloc_new w _
 have HB0:=Lib.hid (And.intro hb0 hX0);clear hW0 hb0 hX0
 go_loopw [3] (λiv wr=>∃(k:Nat),k<=kl/\iv = .int .i64 (k:Int)/\Hid (((kids.take k).any λx=>x.op == op)=false)/\Hid (Below w.heap.size w wr/\wr.heap[w.heap.size]?=some (.cells #[.int .i64 op, .slice A1 rl c1, .slice A kl c, .int .i64 mn, .int .i64 mx] 29 (0,0)))) (λiv _=>kl - (intOf iv).toNat)
 case atStart=>exact ⟨0,by omega,rfl,rfl,HB0.out⟩
 case round=>
  obtain ⟨k,hkk,rfl,HO,HB⟩:=hrel;obtain ⟨b0,b1,b2,b3,b4⟩:=zAB HB.out.2;have lb:w.heap.size<wr.heap.size:=(Array.getElem?_eq_some_iff.1 HB.out.2).1;by_cases hlt:k<kl
  .have hd:decide ((k:Int)<(kl:Int))=true:=decide_eq_true (by omega)
   have hdn:decide (k<kl)=true:=decide_eq_true hlt;have hkl:k<kids.length:=by rw[HL.out.2];exact hlt
   obtain ⟨g,f,hA,hg,hkd⟩:=HK.out.resolve_left (by intro e;rw[e]at hkl;simp at hkl)
   subst hA;obtain ⟨vs,hcv,hnd⟩:=hkd.at k hkl;obtain ⟨B1,e1,B2,e2,rfl,-,-,-⟩:=hnd.form;obtain ⟨ko,hko⟩:∃o,kids[k].op=o:=⟨_,rfl⟩;rw[hko]at hcv;have q0:wr.cell? ⟨g,f+k*5,none⟩=some (.int .i64 ko):=by
    have h9:=(HB.out.1.cell (p:=⟨g,f+k*5+0,none⟩) hg).trans (hcv 0 (by omega))
    rw[Nat.add_zero]at h9;exact h9
   have lg:g<wr.heap.size:=Nat.lt_of_lt_of_le hg HB.out.1.size;have d0:∀d:BelT wr.heap.size wr,d.val.cell? ⟨g,f+k*5,none⟩=some (.int .i64 ko):=λd=>(d.property.cell (p:=⟨g,f+k*5,none⟩) lg).trans q0;have d1:∀d:BelT wr.heap.size wr,d.val.cell? ⟨w.heap.size,0,none⟩=some (.int .i64 op):=λd=>(d.property.cell (p:=⟨w.heap.size,0,none⟩) lb).trans b0;have d2:∀d:BelT wr.heap.size wr,d.val.cell? ⟨w.heap.size,2,none⟩=some (.slice (some ⟨g,f,none⟩) kl c):=λd=>(d.property.cell (p:=⟨w.heap.size,2,none⟩) lb).trans b2;have d3:∀d:BelT wr.heap.size wr,w.heap.size<d.val.heap.size:=λd=>Nat.lt_of_lt_of_le lb d.property.size;have d4:∀d:BelT wr.heap.size wr,g<d.val.heap.size:=λd=>Nat.lt_of_lt_of_le lg d.property.size;have hst:((kids.take (k+1)).any λx=>x.op == op)=(ko == op):=by
    rw[List.take_succ_eq_append_getElem hkl,List.any_append,HO.out];simp[hko]
   have HST:=Lib.hid hst;have HKL:=Lib.hid hkl;clear hcv hnd hkd hko q0 hst hkl;by_cases he:ko=op
   .have t1:(ko == op)=true:=by simp[he]
    have HE:=Lib.hid t1;clear he;go_wp2_with fail;refine zAH (Below.refl wr.heap.size wr) (by kernel_rfl) (by kernel_rfl) ?_
    repeat (go_big_quiet_step (fail))
    refine wpQuiet_nil ?_;intro w2 hw';have hw2:Below wr.heap.size wr w2:=by obtain ⟨d9,rfl⟩:=hw';exact d9.property
    have HB2:=Lib.hid (HB.out.1.trans (hw2.mono HB.out.1.size));clear hw' hw2 d0 d1 d2 d3 d4 b0 b1 b2 b3 b4;go_wp2_with fail;go_ret;refine ⟨zAA ?_,HB2.out⟩;have h9:(kids.any λx=>x.op == op)=true:=by
     have h8:=HST.out.trans HE.out;rw[List.any_eq_true]at h8|-;obtain ⟨x,hx,hx2⟩:=h8;exact ⟨x,List.mem_of_mem_take hx,hx2⟩
    show false=(decide (2<=kids.length) && (rs.isEmpty && (decide (mn=0) && (decide (mx=0) && !(kids.any λx=>x.op == op)))));rw[h9];simp
   .have t1:(ko == op)=false:=by simp[he]
    have HE:=Lib.hid t1;clear he;go_wp2_with fail;refine zAH (Below.refl wr.heap.size wr) (by kernel_rfl) (by kernel_rfl) ?_
    repeat (go_big_quiet_step (fail))
    refine wpQuiet_nil ?_;intro w2 hw';have hw2:Below wr.heap.size wr w2:=by obtain ⟨d9,rfl⟩:=hw';exact d9.property
    have HB2:=Lib.hid (And.intro (HB.out.1.trans (hw2.mono HB.out.1.size)) ((hw2.block w.heap.size lb).trans HB.out.2));clear hw' hw2 d0 d1 d2 d3 d4 b0 b1 b2 b3 b4;go_wp2_with fail;go_roundw
    case rel=>exact ⟨k+1,by omega,by go_num,HST.out.trans HE.out,HB2.out⟩
    case measure=>simp[intOf];omega
  .obtain rfl:k=kl:=by omega
   have hd:decide ((k:Int)<(k:Int))=false:=decide_eq_false (by omega)
   have hdn:decide (k<k)=false:=decide_eq_false (by omega)
   have hany:(kids.any λx=>x.op == op)=false:=by have h9:=HO.out;rw[List.take_of_length_le (by have:=HL.out.2;omega)]at h9;exact h9
   have hsv:sevN (.mk op rs kids mn mx)=(decide (2<=k) && (decide (rl=0) && (decide (mn=0) && decide (mx=0)))):=by
    show (decide (2<=kids.length) && (rs.isEmpty && (decide (mn=0) && (decide (mx=0) && !(kids.any λx=>x.op == op)))))=_;rw[hany,HL.out.2,<-HL.out.1]
    cases rs <;> simp
   have HSV:=Lib.hid hsv;clear hany hsv;by_cases h1:2<=k
   .have t1:decide ((2:Int)<=(k:Int))=true:=decide_eq_true (by omega)
    have t1n:decide (2<=k)=true:=decide_eq_true h1;by_cases h2:rl=0
    .have t2:((rl:Int) == 0)=true:=by simp[h2]
     have H2:=Lib.hid h2;clear h2;by_cases h3:mn=0
     .have t3:(mn == 0)=true:=by simp[h3]
      have H3:=Lib.hid h3;clear h3;by_cases h4:mx=0
      .have t4:(mx == 0)=true:=by simp[h4]
       have H4:=Lib.hid h4;clear h4;go_wp2_with fail;go_ret;exact ⟨zAA (by rw[HSV.out,decide_eq_true h1,decide_eq_true H2.out,decide_eq_true H3.out,decide_eq_true H4.out];rfl),HB.out.1⟩
      .have t4:(mx == 0)=false:=by simp[h4]
       have H4:=Lib.hid h4;clear h4;go_wp2_with fail;go_ret;exact ⟨zAA (by rw[HSV.out,decide_eq_false H4.out];simp),HB.out.1⟩
     .have t3:(mn == 0)=false:=by simp[h3]
      have H3:=Lib.hid h3;clear h3;go_wp2_with fail;go_ret;exact ⟨zAA (by rw[HSV.out,decide_eq_false H3.out];simp),HB.out.1⟩
    .have t2:((rl:Int) == 0)=false:=by simp;omega
     have H2:=Lib.hid h2;clear h2;go_wp2_with fail;go_ret;exact ⟨zAA (by rw[HSV.out,decide_eq_false H2.out];simp),HB.out.1⟩
   .have t1:decide ((2:Int)<=(k:Int))=false:=decide_eq_false (by omega)
    have t1n:decide (2<=k)=false:=decide_eq_false h1;go_wp2_with fail;go_ret;exact ⟨zAA (by rw[HSV.out,t1n];rfl),HB.out.1⟩
set_option maxHeartbeats 16000000 in
theorem zHG:∀(m:Nat) (nd:Nd) (vs:List Value) (w:World),zAE nd<=m->NdIn w nd vs->Calls Tryz.prog 59 #[.agg vs.toArray] w λe w'=>e = .returned (.bool (zAF nd))/\Below w.heap.size w w':=by
 intro m
 induction m with
 | zero=>intro nd vs w h;cases nd;rw[zAE]at h;omega
 | succ m ih=>
  rintro ⟨op,rs,kids,mn,mx⟩ vs w h hn;have HN:=Lib.hid hn;obtain ⟨v1,v2,rfl,hr,A,c,rfl,hc,hk⟩:=hn;have HRG:=Lib.hid hr;obtain ⟨A1,c1,rfl,hc1,-⟩:=hr;have hT:zAE (.mk op rs kids mn mx)=1+zAS kids:=by rw[zAE]
  rw[hT]at h;have HM:=Lib.hid h;obtain ⟨rl,hrl⟩:∃n,rs.length=n:=⟨_,rfl⟩;obtain ⟨kl,hkl⟩:∃n,kids.length=n:=⟨_,rfl⟩;have HK:=Lib.hid hk;have HL:=Lib.hid (And.intro hrl hkl);have HRF:=Lib.hid (show zAF (.mk op rs kids mn mx)=(zAq (.mk op rs kids mn mx) && zAP kids) by rw[zAF])
  rw[hrl]at hc1 HRG|-;rw[hkl]at hc|-;clear hrl hkl hk hT h
  go_enter Tryz.func59,Tryz.ntmps59
  by_cases o1:op=1
  .subst o1;have HNN:Hid (zAq (.mk 1 rs kids mn mx)=((rngF rs && !rs.isEmpty) && (decide (kl=0) && (decide (mn=0) && decide (mx=0))))):=by
    show _=_;rw[zGy rfl];unfold setN;show (rngF rs && (!rs.isEmpty && (decide (kids.length=0) && (decide (mn=0) && decide (mx=0)))))=_;rw[HL.out.2]
    cases rngF rs <;> cases rs.isEmpty <;> rfl
   go_wp2_with fail;refine zAM λW0 hW0=>?_;have hb0:Below w.heap.size w W0:=by rw[hW0];exact (Below.refl _ _).alloc (Nat.le_refl _) _
   have hX0:W0.heap[w.heap.size]?=some (.cells #[.int .i64 1, .slice A1 rl c1, .slice A kl c, .int .i64 mn, .int .i64 mx] 29 (0,0)):=by rw[hW0];exact heap_alloc_new w _
   have lb0:w.heap.size<W0.heap.size:=(Array.getElem?_eq_some_iff.1 hX0).1;have HB0:=Lib.hid (And.intro hb0 hX0);obtain ⟨b0,b1,b2,b3,b4⟩:=zAB hX0;clear hW0 hb0 hX0;have HRA:=Lib.hid (zFe _ rs W0 (HRG.out.later HB0.out.1));obtain ⟨x,hx⟩:∃x,(rngF rs && !rs.isEmpty)=x:=⟨_,rfl⟩;rw[hx]at HNN HRA;clear hx;refine (HRA.out).mono ?_;rintro e w1 ⟨rfl,hb1⟩;have HB1:=Lib.hid (And.intro (HB0.out.1.trans (hb1.mono HB0.out.1.size)) ((hb1.block _ lb0).trans HB0.out.2));clear hb1 b0 b1 b2 b3 b4;obtain ⟨b0,b1,b2,b3,b4⟩:=zAB HB1.out.2;have lb1:w.heap.size<w1.heap.size:=(Array.getElem?_eq_some_iff.1 HB1.out.2).1
   cases x with
   | false=>
    go_wp2_with fail;refine wp_loop_rounds 1 ?_;rw[rounds_succ];by_cases h0:0<kl
    .have z1:decide ((0:Int)<(kl:Int))=true:=decide_eq_true (by omega)
     have z1n:decide (0<kl)=true:=decide_eq_true h0;go_wp2_with fail;go_ret;exact ⟨zAA (by rw[HRF.out,HNN.out];simp),HB1.out.1⟩
    .have z1:decide ((0:Int)<(kl:Int))=false:=decide_eq_false (by omega)
     have z1n:decide (0<kl)=false:=decide_eq_false h0;go_wp2_with fail;go_ret;exact ⟨zAA (by rw[HRF.out,HNN.out];simp),HB1.out.1⟩
   | true=>
    by_cases c1h:kl=0
    .have t1:((kl:Int) == 0)=true:=by simp[c1h]
     have Hc1h:=Lib.hid c1h;clear c1h;by_cases c2h:mn=0
     .have t2:(mn == 0)=true:=by simp[c2h]
      have Hc2h:=Lib.hid c2h;clear c2h;by_cases c3h:mx=0
      .have t3:(mx == 0)=true:=by simp[c3h]
       have Hc3h:=Lib.hid c3h;clear c3h;go_wp2_with fail;have HRT:=Lib.hid (show zAF (.mk 1 rs kids mn mx)=zAP kids by rw[HRF.out,HNN.out,decide_eq_true Hc1h.out,decide_eq_true Hc2h.out,decide_eq_true Hc3h.out];rfl)
       go_loopw [4,3] (λiv ov wr=>∃(k:Nat) (b:Bool),k<=kl/\iv = .int .i64 (k:Int)/\ov = .bool b/\Hid ((b && zAP (kids.drop k))=zAP kids)/\Hid (Below w.heap.size w wr/\wr.heap[w.heap.size]?=some (.cells #[.int .i64 1, .slice A1 rl c1, .slice A kl c, .int .i64 mn, .int .i64 mx] 29 (0,0)))) (λiv _ _=>kl - (intOf iv).toNat)
       case atStart=>exact ⟨0,true,by omega,rfl,rfl,rfl,HB1.out⟩
       case round=>
        obtain ⟨k,b,hkk,rfl,rfl,HO,HB⟩:=hrel;obtain ⟨b0,b1,b2,b3,b4⟩:=zAB HB.out.2;have lb:w.heap.size<wr.heap.size:=(Array.getElem?_eq_some_iff.1 HB.out.2).1;by_cases hlt:k<kl
        .have hd:decide ((k:Int)<(kl:Int))=true:=decide_eq_true (by omega)
         have hdn:decide (k<kl)=true:=decide_eq_true hlt
         cases b with
         | false=>
          go_wp2_with fail;go_ret;exact ⟨zAA (by rw[HRT.out,<-HO.out];rfl),HB.out.1⟩
         | true=>
          have hkl:k<kids.length:=by rw[HL.out.2];exact hlt
          obtain ⟨g,f,hA,hg,hkd⟩:=HK.out.resolve_left (by intro e;rw[e]at hkl;simp at hkl)
          subst hA;obtain ⟨vs,hcv,hnd⟩:=hkd.at k hkl;have hmem:=zAG (List.getElem_mem hkl);have hdr:zAP (kids.drop k)=(zAF kids[k] && zAP (kids.drop (k+1))):=by rw[List.drop_eq_getElem_cons hkl,zAP]
          obtain ⟨kd,hkd2⟩:∃kd,kids[k]=kd:=⟨_,rfl⟩;rw[hkd2]at hnd hmem hdr;obtain ⟨B1,e1,B2,e2,rfl,-,-,-⟩:=hnd.form;have q:∀j,j<5->wr.cell? ⟨g,f+k*5+j,none⟩=([.int .i64 kd.op, .slice B1 kd.rs.length e1, .slice B2 kd.kids.length e2, .int .i64 kd.mn, .int .i64 kd.mx]:List Value)[j]?:=λj hj=>(HB.out.1.cell (p:=⟨g,f+k*5+j,none⟩) hg).trans (hcv j hj);have q0:=q 0 (by omega);have q1:=q 1 (by omega);have q2:=q 2 (by omega);have q3:=q 3 (by omega);have q4:=q 4 (by omega)
          simp only[Nat.add_zero,List.getElem?_cons_zero,List.getElem?_cons_succ]at q0 q1 q2 q3 q4;have lg:g<wr.heap.size:=Nat.lt_of_lt_of_le hg HB.out.1.size;have HI:=Lib.hid (ih kd _ wr (by have:=HM.out;omega) (hnd.later HB.out.1))
          have HD:=Lib.hid hdr;clear q hcv hnd hkd2 hkd hdr hkl;go_wp2_with fail;refine HI.out.mono ?_;rintro e w7 ⟨rfl,hb7⟩;obtain ⟨x,hx⟩:∃x,zAF kd=x:=⟨_,rfl⟩;rw[hx];have HX:=Lib.hid hx;have HB7:=Lib.hid (And.intro (HB.out.1.trans (hb7.mono HB.out.1.size)) ((hb7.block _ lb).trans HB.out.2));clear hb7 hx hmem q0 q1 q2 q3 q4 b0 b1 b2 b3 b4;go_wp2_with fail;go_roundw
          case rel=>exact ⟨k+1,x,by omega,by go_num,rfl,by have h9:=HO.out;rw[Bool.true_and,HD.out,HX.out]at h9;exact h9,HB7⟩
          case measure=>simp[intOf];omega
        .obtain rfl:k=kl:=by omega
         have hd:decide ((k:Int)<(k:Int))=false:=decide_eq_false (by omega)
         have hdn:decide (k<k)=false:=decide_eq_false (by omega)
         go_wp2_with fail;go_ret;exact ⟨zAA (by have h9:=HO.out; rw[List.drop_of_length_le (by have:=HL.out.2; omega)]at h9; rw[HRT.out,<-h9]; cases b <;> rfl),HB.out.1⟩
      .have t3:(mx == 0)=false:=by simp[c3h]
       have Hc3h:=Lib.hid c3h;clear c3h;go_wp2_with fail;refine wp_loop_rounds 1 ?_;rw[rounds_succ];by_cases h0:0<kl
       .have z1:decide ((0:Int)<(kl:Int))=true:=decide_eq_true (by omega)
        have z1n:decide (0<kl)=true:=decide_eq_true h0;go_wp2_with fail;go_ret;exact ⟨zAA (by rw[HRF.out,HNN.out,decide_eq_false Hc3h.out];simp),HB1.out.1⟩
       .have z1:decide ((0:Int)<(kl:Int))=false:=decide_eq_false (by omega)
        have z1n:decide (0<kl)=false:=decide_eq_false h0;go_wp2_with fail;go_ret;exact ⟨zAA (by rw[HRF.out,HNN.out,decide_eq_false Hc3h.out];simp),HB1.out.1⟩
     .have t2:(mn == 0)=false:=by simp[c2h]
      have Hc2h:=Lib.hid c2h;clear c2h;go_wp2_with fail;refine wp_loop_rounds 1 ?_;rw[rounds_succ];by_cases h0:0<kl
      .have z1:decide ((0:Int)<(kl:Int))=true:=decide_eq_true (by omega)
       have z1n:decide (0<kl)=true:=decide_eq_true h0;go_wp2_with fail;go_ret;exact ⟨zAA (by rw[HRF.out,HNN.out,decide_eq_false Hc2h.out];simp),HB1.out.1⟩
      .have z1:decide ((0:Int)<(kl:Int))=false:=decide_eq_false (by omega)
       have z1n:decide (0<kl)=false:=decide_eq_false h0;go_wp2_with fail;go_ret;exact ⟨zAA (by rw[HRF.out,HNN.out,decide_eq_false Hc2h.out];simp),HB1.out.1⟩
    .have t1:((kl:Int) == 0)=false:=by simp;omega
     have Hc1h:=Lib.hid c1h;clear c1h;go_wp2_with fail;refine wp_loop_rounds 1 ?_;rw[rounds_succ];by_cases h0:0<kl
     .have z1:decide ((0:Int)<(kl:Int))=true:=decide_eq_true (by omega)
      have z1n:decide (0<kl)=true:=decide_eq_true h0;go_wp2_with fail;go_ret;exact ⟨zAA (by rw[HRF.out,HNN.out,decide_eq_false Hc1h.out];simp),HB1.out.1⟩
     .have z1:decide ((0:Int)<(kl:Int))=false:=decide_eq_false (by omega)
      have z1n:decide (0<kl)=false:=decide_eq_false h0;go_wp2_with fail;go_ret;exact ⟨zAA (by rw[HRF.out,HNN.out,decide_eq_false Hc1h.out];simp),HB1.out.1⟩
  .have n1:(op == 1)=false:=by simp[o1]
   by_cases o23:op=2\/op=3
   .have HNN:=Lib.hid (zCb (nd:=.mk op rs kids mn mx) o23);have HKD:=Lib.hid λW (hb:Below w.heap.size w W)=>zIL (.mk op rs kids mn mx) _ W (HN.out.later hb);obtain ⟨x,hx⟩:∃x,sevN (.mk op rs kids mn mx)=x:=⟨_,rfl⟩;rw[hx]at HNN HKD;rw[HL.out.1,HL.out.2]at HKD;clear hx;by_cases o2:op=2
    .have n2:(op == 2)=true:=by simp[o2]
     clear o1 o2 o23;go_wp2_with fail;refine zAM λW0 hW0=>?_;have hb0:Below w.heap.size w W0:=by rw[hW0];exact (Below.refl _ _).alloc (Nat.le_refl _) _
     have hX0:W0.heap[w.heap.size]?=some (.cells #[.int .i64 op, .slice A1 rl c1, .slice A kl c, .int .i64 mn, .int .i64 mx] 29 (0,0)):=by rw[hW0];exact heap_alloc_new w _
     have lb0:w.heap.size<W0.heap.size:=(Array.getElem?_eq_some_iff.1 hX0).1;have HB0:=Lib.hid (And.intro hb0 hX0);obtain ⟨b0,b1,b2,b3,b4⟩:=zAB hX0;clear hW0 hb0 hX0;refine (HKD.out W0 HB0.out.1).mono ?_;rintro e w1 ⟨rfl,hb1⟩;have HB1:=Lib.hid (And.intro (HB0.out.1.trans (hb1.mono HB0.out.1.size)) ((hb1.block _ lb0).trans HB0.out.2));clear hb1 b0 b1 b2 b3 b4;obtain ⟨b0,b1,b2,b3,b4⟩:=zAB HB1.out.2;have lb1:w.heap.size<w1.heap.size:=(Array.getElem?_eq_some_iff.1 HB1.out.2).1
     cases x with
     | false=>
      go_wp2_with fail;refine wp_loop_rounds 1 ?_;rw[rounds_succ];by_cases h0:0<kl
      .have z1:decide ((0:Int)<(kl:Int))=true:=decide_eq_true (by omega)
       have z1n:decide (0<kl)=true:=decide_eq_true h0;go_wp2_with fail;go_ret;exact ⟨zAA (by rw[HRF.out,HNN.out];rfl),HB1.out.1⟩
      .have z1:decide ((0:Int)<(kl:Int))=false:=decide_eq_false (by omega)
       have z1n:decide (0<kl)=false:=decide_eq_false h0;go_wp2_with fail;go_ret;exact ⟨zAA (by rw[HRF.out,HNN.out];rfl),HB1.out.1⟩
     | true=>
      go_wp2_with fail;have HRT:=Lib.hid (show zAF (.mk op rs kids mn mx)=zAP kids by rw[HRF.out,HNN.out];rfl)
      go_loopw [4,3] (λiv ov wr=>∃(k:Nat) (b:Bool),k<=kl/\iv = .int .i64 (k:Int)/\ov = .bool b/\Hid ((b && zAP (kids.drop k))=zAP kids)/\Hid (Below w.heap.size w wr/\wr.heap[w.heap.size]?=some (.cells #[.int .i64 op, .slice A1 rl c1, .slice A kl c, .int .i64 mn, .int .i64 mx] 29 (0,0)))) (λiv _ _=>kl - (intOf iv).toNat)
      case atStart=>exact ⟨0,true,by omega,rfl,rfl,rfl,HB1.out⟩
      case round=>
       obtain ⟨k,b,hkk,rfl,rfl,HO,HB⟩:=hrel;obtain ⟨b0,b1,b2,b3,b4⟩:=zAB HB.out.2;have lb:w.heap.size<wr.heap.size:=(Array.getElem?_eq_some_iff.1 HB.out.2).1;by_cases hlt:k<kl
       .have hd:decide ((k:Int)<(kl:Int))=true:=decide_eq_true (by omega)
        have hdn:decide (k<kl)=true:=decide_eq_true hlt
        cases b with
        | false=>
         go_wp2_with fail;go_ret;exact ⟨zAA (by rw[HRT.out,<-HO.out];rfl),HB.out.1⟩
        | true=>
         have hkl:k<kids.length:=by rw[HL.out.2];exact hlt
         obtain ⟨g,f,hA,hg,hkd⟩:=HK.out.resolve_left (by intro e;rw[e]at hkl;simp at hkl)
         subst hA;obtain ⟨vs,hcv,hnd⟩:=hkd.at k hkl;have hmem:=zAG (List.getElem_mem hkl);have hdr:zAP (kids.drop k)=(zAF kids[k] && zAP (kids.drop (k+1))):=by rw[List.drop_eq_getElem_cons hkl,zAP]
         obtain ⟨kd,hkd2⟩:∃kd,kids[k]=kd:=⟨_,rfl⟩;rw[hkd2]at hnd hmem hdr;obtain ⟨B1,e1,B2,e2,rfl,-,-,-⟩:=hnd.form;have q:∀j,j<5->wr.cell? ⟨g,f+k*5+j,none⟩=([.int .i64 kd.op, .slice B1 kd.rs.length e1, .slice B2 kd.kids.length e2, .int .i64 kd.mn, .int .i64 kd.mx]:List Value)[j]?:=λj hj=>(HB.out.1.cell (p:=⟨g,f+k*5+j,none⟩) hg).trans (hcv j hj);have q0:=q 0 (by omega);have q1:=q 1 (by omega);have q2:=q 2 (by omega);have q3:=q 3 (by omega);have q4:=q 4 (by omega)
         simp only[Nat.add_zero,List.getElem?_cons_zero,List.getElem?_cons_succ]at q0 q1 q2 q3 q4;have lg:g<wr.heap.size:=Nat.lt_of_lt_of_le hg HB.out.1.size;have HI:=Lib.hid (ih kd _ wr (by have:=HM.out;omega) (hnd.later HB.out.1))
         have HD:=Lib.hid hdr;clear q hcv hnd hkd2 hkd hdr hkl;go_wp2_with fail;refine HI.out.mono ?_;rintro e w7 ⟨rfl,hb7⟩;obtain ⟨x,hx⟩:∃x,zAF kd=x:=⟨_,rfl⟩;rw[hx];have HX:=Lib.hid hx;have HB7:=Lib.hid (And.intro (HB.out.1.trans (hb7.mono HB.out.1.size)) ((hb7.block _ lb).trans HB.out.2));clear hb7 hx hmem q0 q1 q2 q3 q4 b0 b1 b2 b3 b4;go_wp2_with fail;go_roundw
         case rel=>exact ⟨k+1,x,by omega,by go_num,rfl,by have h9:=HO.out;rw[Bool.true_and,HD.out,HX.out]at h9;exact h9,HB7⟩
         case measure=>simp[intOf];omega
       .obtain rfl:k=kl:=by omega
        have hd:decide ((k:Int)<(k:Int))=false:=decide_eq_false (by omega)
        have hdn:decide (k<k)=false:=decide_eq_false (by omega)
        go_wp2_with fail;go_ret;exact ⟨zAA (by have h9:=HO.out; rw[List.drop_of_length_le (by have:=HL.out.2; omega)]at h9; rw[HRT.out,<-h9]; cases b <;> rfl),HB.out.1⟩
    .have n2:(op == 2)=false:=by simp[o2]
     have n3:(op == 3)=true:=by
      have:op=3:=by omega
      simp[this]
     clear o1 o2 o23;go_wp2_with fail;refine zAM λW0 hW0=>?_;have hb0:Below w.heap.size w W0:=by rw[hW0];exact (Below.refl _ _).alloc (Nat.le_refl _) _
     have hX0:W0.heap[w.heap.size]?=some (.cells #[.int .i64 op, .slice A1 rl c1, .slice A kl c, .int .i64 mn, .int .i64 mx] 29 (0,0)):=by rw[hW0];exact heap_alloc_new w _
     have lb0:w.heap.size<W0.heap.size:=(Array.getElem?_eq_some_iff.1 hX0).1;have HB0:=Lib.hid (And.intro hb0 hX0);obtain ⟨b0,b1,b2,b3,b4⟩:=zAB hX0;clear hW0 hb0 hX0;refine (HKD.out W0 HB0.out.1).mono ?_;rintro e w1 ⟨rfl,hb1⟩;have HB1:=Lib.hid (And.intro (HB0.out.1.trans (hb1.mono HB0.out.1.size)) ((hb1.block _ lb0).trans HB0.out.2));clear hb1 b0 b1 b2 b3 b4;obtain ⟨b0,b1,b2,b3,b4⟩:=zAB HB1.out.2;have lb1:w.heap.size<w1.heap.size:=(Array.getElem?_eq_some_iff.1 HB1.out.2).1
     cases x with
     | false=>
      go_wp2_with fail;refine wp_loop_rounds 1 ?_;rw[rounds_succ];by_cases h0:0<kl
      .have z1:decide ((0:Int)<(kl:Int))=true:=decide_eq_true (by omega)
       have z1n:decide (0<kl)=true:=decide_eq_true h0;go_wp2_with fail;go_ret;exact ⟨zAA (by rw[HRF.out,HNN.out];rfl),HB1.out.1⟩
      .have z1:decide ((0:Int)<(kl:Int))=false:=decide_eq_false (by omega)
       have z1n:decide (0<kl)=false:=decide_eq_false h0;go_wp2_with fail;go_ret;exact ⟨zAA (by rw[HRF.out,HNN.out];rfl),HB1.out.1⟩
     | true=>
      go_wp2_with fail;have HRT:=Lib.hid (show zAF (.mk op rs kids mn mx)=zAP kids by rw[HRF.out,HNN.out];rfl)
      go_loopw [4,3] (λiv ov wr=>∃(k:Nat) (b:Bool),k<=kl/\iv = .int .i64 (k:Int)/\ov = .bool b/\Hid ((b && zAP (kids.drop k))=zAP kids)/\Hid (Below w.heap.size w wr/\wr.heap[w.heap.size]?=some (.cells #[.int .i64 op, .slice A1 rl c1, .slice A kl c, .int .i64 mn, .int .i64 mx] 29 (0,0)))) (λiv _ _=>kl - (intOf iv).toNat)
      case atStart=>exact ⟨0,true,by omega,rfl,rfl,rfl,HB1.out⟩
      case round=>
       obtain ⟨k,b,hkk,rfl,rfl,HO,HB⟩:=hrel;obtain ⟨b0,b1,b2,b3,b4⟩:=zAB HB.out.2;have lb:w.heap.size<wr.heap.size:=(Array.getElem?_eq_some_iff.1 HB.out.2).1;by_cases hlt:k<kl
       .have hd:decide ((k:Int)<(kl:Int))=true:=decide_eq_true (by omega)
        have hdn:decide (k<kl)=true:=decide_eq_true hlt
        cases b with
        | false=>
         go_wp2_with fail;go_ret;exact ⟨zAA (by rw[HRT.out,<-HO.out];rfl),HB.out.1⟩
        | true=>
         have hkl:k<kids.length:=by rw[HL.out.2];exact hlt
         obtain ⟨g,f,hA,hg,hkd⟩:=HK.out.resolve_left (by intro e;rw[e]at hkl;simp at hkl)
         subst hA;obtain ⟨vs,hcv,hnd⟩:=hkd.at k hkl;have hmem:=zAG (List.getElem_mem hkl);have hdr:zAP (kids.drop k)=(zAF kids[k] && zAP (kids.drop (k+1))):=by rw[List.drop_eq_getElem_cons hkl,zAP]
         obtain ⟨kd,hkd2⟩:∃kd,kids[k]=kd:=⟨_,rfl⟩;rw[hkd2]at hnd hmem hdr;obtain ⟨B1,e1,B2,e2,rfl,-,-,-⟩:=hnd.form;have q:∀j,j<5->wr.cell? ⟨g,f+k*5+j,none⟩=([.int .i64 kd.op, .slice B1 kd.rs.length e1, .slice B2 kd.kids.length e2, .int .i64 kd.mn, .int .i64 kd.mx]:List Value)[j]?:=λj hj=>(HB.out.1.cell (p:=⟨g,f+k*5+j,none⟩) hg).trans (hcv j hj);have q0:=q 0 (by omega);have q1:=q 1 (by omega);have q2:=q 2 (by omega);have q3:=q 3 (by omega);have q4:=q 4 (by omega)
         simp only[Nat.add_zero,List.getElem?_cons_zero,List.getElem?_cons_succ]at q0 q1 q2 q3 q4;have lg:g<wr.heap.size:=Nat.lt_of_lt_of_le hg HB.out.1.size;have HI:=Lib.hid (ih kd _ wr (by have:=HM.out;omega) (hnd.later HB.out.1))
         have HD:=Lib.hid hdr;clear q hcv hnd hkd2 hkd hdr hkl;go_wp2_with fail;refine HI.out.mono ?_;rintro e w7 ⟨rfl,hb7⟩;obtain ⟨x,hx⟩:∃x,zAF kd=x:=⟨_,rfl⟩;rw[hx];have HX:=Lib.hid hx;have HB7:=Lib.hid (And.intro (HB.out.1.trans (hb7.mono HB.out.1.size)) ((hb7.block _ lb).trans HB.out.2));clear hb7 hx hmem q0 q1 q2 q3 q4 b0 b1 b2 b3 b4;go_wp2_with fail;go_roundw
         case rel=>exact ⟨k+1,x,by omega,by go_num,rfl,by have h9:=HO.out;rw[Bool.true_and,HD.out,HX.out]at h9;exact h9,HB7⟩
         case measure=>simp[intOf];omega
       .obtain rfl:k=kl:=by omega
        have hd:decide ((k:Int)<(k:Int))=false:=decide_eq_false (by omega)
        have hdn:decide (k<k)=false:=decide_eq_false (by omega)
        go_wp2_with fail;go_ret;exact ⟨zAA (by have h9:=HO.out; rw[List.drop_of_length_le (by have:=HL.out.2; omega)]at h9; rw[HRT.out,<-h9]; cases b <;> rfl),HB.out.1⟩
   .have n2:(op == 2)=false:=by simp;omega
    have n3:(op == 3)=false:=by simp;omega
    by_cases o4:op=4
    .subst o4;have HNN:Hid (zAq (.mk 4 rs kids mn mx)=(decide (kl=1) && (decide (rl=0) && (decide (0<=mn) && (decide (1<=mx) && (decide (mn<=mx) && (decide (mx<=64) && !(decide (mn=1) && decide (mx=1))))))))):=by
      show _=_;rw[zEo rfl];show (decide (kids.length=1) && (rs.isEmpty && (decide (0<=mn) && (decide (1<=mx) && (decide (mn<=mx) && (decide (mx<=64) && !(decide (mn=1) && decide (mx=1))))))))=_;rw[HL.out.2,<-HL.out.1]
      congr 2
      cases rs <;> simp
     clear n1 n2 n3 o1 o23;have hb0:Below w.heap.size w (w.alloc (.cells #[.int .i64 4, .slice A1 rl c1, .slice A kl c, .int .i64 mn, .int .i64 mx] 29)):=(Below.refl _ _).alloc (Nat.le_refl _) _;have HB0:=Lib.hid (And.intro hb0 (heap_alloc_new w (.cells #[.int .i64 4, .slice A1 rl c1, .slice A kl c, .int .i64 mn, .int .i64 mx] 29)));clear hb0;by_cases g1:kl=1
     .have t1:((kl:Int) == 1)=true:=by simp;omega
      have Hg1:=Lib.hid g1;clear g1;by_cases g2:rl=0
      .have t2:((rl:Int) == 0)=true:=by simp;omega
       have Hg2:=Lib.hid g2;clear g2;by_cases g3:0<=mn
       .have t3:decide (0<=mn)=true:=decide_eq_true g3;have Hg3:=Lib.hid g3;clear g3;by_cases g4:1<=mx
        .have t4:decide (1<=mx)=true:=decide_eq_true g4;have Hg4:=Lib.hid g4;clear g4;by_cases g5:mn<=mx
         .have t5:decide (mn<=mx)=true:=decide_eq_true g5;have Hg5:=Lib.hid g5;clear g5;by_cases g6:mx<=64
          .have t6:decide (mx<=64)=true:=decide_eq_true g6;have Hg6:=Lib.hid g6;clear g6;by_cases g7:mn=1
           .have t7:(mn != 1)=false:=by simp[g7]
            have Hg7:=Lib.hid g7;clear g7;by_cases g8:mx=1
            .have t8:(mx != 1)=false:=by simp[g8]
             have Hg8:=Lib.hid g8;clear g8;go_wp2_with fail;refine wp_loop_rounds 1 ?_;rw[rounds_succ];by_cases h0:0<kl
             .have z1:decide ((0:Int)<(kl:Int))=true:=decide_eq_true (by omega)
              have z1n:decide (0<kl)=true:=decide_eq_true h0;go_wp2_with fail;go_ret;exact ⟨zAA (by rw[HRF.out,HNN.out,decide_eq_true Hg1.out,decide_eq_true Hg2.out,decide_eq_true Hg3.out,decide_eq_true Hg4.out,decide_eq_true Hg5.out,decide_eq_true Hg6.out,decide_eq_true Hg7.out,decide_eq_true Hg8.out];simp),HB0.out.1⟩
             .have z1:decide ((0:Int)<(kl:Int))=false:=decide_eq_false (by omega)
              have z1n:decide (0<kl)=false:=decide_eq_false h0;go_wp2_with fail;go_ret;exact ⟨zAA (by rw[HRF.out,HNN.out,decide_eq_true Hg1.out,decide_eq_true Hg2.out,decide_eq_true Hg3.out,decide_eq_true Hg4.out,decide_eq_true Hg5.out,decide_eq_true Hg6.out,decide_eq_true Hg7.out,decide_eq_true Hg8.out];simp),HB0.out.1⟩
            .have t8:(mx != 1)=true:=by simp[g8]
             have Hg8:=Lib.hid g8;clear g8;go_wp2_with fail;have HRT:=Lib.hid (show zAF (.mk 4 rs kids mn mx)=zAP kids by rw[HRF.out,HNN.out,decide_eq_true Hg1.out,decide_eq_true Hg2.out,decide_eq_true Hg3.out,decide_eq_true Hg4.out,decide_eq_true Hg5.out,decide_eq_true Hg6.out,decide_eq_false Hg8.out];simp)
             go_loopw [4,3] (λiv ov wr=>∃(k:Nat) (b:Bool),k<=kl/\iv = .int .i64 (k:Int)/\ov = .bool b/\Hid ((b && zAP (kids.drop k))=zAP kids)/\Hid (Below w.heap.size w wr/\wr.heap[w.heap.size]?=some (.cells #[.int .i64 4, .slice A1 rl c1, .slice A kl c, .int .i64 mn, .int .i64 mx] 29 (0,0)))) (λiv _ _=>kl - (intOf iv).toNat)
             case atStart=>exact ⟨0,true,by omega,rfl,rfl,rfl,HB0.out⟩
             case round=>
              obtain ⟨k,b,hkk,rfl,rfl,HO,HB⟩:=hrel;obtain ⟨b0,b1,b2,b3,b4⟩:=zAB HB.out.2;have lb:w.heap.size<wr.heap.size:=(Array.getElem?_eq_some_iff.1 HB.out.2).1;by_cases hlt:k<kl
              .have hd:decide ((k:Int)<(kl:Int))=true:=decide_eq_true (by omega)
               have hdn:decide (k<kl)=true:=decide_eq_true hlt
               cases b with
               | false=>
                go_wp2_with fail;go_ret;exact ⟨zAA (by rw[HRT.out,<-HO.out];rfl),HB.out.1⟩
               | true=>
                have hkl:k<kids.length:=by rw[HL.out.2];exact hlt
                obtain ⟨g,f,hA,hg,hkd⟩:=HK.out.resolve_left (by intro e;rw[e]at hkl;simp at hkl)
                subst hA;obtain ⟨vs,hcv,hnd⟩:=hkd.at k hkl;have hmem:=zAG (List.getElem_mem hkl);have hdr:zAP (kids.drop k)=(zAF kids[k] && zAP (kids.drop (k+1))):=by rw[List.drop_eq_getElem_cons hkl,zAP]
                obtain ⟨kd,hkd2⟩:∃kd,kids[k]=kd:=⟨_,rfl⟩;rw[hkd2]at hnd hmem hdr;obtain ⟨B1,e1,B2,e2,rfl,-,-,-⟩:=hnd.form;have q:∀j,j<5->wr.cell? ⟨g,f+k*5+j,none⟩=([.int .i64 kd.op, .slice B1 kd.rs.length e1, .slice B2 kd.kids.length e2, .int .i64 kd.mn, .int .i64 kd.mx]:List Value)[j]?:=λj hj=>(HB.out.1.cell (p:=⟨g,f+k*5+j,none⟩) hg).trans (hcv j hj);have q0:=q 0 (by omega);have q1:=q 1 (by omega);have q2:=q 2 (by omega);have q3:=q 3 (by omega);have q4:=q 4 (by omega)
                simp only[Nat.add_zero,List.getElem?_cons_zero,List.getElem?_cons_succ]at q0 q1 q2 q3 q4;have lg:g<wr.heap.size:=Nat.lt_of_lt_of_le hg HB.out.1.size;have HI:=Lib.hid (ih kd _ wr (by have:=HM.out;omega) (hnd.later HB.out.1))
                have HD:=Lib.hid hdr;clear q hcv hnd hkd2 hkd hdr hkl;go_wp2_with fail;refine HI.out.mono ?_;rintro e w7 ⟨rfl,hb7⟩;obtain ⟨x,hx⟩:∃x,zAF kd=x:=⟨_,rfl⟩;rw[hx];have HX:=Lib.hid hx;have HB7:=Lib.hid (And.intro (HB.out.1.trans (hb7.mono HB.out.1.size)) ((hb7.block _ lb).trans HB.out.2));clear hb7 hx hmem q0 q1 q2 q3 q4 b0 b1 b2 b3 b4;go_wp2_with fail;go_roundw
                case rel=>exact ⟨k+1,x,by omega,by go_num,rfl,by have h9:=HO.out;rw[Bool.true_and,HD.out,HX.out]at h9;exact h9,HB7⟩
                case measure=>simp[intOf];omega
              .obtain rfl:k=kl:=by omega
               have hd:decide ((k:Int)<(k:Int))=false:=decide_eq_false (by omega)
               have hdn:decide (k<k)=false:=decide_eq_false (by omega)
               go_wp2_with fail;go_ret;exact ⟨zAA (by have h9:=HO.out; rw[List.drop_of_length_le (by have:=HL.out.2; omega)]at h9; rw[HRT.out,<-h9]; cases b <;> rfl),HB.out.1⟩
           .have t7:(mn != 1)=true:=by simp[g7]
            have Hg7:=Lib.hid g7;clear g7;go_wp2_with fail;have HRT:=Lib.hid (show zAF (.mk 4 rs kids mn mx)=zAP kids by rw[HRF.out,HNN.out,decide_eq_true Hg1.out,decide_eq_true Hg2.out,decide_eq_true Hg3.out,decide_eq_true Hg4.out,decide_eq_true Hg5.out,decide_eq_true Hg6.out,decide_eq_false Hg7.out];simp)
            go_loopw [4,3] (λiv ov wr=>∃(k:Nat) (b:Bool),k<=kl/\iv = .int .i64 (k:Int)/\ov = .bool b/\Hid ((b && zAP (kids.drop k))=zAP kids)/\Hid (Below w.heap.size w wr/\wr.heap[w.heap.size]?=some (.cells #[.int .i64 4, .slice A1 rl c1, .slice A kl c, .int .i64 mn, .int .i64 mx] 29 (0,0)))) (λiv _ _=>kl - (intOf iv).toNat)
            case atStart=>exact ⟨0,true,by omega,rfl,rfl,rfl,HB0.out⟩
            case round=>
             obtain ⟨k,b,hkk,rfl,rfl,HO,HB⟩:=hrel;obtain ⟨b0,b1,b2,b3,b4⟩:=zAB HB.out.2;have lb:w.heap.size<wr.heap.size:=(Array.getElem?_eq_some_iff.1 HB.out.2).1;by_cases hlt:k<kl
             .have hd:decide ((k:Int)<(kl:Int))=true:=decide_eq_true (by omega)
              have hdn:decide (k<kl)=true:=decide_eq_true hlt
              cases b with
              | false=>
               go_wp2_with fail;go_ret;exact ⟨zAA (by rw[HRT.out,<-HO.out];rfl),HB.out.1⟩
              | true=>
               have hkl:k<kids.length:=by rw[HL.out.2];exact hlt
               obtain ⟨g,f,hA,hg,hkd⟩:=HK.out.resolve_left (by intro e;rw[e]at hkl;simp at hkl)
               subst hA;obtain ⟨vs,hcv,hnd⟩:=hkd.at k hkl;have hmem:=zAG (List.getElem_mem hkl);have hdr:zAP (kids.drop k)=(zAF kids[k] && zAP (kids.drop (k+1))):=by rw[List.drop_eq_getElem_cons hkl,zAP]
               obtain ⟨kd,hkd2⟩:∃kd,kids[k]=kd:=⟨_,rfl⟩;rw[hkd2]at hnd hmem hdr;obtain ⟨B1,e1,B2,e2,rfl,-,-,-⟩:=hnd.form;have q:∀j,j<5->wr.cell? ⟨g,f+k*5+j,none⟩=([.int .i64 kd.op, .slice B1 kd.rs.length e1, .slice B2 kd.kids.length e2, .int .i64 kd.mn, .int .i64 kd.mx]:List Value)[j]?:=λj hj=>(HB.out.1.cell (p:=⟨g,f+k*5+j,none⟩) hg).trans (hcv j hj);have q0:=q 0 (by omega);have q1:=q 1 (by omega);have q2:=q 2 (by omega);have q3:=q 3 (by omega);have q4:=q 4 (by omega)
               simp only[Nat.add_zero,List.getElem?_cons_zero,List.getElem?_cons_succ]at q0 q1 q2 q3 q4;have lg:g<wr.heap.size:=Nat.lt_of_lt_of_le hg HB.out.1.size;have HI:=Lib.hid (ih kd _ wr (by have:=HM.out;omega) (hnd.later HB.out.1))
               have HD:=Lib.hid hdr;clear q hcv hnd hkd2 hkd hdr hkl;go_wp2_with fail;refine HI.out.mono ?_;rintro e w7 ⟨rfl,hb7⟩;obtain ⟨x,hx⟩:∃x,zAF kd=x:=⟨_,rfl⟩;rw[hx];have HX:=Lib.hid hx;have HB7:=Lib.hid (And.intro (HB.out.1.trans (hb7.mono HB.out.1.size)) ((hb7.block _ lb).trans HB.out.2));clear hb7 hx hmem q0 q1 q2 q3 q4 b0 b1 b2 b3 b4;go_wp2_with fail;go_roundw
               case rel=>exact ⟨k+1,x,by omega,by go_num,rfl,by have h9:=HO.out;rw[Bool.true_and,HD.out,HX.out]at h9;exact h9,HB7⟩
               case measure=>simp[intOf];omega
             .obtain rfl:k=kl:=by omega
              have hd:decide ((k:Int)<(k:Int))=false:=decide_eq_false (by omega)
              have hdn:decide (k<k)=false:=decide_eq_false (by omega)
              go_wp2_with fail;go_ret;exact ⟨zAA (by have h9:=HO.out; rw[List.drop_of_length_le (by have:=HL.out.2; omega)]at h9; rw[HRT.out,<-h9]; cases b <;> rfl),HB.out.1⟩
          .have t6:decide (mx<=64)=false:=decide_eq_false g6;have Hg6:=Lib.hid g6;clear g6;go_wp2_with fail;refine wp_loop_rounds 1 ?_;rw[rounds_succ];by_cases h0:0<kl
           .have z1:decide ((0:Int)<(kl:Int))=true:=decide_eq_true (by omega)
            have z1n:decide (0<kl)=true:=decide_eq_true h0;go_wp2_with fail;go_ret;exact ⟨zAA (by rw[HRF.out,HNN.out,decide_eq_false (show ¬(mx<=64) from by have:=Hg6.out;omega)];simp),HB0.out.1⟩
           .have z1:decide ((0:Int)<(kl:Int))=false:=decide_eq_false (by omega)
            have z1n:decide (0<kl)=false:=decide_eq_false h0;go_wp2_with fail;go_ret;exact ⟨zAA (by rw[HRF.out,HNN.out,decide_eq_false (show ¬(mx<=64) from by have:=Hg6.out;omega)];simp),HB0.out.1⟩
         .have t5:decide (mn<=mx)=false:=decide_eq_false g5;have Hg5:=Lib.hid g5;clear g5;go_wp2_with fail;refine wp_loop_rounds 1 ?_;rw[rounds_succ];by_cases h0:0<kl
          .have z1:decide ((0:Int)<(kl:Int))=true:=decide_eq_true (by omega)
           have z1n:decide (0<kl)=true:=decide_eq_true h0;go_wp2_with fail;go_ret;exact ⟨zAA (by rw[HRF.out,HNN.out,decide_eq_false (show ¬(mn<=mx) from by have:=Hg5.out;omega)];simp),HB0.out.1⟩
          .have z1:decide ((0:Int)<(kl:Int))=false:=decide_eq_false (by omega)
           have z1n:decide (0<kl)=false:=decide_eq_false h0;go_wp2_with fail;go_ret;exact ⟨zAA (by rw[HRF.out,HNN.out,decide_eq_false (show ¬(mn<=mx) from by have:=Hg5.out;omega)];simp),HB0.out.1⟩
        .have t4:decide (1<=mx)=false:=decide_eq_false g4;have Hg4:=Lib.hid g4;clear g4;go_wp2_with fail;refine wp_loop_rounds 1 ?_;rw[rounds_succ];by_cases h0:0<kl
         .have z1:decide ((0:Int)<(kl:Int))=true:=decide_eq_true (by omega)
          have z1n:decide (0<kl)=true:=decide_eq_true h0;go_wp2_with fail;go_ret;exact ⟨zAA (by rw[HRF.out,HNN.out,decide_eq_false (show ¬(1<=mx) from by have:=Hg4.out;omega)];simp),HB0.out.1⟩
         .have z1:decide ((0:Int)<(kl:Int))=false:=decide_eq_false (by omega)
          have z1n:decide (0<kl)=false:=decide_eq_false h0;go_wp2_with fail;go_ret;exact ⟨zAA (by rw[HRF.out,HNN.out,decide_eq_false (show ¬(1<=mx) from by have:=Hg4.out;omega)];simp),HB0.out.1⟩
       .have t3:decide (0<=mn)=false:=decide_eq_false g3;have Hg3:=Lib.hid g3;clear g3;go_wp2_with fail;refine wp_loop_rounds 1 ?_;rw[rounds_succ];by_cases h0:0<kl
        .have z1:decide ((0:Int)<(kl:Int))=true:=decide_eq_true (by omega)
         have z1n:decide (0<kl)=true:=decide_eq_true h0;go_wp2_with fail;go_ret;exact ⟨zAA (by rw[HRF.out,HNN.out,decide_eq_false (show ¬(0<=mn) from by have:=Hg3.out;omega)];simp),HB0.out.1⟩
        .have z1:decide ((0:Int)<(kl:Int))=false:=decide_eq_false (by omega)
         have z1n:decide (0<kl)=false:=decide_eq_false h0;go_wp2_with fail;go_ret;exact ⟨zAA (by rw[HRF.out,HNN.out,decide_eq_false (show ¬(0<=mn) from by have:=Hg3.out;omega)];simp),HB0.out.1⟩
      .have t2:((rl:Int) == 0)=false:=by simp;omega
       have Hg2:=Lib.hid g2;clear g2;go_wp2_with fail;refine wp_loop_rounds 1 ?_;rw[rounds_succ];by_cases h0:0<kl
       .have z1:decide ((0:Int)<(kl:Int))=true:=decide_eq_true (by omega)
        have z1n:decide (0<kl)=true:=decide_eq_true h0;go_wp2_with fail;go_ret;exact ⟨zAA (by rw[HRF.out,HNN.out,decide_eq_false (show ¬(rl=0) from by have:=Hg2.out;omega)];simp),HB0.out.1⟩
       .have z1:decide ((0:Int)<(kl:Int))=false:=decide_eq_false (by omega)
        have z1n:decide (0<kl)=false:=decide_eq_false h0;go_wp2_with fail;go_ret;exact ⟨zAA (by rw[HRF.out,HNN.out,decide_eq_false (show ¬(rl=0) from by have:=Hg2.out;omega)];simp),HB0.out.1⟩
     .have t1:((kl:Int) == 1)=false:=by simp;omega
      have Hg1:=Lib.hid g1;clear g1;go_wp2_with fail;refine wp_loop_rounds 1 ?_;rw[rounds_succ];by_cases h0:0<kl
      .have z1:decide ((0:Int)<(kl:Int))=true:=decide_eq_true (by omega)
       have z1n:decide (0<kl)=true:=decide_eq_true h0;go_wp2_with fail;go_ret;exact ⟨zAA (by rw[HRF.out,HNN.out,decide_eq_false (show ¬(kl=1) from by have:=Hg1.out;omega)];simp),HB0.out.1⟩
      .have z1:decide ((0:Int)<(kl:Int))=false:=decide_eq_false (by omega)
       have z1n:decide (0<kl)=false:=decide_eq_false h0;go_wp2_with fail;go_ret;exact ⟨zAA (by rw[HRF.out,HNN.out,decide_eq_false (show ¬(kl=1) from by have:=Hg1.out;omega)];simp),HB0.out.1⟩
    .have n4:(op == 4)=false:=by simp[o4]
     have HNN:=Lib.hid (zGu (nd:=.mk op rs kids mn mx) o1 (λe=>o23 (.inl e)) (λe=>o23 (.inr e)) o4);clear o1 o23 o4;have hb0:Below w.heap.size w (w.alloc (.cells #[.int .i64 op, .slice A1 rl c1, .slice A kl c, .int .i64 mn, .int .i64 mx] 29)):=(Below.refl _ _).alloc (Nat.le_refl _) _;have HB0:=Lib.hid (And.intro hb0 (heap_alloc_new w (.cells #[.int .i64 op, .slice A1 rl c1, .slice A kl c, .int .i64 mn, .int .i64 mx] 29)));clear hb0;go_wp2_with fail;refine wp_loop_rounds 1 ?_;rw[rounds_succ];by_cases h0:0<kl
     .have z1:decide ((0:Int)<(kl:Int))=true:=decide_eq_true (by omega)
      have z1n:decide (0<kl)=true:=decide_eq_true h0;go_wp2_with fail;go_ret;exact ⟨zAA (by rw[HRF.out,HNN.out];simp),HB0.out.1⟩
     .have z1:decide ((0:Int)<(kl:Int))=false:=decide_eq_false (by omega)
      have z1n:decide (0<kl)=false:=decide_eq_false h0;go_wp2_with fail;go_ret;exact ⟨zAA (by rw[HRF.out,HNN.out];simp),HB0.out.1⟩
theorem zGQ:∀l:List Nd,zAv l<=1025*l.length
 | []=>by rw[zAv];exact Nat.zero_le _
 | k::r=>by rw[zAv,List.length_cons];have:=zA8 k;have:=zGQ r;omega
set_option maxHeartbeats 16000000 in
theorem zH9:∀(m:Nat) (nd:Nd) (vs:List Value) (w:World),zAE nd<=m->zAE nd<=200->zAF nd=true->NdIn w nd vs->Calls Tryz.prog 30 #[.agg vs.toArray, .bool true] w λe w'=>e = .returned (.int .i64 ((zAY nd:Nat):Int))/\Below w.heap.size w w':=by
 intro m
 induction m with
 | zero=>intro nd vs w h;cases nd;rw[zAE]at h;omega
 | succ m ih=>
  rintro ⟨op,rs,kids,mn,mx⟩ vs w h h200 hrt hn;obtain ⟨v1,v2,rfl,hr,A,c,rfl,hc,hk⟩:=hn;obtain ⟨A1,c1,rfl,hc1,-⟩:=hr;have hT:zAE (.mk op rs kids mn mx)=1+zAS kids:=by rw[zAE]
  rw[hT]at h h200;have HM:=Lib.hid (And.intro h h200);obtain ⟨hop,hrs⟩:=zAp hrt;have HRS:=Lib.hid hrs;obtain ⟨rl,hrl⟩:∃n,rs.length=n:=⟨_,rfl⟩;obtain ⟨kl,hkl⟩:∃n,kids.length=n:=⟨_,rfl⟩;have hk2:op=3->1<=kl:=λe=>by
   have h1:=hrt;rw[zAF,Bool.and_eq_true]at h1;have h2:=h1.1;rw[zCb (nd:=.mk op rs kids mn mx) (.inr e)]at h2;have h3:(decide (2<=kids.length) && _)=true:=h2;rw[Bool.and_eq_true,decide_eq_true_eq]at h3;omega
  have HK:=Lib.hid hk;have HL:=Lib.hid (And.intro hrl hkl);have HLF:=Lib.hid (show zAY (.mk op rs kids mn mx)=min (if op=1 then 1 else if op=2 then zAv kids else if op=3 then zAy kids else mx.toNat*zDv kids) 1025 by rw[zAY])
  rw[hkl]at hop;rw[hrl]at hc1|-;rw[hkl]at hc|-;clear hrl hkl hk hT h h200 hrt hrs
  go_enter Tryz.func30,Tryz.ntmps30
  rcases hop with o1 | o2 | o3 | ⟨o4,k1,m0,m1,m64⟩
  .subst o1;go_wp2_with fail;go_ret;exact ⟨zAO (by rw[HLF.out];rfl),(Below.refl _ _).alloc (Nat.le_refl _) _⟩
  .subst o2;rw[if_neg (by decide),if_pos rfl]at HLF
   go_wp2_with fail;refine zBl λW0 hW0=>?_;have hb0:Below w.heap.size w W0:=by rw[hW0];exact (Below.refl _ _).alloc (Nat.le_refl _) _
   have hX0:W0.heap[w.heap.size]?=some (.cells #[.int .i64 2, .slice A1 rl c1, .slice A kl c, .int .i64 mn, .int .i64 mx] 29 (0,0)):=by rw[hW0];exact heap_alloc_new w _
   have HB0:=Lib.hid (And.intro hb0 hX0);clear hW0 hb0 hX0;have hsb:zAv kids<=1025*kl:=by rw[<-HL.out.2];exact zGQ kids
   have hkb:kl<=200:=by have h1:=zBc kids;have h2:=HM.out;have h3:=HL.out.2;omega
   go_loopw [6,5] (λiv ov wr=>∃(k o:Nat),k<=kl/\iv = .int .i64 (k:Int)/\ov = .int .i64 (o:Int)/\o<=205000/\Hid (o+zAv (kids.drop k)=zAv kids)/\Hid (Below w.heap.size w wr/\wr.heap[w.heap.size]?=some (.cells #[.int .i64 2, .slice A1 rl c1, .slice A kl c, .int .i64 mn, .int .i64 mx] 29 (0,0)))) (λiv _ _=>kl - (intOf iv).toNat)
   case atStart=>exact ⟨0,0,by omega,rfl,rfl,by omega,by show 0+zAv (kids.drop 0)=_;rw[List.drop_zero];omega,HB0.out⟩
   case round=>
    obtain ⟨k,o,hkk,rfl,rfl,ho,HO,HB⟩:=hrel;obtain ⟨b0,b1,b2,b3,b4⟩:=zAB HB.out.2;have lb:w.heap.size<wr.heap.size:=(Array.getElem?_eq_some_iff.1 HB.out.2).1;by_cases hlt:k<kl
    .have hd:decide ((k:Int)<(kl:Int))=true:=decide_eq_true (by omega)
     have hdn:decide (k<kl)=true:=decide_eq_true hlt;have hkl:k<kids.length:=by rw[HL.out.2];omega
     obtain ⟨g,f,hA,hg,hkd⟩:=HK.out.resolve_left (by intro e;rw[e]at hkl;simp at hkl)
     subst hA;obtain ⟨vs,hcv,hnd⟩:=hkd.at k hkl;have hmem:=zAG (List.getElem_mem hkl);have hrk:=zAK HRS.out (List.getElem_mem hkl);have hdr:zAv (kids.drop k)=zAY kids[k]+zAv (kids.drop (k+1)):=by rw[List.drop_eq_getElem_cons hkl,zAv]
     obtain ⟨kd,hkd2⟩:∃kd,kids[k]=kd:=⟨_,rfl⟩;rw[hkd2]at hnd hmem hdr hrk;obtain ⟨B1,e1,B2,e2,rfl,-,-,-⟩:=hnd.form;have q:∀j,j<5->wr.cell? ⟨g,f+k*5+j,none⟩=([.int .i64 kd.op, .slice B1 kd.rs.length e1, .slice B2 kd.kids.length e2, .int .i64 kd.mn, .int .i64 kd.mx]:List Value)[j]?:=λj hj=>(HB.out.1.cell (p:=⟨g,f+k*5+j,none⟩) hg).trans (hcv j hj);have q0:=q 0 (by omega);have q1:=q 1 (by omega);have q2:=q 2 (by omega);have q3:=q 3 (by omega);have q4:=q 4 (by omega)
     simp only[Nat.zero_mul,Nat.add_zero,List.getElem?_cons_zero,List.getElem?_cons_succ]at q0 q1 q2 q3 q4;have lg:g<wr.heap.size:=Nat.lt_of_lt_of_le hg HB.out.1.size;have HI:=Lib.hid (ih kd _ wr (by have:=HM.out.1;omega) (by have:=HM.out.2;omega) hrk (hnd.later HB.out.1))
     have HD:=Lib.hid hdr;have hx0:=zA8 kd;clear q hcv hnd hkd2 hkd hdr hrk;go_wp2_with fail;refine HI.out.mono ?_;rintro e w7 ⟨rfl,hb7⟩;obtain ⟨x,hx⟩:∃x,zAY kd=x:=⟨_,rfl⟩;rw[hx]at hx0|-;have HX:=Lib.hid hx;have HB7:=Lib.hid (And.intro (HB.out.1.trans (hb7.mono HB.out.1.size)) ((hb7.block _ lb).trans HB.out.2));clear hb7 hx hmem q0 q1 q2 q3 q4 b0 b1 b2 b3 b4;have hox:o+x<=205000:=by have h1:=HO.out;have h2:=HD.out;have h3:=HX.out;omega
     go_wp2_with fail;go_roundw
     case rel=>exact ⟨k+1,o+x,by omega,by go_num,by go_num,hox,by have h1:=HO.out;have h2:=HD.out;have h3:=HX.out;show o+x+zAv (kids.drop (k+1))=zAv kids;omega,HB7⟩
     case measure=>simp[intOf];omega
    .obtain rfl:k=kl:=by omega
     have hd:decide ((k:Int)<(k:Int))=false:=decide_eq_false (by omega)
     have hdn:decide (k<k)=false:=decide_eq_false (by omega)
     have HE:=Lib.hid (show o=zAv kids by have h1:=HO.out;rw[List.drop_of_length_le (by have:=HL.out.2;omega),zAv]at h1;omega)
     obtain ⟨z,hz⟩:∃z:Nat,z=min o 1025:=⟨_,rfl⟩;have hz2:min (o:Int) 1025=(z:Int):=by omega
     have HZ:=Lib.hid hz;clear hz;go_wp2_with fail;go_ret;exact ⟨zAO (by rw[HLF.out,HZ.out,HE.out]),HB.out.1⟩
  .subst o3;rw[if_neg (by decide),if_neg (by decide),if_pos rfl]at HLF
   have hk1:=hk2 rfl;clear hk2;have hkb:kl<=200:=by have h1:=zBc kids;have h2:=HM.out;have h3:=HL.out.2;omega
   have hkl:0<kids.length:=by rw[HL.out.2];omega
   obtain ⟨g,f,hA,hg,hkd⟩:=HK.out.resolve_left (by intro e;rw[e]at hkl;simp at hkl)
   subst hA;obtain ⟨vs,hcv,hnd⟩:=hkd.at 0 hkl;have hmem:=zAG (List.getElem_mem hkl);have hrk:=zAK HRS.out (List.getElem_mem hkl);have hdr:zAy kids=max (zAY kids[0]) (zAy (kids.drop 1)):=by
    have e9:=List.drop_eq_getElem_cons hkl;rw[List.drop_zero]at e9
    conv=>lhs;rw[e9]
    rw[zAy]
   obtain ⟨kd,hkd2⟩:∃kd,kids[0]=kd:=⟨_,rfl⟩;rw[hkd2]at hnd hmem hdr hrk;obtain ⟨B1,e1,B2,e2,rfl,-,-,-⟩:=hnd.form;have q0:w.cell? ⟨g,f,none⟩=some (.int .i64 kd.op):=hcv 0 (by omega)
   have q1:w.cell? ⟨g,f+1,none⟩=some (.slice B1 kd.rs.length e1):=hcv 1 (by omega)
   have q2:w.cell? ⟨g,f+2,none⟩=some (.slice B2 kd.kids.length e2):=hcv 2 (by omega)
   have q3:w.cell? ⟨g,f+3,none⟩=some (.int .i64 kd.mn):=hcv 3 (by omega)
   have q4:w.cell? ⟨g,f+4,none⟩=some (.int .i64 kd.mx):=hcv 4 (by omega)
   have lg2:g<w.heap.size+1:=by omega
   have ng:g≠w.heap.size:=by omega
   have HI:=Lib.hid λW (hb:Below w.heap.size w W)=>ih kd _ W (by have:=HM.out.1;omega) (by have:=HM.out.2;omega) hrk (hnd.later hb)
   have HD:=Lib.hid hdr;have HK0:=Lib.hid hkd;have hx0:=zA8 kd;clear hcv hnd hkd2 hkd hdr hrk hkl;go_wp2_with fail;refine zAM λW0 hW0=>?_;have hb0:Below w.heap.size w W0:=by rw[hW0];exact (Below.refl _ _).alloc (Nat.le_refl _) _
   have hX0:W0.heap[w.heap.size]?=some (.cells #[.int .i64 3, .slice A1 rl c1, .slice (some ⟨g,f,none⟩) kl c, .int .i64 mn, .int .i64 mx] 29 (0,0)):=by rw[hW0];exact heap_alloc_new w _
   have HB:=Lib.hid (And.intro hb0 hX0);have lb:w.heap.size<W0.heap.size:=(Array.getElem?_eq_some_iff.1 hX0).1;clear hW0 hb0 hX0;refine (HI.out W0 HB.out.1).mono ?_;rintro e w7 ⟨rfl,hb7⟩;obtain ⟨x,hx⟩:∃x,zAY kd=x:=⟨_,rfl⟩;rw[hx]at hx0|-;have HX:=Lib.hid hx;have HB7:=Lib.hid (And.intro (HB.out.1.trans (hb7.mono HB.out.1.size)) ((hb7.block _ lb).trans HB.out.2));clear hb7 hx hmem q0 q1 q2 q3 q4 lg2 ng HB lb;have HB0:=HB7;go_wp2_with fail
   go_loopw [7,5] (λiv ov wr=>∃(k o:Nat),1<=k/\k<=kl/\iv = .int .i64 (k:Int)/\ov = .int .i64 (o:Int)/\o<=1025/\Hid (max o (zAy (kids.drop k))=zAy kids)/\Hid (Below w.heap.size w wr/\wr.heap[w.heap.size]?=some (.cells #[.int .i64 3, .slice A1 rl c1, .slice (some ⟨g,f,none⟩) kl c, .int .i64 mn, .int .i64 mx] 29 (0,0)))) (λiv _ _=>kl - (intOf iv).toNat)
   case atStart=>exact ⟨1,x,by omega,by omega,rfl,rfl,hx0,by have h1:=HD.out;have h2:=HX.out;rw[h2]at h1;exact h1.symm,HB0.out⟩
   case round=>
    obtain ⟨k,o,hk1,hkk,rfl,rfl,ho,HO,HB⟩:=hrel;obtain ⟨b0,b1,b2,b3,b4⟩:=zAB HB.out.2;have lb:w.heap.size<wr.heap.size:=(Array.getElem?_eq_some_iff.1 HB.out.2).1;by_cases hlt:k<kl
    .have hd:decide ((k:Int)<(kl:Int))=true:=decide_eq_true (by omega)
     have hdn:decide (k<kl)=true:=decide_eq_true hlt;have hkl:k<kids.length:=by rw[HL.out.2];omega
     have hkd:=HK0.out;obtain ⟨vs,hcv,hnd⟩:=hkd.at k hkl;have hmem:=zAG (List.getElem_mem hkl);have hrk:=zAK HRS.out (List.getElem_mem hkl);have hdr:zAy (kids.drop k)=max (zAY kids[k]) (zAy (kids.drop (k+1))):=by rw[List.drop_eq_getElem_cons hkl,zAy]
     clear HI HD HX hx0;obtain ⟨kd,hkd2⟩:∃kd,kids[k]=kd:=⟨_,rfl⟩;rw[hkd2]at hnd hmem hdr hrk;obtain ⟨B1,e1,B2,e2,rfl,-,-,-⟩:=hnd.form;have q:∀j,j<5->wr.cell? ⟨g,f+k*5+j,none⟩=([.int .i64 kd.op, .slice B1 kd.rs.length e1, .slice B2 kd.kids.length e2, .int .i64 kd.mn, .int .i64 kd.mx]:List Value)[j]?:=λj hj=>(HB.out.1.cell (p:=⟨g,f+k*5+j,none⟩) hg).trans (hcv j hj);have q0:=q 0 (by omega);have q1:=q 1 (by omega);have q2:=q 2 (by omega);have q3:=q 3 (by omega);have q4:=q 4 (by omega)
     simp only[Nat.zero_mul,Nat.add_zero,List.getElem?_cons_zero,List.getElem?_cons_succ]at q0 q1 q2 q3 q4;have lg:g<wr.heap.size:=Nat.lt_of_lt_of_le hg HB.out.1.size;have HI:=Lib.hid (ih kd _ wr (by have:=HM.out.1;omega) (by have:=HM.out.2;omega) hrk (hnd.later HB.out.1))
     have HD:=Lib.hid hdr;have hx0:=zA8 kd;clear q hcv hnd hkd2 hkd hdr hrk;go_wp2_with fail;refine HI.out.mono ?_;rintro e w7 ⟨rfl,hb7⟩;obtain ⟨x,hx⟩:∃x,zAY kd=x:=⟨_,rfl⟩;rw[hx]at hx0|-;have HX:=Lib.hid hx;have HB7:=Lib.hid (And.intro (HB.out.1.trans (hb7.mono HB.out.1.size)) ((hb7.block _ lb).trans HB.out.2));clear hb7 hx hmem q0 q1 q2 q3 q4 b0 b1 b2 b3 b4;by_cases hox:o<x
     .have t1:decide ((o:Int)<(x:Int))=true:=decide_eq_true (by omega)
      have t1n:decide (o<x)=true:=decide_eq_true hox;go_wp2_with fail;go_roundw
      case rel=>exact ⟨k+1,x,by omega,by omega,by go_num,rfl,hx0,by have h1:=HO.out;have h2:=HD.out;have h3:=HX.out;show max x (zAy (kids.drop (k+1)))=zAy kids;omega,HB7⟩
      case measure=>simp[intOf];omega
     .have t1:decide ((o:Int)<(x:Int))=false:=decide_eq_false (by omega)
      have t1n:decide (o<x)=false:=decide_eq_false hox;go_wp2_with fail;go_roundw
      case rel=>exact ⟨k+1,o,by omega,by omega,by go_num,rfl,ho,by have h1:=HO.out;have h2:=HD.out;have h3:=HX.out;show max o (zAy (kids.drop (k+1)))=zAy kids;omega,HB7⟩
      case measure=>simp[intOf];omega
    .obtain rfl:k=kl:=by omega
     have hd:decide ((k:Int)<(k:Int))=false:=decide_eq_false (by omega)
     have hdn:decide (k<k)=false:=decide_eq_false (by omega)
     have HE:=Lib.hid (show o=zAy kids by have h1:=HO.out;rw[List.drop_of_length_le (by have:=HL.out.2;omega),zAy]at h1;omega)
     obtain ⟨z,hz⟩:∃z:Nat,z=min o 1025:=⟨_,rfl⟩;have hz2:min (o:Int) 1025=(z:Int):=by omega
     have HZ:=Lib.hid hz;clear hz;go_wp2_with fail;go_ret;exact ⟨zAO (by rw[HLF.out,HZ.out,HE.out]),HB.out.1⟩
  .subst o4;have HK1:=Lib.hid k1;clear k1;rw[if_neg (by decide),if_neg (by decide),if_neg (by decide)]at HLF
   clear hk2;have hkl:0<kids.length:=by have:=HL.out.2;have:=HK1.out;omega
   obtain ⟨g,f,hA,hg,hkd⟩:=HK.out.resolve_left (by intro e;rw[e]at hkl;simp at hkl)
   subst hA;obtain ⟨vs,hcv,hnd⟩:=hkd.at 0 hkl;have hmem:=zAG (List.getElem_mem hkl);have hrk:=zAK HRS.out (List.getElem_mem hkl);have hdr:zDv kids=zAY kids[0]:=by
    have e9:=List.drop_eq_getElem_cons hkl;rw[List.drop_zero]at e9
    conv=>lhs;rw[e9]
    rw[zDv]
   obtain ⟨kd,hkd2⟩:∃kd,kids[0]=kd:=⟨_,rfl⟩;rw[hkd2]at hnd hmem hdr hrk;obtain ⟨B1,e1,B2,e2,rfl,-,-,-⟩:=hnd.form;have q0:w.cell? ⟨g,f,none⟩=some (.int .i64 kd.op):=hcv 0 (by omega)
   have q1:w.cell? ⟨g,f+1,none⟩=some (.slice B1 kd.rs.length e1):=hcv 1 (by omega)
   have q2:w.cell? ⟨g,f+2,none⟩=some (.slice B2 kd.kids.length e2):=hcv 2 (by omega)
   have q3:w.cell? ⟨g,f+3,none⟩=some (.int .i64 kd.mn):=hcv 3 (by omega)
   have q4:w.cell? ⟨g,f+4,none⟩=some (.int .i64 kd.mx):=hcv 4 (by omega)
   have lg2:g<w.heap.size+1:=by omega
   have ng:g≠w.heap.size:=by omega
   have HI:=Lib.hid λW (hb:Below w.heap.size w W)=>ih kd _ W (by have:=HM.out.1;omega) (by have:=HM.out.2;omega) hrk (hnd.later hb)
   have HD:=Lib.hid hdr;have HK0:=Lib.hid hkd;have hx0:=zA8 kd;clear hcv hnd hkd2 hkd hdr hrk hkl;have hkl1:0<kl:=by have:=HK1.out;omega
   go_wp2_with fail;refine zAM λW0 hW0=>?_;have hb0:Below w.heap.size w W0:=by rw[hW0];exact (Below.refl _ _).alloc (Nat.le_refl _) _
   have hX0:W0.heap[w.heap.size]?=some (.cells #[.int .i64 4, .slice A1 rl c1, .slice (some ⟨g,f,none⟩) kl c, .int .i64 mn, .int .i64 mx] 29 (0,0)):=by rw[hW0];exact heap_alloc_new w _
   have HB:=Lib.hid (And.intro hb0 hX0);have lb:w.heap.size<W0.heap.size:=(Array.getElem?_eq_some_iff.1 hX0).1;clear hW0 hb0 hX0;refine (HI.out W0 HB.out.1).mono ?_;rintro e w7 ⟨rfl,hb7⟩;obtain ⟨x,hx⟩:∃x,zAY kd=x:=⟨_,rfl⟩;rw[hx]at hx0|-;have HX:=Lib.hid hx;have HB7:=Lib.hid (And.intro (HB.out.1.trans (hb7.mono HB.out.1.size)) ((hb7.block _ lb).trans HB.out.2));clear hb7 hx hmem q0 q1 q2 q3 q4 lg2 ng HB lb;obtain ⟨t,ht⟩:∃t:Nat,(t:Int)=mx:=⟨mx.toNat,by omega⟩
   subst ht;have htx:t*x<=64*1025:=Nat.mul_le_mul (by omega) hx0
   obtain ⟨o,hop⟩:∃o,t*x=o:=⟨_,rfl⟩;have hmul:(t:Int)*(x:Int)=(o:Int):=by rw[<-hop];exact (Int.natCast_mul t x).symm
   have HE:=Lib.hid (show o=(t:Int).toNat*zDv kids by rw[HD.out,HX.out,<-hop];rfl)
   rw[hop]at htx;have HB:=HB7;clear hop;obtain ⟨z,hz⟩:∃z:Nat,z=min o 1025:=⟨_,rfl⟩;have hz2:min (o:Int) 1025=(z:Int):=by omega
   have HZ:=Lib.hid hz;clear hz;go_wp2_with fail;go_ret;exact ⟨zAO (by rw[HLF.out,HZ.out,HE.out]),HB.out.1⟩
set_option maxHeartbeats 4000000 in
theorem zG8 (nd:Nd) (vs:List Value) (w:World) (hn:NdIn w nd vs):Calls Tryz.prog 57 #[.agg vs.toArray] w λe w'=>e = .returned (.int .i64 ((min (zAE nd) 201:Nat):Int))/\Below w.heap.size w w':=by
 have HC:=Lib.hid λW (hb:Below w.heap.size w W)=>zG5 _ nd vs W 0 (by decide) (Nat.le_refl _) (hn.later hb)
 obtain ⟨A1,c1,A2,c2,rfl,-⟩:=hn.form;clear hn;obtain ⟨y,hy⟩:∃y:Nat,min (zAE nd) 201=y:=⟨_,rfl⟩;have hy0:min (0+zAE nd) 201=y:=by rw[Nat.zero_add];exact hy
 rw[hy0]at HC;rw[hy];have hyb:min (y:Int) 201=(y:Int):=by omega
 clear hy hy0
 go_enter Tryz.func57,Tryz.ntmps57
 go_wp2_with fail;refine zAM λW0 hW0=>?_;have hb0:Below w.heap.size w W0:=by rw[hW0];exact (Below.refl _ _).alloc (Nat.le_refl _) _
 have HB:=Lib.hid hb0;clear hW0 hb0;refine (HC.out W0 HB.out).mono ?_;rintro e w1 ⟨rfl,hb1⟩;have HB1:=Lib.hid (HB.out.trans (hb1.mono HB.out.size));clear hb1;go_wp2_with fail;go_ret;exact ⟨rfl,HB1.out⟩
set_option maxHeartbeats 8000000 in
theorem zDS (nd:Nd) (vs:List Value) (w:World) (hn:NdIn w nd vs):Calls Tryz.prog 29 #[.agg vs.toArray] w λe w'=>e = .returned (.int .i64 (zAV nd))/\Below w.heap.size w w':=by
 have HNO:=Lib.hid λW (hb:Below w.heap.size w W)=>zG8 nd vs W (hn.later hb);have HDE:=Lib.hid λW (hb:Below w.heap.size w W) (h:zAE nd<=200)=>zHF _ nd vs W (Nat.le_refl _) (by omega) (hn.later hb)
 have HRI:=Lib.hid λW (hb:Below w.heap.size w W)=>zHG _ nd vs W (Nat.le_refl _) (hn.later hb);have HSI:=Lib.hid λW (hb:Below w.heap.size w W) (h:zAE nd<=200) (hr:zAF nd=true)=>zH9 _ nd vs W (Nat.le_refl _) h hr (hn.later hb);obtain ⟨A1,c1,A2,c2,rfl,-⟩:=hn.form;clear hn
 go_enter Tryz.func29,Tryz.ntmps29
 go_wp2_with fail;refine zAM λW0 hW0=>?_;have hb0:Below w.heap.size w W0:=by rw[hW0];exact (Below.refl _ _).alloc (Nat.le_refl _) _
 have hX0:W0.heap[w.heap.size]?=some (.cells #[.int .i64 nd.op, .slice A1 nd.rs.length c1, .slice A2 nd.kids.length c2, .int .i64 nd.mn, .int .i64 nd.mx] 29 (0,0)):=by rw[hW0];exact heap_alloc_new w _
 have HB0:=Lib.hid (And.intro hb0 hX0);clear hW0 hb0 hX0;refine (HNO.out W0 HB0.out.1).mono ?_;rintro e w1 ⟨rfl,hb1⟩;have HB1:=Lib.hid (And.intro (HB0.out.1.trans (hb1.mono HB0.out.1.size)) ((hb1.block _ (Array.getElem?_eq_some_iff.1 HB0.out.2).1).trans HB0.out.2));clear hb1;obtain ⟨b0,b1,b2,b3,b4⟩:=zAB HB1.out.2;have lb:w.heap.size<w1.heap.size:=(Array.getElem?_eq_some_iff.1 HB1.out.2).1;obtain ⟨x,hx⟩:∃x,min (zAE nd) 201=x:=⟨_,rfl⟩;rw[hx];by_cases h1:200<zAE nd
 .have d1:decide (200<(x:Int))=true:=decide_eq_true (by omega)
  have d1n:decide (200<x)=true:=decide_eq_true (by omega)
  have HV:=Lib.hid (show zAV nd=3 by unfold zAV;rw[if_pos h1])
  clear h1 hx;go_wp2_with fail;go_ret;exact ⟨zAO HV.out.symm,HB1.out.1⟩
 have d1:decide (200<(x:Int))=false:=decide_eq_false (by omega)
 have d1n:decide (200<x)=false:=decide_eq_false (by omega)
 have HN2:=Lib.hid (show zAE nd<=200 by omega)
 clear hx;go_wp2_with fail;clear b0 b1 b2 b3 b4 lb;refine (HDE.out w1 HB1.out.1 HN2.out).mono ?_;rintro e w2 ⟨rfl,hb2⟩;have HB2:=Lib.hid (And.intro (HB1.out.1.trans (hb2.mono HB1.out.1.size)) ((hb2.block _ (Array.getElem?_eq_some_iff.1 HB1.out.2).1).trans HB1.out.2));clear hb2;obtain ⟨b0,b1,b2,b3,b4⟩:=zAB HB2.out.2;have lb:w.heap.size<w2.heap.size:=(Array.getElem?_eq_some_iff.1 HB2.out.2).1;obtain ⟨y,hy⟩:∃y,zAd nd=y:=⟨_,rfl⟩;have hyb:y<=200:=by have h9:=zEd nd;have h8:=HN2.out;omega
 rw[hy];by_cases h2:20<y
 .have d2:decide (20<(y:Int))=true:=decide_eq_true (by omega)
  have d2n:decide (20<y)=true:=decide_eq_true h2;have HV:=Lib.hid (show zAV nd=9 by unfold zAV;rw[if_neg h1,hy,if_pos h2])
  clear h1 h2 hy;go_wp2_with fail;go_ret;exact ⟨zAO HV.out.symm,HB2.out.1⟩
 have d2:decide (20<(y:Int))=false:=decide_eq_false (by omega)
 have d2n:decide (20<y)=false:=decide_eq_false h2;have HY:=Lib.hid (And.intro h1 (And.intro hy h2));clear h1 h2 hy;go_wp2_with fail;clear b0 b1 b2 b3 b4 lb;refine (HRI.out w2 HB2.out.1).mono ?_;rintro e w3 ⟨rfl,hb3⟩;have HB3:=Lib.hid (And.intro (HB2.out.1.trans (hb3.mono HB2.out.1.size)) ((hb3.block _ (Array.getElem?_eq_some_iff.1 HB2.out.2).1).trans HB2.out.2));clear hb3;obtain ⟨b0,b1,b2,b3,b4⟩:=zAB HB3.out.2;have lb:w.heap.size<w3.heap.size:=(Array.getElem?_eq_some_iff.1 HB3.out.2).1
 cases hr:zAF nd with
 | false=>
  have HV:=Lib.hid (show zAV nd=1 by unfold zAV;rw[if_neg HY.out.1,HY.out.2.1,if_neg HY.out.2.2,if_pos hr])
  clear hr;go_wp2_with fail;go_ret;exact ⟨zAO HV.out.symm,HB3.out.1⟩
 | true=>
  have HR:=Lib.hid hr;clear hr;go_wp2_with fail;clear b0 b1 b2 b3 b4 lb;refine (HSI.out w3 HB3.out.1 HN2.out HR.out).mono ?_;rintro e w4 ⟨rfl,hb4⟩;have HB4:=Lib.hid (And.intro (HB3.out.1.trans (hb4.mono HB3.out.1.size)) ((hb4.block _ (Array.getElem?_eq_some_iff.1 HB3.out.2).1).trans HB3.out.2));clear hb4;obtain ⟨b0,b1,b2,b3,b4⟩:=zAB HB4.out.2;have lb:w.heap.size<w4.heap.size:=(Array.getElem?_eq_some_iff.1 HB4.out.2).1;obtain ⟨z,hz⟩:∃z,zAY nd=z:=⟨_,rfl⟩;have hzb:z<=1025:=by rw[<-hz];exact zA8 nd
  rw[hz];by_cases h4:1024<z
  .have d4:decide (1024<(z:Int))=true:=decide_eq_true (by omega)
   have d4n:decide (1024<z)=true:=decide_eq_true h4;have HV:=Lib.hid (show zAV nd=3 by unfold zAV;rw[if_neg HY.out.1,HY.out.2.1,if_neg HY.out.2.2,if_neg (by rw[HR.out];decide),hz,if_pos h4])
   clear h4 hz;go_wp2_with fail;go_ret;exact ⟨zAO HV.out.symm,HB4.out.1⟩
  .have d4:decide (1024<(z:Int))=false:=decide_eq_false (by omega)
   have d4n:decide (1024<z)=false:=decide_eq_false h4;have HV:=Lib.hid (show zAV nd=0 by unfold zAV;rw[if_neg HY.out.1,HY.out.2.1,if_neg HY.out.2.2,if_neg (by rw[HR.out];decide),hz,if_neg h4])
   clear h4 hz;go_wp2_with fail;go_ret;exact ⟨zAO HV.out.symm,HB4.out.1⟩
set_option maxHeartbeats 4000000 in
theorem zLK (v:Value) (rs:List (Nat×Nat)) (c:Nat) (w:World) (h:RgIn w v rs):Calls Tryz.prog 73 #[v, .int .u8 (c:Int)] w λe w'=>e = .returned (.bool (inR rs c))/\w'=w:=by
 obtain ⟨A,cc,rfl,⟨hc1,hc2⟩,hcell⟩:=h;obtain ⟨n,hn⟩:∃n,rs.length=n:=⟨_,rfl⟩;have HN:=Lib.hid hn;have HC:=Lib.hid hcell;rw[hn]at hc1|-;clear hn hcell
 go_enter Tryz.func73,Tryz.ntmps73
 go_wp2_with fail
 go_loopw [5] (λiv wr=>∃k:Nat,k<=n/\iv = .int .i64 (k:Int)/\wr=w/\Hid (inR (rs.drop k) c=inR rs c)) (λiv _=>n - (intOf iv).toNat)
 case atStart=>exact ⟨0,by omega,rfl,rfl,rfl⟩
 case round=>
  obtain ⟨k,hk,rfl,rfl,HR⟩:=hrel;by_cases hlt:k<n
  .have hd:decide ((k:Int)<(n:Int))=true:=decide_eq_true (by omega)
   have hdn:decide (k<n)=true:=decide_eq_true hlt;have hkl:k<rs.length:=by rw[HN.out];exact hlt
   obtain ⟨g,f,hA,hg,hrow⟩:=HC.out.resolve_left (by intro e;rw[e]at hkl;simp at hkl)
   subst hA;obtain ⟨⟨c0,c1⟩,hb1,hb2⟩:=hrow k hkl;obtain ⟨lo,hlo⟩:∃lo:Nat,rs[k].1=lo:=⟨_,rfl⟩;obtain ⟨hi,hhi⟩:∃hi:Nat,rs[k].2=hi:=⟨_,rfl⟩;have hst:inR (rs.drop k) c=((decide (lo<=c) && decide (c<=hi)) || inR (rs.drop (k+1)) c):=by
    rw[List.drop_eq_getElem_cons hkl];unfold inR;rw[List.any_cons,hlo,hhi]
   rw[hlo]at c0;rw[hhi]at c1;have HST:=Lib.hid hst;clear hst hrow hlo hhi hb1 hb2 hkl;by_cases h1:lo<=c
   .have t1:decide ((lo:Int)<=(c:Int))=true:=decide_eq_true (by omega)
    have t1n:decide (lo<=c)=true:=decide_eq_true h1;by_cases h2:c<=hi
    .have t2:decide ((c:Int)<=(hi:Int))=true:=decide_eq_true (by omega)
     have t2n:decide (c<=hi)=true:=decide_eq_true h2;go_wp2_with fail;go_ret;exact ⟨zAA (by rw[<-HR.out,HST.out,t1n,t2n];rfl),rfl⟩
    .have t2:decide ((c:Int)<=(hi:Int))=false:=decide_eq_false (by omega)
     have t2n:decide (c<=hi)=false:=decide_eq_false h2;have HX:=Lib.hid (show inR (rs.drop (k+1)) c=inR rs c by rw[<-HR.out,HST.out,t2n,Bool.and_false,Bool.false_or])
     go_wp2_with fail;go_roundw
     case rel=>exact ⟨k+1,by omega,by go_num,by first | rfl | trivial,HX⟩
     case measure=>simp[intOf];omega
   .have t1:decide ((lo:Int)<=(c:Int))=false:=decide_eq_false (by omega)
    have t1n:decide (lo<=c)=false:=decide_eq_false h1;have HX:=Lib.hid (show inR (rs.drop (k+1)) c=inR rs c by rw[<-HR.out,HST.out,t1n,Bool.false_and,Bool.false_or])
    go_wp2_with fail;go_roundw
    case rel=>exact ⟨k+1,by omega,by go_num,by first | rfl | trivial,HX⟩
    case measure=>simp[intOf];omega
  .obtain rfl:k=n:=by omega
   have hd:decide ((k:Int)<(k:Int))=false:=decide_eq_false (by omega)
   have hdn:decide (k<k)=false:=decide_eq_false (by omega)
   go_wp2_with fail;go_ret;exact ⟨zAA (by rw[<-HR.out,List.drop_of_length_le (by have:=HN.out;omega)];rfl),rfl⟩
end Go.Proofs.YtadjdkickjjieaaGreatDoor
