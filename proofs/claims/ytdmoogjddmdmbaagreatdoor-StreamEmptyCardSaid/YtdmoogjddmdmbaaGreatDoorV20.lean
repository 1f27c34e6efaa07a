/- Walks. -/
import Derived.Test.YtdmoogjddmdmbaaGreatDoorV14
import Derived.Test.YtdmoogjddmdmbaaGreatDoorV17
import Derived.Test.YtdmoogjddmdmbaaGreatDoorV19
import Derived.Test.YtdmoogjddmdmbaaGreatDoorV12
set_option maxRecDepth 100000
set_option maxHeartbeats 16000000
set_option linter.unusedVariables false
set_option linter.unusedSimpArgs false
namespace Go.Proofs.YtdmoogjddmdmbaaGreatDoor
open Go.RowKit
section
set_option linter.unusedVariables false
set_option linter.unusedSimpArgs false
open Go.RowKit
open Go.Maps (Keyed)
theorem Eu.later {b:Nat} {l:List UInt8} {w w':World} (h:Eu b l w) (hb:Below w.heap.size w w'):Eu b l w':=by
 obtain ⟨h,hw⟩:=h;refine ⟨?_,Nat.le_trans hw hb.size⟩;rcases h with ⟨h0,v,vW,hown,hne⟩ | ⟨h0,v,vW,hown,hne⟩
 .exact .inl ⟨h0,v,(hb.block b (Array.getElem?_eq_some_iff.1 vW).1).trans vW,ak hown λg hg=>hb.block g (hown.lt g hg).2,hne⟩
 .exact .inr ⟨h0,v,(hb.block b (Array.getElem?_eq_some_iff.1 vW).1).trans vW,ak hown λg hg=>hb.block g (hown.lt g hg).2,hne⟩
theorem IL.at_ {w:World} {A:Option Addr} {n c:Nat} {l:List Nat} (h:IL w (.slice A n c) l) {k:Nat} (hk:k<l.length):∃g f,A=some ⟨g,f,none⟩/\g<w.heap.size/\∀w':World,w'.heap[g]?=w.heap[g]?->w'.cell? ⟨g,f+k,none⟩=some (.int .i64 (l[k]:Int)):=by
 rcases h with ⟨rfl,-⟩ | ⟨g,f,c',e,h0,hg,hc,hcell⟩
 .cases hk
 .injection e with e1 e2 e3;exact ⟨g,f,e1,hg,λw' hw=>(World.cell?_of_block (a:=⟨g,f+k,none⟩) hw).trans (hcell k hk)⟩
def XJ (b:Nat) (l:List UInt8) (w:World):Prop:=Lib.IsBuilderF 205 5 b b (Lib.byteCells l) w/\b<=w.heap.size
theorem uH (b:Nat) (l:List UInt8) (w:World) (h:XJ b l w) :
  Calls Tryz.prog 166 #[.pointer (some ⟨b,0,none⟩)] w λe w'=>e = .returned (.string (bs l))/\XJ b l w'/\Below b w w':=
 (Any.Builder_String_any_f Gp jr b b l w h.1 h.2).mono λ_ _ ⟨h1,h2,h3⟩=>⟨h1,⟨h2,Nat.le_trans h.2 h3.size⟩,h3⟩
theorem Ho {gs:List (List Nat)} {l:List Nat} (h:l∈gs):(vp gs l).getD (.int .i64 0) = .int .i64 ((gs.idxOf l:Nat):Int)/\(vp gs l).isSome=true:=by unfold vp;rw[if_pos h];exact ⟨rfl,rfl⟩
theorem Dn {gs:List (List Nat)} {l:List Nat} (h:l∉gs):(vp gs l).getD (.int .i64 0) = .int .i64 0/\(vp gs l).isSome=false:=by unfold vp;rw[if_neg h];exact ⟨rfl,rfl⟩
def Sc (s mb:Nat) (nm:List UInt8) (r:Int) (q:Bool):Nat->Nat->Value->World->Prop
 | c,0,x,w=>x = .pointer (some ⟨s,0,none⟩)
 | c,1,x,w=>x = .pointer (some ⟨s,0,none⟩)
 | c,2,x,w=>x = .pointer (some ⟨s,3,none⟩)
 | c,3,x,w=>x = .map (some mb)
 | c,4,x,w=>x = .string (bs nm)
 | c,5,x,w=>x = .tuple #[.int .i64 r, .bool q]
 | c,6,x,w=>x = .tuple #[.int .i64 r, .bool q]
 | c,7,x,w=>x = .int .i64 r
 | c,8,x,w=>x = .bool q
 | c,9,x,w=>x = .int .i64 r
 | _,_,_,_=>True
def Oc (s mb:Nat) (nm:List UInt8) (ng:Nat):Nat->Nat->Value->World->Prop
 | c,0,x,w=>x = .pointer (some ⟨s,0,none⟩)
 | c,1,x,w=>x = .pointer (some ⟨s,0,none⟩)
 | c,2,x,w=>x = .pointer (some ⟨s,3,none⟩)
 | c,3,x,w=>x = .map (some mb)
 | c,4,x,w=>x = .string (bs nm)
 | c,5,x,w=>x = .int .i64 (ng:Int)
 | _,_,_,_=>True
theorem FJ {l:List Nat} {k:Nat} (h:k<l.length):dI (l.take k)++(Lib.decDigits l[k]++[32])=dI (l.take (k+1)):=by
 rw[List.take_succ_eq_append_getElem h,FE]
def XK (B s mb:Nat) (v0 v1 v2:Value) (gs:List (List Nat)) (l:List Nat) (fp:List Nat) (w:World) (e:Ending) (w':World):Prop:=∃fp',e = .returned (.int .i64 (((ir gs l).idxOf l:Nat):Int))/\rU B s mb v0 v1 v2 (ir gs l) fp' w'/\ah fp fp' w w'
set_option maxHeartbeats 8000000 in
theorem uq (B s mb:Nat) (v0 v1 v2:Value) (gs:List (List Nat)) (fp:List Nat) (w:World) (l:List Nat) (v:Value) (h:rU B s mb v0 v1 v2 gs fp w) (hv:IL w v l) (ho:aG fp v) (ht:TI w v) (hl:l.length<=1000) (hp:∀p∈l,p<1000) (Ir:gs.length<=1000000) (om:cd w) :
  Calls Tryz.prog 136 #[.pointer (some ⟨s,0,none⟩),v] w (XK B s mb v0 v1 v2 gs l fp w):=by
 obtain ⟨vg,gv,F,rfl,hb⟩:=h;obtain ⟨A,c,rfl,tG,sV⟩:=hv.form;obtain ⟨Ag,cg,rfl,akj,atS⟩:=ag hb.own;have K:Keyed Tryz.prog 9:=Maps.string_keyed Tryz.underlying9;have hz:∀w,(zeroValue 3).run Tryz.prog w = .ok (.int .i64 0) w:=λ_=>by kernel_rfl
 have hlt:=hb.lt;have ZE:s<w.heap.size:=(hlt s (by simp[iQ])).2
 have hcs:=hb.cs;have hlen:=rz l (λp h=>by have:=hp p h;omega)
 obtain ⟨nl,lZ⟩:∃n,l.length=n:=⟨_,rfl⟩;obtain ⟨ng,Jg⟩:∃n,gs.length=n:=⟨_,rfl⟩;have HTI:=Lib.hid ht;have HV:=Lib.hid hv;have HB:=Lib.hid hb;have HO:=Lib.hid ho;have HP:=Lib.hid hp;have qN:=Lib.hid om;have LU:=Lib.hid hlt;have Bo:=Lib.hid (And.intro lZ Jg);rw[lZ]at tG hl hlen|-;rw[Jg]at Ir hcs akj;clear hv hb ho hp om hlt lZ Jg;have PB:=Lib.hid hcs;clear hcs
 go_enter Tryz.func136,Tryz.ntmps136
 go_wp2_with fail
 go_loopw [12] (λiv wr=>∃k:Nat,k<=nl/\iv = .int .i64 (k:Int)/\Hid (Eu w.heap.size (dI (l.take k)) wr)/\Hid (Below w.heap.size w wr)) (λiv _=>nl - (intOf iv).toNat)
 case atStart=>exact ⟨0,Nat.zero_le _,rfl,⟨Lib.fresh_isBuilder _ _ w,by simp⟩,(Below.refl _ w).alloc (Nat.le_refl _) _⟩
 case round=>
  obtain ⟨k,hk,rfl,HI,bI⟩:=hrel;by_cases hlt:k<nl
  .have hd:decide ((k:Int)<(nl:Int))=true:=decide_eq_true (by omega)
   have di:k<l.length:=by rw[Bo.out.1];exact hlt
   obtain ⟨g,f,rfl,hg,hcell⟩:=HV.out.at_ di;have nP:=hcell wr (bI.out.block g hg);have M8:g<wr.heap.size:=by have:=bI.out.size;omega
   obtain ⟨p,v8⟩:∃p,l[k]=p:=⟨_,rfl⟩;have hp1:p<1000:=by rw[<-v8];exact HP.out _ (List.getElem_mem di)
   have bT:=FJ di;rw[v8]at nP bT;have hvw:=qN.out.later bI.out;have hit:=λW (h:cd W)=>qd p (by omega) W h
   have QD:=jw p 2 (by omega)
   have hss:(bs (Lib.decDigits p)).size=(Lib.decDigits p).length:=dj _;have hsz:¬(9223372036854775807:Nat)<(bs (Lib.decDigits p)).size+ByteArray.size ⟨#[32]⟩:=by rw[hss];show ¬(9223372036854775807:Nat)<(Lib.decDigits p).length+1;omega
   have oc:bl (bs (Lib.decDigits p)++⟨#[32]⟩)=Lib.decDigits p++[32]:=by rw[show (⟨#[32]⟩:ByteArray)=bs [32] from rfl];simp[bl,bs]
   have XL:(bs (Lib.decDigits p)++⟨#[32]⟩).size<=1000000:=by rw[ByteArray.size_append,hss];show _+1<=_;omega
   have adK:(dI (l.take k)).length<=1000000000:=by
    have:=rz (l.take k) (λp h=>by have:=HP.out p (List.mem_of_mem_take h);omega)
    have h2:(l.take k).length<=k:=List.length_take_le _ _;omega
   have HIT:=Lib.hid hit;have lY:=Lib.hid (And.intro bT oc);have Bl:=Lib.hid adK;have KZ:=Lib.hid hvw;clear hcell v8 bT hit QD hss oc adK hvw di;go_wp2_with (go_at_call 165;refine (HIT.out _ KZ.out).mono ?_;rintro e w1 ⟨rfl,hb1⟩);go_wp2_with (go_at_call 164;refine (my _ _ _ _ (HI.out.later hb1) Bl.out XL).mono ?_;rintro e w2 ⟨rfl,ez,aL⟩);have Ec:Eu w.heap.size (dI (l.take (k+1))) w2:=by rw[lY.out.2,lY.out.1]at ez;exact ez
   have HI3:=Lib.hid Ec;have y7:=Lib.hid (bI.out.trans ((hb1.mono bI.out.size).trans aL));clear ez Ec hb1 aL;go_wp2_with fail;go_roundw
   case rel=>exact ⟨k+1,by omega,by go_num,HI3,y7⟩
   case measure=>simp[intOf];omega
  .obtain rfl:k=nl:=by omega
   have aP:=bI.out;have xn:Eu w.heap.size (dI l) wr:=by have:=HI.out;rwa [List.take_of_length_le (by rw[Bo.out.1];exact Nat.le_refl _)]at this
   have HIB:=Lib.hid xn;obtain ⟨nm,iO⟩:∃x,dI l=x:=⟨_,rfl⟩;have PE:=Lib.hid iO;have hlw:w.heap.size<wr.heap.size:=by
    rcases xn.1 with ⟨_,v,vW,_⟩ | ⟨_,v,vW,_⟩ <;> exact (Array.getElem?_eq_some_iff.1 vW).1
   have hsl:s<wr.heap.size:=by omega
   have hif:XJ w.heap.size nm wr:=by rw[<-iO];exact ⟨Lib.IsBuilderF.of xn.1,xn.2⟩
   have adL:=(LU.out mb (by simp[iQ])).2
   have hcD:∀d:World,Below w.heap.size wr d->d.heap[s]?=some (.cells #[v0,v1,v2, .map (some mb), .slice Ag ng cg] 182 (0,0)):=λd hd=>(hd.block s ZE).trans ((aP.block s ZE).trans PB.out);have hmD:∀d:World,Below w.heap.size wr d->MV Tryz.prog 9 mb gs.length F d:=λd hd=>HB.out.mv.kept ((hd.block mb adL).trans (aP.block mb adL));have jD:keyOf Tryz.prog 9 (.string (bs nm))=some (.string nm):=by
    have:=WideMaps.keyOf_string_mk (P:=Tryz.prog) (k:=9) Tryz.underlying9 (s:=bs nm) (by rw[dj,<-iO];unfold maxLen;omega)
    rwa [GC]at this
   have HCD:=Lib.hid hcD;have HMD:=Lib.hid hmD;have Ja:=Lib.hid jD;have HIF:=Lib.hid hif;have eU:Below w.heap.size wr wr.drew/\XJ w.heap.size nm wr.drew:=⟨(Below.refl wr.heap.size wr).drew.mono (by omega),hif⟩
   obtain ⟨r,q,hrq⟩:∃(r:Int) (q:Bool),(vp gs l).getD (.int .i64 0) = .int .i64 r/\(vp gs l).isSome=q/\(if l∈gs then r=((gs.idxOf l:Nat):Int)/\q=true else q=false):=by
    by_cases hm:l∈gs
    .exact ⟨_,_,(Ho hm).1,(Ho hm).2,by rw[if_pos hm];exact ⟨rfl,rfl⟩⟩
    .exact ⟨_,_,(Dn hm).1,(Dn hm).2,by rw[if_neg hm]⟩
   have rS:∀d:World,Below w.heap.size wr d->(Instr.lookup 176 (.map (some mb)) (.string (bs nm)) true).run Tryz.prog d = .ok (.tuple #[.int .i64 r, .bool q]) d:=λd hd=>by
    have h1:=(HMD.out d hd).look_ok K Tryz.underlying176 hz Ja.out trivial;rw[<-iO,HB.out.says l,hrq.1,hrq.2.1]at h1;rw[iO]at h1;exact h1
   have HLK:=Lib.hid rS;have HRQ:=Lib.hid hrq.2.2;clear xn iO hif hcD hmD jD hrq rS aP;go_wp2_with fail;refine aq 10 [] (Sc s mb nm r q) (λ_ w'=>Below w.heap.size wr w'/\XJ w.heap.size nm w') (by kernel_rfl) (by kernel_rfl) (by kernel_rfl) (by kernel_rfl) (by kernel_rfl) (by kernel_rfl) (by decide) eU ?_ ?_
   .simp only[cP,cQ];refine ae.pure (by decide) ?_ (ae.pure (by decide) ?_ (ae.pure (by decide) ?_ (ae.pure (by decide) ?_ (ae.free (by decide) ?_ (ae.pure (by decide) ?_ (ae.pure (by decide) ?_ (ae.pure (by decide) ?_ (ae.pure (by decide) ?_ (ae.pure (by decide) ?_ (ae.nil))))))))))
    all_goals first | (with_reducible intro v wz c aD hS hE K hK;simp only[ai,Act.put,eh,ek,ep,Nat.zero_add,Nat.reduceAdd,cP,cQ]at hK|-) | (intro v wz hS hE K hK;simp only[ai,Act.put,eh,ek,ep,Nat.zero_add,Nat.reduceAdd,cP,cQ]at hK|-)
    .have HX:=Lib.hid hS;clear hS hE aD;go_wp2_with fail;exact hK.out _ rfl
    .have e0:v 0=_:=hE.1 rfl;rw[e0]at hK|-;have HX:=Lib.hid hS;clear hS hE aD;go_wp2_with fail;exact hK.out _ rfl
    .have e1:v 1=_:=hE.1 rfl;rw[e1]at hK|-;have HX:=Lib.hid hS;clear hS hE aD;go_wp2_with fail;exact hK.out _ rfl
    .have e2:v 2=_:=hE.1 rfl;rw[e2]at hK|-;have cs3:wz.cell? ⟨s,3,none⟩=some (.map (some mb)):=by rw[cell_of_row _ _ _ _ _ _ (HCD.out wz hS.1)];rfl
     have lsz:s<wz.heap.size:=by have:=hS.1.size;omega
     have HX:=Lib.hid hS;clear hS hE aD;go_wp2_with fail;exact hK.out _ rfl
    .have aF:=uH w.heap.size nm wz hS.2;have HC:=Lib.hid aF;have HX:=Lib.hid hS;clear hS hE aD aF;go_wp2_with fail;refine HC.out.mono ?_;rintro e wy ⟨rfl,hf,hb⟩;have HY:=Lib.hid (And.intro (HX.out.1.trans hb) hf);clear hf hb;go_wp2_with fail;refine hK.out _ _ (λj z hj h=>?_) HY.out rfl
     match j with
     | 0 | 1 | 2 | 3 | 5 | 6 | 7 | 8 | 9=>exact h
     | 4=>exact absurd rfl hj
     | _+10=>exact trivial
    .have e3:v 3=_:=hE.1 rfl;rw[e3]at hK|-;have E4:=hE.2.1 rfl;have e4:v 4=_:=E4;rw[e4]at hK|-;have hlk:=HLK.out wz hS.1;have HX:=Lib.hid hS;clear hS hE aD;go_wp2_with fail;exact hK.out _ rfl
    .have E5:=hE.1 rfl;have e5:v 5=_:=E5;rw[e5]at hK|-;have HX:=Lib.hid hS;clear hS hE aD;go_wp2_with fail;exact hK.out _ rfl
    .have E6:=hE.1 rfl;have e6:v 6=_:=E6;rw[e6]at hK|-;have HX:=Lib.hid hS;clear hS hE aD;go_wp2_with fail;exact hK.out _ rfl
    .have E6:=hE.1 rfl;have e6:v 6=_:=E6;rw[e6]at hK|-;have HX:=Lib.hid hS;clear hS hE aD;go_wp2_with fail;exact hK.out _ rfl
    .have E7:=hE.1 rfl;have e7:v 7=_:=E7;rw[e7]at hK|-;have HX:=Lib.hid hS;clear hS hE aD;go_wp2_with fail;exact hK.out _ rfl
   .intro v wz hS hF;have e0:v 0=_:=hF 0 (by decide)
    have e1:v 1=_:=hF 1 (by decide)
    have e2:v 2=_:=hF 2 (by decide)
    have e3:v 3=_:=hF 3 (by decide)
    have E4:=hF 4 (by decide)
    have E5:=hF 5 (by decide)
    have E6:=hF 6 (by decide)
    have E7:=hF 7 (by decide)
    have E8:=hF 8 (by decide)
    have E9:=hF 9 (by decide)
    simp only[ai,Act.put,eh,ek,ep,Nat.zero_add,Nat.reduceAdd,cP,cQ,List.drop_succ_cons,List.drop_zero,e0,e1,e2,e3];clear hF e0 e1 e2 e3;have e4:v 4=_:=E4;have e5:v 5=_:=E5;have e6:v 6=_:=E6;have e7:v 7=_:=E7;have e8:v 8=_:=E8;have e9:v 9=_:=E9;rw[e4,e5,e6,e7,e8,e9];have HS:=Lib.hid hS;clear hS E4 E5 E6 E7 E8 E9 e4 e5 e6 e7 e8 e9;have XM:=HCD.out wz HS.out.1;have hz4:=HS.out.1.size;have cs4:wz.cell? ⟨s,4,none⟩=some (.slice Ag ng cg):=by rw[cell_of_row _ _ _ _ _ _ XM];rfl
    have cs3:wz.cell? ⟨s,3,none⟩=some (.map (some mb)):=by rw[cell_of_row _ _ _ _ _ _ XM];rfl
    have lsz:s<wz.heap.size:=by omega
    clear XM
    cases q with
    | true=>
     have hm:l∈gs:=by
      by_cases hm:l∈gs
      .exact hm
      .have:=HRQ.out;rw[if_neg hm]at this;cases this
     have HM:=Lib.hid hm;clear hm;go_wp2_with fail;refine bodyPost_ret (v:=.int .i64 r) (by simp[results,Tryz.results136,go_sem];try rfl) rfl ?_
     have hm:=HM.out;have Ld:Below w.heap.size w wz:=bI.out.trans HS.out.1;have h1:ir gs l=gs:=if_pos hm;have h2:=HRQ.out;rw[if_pos hm]at h2;refine ⟨iQ s mb (.slice Ag gs.length cg),?_,?_,ah.aa Ld⟩
     .rw[h1,h2.1]
     rw[h1];exact rU.later ⟨_,gv,F,rfl,HB.out⟩ Ld
    | false=>
     have hm:l∉gs:=λhm=>by have:=HRQ.out;rw[if_pos hm]at this;cases this.2
     have HM:=Lib.hid hm;clear hm;have hS1:Below w.heap.size wr wz.drew/\XJ w.heap.size nm wz.drew:=⟨HS.out.1.drew,HS.out.2⟩;go_wp2_with fail;refine aq 6 [] (Oc s mb nm ng) (λ_ w'=>Below w.heap.size wr w'/\XJ w.heap.size nm w') (by kernel_rfl) (by kernel_rfl) (by kernel_rfl) (by kernel_rfl) (by kernel_rfl) (by kernel_rfl) (by decide) hS1 ?_ ?_
     .simp only[cP,cQ];refine ae.pure (by decide) ?_ (ae.pure (by decide) ?_ (ae.pure (by decide) ?_ (ae.pure (by decide) ?_ (ae.free (by decide) ?_ (ae.pure (by decide) ?_ (ae.nil))))))
      all_goals first | (with_reducible intro v wz c aD hS hE K hK;simp only[ai,Act.put,eh,ek,ep,Nat.zero_add,Nat.reduceAdd,cP,cQ]at hK|-) | (intro v wz hS hE K hK;simp only[ai,Act.put,eh,ek,ep,Nat.zero_add,Nat.reduceAdd,cP,cQ]at hK|-)
      .have HX:=Lib.hid hS;clear hS hE aD;go_wp2_with fail;exact hK.out _ rfl
      .have e0:v 0=_:=hE.1 rfl;rw[e0]at hK|-;have HX:=Lib.hid hS;clear hS hE aD;go_wp2_with fail;exact hK.out _ rfl
      .have e1:v 1=_:=hE.1 rfl;rw[e1]at hK|-;have HX:=Lib.hid hS;clear hS hE aD;go_wp2_with fail;exact hK.out _ rfl
      .have e2:v 2=_:=hE.1 rfl;rw[e2]at hK|-;have cs3:wz.cell? ⟨s,3,none⟩=some (.map (some mb)):=by rw[cell_of_row _ _ _ _ _ _ (HCD.out wz hS.1)];rfl
       have lsz:s<wz.heap.size:=by have:=hS.1.size;omega
       have HX:=Lib.hid hS;clear hS hE aD;go_wp2_with fail;exact hK.out _ rfl
      .have aF:=uH w.heap.size nm wz hS.2;have HC:=Lib.hid aF;have HX:=Lib.hid hS;clear hS hE aD aF;go_wp2_with fail;refine HC.out.mono ?_;rintro e wy ⟨rfl,hf,hb⟩;have HY:=Lib.hid (And.intro (HX.out.1.trans hb) hf);clear hf hb;go_wp2_with fail;refine hK.out _ _ (λj z hj h=>?_) HY.out rfl
       match j with
       | 0 | 1 | 2 | 3 | 5=>exact h
       | 4=>exact absurd rfl hj
       | _+6=>exact trivial
      .have HX:=Lib.hid hS;clear hS hE aD;go_wp2_with fail;exact hK.out _ rfl
     .intro v wz hS hF;have e0:v 0=_:=hF 0 (by decide)
      have e1:v 1=_:=hF 1 (by decide)
      have e2:v 2=_:=hF 2 (by decide)
      have e3:v 3=_:=hF 3 (by decide)
      have e5:v 5=_:=hF 5 (by decide)
      have E4:=hF 4 (by decide)
      simp only[ai,Act.put,eh,ek,ep,Nat.zero_add,Nat.reduceAdd,cP,cQ,List.drop_succ_cons,List.drop_zero,e0,e1,e2,e3,e5];clear hF e0 e1 e2 e3 e5;have e4:v 4=_:=E4;rw[e4];clear E4 e4;obtain ⟨i1,iD,GH,sY,pS⟩:=info_parts Gb;have PD:=HMD.out wz hS.1;have hrow:=HCD.out wz hS.1;have hz5:=hS.1.size;have Ld:=bI.out.trans hS.1;have yx:wz.ownsRow B 22 1 (.slice Ag ng cg) ng gv:=by rw[<-Bo.out.2];exact ak HB.out.own λg hg=>Ld.block g (HB.out.own.lt g hg).2
      have hne:=HB.out.ne;have hBB:=HB.out.hs;have eY:=HV.out.later Ld;rw[Bo.out.2]at hne;have PH:=Lib.hid (And.intro eY Ld);have Tq:=Lib.hid hS;clear hS eY;refine oy wz rfl _ _ _ _ rfl 9 3 K Tryz.underlying176 mb _ F rfl PD (by rw[Bo.out.2];unfold maxLen;omega) _ _ _ rfl rfl Ja.out trivial ?_
      intro w1 tY et;have hz1:=et.size;have atW:s<w1.heap.size:=by omega
      have Od:w1.heap[s]?=_:=(et.block s (by omega) (λe=>hne.1 (by injection e))).trans hrow
      have d4:w1.cell? ⟨s,4,none⟩=some (.slice Ag ng cg):=by rw[cell_of_row _ _ _ _ _ _ Od];rfl
      have hown1:w1.ownsRow B 22 1 (.slice Ag ng cg) ng gv:=ak yx λg hg=>et.block g (yx.lt g hg).2 (λe=>by injection e with e;exact hne.2.2 (by rw[hg,e]))
      have tu:=Lib.hid tY;have HG1:=Lib.hid et;have HR1:=Lib.hid Od;have Gf:=Lib.hid hown1;clear tY et Od hown1 yx PD hrow;have hlz:w1.heap.size<w1.heap.size+1:=by omega
      have mZ:∀j u,[Value.slice A k c][j]?=some u->(w1.alloc (.cells #[.slice A k c] 22)).cell? ((⟨w1.heap.size,0,none⟩:Addr).add j)=some u:=by
       intro j u hj
       match j,hj with
       | 0,hj=>simp at hj;subst hj;simp[Addr.add]
      have cT:(w1.alloc (.cells #[.slice A k c] 22)).ownsRow B 22 1 (.slice Ag ng cg) ng gv:=Gf.out.alloc _;go_wp2_with (at_builtin;refine cN rfl _ _ 178 rfl B 22 i1 (.slice none 0 0) 1 24 Tryz.underlying178 iD GH sY pS rfl (by decide) _ ng gv rfl cT ⟨w1.heap.size,0,none⟩ 1 1 [.slice A k c] rfl (by simp) mZ (by intro u hu;simp at hu;subst hu;rfl) (by unfold maxLen;omega) (by omega) (by simp;omega) ?_)
      intro v' w3 bZ rQ oT;have Wj:(w1.alloc (.cells #[.slice A k c] 22)).heap.size=w1.heap.size+1:=by simp
      have D4:=rQ.size;have atY:s<w3.heap.size:=by omega
      have Oe:w3.heap[s]?=_:=(rQ.block s (by omega) (λe=>hne.2.1 e.symm)).trans ((au w1 _ s (by omega)).trans HR1.out)
      have d4':w3.cell? ⟨s,4,none⟩=some (.slice Ag ng cg):=by rw[cell_of_row _ _ _ _ _ _ Oe];rfl
      have f4':w3.frozen? ⟨s,4,none⟩=false:=by simp[World.frozen?,Oe]
      obtain ⟨A',c',rfl,-,-⟩:=ag bZ;have HX3:=Lib.hid (And.intro bZ (And.intro rQ oT));clear bZ rQ oT cT mZ Oe;go_wp2_with fail;refine ar λWf cH=>?_;refine bodyPost_ret (v:=.int .i64 (ng:Int)) (by rw[cH];simp[results,Tryz.results136,go_sem];try rfl) rfl ?_
      have h1:ir gs l=gs++[l]:=if_neg HM.out;have hsz:Sd B s mb v0 v1 v2 gs (.slice Ag gs.length cg) gv F wz:=HB.out.same (λq hq=>PH.out.2.block q (LU.out q hq).2) PH.out.2.size (λv l h _ ht=>⟨h.later PH.out.2,ht.later PH.out.2⟩);have uK:=hsz.add (l:=l) (v:=.slice A l.length c) (vg':=.slice A' (ng+1) c') (n:=(ng:Int)) (w1:=w1) (w2:=w1.alloc (.cells #[.slice A k c] 22)) (w3:=w3) PH.out.1 HO.out (HTI.out.later PH.out.2) HM.out (by rw[Bo.out.2]) HG1.out (by rw[PE.out];exact tu.out) ((Below.refl _ _).alloc (Nat.le_refl _) _) (by rw[Bo.out.2];exact HX3.out.2.1) (by rw[Bo.out.2,Bo.out.1];exact HX3.out.1) (by rw[Bo.out.2,Wj];exact HX3.out.2.2)
      refine ⟨iQ s mb (.slice A' (ng+1) c'),?_,?_,?_⟩
      .rw[h1,List.idxOf_append,if_neg HM.out];simp[Bo.out.2]
      .rw[h1,cH];exact uK.1
      .rw[cH];exact (ah.aa PH.out.2).trans uK.2
end
end Go.Proofs.YtdmoogjddmdmbaaGreatDoor
