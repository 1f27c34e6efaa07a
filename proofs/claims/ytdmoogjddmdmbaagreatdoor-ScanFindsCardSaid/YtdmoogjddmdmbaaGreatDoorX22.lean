/- Walks. -/
import Derived.Test.YtdmoogjddmdmbaaGreatDoorX11
import Derived.Test.YtdmoogjddmdmbaaGreatDoorX21
import Derived.Test.YtdmoogjddmdmbaaGreatDoorX15
set_option maxRecDepth 100000
set_option maxHeartbeats 16000000
set_option linter.unusedVariables false
set_option linter.unusedSimpArgs false
namespace Go.Proofs.YtdmoogjddmdmbaaGreatDoor
open Go.RowKit
section
open Go.Maps (Keyed)
theorem DR.later{b:Nat}{l:List UInt8}{w w':World}(h:DR b l w)(hb:Below w.heap.size w w'):DR b l w':=by
 obtain ⟨h,hw⟩:=h;refine ⟨?_,Nat.le_trans hw hb.size⟩;rcases h with ⟨h0,v,vS,hown,hne⟩|⟨h0,v,vS,hown,hne⟩
 .exact .inl ⟨h0,v,(hb.block b (γ vS).1).trans vS,aG hown λg hg=>hb.block g (hown.lt g hg).2,hne⟩
 .exact .inr ⟨h0,v,(hb.block b (γ vS).1).trans vS,aG hown λg hg=>hb.block g (hown.lt g hg).2,hne⟩
theorem IL.at_{w:World}{A:Option Addr}{n c:Nat}{l:List Nat}(h:IL w (.slice A n c) l){k:Nat}(hk:k<l.length):∃g f,A=some ⟨g,f,none⟩/\g<w.heap.size/\∀w':World,w'.heap[g]?=w.heap[g]?->w'.cell? ⟨g,f+k,none⟩=some (.int .i64 (l[k]:Int)):=by
 rcases h with ⟨rfl,-⟩|⟨g,f,c',e,h0,hg,hc,hcell⟩
 .cases hk
 .injection e with e1 e2 e3;exact ⟨g,f,e1,hg,λw' hw=>(χ g (f+k) hw).trans (hcell k hk)⟩
def XE(b:Nat)(l:List UInt8)(w:World):Prop:=Lib.IsBuilderF 205 5 b b (Lib.byteCells l) w/\b<=w.heap.size
theorem uK(b:Nat)(l:List UInt8)(w:World)(h:XE b l w):
  Calls Tryz.prog 166 #[.pointer (some ⟨b,0,none⟩)] w λe w'=>e=.returned (.string (bs l))/\XE b l w'/\Below b w w':=
 (Any.Builder_String_any_f FQ jg b b l w h.1 h.2).mono λ_ _ ⟨h1,h2,h3⟩=>⟨h1,⟨h2,Nat.le_trans h.2 h3.size⟩,h3⟩
theorem G1{gs:List (List Nat)}{l:List Nat}(h:l∈gs):(vp gs l).getD (.int .i64 0)=.int .i64 ((gs.idxOf l:Nat):Int)/\(vp gs l).isSome=true:=by unfold vp;rw[if_pos h];exact ⟨rfl,rfl⟩
theorem CI{gs:List (List Nat)}{l:List Nat}(h:l∉gs):(vp gs l).getD (.int .i64 0)=.int .i64 0/\(vp gs l).isSome=false:=by unfold vp;rw[if_neg h];exact ⟨rfl,rfl⟩
def RX(s mb:Nat)(nm:List UInt8)(r:Int)(q:Bool):Nat->Nat->Value->World->Prop
 |c,0,x,w=>x=.pointer (some ⟨s,0,none⟩)
 |c,1,x,w=>x=.pointer (some ⟨s,0,none⟩)
 |c,2,x,w=>x=.pointer (some ⟨s,3,none⟩)
 |c,3,x,w=>x=.map (some mb)
 |c,4,x,w=>x=.string (bs nm)
 |c,5,x,w=>x=.tuple #[.int .i64 r,.bool q]
 |c,6,x,w=>x=.tuple #[.int .i64 r,.bool q]
 |c,7,x,w=>x=.int .i64 r
 |c,8,x,w=>x=.bool q
 |c,9,x,w=>x=.int .i64 r
 |_,_,_,_=>True
def NM(s mb:Nat)(nm:List UInt8)(ng:Nat):Nat->Nat->Value->World->Prop
 |c,0,x,w=>x=.pointer (some ⟨s,0,none⟩)
 |c,1,x,w=>x=.pointer (some ⟨s,0,none⟩)
 |c,2,x,w=>x=.pointer (some ⟨s,3,none⟩)
 |c,3,x,w=>x=.map (some mb)
 |c,4,x,w=>x=.string (bs nm)
 |c,5,x,w=>x=.int .i64 (ng:Int)
 |_,_,_,_=>True
theorem Fk{l:List Nat}{k:Nat}(h:k<l.length):dP (l.take k)++(Lib.decDigits l[k]++[32])=dP (l.take (k+1)):=by
 rw[List.take_succ_eq_append_getElem h,Ff]
def XF(B s mb:Nat)(v0 v1 v2:Value)(gs:List (List Nat))(l:List Nat)(fp:List Nat)(w:World)(e:Ending)(w':World):Prop:=∃fp',e=.returned (.int .i64 (((ia gs l).idxOf l:Nat):Int))/\rX B s mb v0 v1 v2 (ia gs l) fp' w'/\aj fp fp' w w'
theorem uw(B s mb:Nat)(v0 v1 v2:Value)(gs:List (List Nat))(fp:List Nat)(w:World)(l:List Nat)(v:Value)(h:rX B s mb v0 v1 v2 gs fp w)(hv:IL w v l)(ho:aL fp v)(ht:TI w v)(hl:l.length<=1000)(hp:∀p∈l,p<1000)(Az:gs.length<=1000000)(jL:dn w):
  Calls Tryz.prog 136 #[.pointer (some ⟨s,0,none⟩),v] w (XF B s mb v0 v1 v2 gs l fp w):=by
 obtain ⟨vg,gv,F,rfl,hb⟩:=h;obtain ⟨A,c,rfl,lY,qD⟩:=hv.form;obtain ⟨Ag,cg,rfl,akP,atK⟩:=ar hb.own;have K:Keyed Tryz.prog 9:=Maps.string_keyed Tryz.underlying9;have hz:∀w,(zeroValue 3).run Tryz.prog w=.ok (.int .i64 0) w:=λ_=>κ;have hlt:=hb.lt;have Zt:s<w.heap.size:=(hlt s (by simp[iH])).2
 have hcs:=hb.cs;have hlen:=rA l (λp h=>by have:=hp p h;omega)
 obtain ⟨nl,kr⟩:∃n,l.length=n:=⟨_,rfl⟩;obtain ⟨ng,Pp⟩:∃n,gs.length=n:=⟨_,rfl⟩;have HTI:=Z ht;have HV:=Z hv;have HB:=Z hb;have HO:=Z ho;have HP:=Z hp;have sJ:=Z jL;have Lb:=Z hlt;have NN:=Z (H kr Pp);rw[kr]at lY hl hlen|-;rw[Pp]at Az hcs akP;clear hv hb ho hp jL hlt kr Pp;have Pm:=Z hcs;clear hcs
 go_enter Tryz.func136,Tryz.ntmps136
 go_wp2_with fail;go_loopw [12] (λiv wr=>∃k:Nat,k<=nl/\iv=.int .i64 (k:Int)/\Hid (DR w.heap.size (dP (l.take k)) wr)/\Hid (Below w.heap.size w wr)) (λiv _=>nl - (intOf iv).toNat)
 case atStart=>exact ⟨0,Nat.zero_le _,rfl,⟨Lib.fresh_isBuilder _ _ w,ξ⟩,(Below.refl _ w).alloc I _⟩
 case round=>
  obtain ⟨k,hk,rfl,HI,b8⟩:=hrel;by_cases hlt:k<nl
  .have hd:decide ((k:Int)<(nl:Int))=true:=τ;have aU:k<l.length:=by rw[NN.out.1];exact hlt
   obtain ⟨g,f,rfl,hg,hcell⟩:=HV.out.at_ aU;have lW:=hcell wr (b8.out.block g hg);have Ms:g<wr.heap.size:=by have:=b8.out.size;omega
   obtain ⟨p,vW⟩:=ν (l[k]);have ZA:p<1000:=by rw[<-vW];exact HP.out _ (List.getElem_mem aU)
   have cB:=Fk aU;rw[vW]at lW cB;have hvw:=sJ.out.later b8.out;have hit:=λW (h:dn W)=>pW p Y W h;have Qs:=jj p 2 Y;have hss:(bs (Lib.decDigits p)).size=(Lib.decDigits p).length:=df _;have hsz:¬(9223372036854775807:Nat)<(bs (Lib.decDigits p)).size+ByteArray.size ⟨#[32]⟩:=by rw[hss];show ¬(9223372036854775807:Nat)<(Lib.decDigits p).length+1;omega
   have gO:bl (bs (Lib.decDigits p)++⟨#[32]⟩)=Lib.decDigits p++[32]:=by rw[show (⟨#[32]⟩:ByteArray)=bs [32] from rfl];simp[bl,bs]
   have Uh:(bs (Lib.decDigits p)++⟨#[32]⟩).size<=1000000:=by rw[ByteArray.size_append,hss];show _+1<=_;omega
   have aee:(dP (l.take k)).length<=1000000000:=by
    have:=rA (l.take k) (λp h=>by have:=HP.out p (List.mem_of_mem_take h);omega)
    have h2:(l.take k).length<=k:=List.length_take_le _ _;omega
   have HIT:=Z hit;have jG:=Z (H cB gO);have Ad:=Z aee;have Vn:=Z hvw;clear hcell vW cB hit Qs hss gO aee hvw aU;go_wp2_with (go_at_call 165;refine (HIT.out _ Vn.out).mono ?_;rintro e w1 ⟨rfl,hb1⟩);go_wp2_with (go_at_call 164;refine (mz _ _ _ _ (HI.out.later hb1) Ad.out Uh).mono ?_;rintro e w2 ⟨rfl,eS,aJ⟩);have Er:DR w.heap.size (dP (l.take (k+1))) w2:=by rw[jG.out.2,jG.out.1]at eS;exact eS
   have HI3:=Z Er;have jN:=Z (b8.out.trans ((hb1.mono b8.out.size).trans aJ));clear eS Er hb1 aJ;go_wp2_with fail;go_roundw
   case rel=>exact ⟨k+1,Y,by go_num,HI3,jN⟩
   case measure=>exact μ
  .obtain rfl:k=nl:=Y;have aY:=b8.out;have oL:DR w.heap.size (dP l) wr:=by have:=HI.out;rwa [List.take_of_length_le (by rw[NN.out.1];exact I)]at this
   have HIB:=Z oL;obtain ⟨nm,qF⟩:∃x,dP l=x:=⟨_,rfl⟩;have Pn:=Z qF;have hlw:w.heap.size<wr.heap.size:=by
    rcases oL.1 with ⟨_,v,vS,_⟩|⟨_,v,vS,_⟩ <;> exact (γ vS).1
   have hsl:s<wr.heap.size:=Y;have hif:XE w.heap.size nm wr:=by rw[<-qF];exact ⟨Lib.IsBuilderF.of oL.1,oL.2⟩
   have aef:=(Lb.out mb (by simp[iH])).2
   have hcD:∀d:World,Below w.heap.size wr d->d.heap[s]?=some (.cells #[v0,v1,v2,.map (some mb),.slice Ag ng cg] 182 (0,0)):=λd hd=>(hd.block s Zt).trans ((aY.block s Zt).trans Pm.out);have hmD:∀d:World,Below w.heap.size wr d->MV Tryz.prog 9 mb gs.length F d:=λd hd=>HB.out.mv.kept ((hd.block mb aef).trans (aY.block mb aef));have ju:keyOf Tryz.prog 9 (.string (bs nm))=some (.string nm):=by
    have:=WideMaps.keyOf_string_mk (P:=Tryz.prog) (k:=9) Tryz.underlying9 (s:=bs nm) (by rw[df,<-qF];unfold maxLen;omega)
    rwa [Ga]at this
   have HCD:=Z hcD;have HMD:=Z hmD;have ID:=Z ju;have HIF:=Z hif;have jH:Below w.heap.size wr wr.drew/\XE w.heap.size nm wr.drew:=⟨(Below.refl wr wr).drew.mono Y,hif⟩;obtain ⟨r,q,hrq⟩:∃(r:Int) (q:Bool),(vp gs l).getD (.int .i64 0)=.int .i64 r/\(vp gs l).isSome=q/\(if l∈gs then r=((gs.idxOf l:Nat):Int)/\q=true else q=false):=by
    by_cases hm:l∈gs
    .exact ⟨_,_,(G1 hm).1,(G1 hm).2,by rw[if_pos hm];exact ⟨rfl,rfl⟩⟩
    .exact ⟨_,_,(CI hm).1,(CI hm).2,by rw[if_neg hm]⟩
   have rU:∀d:World,Below w.heap.size wr d->(Instr.lookup 176 (.map (some mb)) (.string (bs nm)) true).run Tryz.prog d=.ok (.tuple #[.int .i64 r,.bool q]) d:=λd hd=>by
    have h1:=(HMD.out d hd).look_ok K Tryz.underlying176 hz ID.out trivial;rw[<-qF,HB.out.says l,hrq.1,hrq.2.1]at h1;rw[qF]at h1;exact h1
   have HLK:=Z rU;have HRQ:=Z hrq.2.2;clear oL qF hif hcD hmD ju hrq rU aY;go_wp2_with fail;refine aQ 10 [] (RX s mb nm r q) (λ_ w'=>Below w.heap.size wr w'/\XE w.heap.size nm w') κ κ κ κ κ κ O jH ?_ ?_
   .simp only[eK,eL];refine ag.pure O ?_ (ag.pure O ?_ (ag.pure O ?_ (ag.pure O ?_ (ag.free O ?_ (ag.pure O ?_ (ag.pure O ?_ (ag.pure O ?_ (ag.pure O ?_ (ag.pure O ?_ (ag.nil))))))))))
    all_goals first | (with_reducible intro v wz c dy hS hE K hK;simp only[ay,Act.put,gU,gV,gW,Nat.zero_add,Nat.reduceAdd,eK,eL]at hK|-) | (intro v wz hS hE K hK;simp only[ay,Act.put,gU,gV,gW,Nat.zero_add,Nat.reduceAdd,eK,eL]at hK|-)
    .exact ζ
    .have e0:v 0=_:=hE.1 rfl;rw[e0]at hK|-;exact ζ
    .have e1:v 1=_:=hE.1 rfl;rw[e1]at hK|-;exact ζ
    .have e2:v 2=_:=hE.1 rfl;rw[e2]at hK|-;have cs3:wz.cell? ⟨s,3,none⟩=some (.map (some mb)):=by rw[cell_of_row _ _ _ _ _ _ (HCD.out wz hS.1)];rfl
     have lsz:s<wz.heap.size:=by have:=hS.1.size;omega
     exact ζ
    .have aK:=uK w.heap.size nm wz hS.2;have HC:=Z aK;have HX:=Z hS;clear hS hE dy aK;go_wp2_with fail;refine HC.out.mono ?_;rintro e wy ⟨rfl,hf,hb⟩;have HY:=Z (H (HX.out.1.trans hb) hf);clear hf hb;go_wp2_with fail;refine hK.out _ _ (λj z hj h=>?_) HY.out rfl
     match j with
     |0|1|2|3|5|6|7|8|9=>exact h
     |4=>exact absurd rfl hj
     |_+10=>exact trivial
    .have e3:v 3=_:=hE.1 rfl;rw[e3]at hK|-;have E4:=hE.2.1 rfl;have e4:v 4=_:=E4;rw[e4]at hK|-;have hlk:=HLK.out wz hS.1;exact ζ
    .have E5:=hE.1 rfl;have e5:v 5=_:=E5;rw[e5]at hK|-;exact ζ
    .have E6:=hE.1 rfl;have e6:v 6=_:=E6;rw[e6]at hK|-;exact ζ
    .have E6:=hE.1 rfl;have e6:v 6=_:=E6;rw[e6]at hK|-;exact ζ
    .have E7:=hE.1 rfl;have e7:v 7=_:=E7;rw[e7]at hK|-;exact ζ
   .intro v wz hS hF;have e0:v 0=_:=hF 0 O;have e1:v 1=_:=hF 1 O;have e2:v 2=_:=hF 2 O;have e3:v 3=_:=hF 3 O;have E4:=hF 4 O;have E5:=hF 5 O;have E6:=hF 6 O;have E7:=hF 7 O;have E8:=hF 8 O;have E9:=hF 9 O;simp only[ay,Act.put,gU,gV,gW,Nat.zero_add,Nat.reduceAdd,eK,eL,List.drop_succ_cons,List.drop_zero,e0,e1,e2,e3];clear hF e0 e1 e2 e3;have e4:v 4=_:=E4;have e5:v 5=_:=E5;have e6:v 6=_:=E6;have e7:v 7=_:=E7;have e8:v 8=_:=E8;have e9:v 9=_:=E9;rw[e4,e5,e6,e7,e8,e9];have HS:=Z hS;clear hS E4 E5 E6 E7 E8 E9 e4 e5 e6 e7 e8 e9;have XG:=HCD.out wz HS.out.1;have hz4:=HS.out.1.size;have cs4:wz.cell? ⟨s,4,none⟩=some (.slice Ag ng cg):=by rw[cell_of_row _ _ _ _ _ _ XG];rfl
    have cs3:wz.cell? ⟨s,3,none⟩=some (.map (some mb)):=by rw[cell_of_row _ _ _ _ _ _ XG];rfl
    have lsz:s<wz.heap.size:=Y;clear XG
    cases q with
    |true=>
     have hm:l∈gs:=by
      by_cases hm:l∈gs
      .exact hm
      .have:=HRQ.out;rw[if_neg hm]at this;cases this
     have HM:=Z hm;clear hm;go_wp2_with fail;refine bodyPost_ret (v:=.int .i64 r) (by simp[results,Tryz.results136,go_sem];try rfl) rfl ?_
     have hm:=HM.out;have Ep:Below w.heap.size w wz:=b8.out.trans HS.out.1;have h1:ia gs l=gs:=if_pos hm;have h2:=HRQ.out;rw[if_pos hm]at h2;refine ⟨iH s mb (.slice Ag gs.length cg),?_,?_,aj.aa Ep⟩
     .rw[h1,h2.1]
     rw[h1];exact rX.later ⟨_,gv,F,rfl,HB.out⟩ Ep
    |false=>
     have hm:l∉gs:=λhm=>by have:=HRQ.out;rw[if_pos hm]at this;cases this.2
     have HM:=Z hm;clear hm;have hS1:Below w.heap.size wr wz.drew/\XE w.heap.size nm wz.drew:=⟨HS.out.1.drew,HS.out.2⟩;go_wp2_with fail;refine aQ 6 [] (NM s mb nm ng) (λ_ w'=>Below w.heap.size wr w'/\XE w.heap.size nm w') κ κ κ κ κ κ O hS1 ?_ ?_
     .simp only[eK,eL];refine ag.pure O ?_ (ag.pure O ?_ (ag.pure O ?_ (ag.pure O ?_ (ag.free O ?_ (ag.pure O ?_ (ag.nil))))))
      all_goals first | (with_reducible intro v wz c dy hS hE K hK;simp only[ay,Act.put,gU,gV,gW,Nat.zero_add,Nat.reduceAdd,eK,eL]at hK|-) | (intro v wz hS hE K hK;simp only[ay,Act.put,gU,gV,gW,Nat.zero_add,Nat.reduceAdd,eK,eL]at hK|-)
      .exact ζ
      .have e0:v 0=_:=hE.1 rfl;rw[e0]at hK|-;exact ζ
      .have e1:v 1=_:=hE.1 rfl;rw[e1]at hK|-;exact ζ
      .have e2:v 2=_:=hE.1 rfl;rw[e2]at hK|-;have cs3:wz.cell? ⟨s,3,none⟩=some (.map (some mb)):=by rw[cell_of_row _ _ _ _ _ _ (HCD.out wz hS.1)];rfl
       have lsz:s<wz.heap.size:=by have:=hS.1.size;omega
       exact ζ
      .have aK:=uK w.heap.size nm wz hS.2;have HC:=Z aK;have HX:=Z hS;clear hS hE dy aK;go_wp2_with fail;refine HC.out.mono ?_;rintro e wy ⟨rfl,hf,hb⟩;have HY:=Z (H (HX.out.1.trans hb) hf);clear hf hb;go_wp2_with fail;refine hK.out _ _ (λj z hj h=>?_) HY.out rfl
       match j with
       |0|1|2|3|5=>exact h
       |4=>exact absurd rfl hj
       |_+6=>exact trivial
      .exact ζ
     .intro v wz hS hF;have e0:v 0=_:=hF 0 O;have e1:v 1=_:=hF 1 O;have e2:v 2=_:=hF 2 O;have e3:v 3=_:=hF 3 O;have e5:v 5=_:=hF 5 O;have E4:=hF 4 O;simp only[ay,Act.put,gU,gV,gW,Nat.zero_add,Nat.reduceAdd,eK,eL,List.drop_succ_cons,List.drop_zero,e0,e1,e2,e3,e5];clear hF e0 e1 e2 e3 e5;have e4:v 4=_:=E4;rw[e4];clear E4 e4;obtain ⟨i1,iW,Gf,tv,pJ⟩:=info_parts FD;have Kk:=HMD.out wz hS.1;have hrow:=HCD.out wz hS.1;have hz5:=hS.1.size;have Ep:=b8.out.trans hS.1;have NP:wz.ownsRow B 22 1 (.slice Ag ng cg) ng gv:=by rw[<-NN.out.2];exact aG HB.out.own λg hg=>Ep.block g (HB.out.own.lt g hg).2
      have hne:=HB.out.ne;have hBB:=HB.out.hs;have eW:=HV.out.later Ep;rw[NN.out.2]at hne;have Pu:=Z (H eW Ep);have To:=Z hS;clear hS eW;refine oD wz rfl _ _ _ _ rfl 9 3 K Tryz.underlying176 mb _ F rfl Kk (by rw[NN.out.2];unfold maxLen;omega) _ _ _ rfl rfl ID.out trivial ?_
      intro w1 mo fH;have hz1:=fH.size;have atN:s<w1.heap.size:=Y;have NQ:w1.heap[s]?=_:=(fH.block s Y (λe=>hne.1 (by injection e))).trans hrow
      have d4:w1.cell? ⟨s,4,none⟩=some (.slice Ag ng cg):=by rw[cell_of_row _ _ _ _ _ _ NQ];rfl
      have hown1:w1.ownsRow B 22 1 (.slice Ag ng cg) ng gv:=aG NP λg hg=>fH.block g (NP.lt g hg).2 (λe=>by injection e with e;exact hne.2.2 (by rw[hg,e]))
      have tG:=Z mo;have HG1:=Z fH;have pz:=Z NQ;have FF:=Z hown1;clear mo fH NQ hown1 NP Kk hrow;have hlz:w1.heap.size<w1.heap.size+1:=Y;have iY:∀j u,[Value.slice A k c][j]?=some u->(w1.alloc (.cells #[.slice A k c] 22)).cell? ((⟨w1.heap.size,0,none⟩:Addr).add j)=some u:=by
       intro j u hj
       match j,hj with
       |0,hj=>simp at hj;subst hj;simp[Addr.add]
      have cZ:(w1.alloc (.cells #[.slice A k c] 22)).ownsRow B 22 1 (.slice Ag ng cg) ng gv:=FF.out.alloc _;go_wp2_with (at_builtin;refine cQ rfl _ _ 178 rfl B 22 i1 (.slice none 0 0) 1 24 Tryz.underlying178 iW Gf tv pJ rfl O _ ng gv rfl cZ ⟨w1.heap.size,0,none⟩ 1 1 [.slice A k c] rfl ξ iY (by intro u hu;simp at hu;subst hu;rfl) (by unfold maxLen;omega) Y ψ ?_)
      intro v' w3 cI sN qH;have We:(w1.alloc (.cells #[.slice A k c] 22)).heap.size=w1.heap.size+1:=ξ;have Dl:=sN.size;have atP:s<w3.heap.size:=Y;have NR:w3.heap[s]?=_:=(sN.block s Y (λe=>hne.2.1 e.symm)).trans ((aB w1 _ s Y).trans pz.out);have d4':w3.cell? ⟨s,4,none⟩=some (.slice Ag ng cg):=by rw[cell_of_row _ _ _ _ _ _ NR];rfl
      have f4':w3.frozen? ⟨s,4,none⟩=false:=by simp[World.frozen?,NR]
      obtain ⟨A',c',rfl,-,-⟩:=ar cI;have HX3:=Z (H cI (H sN qH));clear cI sN qH cZ iY NR;go_wp2_with fail;refine az λWf bY=>?_;refine bodyPost_ret (v:=.int .i64 (ng:Int)) (by rw[bY];simp[results,Tryz.results136,go_sem];try rfl) rfl ?_
      have h1:ia gs l=gs++[l]:=if_neg HM.out;have hsz:RY B s mb v0 v1 v2 gs (.slice Ag gs.length cg) gv F wz:=HB.out.same (λq hq=>Pu.out.2.block q (Lb.out q hq).2) Pu.out.2.size (λv l h _ ht=>⟨h.later Pu.out.2,ht.later Pu.out.2⟩);have mB:=hsz.add (l:=l) (v:=.slice A l.length c) (vg':=.slice A' (ng+1) c') (n:=(ng:Int)) (w1:=w1) (w2:=w1.alloc (.cells #[.slice A k c] 22)) (w3:=w3) Pu.out.1 HO.out (HTI.out.later Pu.out.2) HM.out (by rw[NN.out.2]) HG1.out (by rw[Pn.out];exact tG.out) (υ.alloc I _) (by rw[NN.out.2];exact HX3.out.2.1) (by rw[NN.out.2,NN.out.1];exact HX3.out.1) (by rw[NN.out.2,We];exact HX3.out.2.2)
      refine ⟨iH s mb (.slice A' (ng+1) c'),?_,?_,?_⟩
      .rw[h1,List.idxOf_append,if_neg HM.out];simp[NN.out.2]
      .rw[h1,bY];exact mB.1
      .rw[bY];exact (aj.aa Pu.out.2).trans mB.2
end
end Go.Proofs.YtdmoogjddmdmbaaGreatDoor
