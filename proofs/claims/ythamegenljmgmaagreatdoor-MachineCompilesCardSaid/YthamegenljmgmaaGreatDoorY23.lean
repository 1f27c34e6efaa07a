/- Walks. -/
import Derived.Test.YthamegenljmgmaaGreatDoorY14
import Derived.Test.YthamegenljmgmaaGreatDoorY22
import Derived.Test.YthamegenljmgmaaGreatDoorY18
import Derived.Test.YthamegenljmgmaaGreatDoorY10
import Derived.Lib.AppendStr
set_option maxRecDepth 100000
set_option maxHeartbeats 16000000
set_option linter.unusedVariables false
set_option linter.unusedSimpArgs false
namespace Go.Proofs.YthamegenljmgmaaGreatDoor
open Go.RowKit
section
open Go.Maps (Keyed)
theorem K5.later{b:Nat}{l:List UInt8}{w w':World}(h:K5 b l w)(hb:Below w w w'):K5 b l w':=by
 obtain ⟨h,hw⟩:=h;refine ⟨?_,Nat.le_trans hw hb.size⟩;rcases h with ⟨h0,v,Dh,ao,bf⟩|⟨h0,v,Dh,ao,bf⟩
 .exact .inl ⟨h0,v,(hb.block b (γ Dh).1).t Dh,ar ao λg hg=>hb.block g (ao.lt g hg).2,bf⟩
 .exact .inr ⟨h0,v,(hb.block b (γ Dh).1).t Dh,ar ao λg hg=>hb.block g (ao.lt g hg).2,bf⟩
theorem IL.jL{w:World}{A:Option Addr}{n c:Nat}{l:List Nat}(h:IL w (.slice A n c) l){k:Nat}(hk:k<l.length):∃g f,A=some ⟨g,f,none⟩/\g<w.heap.size/\∀w':World,w'.heap[g]?=w.heap[g]?->w'.cell? (Z g (f+k))=some (.int .i64 (l[k]:Int)):=by
 rcases h with ⟨rfl,-⟩|⟨g,f,c',e,h0,hg,hc,ak⟩
 .cases hk
 .injection e with e1 e2 e3;exact ⟨g,f,e1,hg,λw' hw=>(χ g (f+k) hw).t (ak k hk)⟩
def We(b:Nat)(l:List UInt8)(w:World):Prop:=Lib.IsBuilderF 84 5 b b (Lib.byteCells l) w/\b<=w
theorem vu(b:Nat)(l:List UInt8)(w:World)(h:We b l w):
  Calls Tryz.prog 40 #[.pointer (Z b 0)] w λe w'=>e=.returned (.string (bs l))/\We b l w'/\Below b w w':=
 (Any.Builder_String_any_f FV ku b b l w h.1 h.2).mono λ_ _ ⟨h1,h2,h3⟩=>⟨h1,⟨h2,Nat.le_trans h.2 h3.size⟩,h3⟩
theorem GL{gs:List (List Nat)}{l:List Nat}(h:l∈gs):(vU gs l).getD (.int .i64 0)=.int .i64 ((gs.idxOf l:Nat):Int)/\(vU gs l).isSome=true:=by unfold vU;rw[if_pos h];exact ⟨rfl,rfl⟩
theorem Cv{gs:List (List Nat)}{l:List Nat}(h:l∉gs):(vU gs l).getD (.int .i64 0)=.int .i64 0/\(vU gs l).isSome=false:=by unfold vU;rw[if_neg h];exact ⟨rfl,rfl⟩
def Rg(s mb:Nat)(nm:List UInt8)(r:Int)(q:Bool):Nat->Nat->Value->World->Prop
 |c,0,x,w=>x=.pointer (Z s 0)
 |c,1,x,w=>x=.pointer (Z s 0)
 |c,2,x,w=>x=.pointer (Z s 3)
 |c,3,x,w=>x=.map (some mb)
 |c,4,x,w=>x=.string (bs nm)
 |c,5,x,w=>x=.tuple #[.int .i64 r,.bool q]
 |c,6,x,w=>x=.tuple #[.int .i64 r,.bool q]
 |c,7,x,w=>x=.int .i64 r
 |c,8,x,w=>x=.bool q
 |c,9,x,w=>x=.int .i64 r
 |_,_,_,_=>True
def MP(s mb:Nat)(nm:List UInt8)(ng:Nat):Nat->Nat->Value->World->Prop
 |c,0,x,w=>x=.pointer (Z s 0)
 |c,1,x,w=>x=.pointer (Z s 0)
 |c,2,x,w=>x=.pointer (Z s 3)
 |c,3,x,w=>x=.map (some mb)
 |c,4,x,w=>x=.string (bs nm)
 |c,5,x,w=>x=.int .i64 (ng:Int)
 |_,_,_,_=>True
theorem EH{l:List Nat}{k:Nat}(h:k<l.length):eO (l.take k)++(Lib.decDigits l[k]++[32])=eO (l.take (k+1)):=by
 rw[List.take_succ_eq_append_getElem h,EB]
def Wg(B s mb:Nat)(v0 v1 v2:Value)(gs:List (List Nat))(l:List Nat)(fp:List Nat)(w:World)(e:Ending)(w':World):Prop:=∃fp',e=.returned (.int .i64 (((iL gs l).idxOf l:Nat):Int))/\sX B s mb v0 v1 v2 (iL gs l) fp' w'/\ab fp fp' w w'
theorem uY(B s mb:Nat)(v0 v1 v2:Value)(gs:List (List Nat))(fp:List Nat)(w:World)(l:List Nat)(v:Value)(h:sX B s mb v0 v1 v2 gs fp w)(hv:IL w v l)(ho:aO fp v)(ht:TI w v)(hl:l.length<=1000)(hp:∀p∈l,p<1000)(Bb:gs.length<=1000000)(pD:eU w):
  Calls Tryz.prog 20 #[.pointer (Z s 0),v] w (Wg B s mb v0 v1 v2 gs l fp w):=by
 obtain ⟨vg,gv,F,rfl,hb⟩:=h;obtain ⟨A,c,rfl,kr,jD⟩:=hv.form;obtain ⟨Ag,cg,rfl,aiZ,arS⟩:=ae hb.own;have K:Keyed Tryz.prog 9:=Maps.string_keyed Tryz.underlying9;have hz:∀w,(zeroValue 3).run Tryz.prog w=.ok (.int .i64 0) w:=λ_=>R;have aB:=hb.lt;have s5:s<w:=(aB s (by simp[jT])).2
 have bH:=hb.cs;have hlen:=sB l (λp h=>by have:=hp p h;omega)
 obtain ⟨nl,mr⟩:∃n,l.length=n:=⟨_,rfl⟩;obtain ⟨ng,OU⟩:∃n,gs.length=n:=⟨_,rfl⟩;have HTI:=Y ht;have HV:=Y hv;have HB:=Y hb;have HO:=Y ho;have HP:=Y hp;have qD:=Y pD;have C8:=Y aB;have mo:=Y (I mr OU);rw[mr]at kr hl hlen|-;rw[OU]at Bb bH aiZ;clear hv hb ho hp pD aB mr OU;have wN:=Y bH;clear bH
 go_enter Tryz.func20,Tryz.ntmps20
 go_wp2_with fail;go_loopw [12] (λiv wr=>∃k:Nat,k<=nl/\iv=.int .i64 (k:Int)/\Hid (K5 w (eO (l.take k)) wr)/\Hid (Below w w wr)) (λiv _=>nl - (intOf iv).toNat)
 case atStart=>exact ⟨0,Nat.zero_le _,rfl,⟨Lib.fresh_isBuilder _ _ w,H⟩,(Below.refl _ w).alloc V _⟩
 case round=>
  obtain ⟨k,hk,rfl,HI,dc⟩:=hrel;by_cases aB:k<nl
  .have hd:decide ((k:Int)<(nl:Int))=true:=τ;have aV:k<l.length:=by rw[mo.1];exact aB
   obtain ⟨g,f,rfl,hg,ak⟩:=HV.jL aV;have tJ:=ak wr (dc.block g hg);have xq:g<wr:=by have:=dc.size;omega
   obtain ⟨p,qe⟩:=ν (l[k]);have C7:p<1000:=by rw[<-qe];exact HP _ (List.getElem_mem aV)
   have fw:=EH aV;rw[qe]at tJ fw;have Kp:=qD.later dc.o;have hit:=λW (h:eU W)=>oC p U W h;have FZ:=kB p 2 U;have hss:(bs (Lib.decDigits p)).size=(Lib.decDigits p).length:=mB _;have jn:¬(9223372036854775807:Nat)<(bs (Lib.decDigits p)).size+ByteArray.size ⟨#[32]⟩:=by rw[hss];show ¬(9223372036854775807:Nat)<(Lib.decDigits p).length+1;omega
   have j7:bl (bs (Lib.decDigits p)++⟨#[32]⟩)=Lib.decDigits p++[32]:=by rw[show (⟨#[32]⟩:ByteArray)=bs [32] from rfl];simp[bl,bs]
   have hs6:(bs (Lib.decDigits p)++⟨#[32]⟩).size<=1000000:=by rw[ByteArray.size_append,hss];show _+1<=_;omega
   have ab5:(eO (l.take k)).length<=1000000000:=by
    have:=sB (l.take k) (λp h=>by have:=HP p (List.mem_of_mem_take h);omega)
    have h2:(l.take k).length<=k:=List.length_take_le _ _;omega
   have HIT:=Y hit;have j8:=Y (I fw j7);have mI:=Y ab5;have UM:=Y Kp;clear ak qe fw hit FZ hss j7 ab5 Kp aV;go_wp2_with (go_at_call 39;refine (HIT _ UM.o).mono ?_;rintro e w1 ⟨rfl,aM⟩);go_wp2_with (go_at_call 38;refine (oA _ _ _ _ (HI.later aM) mI.o hs6).mono ?_;rintro e w2 ⟨rfl,ek,aS⟩);have BZ:K5 w (eO (l.take (k+1))) w2:=by rw[j8.2,j8.1]at ek;exact ek
   have wT:=Y BZ;have oq:=Y (dc.t ((aM.mono dc.size).t aS));clear ek BZ aM aS;go_wp2_with fail;go_roundw
   case rel=>exact ⟨k+1,U,by go_num,wT,oq⟩
   case measure=>exact μ
  .obtain rfl:k=nl:=U;have bT:=dc.o;have pe:K5 w (eO l) wr:=by have:=HI.o;rwa [List.take_of_length_le (by rw[mo.1];exact V)]at this
   have HIB:=Y pe;obtain ⟨nm,Hx⟩:∃x,eO l=x:=⟨_,rfl⟩;have S0:=Y Hx;have hlw:w.heap.size<wr:=by
    rcases pe.1 with ⟨_,v,Dh,_⟩|⟨_,v,Dh,_⟩ <;> exact (γ Dh).1
   have eP:s<wr:=U;have hif:We w nm wr:=by rw[<-Hx];exact ⟨Lib.IsBuilderF.of pe.1,pe.2⟩
   have ab6:=(C8 mb (by simp[jT])).2
   have hcD:∀d:World,Below w wr d->d.heap[s]?=some (.cells #[v0,v1,v2,.map (some mb),.slice Ag ng cg] 54):=λd hd=>(hd.block s s5).t ((bT.block s s5).t wN.o);have hmD:∀d:World,Below w wr d->MV Tryz.prog 9 mb gs.length F d:=λd hd=>HB.mv.iJ ((hd.block mb ab6).t (bT.block mb ab6));have jq:keyOf Tryz.prog 9 (.string (bs nm))=some (.string nm):=by
    have:=WideMaps.keyOf_string_mk (P:=Tryz.prog) (k:=9) Tryz.underlying9 (s:=bs nm) (by rw[mB,<-Hx];unfold maxLen;omega)
    rwa [zi]at this
   have HCD:=Y hcD;have HMD:=Y hmD;have p6:=Y jq;have HIF:=Y hif;have dN:Below w wr wr.drew/\We w nm wr.drew:=⟨(Below.refl wr wr).drew.mono U,hif⟩;obtain ⟨r,q,Wh⟩:∃(r:Int) (q:Bool),(vU gs l).getD (.int .i64 0)=.int .i64 r/\(vU gs l).isSome=q/\(if l∈gs then r=((gs.idxOf l:Nat):Int)/\q=true else q=false):=by
    by_cases hm:l∈gs
    .exact ⟨_,_,(GL hm).1,(GL hm).2,by rw[if_pos hm];exact ⟨rfl,rfl⟩⟩
    .exact ⟨_,_,(Cv hm).1,(Cv hm).2,by rw[if_neg hm]⟩
   have lJ:∀d:World,Below w wr d->(Instr.lookup 48 (.map (some mb)) (.string (bs nm)) true).run Tryz.prog d=.ok (.tuple #[.int .i64 r,.bool q]) d:=λd hd=>by
    have h1:=(HMD d hd).look_ok K Tryz.underlying48 hz p6.o trivial;rw[<-Hx,HB.says l,Wh.1,Wh.2.1]at h1;rw[Hx]at h1;exact h1
   have HLK:=Y lJ;have HRQ:=Y Wh.2.2;clear pe Hx hif hcD hmD jq Wh lJ bT;go_wp2_with fail;refine ay 10 [] (Rg s mb nm r q) (λ_ w'=>Below w wr w'/\We w nm w') R R R R R R O dN ?_ ?_
   .simp only[ck,ct];refine aa.pure O ?_ (aa.pure O ?_ (aa.pure O ?_ (aa.pure O ?_ (aa.gp O ?_ (aa.pure O ?_ (aa.pure O ?_ (aa.pure O ?_ (aa.pure O ?_ (aa.pure O ?_ (aa.nil))))))))))
    all_goals first | (intro v wz c bX hS hE K hK;simp only[ah,Act.put,dk,dm,dn,Nat.zero_add,Nat.reduceAdd,ck,ct]at hK|-) | (intro v wz hS hE K hK;simp only[ah,Act.put,dk,dm,dn,Nat.zero_add,Nat.reduceAdd,ck,ct]at hK|-)
    .exact ζ
    .have e0:v 0=_:=hE.1 rfl;rw[e0]at hK|-;exact ζ
    .have e1:v 1=_:=hE.1 rfl;rw[e1]at hK|-;exact ζ
    .have e2:v 2=_:=hE.1 rfl;rw[e2]at hK|-;have cs3:wz.cell? (Z s 3)=some (.map (some mb)):=by rw[Φ (HCD wz hS.1)];rfl
     have S3:s<wz:=by have:=hS.1.size;omega
     exact ζ
    .have aG:=vu w nm wz hS.2;have HC:=Y aG;have HX:=Y hS;clear hS hE bX aG;go_wp2_with fail;refine HC.mono ?_;rintro e wy ⟨rfl,hf,hb⟩;have HY:=Y (I (HX.1.t hb) hf);clear hf hb;go_wp2_with fail;refine hK.out _ _ (λj z hj h=>?_) HY.o rfl
     match j with
     |0|1|2|3|5|6|7|8|9=>exact h
     |4=>exact absurd rfl hj
     |_+10=>exact trivial
    .have e3:v 3=_:=hE.1 rfl;rw[e3]at hK|-;have E4:=hE.2.1 rfl;have e4:v 4=_:=E4;rw[e4]at hK|-;have Kb:=HLK wz hS.1;exact ζ
    .have E5:=hE.1 rfl;have e5:v 5=_:=E5;rw[e5]at hK|-;exact ζ
    .have E6:=hE.1 rfl;have e6:v 6=_:=E6;rw[e6]at hK|-;exact ζ
    .have E6:=hE.1 rfl;have e6:v 6=_:=E6;rw[e6]at hK|-;exact ζ
    .have E7:=hE.1 rfl;have e7:v 7=_:=E7;rw[e7]at hK|-;exact ζ
   .intro v wz hS hF;have e0:v 0=_:=hF 0 O;have e1:v 1=_:=hF 1 O;have e2:v 2=_:=hF 2 O;have e3:v 3=_:=hF 3 O;have E4:=hF 4 O;have E5:=hF 5 O;have E6:=hF 6 O;have E7:=hF 7 O;have E8:=hF 8 O;have E9:=hF 9 O;simp only[ah,Act.put,dk,dm,dn,Nat.zero_add,Nat.reduceAdd,ck,ct,List.drop_succ_cons,List.drop_zero,e0,e1,e2,e3];clear hF e0 e1 e2 e3;have e4:v 4=_:=E4;have e5:v 5=_:=E5;have e6:v 6=_:=E6;have e7:v 7=_:=E7;have e8:v 8=_:=E8;have e9:v 9=_:=E9;rw[e4,e5,e6,e7,e8,e9];have HS:=Y hS;clear hS E4 E5 E6 E7 E8 E9 e4 e5 e6 e7 e8 e9;have Wi:=HCD wz HS.1;have hz4:=HS.1.size;have cs4:wz.cell? (Z s 4)=some (.slice Ag ng cg):=by rw[Φ Wi];rfl
    have cs3:wz.cell? (Z s 3)=some (.map (some mb)):=by rw[Φ Wi];rfl
    have S3:s<wz:=U;clear Wi
    cases q with
    |true=>
     have hm:l∈gs:=by
      by_cases hm:l∈gs
      .exact hm
      .have:=HRQ.o;rw[if_neg hm]at this;cases this
     have HM:=Y hm;clear hm;go_wp2_with fail;refine bodyPost_ret (v:=.int .i64 r) (by simp[results,Tryz.results20,go_sem];try rfl) rfl ?_
     have hm:=HM.o;have zw:Below w w wz:=dc.t HS.1;have h1:iL gs l=gs:=if_pos hm;have h2:=HRQ.o;rw[if_pos hm]at h2;refine ⟨jT s mb (.slice Ag gs.length cg),?_,?_,ab.aj zw⟩
     .rw[h1,h2.1]
     rw[h1];exact sX.later ⟨_,gv,F,rfl,HB.o⟩ zw
    |false=>
     have hm:l∉gs:=λhm=>by have:=HRQ.o;rw[if_pos hm]at this;cases this.2
     have HM:=Y hm;clear hm;have hS1:Below w wr wz.drew/\We w nm wz.drew:=⟨HS.1.drew,HS.2⟩;go_wp2_with fail;refine ay 6 [] (MP s mb nm ng) (λ_ w'=>Below w wr w'/\We w nm w') R R R R R R O hS1 ?_ ?_
     .simp only[ck,ct];refine aa.pure O ?_ (aa.pure O ?_ (aa.pure O ?_ (aa.pure O ?_ (aa.gp O ?_ (aa.pure O ?_ (aa.nil))))))
      all_goals first | (intro v wz c bX hS hE K hK;simp only[ah,Act.put,dk,dm,dn,Nat.zero_add,Nat.reduceAdd,ck,ct]at hK|-) | (intro v wz hS hE K hK;simp only[ah,Act.put,dk,dm,dn,Nat.zero_add,Nat.reduceAdd,ck,ct]at hK|-)
      .exact ζ
      .have e0:v 0=_:=hE.1 rfl;rw[e0]at hK|-;exact ζ
      .have e1:v 1=_:=hE.1 rfl;rw[e1]at hK|-;exact ζ
      .have e2:v 2=_:=hE.1 rfl;rw[e2]at hK|-;have cs3:wz.cell? (Z s 3)=some (.map (some mb)):=by rw[Φ (HCD wz hS.1)];rfl
       have S3:s<wz:=by have:=hS.1.size;omega
       exact ζ
      .have aG:=vu w nm wz hS.2;have HC:=Y aG;have HX:=Y hS;clear hS hE bX aG;go_wp2_with fail;refine HC.mono ?_;rintro e wy ⟨rfl,hf,hb⟩;have HY:=Y (I (HX.1.t hb) hf);clear hf hb;go_wp2_with fail;refine hK.out _ _ (λj z hj h=>?_) HY.o rfl
       match j with
       |0|1|2|3|5=>exact h
       |4=>exact absurd rfl hj
       |_+6=>exact trivial
      .exact ζ
     .intro v wz hS hF;have e0:v 0=_:=hF 0 O;have e1:v 1=_:=hF 1 O;have e2:v 2=_:=hF 2 O;have e3:v 3=_:=hF 3 O;have e5:v 5=_:=hF 5 O;have E4:=hF 4 O;simp only[ah,Act.put,dk,dm,dn,Nat.zero_add,Nat.reduceAdd,ck,ct,List.drop_succ_cons,List.drop_zero,e0,e1,e2,e3,e5];clear hF e0 e1 e2 e3 e5;have e4:v 4=_:=E4;rw[e4];clear E4 e4;obtain ⟨i1,fs,r5,iI,j9⟩:=info_parts tR;have Bz:=HMD wz hS.1;have aC:=HCD wz hS.1;have hz5:=hS.1.size;have zw:=dc.t hS.1;have MQ:wz.ownsRow B 22 1 (.slice Ag ng cg) ng gv:=by rw[<-mo.2];exact ar HB.own λg hg=>zw.block g (HB.own.lt g hg).2
      have bf:=HB.ne;have hBB:=HB.hs;have dE:=HV.later zw;rw[mo.2]at bf;have O2:=Y (I dE zw);have OI:=Y hS;clear hS dE;refine pQ wz rfl _ _ _ _ rfl 9 3 K Tryz.underlying48 mb _ F rfl Bz (by rw[mo.2];unfold maxLen;omega) _ _ _ rfl rfl p6.o trivial ?_
      intro w1 qd bg;have dh:=bg.size;have arW:s<w1:=U;have yB:w1.heap[s]?=_:=(bg.block s U (λe=>bf.1 (by injection e))).t aC
      have d4:w1.cell? (Z s 4)=some (.slice Ag ng cg):=by rw[Φ yB];rfl
      have ai:w1.ownsRow B 22 1 (.slice Ag ng cg) ng gv:=ar MQ λg hg=>bg.block g (MQ.lt g hg).2 (λe=>by injection e with e;exact bf.2.2 (by rw[hg,e]))
      have tI:=Y qd;have HG1:=Y bg;have IX:=Y yB;have xM:=Y ai;clear qd bg yB ai MQ Bz aC;have hlz:w1.heap.size<w1+1:=U;have iY:∀j u,[Value.slice A k c][j]?=some u->(w1.alloc (.cells #[.slice A k c] 22)).cell? (((Z w1 0):Addr).add j)=some u:=by
       intro j u hj
       match j,hj with
       |0,hj=>simp at hj;subst hj;simp[Addr.add]
      have bL:(w1.alloc (.cells #[.slice A k c] 22)).ownsRow B 22 1 (.slice Ag ng cg) ng gv:=xM.alloc _;go_wp2_with (at_builtin;refine bn rfl _ _ 50 rfl B 22 i1 () 1 24 Tryz.underlying50 fs r5 iI j9 rfl O _ ng gv rfl bL (Z w1 0) 1 1 [.slice A k c] rfl H iY (by intro u hu;simp at hu;subst hu;rfl) (by unfold maxLen;omega) U ψ ?_)
      intro v' w3 pI iF yr;have Ts:(w1.alloc (.cells #[.slice A k c] 22)).heap.size=w1.heap.size+1:=H;have sQ:=iF.size;have arX:s<w3:=U;have MR:w3.heap[s]?=_:=(iF.block s U (λe=>bf.2.1 e.symm)).t ((az w1 _ s U).t IX.o);have d4':w3.cell? (Z s 4)=some (.slice Ag ng cg):=by rw[Φ MR];rfl
      have f4':w3.frozen? (Z s 4)=false:=Ψ MR
      obtain ⟨A',c',rfl,-,-⟩:=ae pI;have YW:=Y (I pI (I iF yr));clear pI iF yr bL iY MR;go_wp2_with fail;refine au λWf bG=>?_;refine bodyPost_ret (v:=.int .i64 (ng:Int)) (by rw[bG];simp[results,Tryz.results20,go_sem];try rfl) rfl ?_
      have h1:iL gs l=gs++[l]:=if_neg HM.o;have jn:Rh B s mb v0 v1 v2 gs (.slice Ag gs.length cg) gv F wz:=HB.same (λq hq=>O2.2.block q (C8 q hq).2) O2.2.size (λv l h _ ht=>⟨h.later O2.2,ht.later O2.2⟩);have MS:=jn.add (l:=l) (v:=.slice A l.length c) (vg':=.slice A' (ng+1) c') (n:=(ng:Int)) (w1:=w1) (w2:=w1.alloc (.cells #[.slice A k c] 22)) (w3:=w3) O2.1 HO.o (HTI.later O2.2) HM.o (by rw[mo.2]) HG1.o (by rw[S0.o];exact tI.o) (D.alloc V _) (by rw[mo.2];exact YW.2.1) (by rw[mo.2,mo.1];exact YW.1) (by rw[mo.2,Ts];exact YW.2.2)
      refine ⟨jT s mb (.slice A' (ng+1) c'),?_,?_,?_⟩
      .rw[h1,List.idxOf_append,if_neg HM.o];simp[mo.2]
      .rw[h1,bG];exact MS.1
      .rw[bG];exact (ab.aj O2.2).t MS.2
end
theorem DG{P:Program}{w w':World}{base:Nat}{t u ty e:TypeId}{i:TypeInfo}(ht:P.underlying t=some (.slice e))(hu:P.underlying u=some .string)(hi:P.info? e=some i)(hz:i.zero=some (.int .u8 0))(lI:i.size=1)(jl:i.bytes=1)
  {v v':Value} {n:Nat} {xs:List Value} (ao:w.ownsRow base e 1 v n xs) (s:ByteArray) (FQ:n+s.size<=maxLen) (ic:n+s.size<=140737488355328)
  (hr:(Builtin.append_ #[t,u] ty #[v,.string s]).run P w=.ok v' w'):v'.ownBlock=v.ownBlock\/∃g,v'.ownBlock=some g/\w.heap.size<=g:=by
 have pU:xs.length=n:=by simpa using ao.1
 have yW:n+s.size<=9223372036854775807:=by simp only[maxLen]at FQ;omega
 rcases ao.2 with ⟨rfl,rfl⟩|⟨g,cap,cur,rfl,Yh,hg,AG,tY,bH,alQ⟩
 .have hx:xs=[]:=List.eq_nil_of_length_eq_zero pU;subst hx;obtain ⟨v2,w2,h2,h3,-⟩:=Lib.run_append_own_string (P:=P) w w t u ty e i ht hu hi hz lI jl () 0 [] (World.ownsRow_nil _ _ _ _) s FQ ic V;rw[h2]at hr;injection hr with e1 e2;subst e1
  cases hv:v2.ownBlock with
  |none=>exact .inl rfl
  |some g=>exact .inr ⟨g,rfl,(h3.lt g hv).1⟩
 .by_cases dG:n+s.size<=cap
  .have apD:cur.size=cap:=by simpa using bH
   have h2:=Lib.run_append_room_string (P:=P) w t u ty e i ht hu hi lI g n cap cur hg s dG U;rw[h2]at hr;injection hr with e1 e2;subst e1;exact .inl rfl
  .have holds:∀j u,xs[j]?=some u->w.cell? (((Z g 0):Addr).add j)=some u:=ao.cells (g:=g) rfl;have h2:=Lib.run_append_grow_string (P:=P) w t u ty e i (.int .u8 0) ht hu hi hz (Z g 0) n cap xs (by rw[lI];simpa using pU) holds s U U (by rw[jl];exact growslice_fits U U)
   rw[h2]at hr;injection hr with e1 e2;subst e1;exact .inr ⟨_,rfl,V⟩
theorem PX{P:Program}{w:World}{ops:Array Oper}{rest:List Oper}{o:Oper}{a:Act}{Q:Exit->Act->World->Prop}(tE:o.guard=none)(sl x:Operand)(t u:TypeId)
  (ho:o.op=.call { callee:=.builtin .append,args:=#[sl,x],argTypes:=#[t,u] })
  (base:Nat) (e:TypeId) (i:TypeInfo) (ht:P.underlying t=some (.slice e)) (hu:P.underlying u=some .string) (hi:P.info? e=some i) (hz:i.zero=some (.int .u8 0)) (lI:i.size=1) (jl:i.bytes=1)
  (v:Value) (n:Nat) (xs:List Value) (hs:a.eval sl=v) (ao:w.ownsRow base e 1 v n xs) (s:ByteArray) (hx:a.eval x=.string s)
  (FQ:n+s.size<=maxLen) (ic:n+s.size<=140737488355328) (KW:base<=w)
  (h:∀v' w',w'.ownsRow base e 1 v' (n+s.size) (xs++Lib.strCells s)->w.grownBy w' v.ownBlock->(v'.ownBlock=v.ownBlock\/∃g,v'.ownBlock=some g/\w.heap.size<=g)->wpList P ops Q rest (a.put o.dst v') w'):wpList P ops Q (o::rest) a w:=by
 refine wpList_plain tE λK hK=>?_;obtain ⟨v',w',hr,h2,h3,-⟩:=Lib.run_append_own_string (P:=P) w base t u o.type e i ht hu hi hz lI jl v n xs ao s FQ ic KW;have h5:=DG (P:=P) ht hu hi hz lI jl ao s FQ ic hr;unfold Oper.wp execOp;simp only[ho,resolve,invoke,builtin,Sem.run_bind,Sem.run_pure,Result.andThen_ok,List.map_toArray,List.map_cons,List.map_nil,hs,hx,hr];exact hK _ _ (h v' w' h2 h3 h5)
def rW(b:Nat)(l:List UInt8)(fp:List Nat)(w:World):Prop:=∃p v,(p=.pointer none\/p=.pointer (Z b 0))/\fp=b::aq v/\v.ownBlock≠some b/\w.heap[b]?=some (.cells #[p,v] 84)/\w.ownsRow 0 5 1 v l.length (Lib.byteCells l)
theorem rW.fresh{b:Nat}{w:World}(hb:w.heap[b]?=some (.cells #[.pointer none,()] 84)):rW b [] [b] w:=⟨_,_,.inl rfl,rfl,by simp[Value.ownBlock],hb,World.ownsRow_nil _ _ _ _⟩
theorem rW.lt{b:Nat}{l:List UInt8}{fp:List Nat}{w:World}(h:rW b l fp w):∀k∈fp,k<w.heap.size:=by
 obtain ⟨p,v,-,rfl,-,hb,ho⟩:=h;intro k hk;rcases List.mem_cons.1 hk with rfl|hk
 .exact (γ hb).1
 .exact (ho.lt k (af.1 hk)).2
theorem rW.later{b:Nat}{l:List UInt8}{fp:List Nat}{w w':World}(h:rW b l fp w)(hk:∀k∈fp,w'.heap[k]?=w.heap[k]?):rW b l fp w':=by
 obtain ⟨p,v,hp,rfl,hn,hb,ho⟩:=h;exact ⟨p,v,hp,rfl,hn,(hk b H).t hb,ar ho λg hg=>hk g (by simp[af,hg])⟩
theorem rW.below{b:Nat}{l:List UInt8}{fp:List Nat}{w w':World}(h:rW b l fp w)(hb:Below w w w'):rW b l fp w':=h.later λk hk=>hb.block k (h.lt k hk)
theorem K2(b:Nat)(l:List UInt8)(fp:List Nat)(w:World)(h:rW b l fp w):
  Calls Tryz.prog 65 #[.pointer (Z b 0)] w λe w'=>e=.returned (.tuple #[])/\(∃v,fp=b::aq v/\v.ownBlock≠some b/\w'.heap[b]?=some (.cells #[.pointer (Z b 0),v] 84)/\w'.ownsRow 0 5 1 v l.length (Lib.byteCells l))/\ab fp fp w w':=by
 obtain ⟨p,v,hp,rfl,hn,hb,ho⟩:=h;rcases hp with rfl|rfl
 .refine (uK b w (by rw[Lib.cell_of_heap hb];rfl) (by simp[World.shape?,hb]) (Lib.frozen_of_heap hb 0)).mono ?_
  rintro e w' ⟨rfl,rfl⟩;refine ⟨rfl,⟨v,rfl,hn,by have:=aE hb 0 (.pointer (Z b 0));simpa using this,ar ho λg hg=>Below.heap_setCell _ _ _ _ (by rintro rfl;exact hn hg)⟩,og (ab.refl _ _) H _⟩
 .refine (xV b w (by rw[Lib.cell_of_heap hb];rfl)).mono ?_
  rintro e w' ⟨rfl,rfl⟩;exact ⟨rfl,⟨v,rfl,hn,hb,ho⟩,ab.refl _ _⟩
theorem FU{b:Nat}{l l':List UInt8}{w w1 w2:World}{v v':Value}(hn:v.ownBlock≠some b)(hb:w1.heap[b]?=some (.cells #[.pointer (Z b 0),v] 84))(hk:ab (b::aq v) (b::aq v) w w1)
  (hg:w1.grownBy w2 v.ownBlock) (hf:v'.ownBlock=v.ownBlock\/∃g,v'.ownBlock=some g/\w1.heap.size<=g) (ho:w2.ownsRow 0 5 1 v' l'.length (Lib.byteCells l')) :
  rW b l' (b::aq v') (w2.setCell (Z b 1) v')/\ab (b::aq v) (b::aq v') w (w2.setCell (Z b 1) v'):=by
 have j7:b<w1:=(γ hb).1;have Yi:v'.ownBlock≠some b:=λe=>hf.elim (λh=>hn (h▸e)) λ⟨g,h,h2⟩=>by rw[h]at e;injection e with e;omega
 have aS:=(hg.block b j7 (λe=>hn e.symm)).t hb;have aH:∀k,k≠b->(w2.setCell (Z b 1) v').heap[k]?=w2.heap[k]?:=λk hk=>Below.heap_setCell _ _ _ _ hk;refine ⟨⟨_,v',.inr rfl,rfl,Yi,by have:=aE aS 1 v';simpa using this,ar ho λg dZ=>aH g (by rintro rfl;exact Yi dZ)⟩,?_⟩
 have h1:ab (b::aq v) (b::aq v') w1 (w2.setCell (Z b 1) v'):=by
  refine ⟨hg.os,hg.tape,hg.output,by simp[World.setCell];exact hg.size,λk bE gG=>?_,λk bE=>?_⟩
  .simp only[List.mem_cons,not_or,af]at gG;exact (aH k gG.1).t (hg.block k bE (λe=>gG.2 e.symm))
  .simp only[List.mem_cons,af]at bE|-;rcases bE with h|h
   .exact .inl (.inl h)
   .rcases hf with hf|⟨g,hf,h2⟩
    .exact .inl (.inr (hf▸h))
    .rw[hf]at h;injection h with h;exact .inr (h▸h2)
 exact hk.t h1
theorem K3(b:Nat)(l:List UInt8)(fp:List Nat)(s:ByteArray)(w:World)(h:rW b l fp w)(hlen:l.length<=1000000000)(hs:s.size<=1000000):
  Calls Tryz.prog 38 #[.pointer (Z b 0),.string s] w λe w'=>e=.returned (.tuple #[.int .i64 s.size,.nilIface])/\∃fp',rW b (l++bl s) fp' w'/\ab fp fp' w w':=by
 obtain ⟨i0,hi,dY,dh,cT⟩:=info_parts tZ;have HC:=Y (K2 b l fp w h);clear h
 go_enter Tryz.func38,Tryz.ntmps38
 go_wp2_with fail;refine HC.mono ?_;rintro e w1 ⟨rfl,⟨v,rfl,hn,hb,ho⟩,hk⟩;obtain ⟨A,c,rfl,-,-⟩:=ae ho;obtain ⟨n,mr⟩:=ν l.length;rw[mr]at ho hb hn hk;have c0:w1.cell? (Z b 0)=some (.pointer (Z b 0)):=by rw[Lib.cell_of_heap hb];rfl
 have c1:w1.cell? (Z b 1)=some (.slice A n c):=by rw[Lib.cell_of_heap hb];rfl
 have aB:b<w1:=(γ hb).1;have HH:=Y (I hn (I hb (I hk (I mr ho))));clear hn hb hk ho;go_wp2_with (at_builtin;refine PX rfl _ _ 78 9 rfl 0 5 i0 Tryz.underlying78 Tryz.underlying9 hi dY dh cT _ n _ rfl HH.2.2.2.2 s rfl (by unfold maxLen;omega) U (Nat.zero_le _) ?_)
 intro v' w2 cC dZ uC;obtain ⟨A2,c2,rfl,-,-⟩:=ae cC;have aS:=(dZ.block b aB (λe=>HH.1 e.symm)).t HH.2.1;have d1:w2.cell? (Z b 1)=some (.slice A n c):=by rw[Lib.cell_of_heap aS];rfl
 have f1:w2.frozen? (Z b 1)=false:=Lib.frozen_of_heap aS 1;have l2:b<w2:=(γ aS).1;have hx:Lib.byteCells l++Lib.strCells s=Lib.byteCells (l++bl s):=by simp[Lib.byteCells,Lib.strCells,bl]
 have wI:(l++bl s).length=n+s.size:=by rw[List.length_append,HH.2.2.2.1];congr 1
 rw[hx]at cC;have dW:=FU (l:=l) (l':=l++bl s) HH.1 HH.2.1 (by rw[<-HH.2.2.2.1];rw[HH.2.2.2.1];exact HH.2.2.1) dZ uC (by rw[wI];exact cC)
 have HF:=Y dW;clear cC dZ uC aS hx wI dW
 go_wp2
 go_ret2
 exact ⟨rfl,_,HF.1,by rw[HH.2.2.2.1];exact HF.2⟩
theorem yX(b:Nat)(l:List UInt8)(fp:List Nat)(c:Int)(u:UInt8)(hu:c=u.toNat)(w:World)(h:rW b l fp w)(hlen:l.length<=1000000000):
  Calls Tryz.prog 125 #[.pointer (Z b 0),.int .u8 c] w λe w'=>e=.returned .nilIface/\∃fp',rW b (l++[u]) fp' w'/\ab fp fp' w w':=by
 obtain ⟨i0,hi,dY,dh,cT⟩:=info_parts tZ;have HC:=Y (K2 b l fp w h);have hx:=Y (show Lib.byteCells l++[Value.int .u8 c]=Lib.byteCells (l++[u]) by subst hu;simp[Lib.byteCells])
 clear h hu
 go_enter Tryz.func125,Tryz.ntmps125
 go_wp2_with fail;refine HC.mono ?_;rintro e w1 ⟨rfl,⟨v,rfl,hn,hb,ho⟩,hk⟩;obtain ⟨A,c',rfl,-,-⟩:=ae ho;obtain ⟨n,mr⟩:=ν l.length;rw[mr]at ho hb hn hk;have c0:w1.cell? (Z b 0)=some (.pointer (Z b 0)):=by rw[Lib.cell_of_heap hb];rfl
 have c1:w1.cell? (Z b 1)=some (.slice A n c'):=by rw[Lib.cell_of_heap hb];rfl
 have aB:b<w1:=(γ hb).1;have bL:=ho.alloc (.cells #[.int .u8 c] 5);have iY:∀j x,([.int .u8 c]:List Value)[j]?=some x->(w1.alloc (.cells #[.int .u8 c] 5)).cell? (((Z w1 0):Addr).add j)=some x:=λj x hj=>by
  match j,hj with
  |0,hj=>simp at hj;rw[<-hj,Addr.add_lit,Φ (heap_alloc_new w1 _)];rfl
 have HH:=Y (I hn (I hb (I hk (I mr bL))));clear hn hb hk ho bL;go_wp2_with (at_builtin;refine bn rfl _ _ 78 rfl 0 5 i0 (.int .u8 0) 1 1 Tryz.underlying78 hi dY dh cT rfl O _ n _ rfl HH.2.2.2.2 (Z w1 0) 1 1 [.int .u8 c] rfl rfl iY (by intro x hx;simp at hx;subst hx;rfl) (by unfold maxLen;omega) U (Nat.zero_le _) ?_)
 intro v' w2 cC dZ uC;obtain ⟨A2,c2,rfl,-,-⟩:=ae cC;have nz:Below w1 w1 (w1.alloc (.cells #[.int .u8 c] 5)):=D.alloc V _;have Bl:=(nz.block b aB).t HH.2.1;have aS:=(dZ.block b ψ (λe=>HH.1 e.symm)).t Bl;have d1:w2.cell? (Z b 1)=some (.slice A n c'):=by rw[Lib.cell_of_heap aS];rfl
 have f1:w2.frozen? (Z b 1)=false:=Lib.frozen_of_heap aS 1;have l2:b<w2:=(γ aS).1;have wI:(l++[u]).length=n+1:=by rw[List.length_append,HH.2.2.2.1];rfl
 rw[hx.out]at cC;have ZF:(Value.slice A2 (n+1) c2).ownBlock=(Value.slice A n c').ownBlock\/∃g,(Value.slice A2 (n+1) c2).ownBlock=some g/\(w1.alloc (.cells #[.int .u8 c] 5)).heap.size<=g:=by
  rw[show (w1.alloc (.cells #[.int .u8 c] 5)).heap.size=w1.heap.size+1 by simp]
  exact uC
 have dW:=FU (l:=l) (l':=l++[u]) HH.1 Bl (HH.2.2.1.t (ab.aj nz)) dZ ZF (by rw[wI];exact cC)
 have HF:=Y dW;clear cC dZ uC ZF aS Bl nz wI dW iY
 go_wp2
 go_ret;exact ⟨rfl,_,HF.1,by rw[HH.2.2.2.1];exact HF.2⟩
end Go.Proofs.YthamegenljmgmaaGreatDoor
