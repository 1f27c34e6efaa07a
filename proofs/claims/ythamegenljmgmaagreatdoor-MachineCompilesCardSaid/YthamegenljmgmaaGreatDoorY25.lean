/- Walks. -/
import Derived.Test.YthamegenljmgmaaGreatDoorY15
import Derived.Test.YthamegenljmgmaaGreatDoorY23
import Derived.Test.YthamegenljmgmaaGreatDoorY16
import Derived.Test.YthamegenljmgmaaGreatDoorY24
import Derived.Test.YthamegenljmgmaaGreatDoorY10
import Derived.Test.YthamegenljmgmaaGreatDoorY21
set_option maxRecDepth 100000
set_option maxHeartbeats 16000000
set_option linter.unusedVariables false
set_option linter.unusedSimpArgs false
namespace Go.Proofs.YthamegenljmgmaaGreatDoor
open Go.RowKit
def Vw(kb lo hi to:Nat)(D0 D1 D2 S5 S6 Yz YA S17:ByteArray):Nat->Nat->Value->World->Prop
 |c,0,x,w=>x=.pointer (Z kb 0)
 |c,1,x,w=>x=.pointer (Z kb 0)
 |c,2,x,w=>x=.int .u8 (lo:Int)
 |c,3,x,w=>x=.int .i64 (lo:Int)
 |c,4,x,w=>x=.string D0
 |c,5,x,w=>x=.string S5
 |c,6,x,w=>x=.string S6
 |c,7,x,w=>x=.pointer (Z kb 0)
 |c,8,x,w=>x=.pointer (Z kb 1)
 |c,9,x,w=>x=.int .u8 (hi:Int)
 |c,10,x,w=>x=.int .i64 (hi:Int)
 |c,11,x,w=>x=.string D1
 |c,12,x,w=>x=.string Yz
 |c,13,x,w=>x=.string YA
 |c,14,x,w=>x=.pointer (Z kb 2)
 |c,15,x,w=>x=.int .i64 (to:Int)
 |c,16,x,w=>x=.string D2
 |c,17,x,w=>x=.string S17
 |_,_,_,_=>True
theorem rY:∀l:List Ed,(∀e∈l,e.lo<256/\e.hi<256/\e.to<1000000)->(dL l).length<=20*l.length
 | [],_=>V
 |e::r,h=>by
  have h1:=rY r λx hx=>h x (by simp[hx])
  have h2:=h e H;have d0:=kB e.lo 2 U;have d1:=kB e.hi 2 U;have d2:=kB e.to 6 U;simp only[dL,List.length_cons,List.length_append];omega
theorem vr(a b:ByteArray):bl (a++b)=bl a++bl b:=by simp[bl]
theorem zh(b:Bool)(ev:Value)(l:List Ed)(w:World)(he:eQ w ev l)(jl:∀e∈l,e.lo<256/\e.hi<256/\e.to<1000000)(hl:l.length<=100000)(pD:eU w):
  Calls Tryz.prog 72 #[.bool b,ev] w λe w'=>e=.returned (.string (bs (pK b l)))/\Below w w w':=by
 obtain ⟨Ae,ce,rfl,kG,tz⟩:=he.form;obtain ⟨nl,mr⟩:∃n,l.length=n:=⟨_,rfl⟩;rw[mr]at he kG hl|-;have HE:=Y he;have HY:=Y jl;have HN:=Y mr;have qD:=Y pD;have HFB:=Y (λw=>Tryz.strconv_FormatBool b w);clear he jl mr pD
 go_enter Tryz.func72,Tryz.ntmps72
 go_wp2_with (go_at_call 101;refine (HFB _).mono ?_;rintro e w1 ⟨rfl,rfl⟩);have J6:K5 w [] (w.alloc (.cells #[.pointer none,()] 84)):=⟨Lib.fresh_isBuilder _ _ w,H⟩;have OW:((⟨(Lib.formatBool b).toArray⟩:ByteArray)).size<=1000000:=by cases b <;> decide
 refine (oA _ _ _ _ J6 H OW).mono ?_;rintro e w1 ⟨rfl,fs,aM⟩;have YB:bl ⟨(Lib.formatBool b).toArray⟩=uU b:=by cases b <;> rfl
 rw[YB,List.nil_append]at fs;have BC:=Y fs;have cM:=Y (((Below.refl _ w).alloc V (.cells #[.pointer none,()] 84)).t aM);clear J6 OW fs aM YB;go_wp2_with fail;go_loopw [13] (λiv wr=>∃k:Nat,k<=nl/\iv=.int .i64 (k:Int)/\Hid (K5 w (uU b++dL (l.take k)) wr)/\Hid (Below w w wr)) (λiv _=>nl - (intOf iv).toNat)
 case atStart=>exact ⟨0,Nat.zero_le _,rfl,by rw[List.take_zero];simp only[dL,List.append_nil];exact BC,cM⟩
 case round=>
  obtain ⟨k,hk,rfl,HI,dc⟩:=hrel;by_cases aB:k<nl
  .have hd:decide ((k:Int)<(nl:Int))=true:=τ;have aV:k<l.length:=by rw[HN.o];exact aB
   obtain ⟨g,f,rfl,-,hg,c0,c1,c2⟩:=HE.jL aV;obtain ⟨e,hle⟩:=ν (l[k]);rw[hle]at c0 c1 c2;have SI:e∈l:=by rw[<-hle];exact List.getElem_mem aV
   have kR:=dc.block g hg;have d0:=(χ g (f+k*3) kR).t c0;have d1:=(χ g (f+k*3+1) kR).t c1;have d2:=(χ g (f+k*3+2) kR).t c2;have p5:=dc.size;have xq:g<wr:=U;obtain ⟨hb0,aM,aS⟩:=HY e SI;have fw:dL (l.take (k+1))=dL (l.take k)++(32::(Lib.decDigits e.lo++45::(Lib.decDigits e.hi++58::Lib.decDigits e.to))):=by rw[List.take_succ_eq_append_getElem aV,hle,vt]
   obtain ⟨lo,hi,to⟩:=e;simp only at d0 d1 d2 hb0 aM aS fw;have ahG:=kB lo 2 U;have ahH:=kB hi 2 U;have ahI:=kB to 6 U;obtain ⟨D0,hD0⟩:∃awP,bs (Lib.decDigits lo)=awP:=⟨_,rfl⟩;obtain ⟨D1,hD1⟩:∃awP,bs (Lib.decDigits hi)=awP:=⟨_,rfl⟩;obtain ⟨D2,hD2⟩:∃awP,bs (Lib.decDigits to)=awP:=⟨_,rfl⟩;have z0:D0.size<=7:=by rw[<-hD0,mB];omega
   have z1:D1.size<=7:=by rw[<-hD1,mB];omega
   have z2:D2.size<=7:=by rw[<-hD2,mB];omega
   obtain ⟨S5,hS5⟩:∃S,(⟨#[32]⟩:ByteArray)++D0=S:=⟨_,rfl⟩;obtain ⟨S6,hS6⟩:∃S,S5++(⟨#[45]⟩:ByteArray)=S:=⟨_,rfl⟩;obtain ⟨Yz,Qv⟩:∃S,S6++D1=S:=⟨_,rfl⟩;obtain ⟨YA,Qw⟩:∃S,Yz++(⟨#[58]⟩:ByteArray)=S:=⟨_,rfl⟩;obtain ⟨S17,Qx⟩:∃S,YA++D2=S:=⟨_,rfl⟩;have q32:ByteArray.size ⟨#[32]⟩=1:=rfl;have q45:ByteArray.size ⟨#[45]⟩=1:=rfl;have q58:ByteArray.size ⟨#[58]⟩=1:=rfl;have z5:S5.size<=8:=by rw[<-hS5,ByteArray.size_append];omega
   have z6:S6.size<=9:=by rw[<-hS6,ByteArray.size_append];omega
   have z12:Yz.size<=16:=by rw[<-Qv,ByteArray.size_append];omega
   have z13:YA.size<=17:=by rw[<-Qw,ByteArray.size_append];omega
   have z17:S17.size<=24:=by rw[<-Qx,ByteArray.size_append];omega
   have n5:¬(9223372036854775807:Nat)<ByteArray.size ⟨#[32]⟩+D0.size:=U;have n6:¬(9223372036854775807:Nat)<S5.size+ByteArray.size ⟨#[45]⟩:=U;have n12:¬(9223372036854775807:Nat)<S6.size+D1.size:=U;have n13:¬(9223372036854775807:Nat)<Yz.size+ByteArray.size ⟨#[58]⟩:=U;have n17:¬(9223372036854775807:Nat)<YA.size+D2.size:=U;have j7:bl S17=32::(Lib.decDigits lo++45::(Lib.decDigits hi++58::Lib.decDigits to)):=by
    rw[<-Qx,vr,<-Qw,vr,<-Qv,vr,<-hS6,vr,<-hS5,vr,<-hD0,<-hD1,<-hD2,Me,Me,Me];show (([32]++_++[45])++_++[58])++_=_;simp
   have ahJ:=Y (λW (h:eU W)=>hD0▸oC lo U W h);have ahK:=Y (λW (h:eU W)=>hD1▸oC hi U W h);have ahL:=Y (λW (h:eU W)=>hD2▸oC to U W h);have HS5:=Y hS5;have HS6:=Y hS6;have ahN:=Y Qv;have ahO:=Y Qw;have ahP:=Y Qx;have j8:=Y (I fw j7);have jh:(uU b++dL (l.take k)).length<=1000000000:=by
    have h1:=rY (l.take k) λx hx=>HY.o x (List.mem_of_mem_take hx);have h2:=List.length_take_le k l;have h3:(uU b).length<=5:=by cases b <;> decide
    rw[List.length_append];omega
   have mI:=Y jh;have kM:=qD.low;clear hle SI kR c0 c1 c2 fw hD0 hD1 hD2 hS5 hS6 Qv Qw Qx j7 ahG ahH ahI aV jh q32 q45 q58;go_wp2_with fail;refine br λW hW=>?_;have Ea:Below wr wr W:=by rw[hW];exact D.alloc V _
   have jc:W.heap.size=wr+1:=by rw[hW];simp
   have JT:W.heap[wr.heap.size]?=some (.cells #[.int .u8 (lo:Int),.int .u8 (hi:Int),(to:Int)] 74):=by rw[hW];exact heap_alloc_new wr _
   obtain ⟨b0,b1,b2⟩:=aK JT;have AM:wr.heap.size<W:=U;have hvW:eU W:=qD.below (dc.t (Ea.mono p5)) kM;have HIW:=Y (HI.later Ea);have LM:=Y (dc.t (Ea.mono p5));have UM:=Y hvW;have dN:Below W W W.drew:=D.drew;clear hW JT Ea d0 d1 d2 hvW;refine ay 18 [] (Vw wr lo hi to D0 D1 D2 S5 S6 Yz YA S17) (λ_ w'=>Below W W w') R R R R R R O dN ?_ ?_
   .simp only[ck,ct];refine aa.pure O ?_ (aa.pure O ?_ (aa.pure O ?_ (aa.pure O ?_ (aa.gp O ?_ (aa.pure O ?_ (aa.pure O ?_ (aa.pure O ?_ (aa.pure O ?_ (aa.pure O ?_ (aa.pure O ?_ (aa.gp O ?_ (aa.pure O ?_ (aa.pure O ?_ (aa.pure O ?_ (aa.pure O ?_ (aa.gp O ?_ (aa.pure O ?_ (aa.nil))))))))))))))))))
    all_goals first | (intro v wz c bX hS hE K hK;simp only[ah,Act.put,dk,dm,dn,Nat.zero_add,Nat.reduceAdd,ck,ct]at hK|-) | (intro v wz hS hE K hK;simp only[ah,Act.put,dk,dm,dn,Nat.zero_add,Nat.reduceAdd,ck,ct]at hK|-)
    .exact ζ
    .have e0:v 0=_:=hE.1 rfl;rw[e0]at hK|-;exact ζ
    .have e1:v 1=_:=hE.1 rfl;rw[e1]at hK|-;have cx0:=(hS.cl wr 0 AM).t b0;have lwz:wr.heap.size<wz:=by have:=hS.size;omega
     exact ζ
    .have e2:v 2=_:=hE.1 rfl;rw[e2]at hK|-;exact ζ
    .have e3:v 3=_:=hE.1 rfl;rw[e3]at hK|-;have aG:=ahJ wz (UM.later hS);have HC:=Y aG;have HX:=Y hS;clear hS hE bX aG;go_wp2_with fail;refine HC.mono ?_;rintro e wy ⟨rfl,hb⟩;have wO:=Y (HX.t (hb.mono HX.size));clear hb;go_wp2_with fail;refine hK.out _ _ (λj z hj h=>?_) wO.o rfl
     match j with
     |0|1|2|3|5|6|7|8|9|10|11|12|13|14|15|16|17=>exact h
     |4=>exact absurd rfl hj
     |_+18=>exact trivial
    .have E4:=hE.1 rfl;have e4:v 4=_:=E4;rw[e4]at hK|-;have HX:=Y hS;clear hS hE bX;go_wp2_with fail;exact hK.out _ (by rw[HS5.o];rfl)
    .have E5:=hE.1 rfl;have e5:v 5=_:=E5;rw[e5]at hK|-;have HX:=Y hS;clear hS hE bX;go_wp2_with fail;exact hK.out _ (by rw[HS6.o];rfl)
    .exact ζ
    .have e7:v 7=_:=hE.1 rfl;rw[e7]at hK|-;exact ζ
    .have e8:v 8=_:=hE.1 rfl;rw[e8]at hK|-;have Gj:=(hS.cl wr 1 AM).t b1;have lwz:wr.heap.size<wz:=by have:=hS.size;omega
     exact ζ
    .have e9:v 9=_:=hE.1 rfl;rw[e9]at hK|-;exact ζ
    .have eR:v 10=_:=hE.1 rfl;rw[eR]at hK|-;have aG:=ahK wz (UM.later hS);have HC:=Y aG;have HX:=Y hS;clear hS hE bX aG;go_wp2_with fail;refine HC.mono ?_;rintro e wy ⟨rfl,hb⟩;have wO:=Y (HX.t (hb.mono HX.size));clear hb;go_wp2_with fail;refine hK.out _ _ (λj z hj h=>?_) wO.o rfl
     match j with
     |0|1|2|3|4|5|6|7|8|9|10|12|13|14|15|16|17=>exact h
     |11=>exact absurd rfl hj
     |_+18=>exact trivial
    .have E6:=hE.1 rfl;have Bw:=hE.2.1 rfl;have e6:v 6=_:=E6;have fZ:v 11=_:=Bw;rw[e6,fZ]at hK|-;have HX:=Y hS;clear hS hE bX;go_wp2_with fail;exact hK.out _ (by rw[ahN.o];rfl)
    .have DM:=hE.1 rfl;have fG:v 12=_:=DM;rw[fG]at hK|-;have HX:=Y hS;clear hS hE bX;go_wp2_with fail;exact hK.out _ (by rw[ahO.o];rfl)
    .exact ζ
    .have jw:v 14=_:=hE.1 rfl;rw[jw]at hK|-;have cx2:=(hS.cl wr 2 AM).t b2;have lwz:wr.heap.size<wz:=by have:=hS.size;omega
     exact ζ
    .have pF:v 15=_:=hE.1 rfl;rw[pF]at hK|-;have aG:=ahL wz (UM.later hS);have HC:=Y aG;have HX:=Y hS;clear hS hE bX aG;go_wp2_with fail;refine HC.mono ?_;rintro e wy ⟨rfl,hb⟩;have wO:=Y (HX.t (hb.mono HX.size));clear hb;go_wp2_with fail;refine hK.out _ _ (λj z hj h=>?_) wO.o rfl
     match j with
     |0|1|2|3|4|5|6|7|8|9|10|11|12|13|14|15|17=>exact h
     |16=>exact absurd rfl hj
     |_+18=>exact trivial
    .have ye:=hE.1 rfl;have YC:=hE.2.1 rfl;have iH:v 13=_:=ye;have oV:v 16=_:=YC;rw[iH,oV]at hK|-;have HX:=Y hS;clear hS hE bX;go_wp2_with fail;exact hK.out _ (by rw[ahP.o];rfl)
   .intro v wz hS hF;have e0:v 0=_:=hF 0 O;have e1:v 1=_:=hF 1 O;have e2:v 2=_:=hF 2 O;have e3:v 3=_:=hF 3 O;have e7:v 7=_:=hF 7 O;have e8:v 8=_:=hF 8 O;have e9:v 9=_:=hF 9 O;have eR:v 10=_:=hF 10 O;have jw:v 14=_:=hF 14 O;have pF:v 15=_:=hF 15 O;have E4:=hF 4 O;have E5:=hF 5 O;have E6:=hF 6 O;have Bw:=hF 11 O;have DM:=hF 12 O;have ye:=hF 13 O;have YC:=hF 16 O;have E17:=hF 17 O;simp only[ah,Act.put,dk,dm,dn,Nat.zero_add,Nat.reduceAdd,ck,ct,List.drop_succ_cons,List.drop_zero,e0,e1,e2,e3,e7,e8,e9,eR,jw,pF];clear hF e0 e1 e2 e3 e7 e8 e9 eR jw pF;have nR:v 17=_:=E17;rw[nR];have bw:Below W W wz:=hS;have HZ:=Y bw;clear hS bw E4 E5 E6 Bw DM ye YC E17 nR;go_wp2_with fail;refine (oA _ _ _ _ (HIW.later HZ.o) mI.o U).mono ?_;rintro e w9 ⟨rfl,hi9,jF⟩;have aaL:K5 w (uU b++dL (l.take (k+1))) w9:=by rw[j8.2,List.append_assoc,<-j8.1]at hi9;exact hi9
    have HI9:=Y aaL;have Kg:=Y (LM.t ((HZ.mono LM.size).t jF));clear hi9 aaL jF;go_wp2_with fail;go_roundw
    case rel=>exact ⟨k+1,U,by go_num,HI9,Kg⟩
    case measure=>exact μ
  .obtain rfl:k=nl:=U;have hd:decide ((k:Int)<(k:Int))=false:=θ;have pe:=HI.o;rw[List.take_of_length_le (by rw[HN.o];exact V)]at pe
   have HSF:=Y (vu w (pK b l) wr ⟨Lib.IsBuilderF.of pe.1,pe.2⟩);clear pe;go_wp2_with fail;refine HSF.mono ?_;rintro e w1 ⟨rfl,-,aM⟩;go_wp2_with fail;go_ret;exact ⟨rfl,dc.t aM⟩
section
open Go.Maps (Keyed)
def UG(N ga fa n ca ge fe ce k:Nat)(bb:Bool)(rv cv:Value)(cs:List (Option Nat))(row:List Ed)(NB:ByteArray):Nat->Nat->Value->World->Prop
 |c,0,x,w=>x=.pointer (Z N 1)
 |c,1,x,w=>x=.slice (Z ga fa) n ca
 |c,2,x,w=>x=.int .i64 (k:Int)
 |c,3,x,w=>x=.pointer (Z ga (fa+k))
 |c,4,x,w=>x=.bool bb
 |c,5,x,w=>x=.pointer (Z N 0)
 |c,6,x,w=>x=.slice (Z ge fe) n ce
 |c,7,x,w=>x=.int .i64 (k:Int)
 |c,8,x,w=>x=.pointer (Z ge (fe+k))
 |c,9,x,w=>x=rv
 |c,10,x,w=>x=cv
 |c,11,x,w=>∃A c,x=.slice A (cD (cY cs) row).length c/\eQ w x (cD (cY cs) row)
 |c,12,x,w=>x=.string NB
 |_,_,_,_=>True
structure ZP (m:Mc) (WB:World) (cs ds:List (Option Nat)) (seen:List (Bool×List Ed)) (F:Lit->Option Value) (n k:Nat) (wr:World):Prop where
 mn:MN Tryz.prog 9 WB seen.length F wr
 sy:uP F seen
 own:OR 3 1 qv (WB+1) (.slice (Z (WB+1) 0) n n) ds wr
 ri:kh m cs ds seen k
 bl:Below WB WB wr
theorem Bv(v:Value)(m:Mc)(w:World)(hm:jb w v m)(hv:jB m)(eg:iE m)(h1:1<=m.ed.length)(pD:eU w):
  Calls Tryz.prog 45 #[v] w (Ll m m.ed.length w):=by
 have ky:=λW (h:Below w w W)=>Hi v m W (hm.later h) hv eg h1;obtain ⟨ve,va,rfl,he,ha⟩:=hm;obtain ⟨Ae,ce,rfl,kG,tz⟩:=he.form;obtain ⟨Aa,ca,rfl,pT,yQ⟩:=ha.form;obtain ⟨n,hn⟩:=ν m.ed.length;have ej:m.ac.length=n:=by rw[hv.len,hn]
 have tS:=eg.n;rw[ej]at ha pT;rw[hn]at he kG h1 tS;rw[hn,ej]at ky;have Yk:=Y ky;have HE:=Y he;have HA:=Y ha;have HV:=Y hv;have tT:=Y eg;have HN:=Y (I hn ej);have qD:=Y pD;have K:Keyed Tryz.prog 9:=Maps.string_keyed Tryz.underlying9;have hz:∀w,(zeroValue 3).run Tryz.prog w=.ok (.int .i64 0) w:=λ_=>R;have qK:=uO n U;have Dw:=@run_makeMap Tryz.prog;rw[ej,hn];have kM:=pD.low;clear ky he ha hv eg hn ej pD
 go_enter Tryz.func45,Tryz.ntmps45
 go_wp2_with fail;refine (Yk _ ?hb0).mono ?_
 case hb0=>exact ((Below.refl w w).alloc V _).alloc H _
 rintro e w1 ⟨rv,o,rfl,ai,aM,xh,uS⟩;have P0:((w.alloc (.cells #[.slice Ae n ce,.slice Aa n ca] 35)).alloc (.cells (Array.replicate n (.int .i64 0)) 3)).heap.size=w.heap.size+2:=H;have hzero:=ig (w.alloc (.cells #[.slice Ae n ce,.slice Aa n ca] 35)) n U;have Bm:(w.alloc (.cells #[.slice Ae n ce,.slice Aa n ca] 35)).heap.size=w.heap.size+1:=H;rw[Bm]at hzero;have nK:w1.heap[w.heap.size]?=some (.cells #[.slice Ae n ce,.slice Aa n ca] 35):=(aM.block _ U).t ((az _ _ _ H).t (heap_alloc_new w _));have UH:OR 3 1 qv (w+1) (.slice (Z (w+1) 0) n n) (eK o 0 n) w1:=by rw[Bt];exact hzero.later aM
 have UI:=(mA.eu ai);have agw:=aM.size;rw[P0]at agw;have po:Below w w w1:=(((Below.refl w w).alloc V _).alloc H _).t (aM.mono U);obtain ⟨Ao,co,eo,agx,apQ⟩:=UI.form;subst eo;have UJ:=Y (I xh uS);have HOB:=Y UI;have agy:=Y nK;have agz:=Y UH;have P1:=Y po;have ZQ:=ai.1
 -- the row of what is alive lies above
 have hoA:o=[]\/∃g f,Ao=some ⟨g,f,none⟩/\w.heap.size+2<=g:=by
  by_cases h0:o=[]
  .exact .inl h0
  .obtain ⟨A,c,e,-,dt⟩:=ai.cells Hg;obtain ⟨g,hA,hg,-,-⟩:=dt.resolve_left h0;injection e with e1 _ _;rw[P0]at hg;exact .inr ⟨g,0,by rw[e1,hA],hg⟩
 have HOA:=Y hoA;rw[xh];rw[xh]at agx;clear ai P0 hzero Bm nK UH UI po xh uS aM ZQ hoA;go_wp2_with fail;go_loopw [21] (λiv wr=>∃k:Nat,k<=n/\iv=.int .i64 (k:Int)/\Hid (OR 3 1 qv (w+1) (.slice (Z (w+1) 0) n n) (eK o k n) wr)/\Hid (ab [w.heap.size+1] [w.heap.size+1] w1 wr)) (λiv _=>n - (intOf iv).toNat)
 case atStart=>exact ⟨0,Nat.zero_le _,rfl,agz,ab.refl _ _⟩
 case round=>
  obtain ⟨k,hk,rfl,HC,HK⟩:=hrel;have Hj:=HK.size;by_cases aB:k<n
  .have hd:decide ((k:Int)<(n:Int))=true:=τ;have aV:k<o.length:=by rw[UJ.1];exact aB
   obtain ⟨g,f,rfl,-,hg,c0⟩:=HOB.jL aV;have hgA:w+2<=g:=by
    rcases HOA.o with h|⟨g',f',e',h⟩
    .rw[h]at aV;cases aV
    .injection e' with e';injection e' with e1 _;rw[e1];exact h
   have c0r:=(χ g (f+k) (HK.aq g hg ψ)).t c0;obtain ⟨q,hq⟩:=ν (o[k]);rw[hq]at c0r;have xd:o[k]?=some q:=by rw[List.getElem?_eq_getElem aV,hq]
   have ZS:=Y xd;have kZ:g<wr:=U;obtain ⟨y0,y1⟩:=HC.gY k (by rw[ij];exact aB)
   have hgy:=HC.JZ;have bU:decide (k<n)=true:=decide_eq_true aB;clear c0 hq xd aV
   cases q with
   |true=>
    go_wp2_with fail;go_roundw
    case rel=>exact ⟨k+1,U,by go_num,by rw[Bu ZS.o];exact HC,HK⟩
    case measure=>exact μ
   |false=>
    have aH:=HC.xg (ij _ _ _) k none;have SX:OR 3 1 qv (w+1) (.slice (Z (w+1) 0) n n) (eK o (k+1) n) (wr.setCell (Z (w+1) k) (.int .i64 (-1))):=by rw[ze ZS.o];exact aH
    have AJ:=Y SX;have bE:ab [w.heap.size+1] [w.heap.size+1] w1 (wr.setCell (Z (w+1) k) (.int .i64 (-1))):=HK.t ⟨rfl,rfl,rfl,by simp[World.setCell],λq _ hn=>Below.heap_setCell _ _ _ _ (λe=>hn (by simp[show q=w.heap.size+1 from e])),λk hk=>.inl hk⟩
    have ZT:=Y bE;clear aH SX bE;go_wp2_with fail;go_roundw
    case rel=>exact ⟨k+1,U,by go_num,AJ,ZT⟩
    case measure=>exact μ
  .obtain rfl:k=n:=U;have hd:decide ((k:Int)<(k:Int))=false:=θ;have ZU:=(HK.aq w U H).t agy.o;have ZV:Below w w wr:=P1.t (HK.below (λq hq=>by rw[List.mem_singleton]at hq;omega) P1.size)
   have UK:=ou.first (m:=m) (o:=o) (by rw[UJ.1,HN.1]) (by rw[HN.1];exact UJ.2) (by rw[HN.1];exact h1)
   rw[HN.1]at UK;have UL:=Y ZU;have agC:=Y ZV;have HHD:=Y UK;obtain ⟨W1,rfl⟩:∃W:World,W=wr:=⟨_,rfl⟩;clear ZU ZV UK;go_wp2_with fail
   go_loopg [3,6] (k+2) (λq cv kv wr=>∃(g3 c3 kn:Nat) (cs:List (Option Nat)),cv=.slice (Z g3 0) k c3/\kv=.int .i64 (kn:Int)/\q+kn=k+2/\kn<=k/\Hid (OR 3 1 qv (w+1) (.slice (Z g3 0) k c3) cs wr)/\Hid (ou m cs kn)/\Hid (wr.heap[w.heap.size]?=some (.cells #[.slice Ae k ce,.slice Aa k ca] 35))/\Hid (Below w w wr))
   case atStart=>exact ⟨w.heap.size+1,k,0,eK o k k,rfl,rfl,rfl,Nat.zero_le _,HC,HHD,UL,agC⟩
   case round=>
    obtain ⟨g3,c3,kn,cs,rfl,rfl,hq,jC,wN,HH,tX,pY⟩:=hrel;obtain ⟨WB,rfl⟩:∃W:World,W=wr:=⟨_,rfl⟩;have iF:=wN.JZ;have Lm:cs.length=k:=by rw[HH.len,HN.1]
    have Yl:=pY.size;have DI:w.heap.size<WB:=(γ tX.o).1;have Ln:MN Tryz.prog 9 WB 0 (λ_=>none) (WB.alloc (.map #[] 0)):=MN.made _ _ _;have dY:=ig (WB.alloc (.map #[] 0)) k U;have DJ:(WB.alloc (.map #[] 0)).heap.size=WB.heap.size+1:=H;rw[DJ]at dY;have Hd:ZP m WB cs (List.replicate k (some 0)) [] (λ_=>none) k 0 ((WB.alloc (.map #[] 0)).alloc (.cells (Array.replicate k (.int .i64 0)) 3)):=
     ⟨Ln.iJ (az _ _ _ U),uP.nil,dY,kh.start _ (by simp[HN.1]),((Below.refl _ WB).alloc V _).alloc U _⟩
    have ux:=Y Hd;have DK:=Y Lm;clear Ln dY DJ Hd Lm;go_wp2_with fail;go_loopw [38] (λiv wr=>∃(j:Nat) (ds:List (Option Nat)) (seen:List (Bool×List Ed)) (F:Lit->Option Value),j<=k/\iv=.int .i64 (j:Int)/\Hid (ZP m WB cs ds seen F k j wr)) (λiv _=>k - (intOf iv).toNat)
    case atStart=>exact ⟨0,_,[],_,Nat.zero_le _,rfl,ux⟩
    case round=>
     obtain ⟨j,ds,seen,F,hj,rfl,HR⟩:=hrel;have p5:=HR.bl.size;have eP:=HR.own.JZ;have FZ:ds.length=k:=by rw[HR.ri.len,HN.1]
     by_cases aB:j<k
     .have hd:decide ((j:Int)<(k:Int))=true:=τ;have dV:decide (j<k)=true:=decide_eq_true aB;have OM:j<m.ed.length:=by rw[HN.1];exact aB
      obtain ⟨sU,-⟩:=wN.gY j (by rw[DK.o];exact aB)
      have De:=(HR.bl.cl g3 j iF).t sU;have ZW:g3<wr:=U;obtain ⟨Ym,Yn⟩:=HR.own.gY j (by rw[FZ];exact aB)
      have DL:=Y FZ;clear sU FZ
      cases dj:cY cs j with
      |none=>
       rw[dj]at De;have cc2:wr.cell? (Z g3 j)=some (.int .i64 (-1)):=De;have aH:=HR.own.xg DL.o j none;have bf:WB.heap.size≠WB+1:=U;have AK:ZP m WB cs (ds.set j none) seen F k (j+1) (wr.setCell (Z (WB+1) j) (.int .i64 (-1))):=
        ⟨HR.mn.iJ (Below.heap_setCell _ _ _ _ bf),HR.sy,aH,HR.ri.none_ OM dj,HR.bl.sc (WB+1) j (by show WB.heap.size<=WB+1;omega) _⟩
       have pC:=Y AK;clear De dj aH AK;go_wp2_with fail;go_roundw
       case rel=>exact ⟨j+1,_,_,_,U,by go_num,pC⟩
       case measure=>exact μ
      |some cl=>
       rw[dj]at De;have cc2:wr.cell? (Z g3 j)=some (.int .i64 (cl:Int)):=De;have SY:decide ((cl:Int)<0)=false:=θ;have ON:cY cs j≠none:=by rw[dj];simp
       have HCN:=Y ON;have nN:=pY.t (HR.bl.mono Yl);obtain ⟨ga,fa,rfl,-,DH,ZX⟩:=HA.jL (show j<m.ac.length by rw[HN.2];exact aB)
       obtain ⟨ge,fe,rv0,rfl,-,Lo,ZY,Lp⟩:=HE.jL OM;have ca0:=(χ ga (fa+j) (nN.block ga DH)).t ZX;have ce0:=(χ ge (fe+j) (nN.block ge Lo)).t ZY;have ni:=Lp.later nN;obtain ⟨row,aC⟩:∃r,m.ed[j]=r:=⟨_,rfl⟩;obtain ⟨bb,Bl⟩:∃b,m.ac[j]'(by rw[HN.2];exact aB)=b:=⟨_,rfl⟩
       rw[aC]at ni;rw[Bl]at ca0;have fW:row∈m.ed:=by rw[<-aC];exact List.getElem_mem OM
       have ZZ:aU m j=row:=by unfold aU;rw[List.getElem?_eq_getElem OM,aC];rfl
       have Z0:(m.ac[j]?).getD false=bb:=by rw[List.getElem?_eq_getElem (by rw[HN.2];exact aB),Bl];rfl
       have Z1:AH m cs j=(bb,cD (cY cs) row):=by unfold AH ot;rw[ZZ,Z0]
       have P2:=qL (cls:=cY cs) (HV.kE row fW) (tT.qM row fW);have Yo:=Y (show ∀e∈row,e.to<cs.length from λe he=>by rw[DK.o,<-HN.1];exact HV.to row fW e he)
       have wO:=Y (tT.qM row fW);have HJB:=Y (show ∀e∈cD (cY cs) row,e.lo<256/\e.hi<256/\e.to<1000000 from λe he=>by
        obtain ⟨h1,h2,f,hf,h3⟩:=P2 e he;have:=HH.lt _ _ h3;have:=HN.1;exact ⟨h1,h2,U⟩)
       have iy:=tT.rl row fW;have Yp:=Y (show (cD (cY cs) row).length<=10000 from Nat.le_trans (oT _ _) iy);have iw:=(HR.bl.block _ DI).t tX.o;obtain ⟨c0,c1⟩:wr.cell? (Z w 0)=some (.slice (Z ge fe) k ce)/\wr.cell? (Z w 1)=some (.slice (Z ga fa) k ca):=by
        constructor <;> (rw[Φ iw]; rfl)
       have Lq:w.heap.size<wr:=U;have agG:ga<wr:=U;have agH:ge<wr:=U;obtain ⟨Ar,cr,wH,-⟩:=ni.form;obtain ⟨zf,xW⟩:∃n,row.length=n:=⟨_,rfl⟩;rw[xW]at wH iy;subst wH;have Lr:eQ wr (.slice Ar zf cr) row:=ni;have HED:=Y Lr;have xX:=Y ((xe.eu wN.o).later HR.bl);have UM:=Y (qD.below nN kM);have SZ:=Y (I Z1 dj);have Yq:=Y xW;obtain ⟨W,zg⟩:∃W:World,W=wr:=⟨_,rfl⟩;subst zg;have dN:Below W W W.drew:=D.drew;have HDD:=Y (I Ym Yn);have HHZ:=Y hz;obtain ⟨NB,DI⟩:∃N,bs (pK bb (cD (cY cs) row))=N:=⟨_,rfl⟩;have OO:=Y DI;clear DI;clear De dj ON nN DH ZX Lo ZY Lp ni Lr aC Bl fW ZZ Z0 Z1 P2 iw Ym Yn qK Dw hz;go_wp2_with fail;refine ay 13 [] (UG w ga fa k ca ge fe ce j bb (.slice Ar zf cr) (.slice (Z g3 0) k c3) cs row NB) (λ_ w'=>Below W W w') R R R R R R O dN ?_ ?_
       .simp only[ck,ct];refine aa.pure O ?_ (aa.pure O ?_ (aa.pure O ?_ (aa.pure O ?_ (aa.pure O ?_ (aa.pure O ?_ (aa.pure O ?_ (aa.pure O ?_ (aa.pure O ?_ (aa.pure O ?_ (aa.pure O ?_ (aa.gp O ?_ (aa.gp O ?_ (aa.nil)))))))))))))
        all_goals first | (intro v wz c bX hS hE K hK;simp only[ah,Act.put,dk,dm,dn,Nat.zero_add,Nat.reduceAdd,ck,ct]at hK|-) | (intro v wz hS hE K hK;simp only[ah,Act.put,dk,dm,dn,Nat.zero_add,Nat.reduceAdd,ck,ct]at hK|-)
        .exact ζ
        .have e0:v 0=_:=hE.1 rfl;rw[e0]at hK|-;have bx0:=(hS.cl w 0 Lq).t c0;have bx1:=(hS.cl w 1 Lq).t c1;have lwz:w.heap.size<wz:=by have:=hS.size;omega
         exact ζ
        .exact ζ
        .have e1:v 1=_:=hE.1 rfl;have e2:v 2=_:=hE.2.1 rfl;rw[e1,e2]at hK|-;exact ζ
        .have e3:v 3=_:=hE.1 rfl;rw[e3]at hK|-;have ax:=(hS.cl ga (fa+j) agG).t ca0;have lwa:ga<wz:=by have:=hS.size;omega
         exact ζ
        .exact ζ
        .have e5:v 5=_:=hE.1 rfl;rw[e5]at hK|-;have bx0:=(hS.cl w 0 Lq).t c0;have bx1:=(hS.cl w 1 Lq).t c1;have lwz:w.heap.size<wz:=by have:=hS.size;omega
         exact ζ
        .exact ζ
        .have e6:v 6=_:=hE.1 rfl;have e7:v 7=_:=hE.2.1 rfl;rw[e6,e7]at hK|-;exact ζ
        .have e8:v 8=_:=hE.1 rfl;rw[e8]at hK|-;have ex:=(hS.cl ge (fe+j) agH).t ce0;have lwe:ge<wz:=by have:=hS.size;omega
         exact ζ
        .exact ζ
        .have e9:v 9=_:=hE.1 rfl;have eR:v 10=_:=hE.2.1 rfl;rw[e9,eR]at hK|-;have aG:=uT (.slice Ar zf cr) (.slice (Z g3 0) k c3) row cs wz (HED.later hS) (xX.later hS) Yo.o wO.o (by rw[Yq.o];omega)
         have HC:=Y aG;have HX:=Y hS;clear hS hE bX aG;go_wp2_with fail;refine HC.mono ?_;rintro e wy ⟨jv,rfl,ho,hb⟩;have ni:=eQ.eu ho;obtain ⟨Aj,cj,rfl,-⟩:=ni.form;have Ls:=Y (HX.t (hb.mono HX.size));have HJ:=Y ni;clear ho hb ni;go_wp2_with fail;refine hK.out _ _ (λj z hj h=>?_) Ls.o ⟨Aj,cj,rfl,HJ.o⟩
         match j with
         |0|1|2|3|4|5|6|7|8|9|10=>exact h
         |11=>exact absurd rfl hj
         |12=>exact h
         |_+13=>exact trivial
        .have e4:v 4=_:=hE.1 rfl;rw[e4]at hK|-;have Bw:=hE.2.1 rfl;obtain ⟨Aj,cj,fZ,hj⟩:=Bw;rw[fZ]at hK hj|-;have aG:=zh bb _ (cD (cY cs) row) wz hj HJB.o (by have:=Yp.o;omega) (UM.later hS)
         rw[OO.o]at aG;have HC:=Y aG;have HX:=Y hS;clear hS hE bX aG hj fZ;go_wp2_with fail;refine HC.mono ?_;rintro e wy ⟨rfl,hb⟩;have Ls:=Y (HX.t (hb.mono HX.size));have oq:=Y hb;clear hb;go_wp2_with fail;refine hK.out _ _ (λj z hj h=>?_) Ls.o rfl
         match j with
         |0|1|2|3|4|5|6|7|8|9|10=>exact h
         |11=>
          obtain ⟨A,c,e,h2⟩:=h;exact ⟨A,c,e,h2.later oq.o⟩
         |12=>exact absurd rfl hj
         |_+13=>exact trivial
       .intro v wz hS hF;have e0:v 0=_:=hF 0 O;have e1:v 1=_:=hF 1 O;have e2:v 2=_:=hF 2 O;have e3:v 3=_:=hF 3 O;have e4:v 4=_:=hF 4 O;have e5:v 5=_:=hF 5 O;have e6:v 6=_:=hF 6 O;have e7:v 7=_:=hF 7 O;have e8:v 8=_:=hF 8 O;have e9:v 9=_:=hF 9 O;have eR:v 10=_:=hF 10 O;have Bw:=hF 11 O;have DM:=hF 12 O;simp only[ah,Act.put,dk,dm,dn,Nat.zero_add,Nat.reduceAdd,ck,ct,List.drop_succ_cons,List.drop_zero,e0,e1,e2,e3,e4,e5,e6,e7,e8,e9,eR];clear hF e0 e1 e2 e3 e4 e5 e6 e7 e8 e9 eR;have fG:v 12=_:=DM;rw[fG];have hz:=HHZ.o;have jn:=hS.size;have agI:WB.heap.size<W:=U;have Bz:MN Tryz.prog 9 WB seen.length F wz:=HR.mn.iJ (hS.block _ agI);have UN:=HR.own.later hS;have bw:Below WB WB wz:=HR.bl.t (hS.mono p5);obtain ⟨Ym,Yn⟩:=UN.gY j (by rw[DL.o];exact aB)
        have hlz:WB.heap.size+1<wz:=U;obtain ⟨nm,Hx⟩:∃x,pK bb (cD (cY cs) row)=x:=⟨_,rfl⟩;have jq:keyOf Tryz.prog 9 (.string (bs nm))=some (.string nm):=by
         have h1:=rY _ HJB.o;have h2:(uU bb).length<=5:=by cases bb <;> decide
         have:=WideMaps.keyOf_string_mk (P:=Tryz.prog) (k:=9) Tryz.underlying9 (s:=bs nm) (by rw[mB,<-Hx];unfold pK;rw[List.length_append];unfold maxLen;have:=Yp.o;omega)
         rwa [zi]at this
        obtain rfl:NB=bs nm:=by rw[<-OO.o,Hx]
        have S0:=Y Hx;have p6:=Y jq;have P3:=Y Bz;have P4:=Y UN;have iZ:=Y bw;have Lt:seen.length<=k:=by
         have h1:=gH (l:=seen) (r:=(List.range j).map (AH m cs)) HR.ri.nd (λx hx=>by
          obtain ⟨s,h1,-,h3⟩:=HR.ri.Lh x hx;exact List.mem_map.2 ⟨s,List.mem_range.2 h1,h3⟩)
         simp at h1;omega
        clear hS Bw DM fG Bz UN bw Hx jq;by_cases bI:AH m cs j∈seen
        .have lJ:(Instr.lookup 48 (.map (some WB.heap.size)) (.string (bs nm)) true).run Tryz.prog wz=.ok (.tuple #[.int .i64 ((seen.idxOf (AH m cs j):Nat):Int),.bool true]) wz:=by
          have h1:=P3.mv.look_ok K Tryz.underlying48 hz p6.o trivial;have h2:=HR.sy (AH m cs j);rw[SZ.1]at h2;simp only[S0.o]at h2;rw[h2,<-SZ.1,Hv,if_pos bI]at h1;exact h1
         obtain ⟨ix,OP⟩:∃i,seen.idxOf (AH m cs j)=i:=⟨_,rfl⟩;rw[OP]at lJ;have aH:=P4.xg DL.o j (some ix);have AK:ZP m WB cs (ds.set j (some ix)) seen F k (j+1) (wz.setCell (Z (WB+1) j) (.int .i64 (ix:Int))):=
          ⟨P3.iJ (Below.heap_setCell _ _ _ _ (by show WB.heap.size≠WB+1;omega)),HR.sy,aH,by rw[<-OP];exact HR.ri.Li OM HCN.o bI,iZ.sc (WB+1) j (by show WB.heap.size<=WB+1;omega) _⟩
         have pC:=Y AK;have BA:=Y bI;clear OP aH AK bI;go_wp2_with fail;go_roundw
         case rel=>exact ⟨j+1,_,_,_,U,by go_num,pC⟩
         case measure=>exact μ
        .have lJ:(Instr.lookup 48 (.map (some WB.heap.size)) (.string (bs nm)) true).run Tryz.prog wz=.ok (.tuple #[(0:Int),.bool false]) wz:=by
          have h1:=P3.mv.look_ok K Tryz.underlying48 hz p6.o trivial;have h2:=HR.sy (AH m cs j);rw[SZ.1]at h2;simp only[S0.o]at h2;rw[h2,<-SZ.1,Hv,if_neg bI]at h1;exact h1
         have Dc:F (.string nm)=none:=by
          have h2:=HR.sy (AH m cs j);rw[SZ.1]at h2;simp only[S0.o]at h2;rw[h2,<-SZ.1,Hv,if_neg bI]
         obtain ⟨sl,p7⟩:∃n,seen.length=n:=⟨_,rfl⟩;have Bz:=P3.o;rw[p7]at Bz Lt;have BA:=Y (I bI p7);have Lu:=Y Bz;have DE:=Y Dc;clear bI p7 Bz Dc;go_wp2_with (first
          | (at_len;refine eC rfl _ 48 rfl 9 3 Tryz.underlying48 WB sl F rfl Lu.o ?_)
          | (at_mapUpdate;refine kL wz rfl _ _ _ 48 rfl 9 3 K Tryz.underlying48 WB sl F rfl Lu.o (by unfold maxLen;omega) _ _ _ rfl rfl p6.o trivial DE.o ?_))
         intro wm Lv kN;have hzm:=kN.size;have UO:OR 3 1 qv (WB+1) (.slice (Z (WB+1) 0) k k) ds wm:=OR.keep P4.o λg hg=>kN.block g (World.ownsRow.lt P4.o g hg).2 (λe=>by
          have:=(World.ownsRow.lt P4.o g hg).1;injection e with e;omega)
         obtain ⟨ee0,ee1⟩:=UO.gY j (by rw[DL.o];exact aB)
         have Ui:WB.heap.size+1<wm:=U;have aH:=UO.xg DL.o j (some sl);have F0:Below WB WB wm:=iZ.grown kN U (λq hq=>by injection hq with hq;omega)
         have F5:=HR.sy.put (AH m cs j) BA.1 (sl:Int) (by rw[BA.2])
         rw[SZ.1]at F5;simp only[S0.o]at F5;have qA:=HR.ri.new OM HCN.o BA.1;rw[BA.2,SZ.1]at qA;have AK:ZP m WB cs (ds.set j (some sl)) (seen++[(bb,cD (cY cs) row)]) (je F (.string nm) (some (.int .i64 (sl:Int)))) k (j+1) (wm.setCell (Z (WB+1) j) (.int .i64 (sl:Int))):=
          ⟨by rw[List.length_append,BA.2];exact Lv.iJ (Below.heap_setCell _ _ _ _ (by show WB.heap.size≠WB+1;omega)),F5,aH,qA,F0.sc (WB+1) j (by show WB.heap.size<=WB+1;omega) _⟩
         have pC:=Y AK;clear Lv kN UO aH F0 F5 qA AK Ym Yn;go_wp2_with fail;go_roundw
         case rel=>exact ⟨j+1,_,_,_,U,by go_num,pC⟩
         case measure=>exact μ
     .have Z2:j=k:=U;have hd:decide ((j:Int)<(k:Int))=false:=θ;have HJK:=Y Z2;clear Z2;obtain ⟨sl,p7⟩:∃n,seen.length=n:=⟨_,rfl⟩;have SJ:=HR.mn;rw[p7]at SJ;have Z3:=Y SJ;have DN:=Y p7;have qA:=HR.ri;rw[HJK.o,<-HN.1]at qA;have OS:=Y qA;have nN:=pY.t (HR.bl.mono Yl);have dc:=Y nN;have iw:=(HR.bl.block _ DI).t tX.o;have UL:=Y iw;clear SJ p7 qA nN iw FZ;by_cases he:sl=kn
      .have hde:((sl:Int) == (kn:Int))=true:=ψ;have DO:=Y he;clear he;go_wp2_with (at_len;refine eC rfl _ 48 rfl 9 3 Tryz.underlying48 WB sl F rfl Z3.o ?_);refine au λWf bG=>?_;subst bG;refine bodyPost_ret (v:=.slice (Z (WB+1) 0) k k) (by simp[results,Tryz.results45,go_sem];try rfl) rfl ?_
       refine ⟨_,ds,rfl,HR.own.mono U,dc.o,?_,HH.done HV.o OS.o (by rw[DN.o,DO.o]),λs c hc=>?_⟩
       .rw[HR.ri.len,HN.1]
       .have:=OS.ZO s c hc;rwa [HN.1]at this
      .have hde:((sl:Int) == (kn:Int))=false:=ψ;obtain ⟨ml,gG,Yr⟩:=HH.next HV.o OS.o (by rw[DN.o];exact he)
       rw[DN.o]at gG Yr;rw[HN.1]at Yr;have J0:=Y ml;clear ml he;go_wp2_with (at_len;refine eC rfl _ 48 rfl 9 3 Tryz.underlying48 WB sl F rfl Z3.o ?_)
       go_roundg (k+2-sl)
       case measure=>omega
       case rel=>exact ⟨WB.heap.size+1,k,sl,ds,rfl,rfl,U,U,HR.own.mono U,by have:=J0.o;rwa [DN.o]at this,UL.o,dc.o⟩
end
theorem Ik(v:Value)(m:Mc)(w:World)(hm:jb w v m)(hv:jB m)(eg:iE m)(h1:1<=m.ed.length)(pD:eU w):Calls Tryz.prog 23 #[v] w (Er m w):=
 ME v m w hm hv eg h1 λW hb=>Bv v m W (hm.later hb) hv eg h1 (pD.later hb)
section
open Go.Maps (Keyed)
def dK:Value:=.agg #[(),()]
def Dq(nd:Nd)(w:World)(e:Ending)(w':World):Prop:=
 Below w w w'/\
 ((bz nd≠0/\e=.returned (.tuple #[dK,.int .i64 (bz nd)]))\/
  (bz nd=0/\600<aL nd/\e=.returned (.tuple #[dK,.int .i64 3]))\/
  (bz nd=0/\aL nd<=600/\∃b x gs rows aN i,Wr ⟨[],[]⟩ b x (gN nd)/\b.fol.length=aL nd/\(∀rs∈b.sets,∀r∈rs,r.2<256)/\uc b x gs rows aN i/\
   ((2000<gs.length/\e=.returned (.tuple #[dK,.int .i64 3]))\/(i=gs.length/\gs.length<=2000/\∃rv m',e=.returned (.tuple #[rv,.int .i64 0])/\nI w w' rv m'/\BN ⟨rows,aN⟩ m'))))
theorem qO{w:World}{B n:Nat}{e:TypeId}{v:Value}{xs:List Value}(h:w.ownsRow B e 1 v n xs)(hn:0<n):∃g c,v=.slice (Z g 0) n c/\(n<=c/\c<=9223372036854775807)/\v.ownBlock=some g/\g<w.heap.size/\∀i,i<n->w.cell? (Z g i)=xs[i]?:=by
 obtain ⟨A,c,rfl,h1,h2⟩:=ae h;obtain ⟨g,rfl,-,h3,h4⟩:=qR h hn;exact ⟨g,c,rfl,⟨h1,h2⟩,rfl,h3,h4⟩
theorem LD{w0:World}{s mb:Nat}{x2 v2 vs vf:Value}{b:Pb}{rows sv:List Value}{w w':World}(hb:AY w0 s x2 (.map (some mb)) () b vs vf rows sv w)(hk:ab [s] [] w w')
  (bH:w'.heap[s]?=some (.cells #[vs,vf,v2,.map (some mb),.slice none 0 0] 54)) (hm:MV Tryz.prog 9 mb 0 (λ_=>none) w') (hmB:w0<=mb) (hmw:mb<w) (h1:0<b.fol.length) (h2:0<b.sets.length) :
  sX w0 s mb vs vf v2 [] (jT s mb ()) w'/\pw w0 (jT s mb ()) w' vs b.sets/\LW (jT s mb ()) w' vf b.fol/\Below w0 w0 w':=by
 have aB:=hb.lt;have eP:s<w:=(aB s (by simp[kY])).2
 have aY:=hb.nd;rw[List.nodup_cons]at aY;have eg:s≠mb:=by
  rintro rfl;obtain ⟨awP,⟨es,c,q1,-⟩,-⟩:=hm;rw[bH]at q1;injection q1 with q1
  cases q1
 have Vr:∀{B k n:Nat} {e:TypeId} {v:Value} {xs:List Value},w.ownsRow B e k v n xs->v.ownBlock≠some mb:=λ{B k n e v xs} ho hv=>by
  obtain ⟨cs,md,q2⟩:=eX ho mb hv;have q3:=(hk.aq mb hmw (by simp;exact λe=>eg e.symm)).t q2
  obtain ⟨awP,⟨es,c,q1,-⟩,-⟩:=hm;rw[q3]at q1;injection q1 with q1
  cases q1
 have pV:∀g,g∈jT s mb ()↔g=s\/g=mb:=λg=>by simp[jT,aq,Value.ownBlock]
 have zt:∀g,g≠s->g∉[s]:=λg h hm=>h (List.mem_singleton.1 hm);obtain ⟨gS,cS,rfl,S2,hoS,UR,LB⟩:=qO hb.sets h2;obtain ⟨gF,cF,rfl,hcF,hoF,hgF,LC⟩:=qO hb.fol h1;have nS:gS≠s:=λe=>aY.1 (by rw[<-e];exact List.mem_append_left _ (af.2 hoS))
 have nF:gF≠s:=λe=>aY.1 (by rw[<-e];exact List.mem_append_right _ (List.mem_append_left _ (af.2 hoF)))
 have mS:gS≠mb:=λe=>Vr hb.sets (by rw[hoS,e])
 have mF:gF≠mb:=λe=>Vr hb.fol (by rw[hoF,e])
 refine ⟨⟨.slice none 0 0,[],λ_=>none,rfl,⟨eg,by simp[Value.ownBlock],by simp[Value.ownBlock]⟩,⟨hb.hs,hmB,Nat.le_trans hb.cW.size hk.size⟩,bH,hm,λl=>rfl,World.ownsRow_nil _ _ _ _,λi hi=>(by cases hi)⟩,?_,?_,?_⟩
 .refine ⟨_,cS,rfl,S2,.inr ⟨gS,rfl,Nat.lt_of_lt_of_le UR hk.size,λh=>by rcases (pV gS).1 h with h|h;exact nS h;exact mS h,λi hi=>?_⟩⟩
  obtain ⟨v,q1,q2,-⟩:=hb.tB i hi;refine ⟨v,(χ gS i (hk.aq gS UR (zt _ nS))).t ?_,q2⟩;rw[LB i hi,q1]
 .refine ⟨gF,cF,rfl,hcF,Nat.lt_of_lt_of_le hgF hk.size,λh=>by rcases (pV gF).1 h with h|h;exact nF h;exact mF h,λi hi=>?_⟩
  obtain ⟨v,q1,q2⟩:=hb.Dt i hi;have nv:v.ownBlock≠some s:=λe=>aY.1 (List.mem_append_right _ (List.mem_append_right _ (List.mem_flatMap.2 ⟨v,List.mem_of_getElem? q1,af.2 e⟩)));have mv:v.ownBlock≠some mb:=Vr q2;refine ⟨v,(χ gF i (hk.aq gF hgF (zt _ nF))).t ?_,(SL.ia q2).keep (λg hg hm=>nv (by rw[hg,List.mem_singleton.1 hm])) hk,λg hg hm=>?_,λk hv=>Nat.lt_of_lt_of_le (q2.lt k hv).2 hk.size,λn c e=>?_⟩
  .rw[LC i hi,q1]
  .rcases (pV g).1 hm with h|h
   .exact nv (by rw[hg,h])
   .exact mv (by rw[hg,h])
  .rcases q2.2 with ⟨h3,-⟩|⟨g,cap,cur,h3,-⟩
   .rw[h3]at e;injection e with _ _ e;exact e.symm
   .rw[h3]at e;injection e with e;cases e
 .exact hb.cW.t ⟨hk.os,hk.tape,hk.output,hk.size,λk bE=>hk.aq k (by have:=hb.cW.size;omega) (λh=>by have:=hb.hs;have:=List.mem_singleton.1 h;omega)⟩
end
section
open Go.Maps (Keyed)
theorem pw.gV{w0:World}{L L':List Nat}{w:World}{v:Value}{sets:List (List (Nat×Nat))}(h:pw w0 L w v sets)(hs:∀k∈L',k∈L):pw w0 L' w v sets:=by
 obtain ⟨A,c,e,hc,h⟩:=h;refine ⟨A,c,e,hc,h.imp id ?_⟩;rintro ⟨g,rfl,hg,hn,ak⟩;exact ⟨g,rfl,hg,λhm=>hn (hs g hm),ak⟩
theorem sX.DU{B s mb:Nat}{v0 v1 v2:Value}{gs:List (List Nat)}{fp:List Nat}{w:World}(h:sX B s mb v0 v1 v2 gs fp w):∃A c,w.cell? (Z s 4)=some (.slice A gs.length c)/\(gs.length<=c/\c<=9223372036854775807)/\
  ∀k (hk:k<gs.length),∃g v,A=some ⟨g,0,none⟩/\g<w.heap.size/\w.cell? (Z g k)=some v/\IL w v gs[k]/\aO fp v:=by
 obtain ⟨vg,gv,F,rfl,h⟩:=h;obtain ⟨A,c,rfl,hc⟩:=ae h.own;refine ⟨A,c,by rw[Φ h.cs];rfl,hc,λk hk=>?_⟩
 obtain ⟨g,rfl,-,hg,ak⟩:=qR h.own U;obtain ⟨v,h1,h2,h3,-⟩:=h.Qj k hk;exact ⟨g,v,rfl,hg,by rw[ak k hk,h1],h2,h3⟩
def UQ(w0:World)(s mb:Nat)(v0 v1 v2:Value)(b:Pb)(gs:List (List Nat))(fp L:List Nat)(W:World)(x:Value)(w:World):Prop:=
 ∃r row eW fp',my L r/\(eQ w x row/\aO fp' x/\∀g,x.ownBlock=some g->W.heap.size<=g/\g<w.heap.size)/\sX w0 s mb v0 v1 v2 eW fp' w/\ab fp fp' W w/\ft b r eW row 256/\kz b r gs eW/\eW.length<=gs.length+257
theorem UQ.later{w0:World}{s mb:Nat}{v0 v1 v2:Value}{b:Pb}{gs:List (List Nat)}{fp L:List Nat}{W:World}{x:Value}{w w':World}(h:UQ w0 s mb v0 v1 v2 b gs fp L W x w)(hb:Below w w w'):UQ w0 s mb v0 v1 v2 b gs fp L W x w':=by
 obtain ⟨r,row,eW,fp',h1,⟨h2,h3,h4⟩,h5,h6,h7,h8,h9⟩:=h;exact ⟨r,row,eW,fp',h1,⟨h2.later hb,h3,λg hg=>⟨(h4 g hg).1,Nat.lt_of_lt_of_le (h4 g hg).2 hb.size⟩⟩,h5.later hb,h6.t (ab.aj hb),h7,h8,h9⟩
structure CpL (w0:World) (s mb:Nat) (v0 v1 v2:Value) (b:Pb) (x:cI) (P:Nat) (vx vy:Value) (N i:Nat) (gs:List (List Nat)) (fp:List Nat) (rs:List (List Ed)) (aN:List Bool) (vE vA:Value) (gv:List Value) (wr:World):Prop where
 sb:sX w0 s mb v0 v1 v2 gs fp wr
 ma:jt w0 N fp vE vA gv rs aN wr
 cp:P7 w0 (fp++ki N vE vA) v0 v1 v2 b x P vx vy wr
 ci:uc b x gs rs aN i
 bl:Below w0 w0 wr
theorem Gd{w0 W w6 w7:World}{s mb P N i:Nat}{v0 v1 v2 vx vy vE vA oB rv:Value}{b:Pb}{x:cI}{gs:List (List Nat)}{fp L:List Nat}{rs:List (List Ed)}{lO aN:List Bool}{gv:List Value}
  (hma:jt w0 N fp vE vA gv rs aN W) (He:P7 w0 (fp++ki N vE vA) v0 v1 v2 b x P vx vy W) (qw:uc b x gs rs lO i) (ej:if i=0 then aN=lO else ∃a,aN=lO++[a]/\(a=true↔∃p∈(gs[i]?).getD [],p∈x.last))
  (hi:i<gs.length) (j7:Below w0 w0 W) (hL:∀p,p∈L↔ir b x gs i p) (hLb:∀p∈L,p<b.sets.length)
  (hE:UQ w0 s mb v0 v1 v2 b gs fp L W rv w6) (hg:w6.grownBy w7 vE.ownBlock) (ho:w7.ownsRow w0 59 1 oB (rs.length+1) (gv++[rv])) (hf:aT oB vE w6) (pV:∀k∈fp,w0.heap.size<=k) :
  ∃row eW fp',CpL w0 s mb v0 v1 v2 b x P vx vy N (i+1) eW fp' (rs++[row]) aN oB vA (gv++[rv]) (w7.setCell (Z N 0) oB)/\eW.length<=gs.length+257:=by
 obtain ⟨r,row,eW,fp',h1,⟨h2,h3,h4⟩,h5,h6,h7,h8,h9⟩:=hE;have aB:=hma.lt;have Ib:=hma.keep h6;have ahp:=h5.lt;have hw0:=j7.size;obtain ⟨q1,q2⟩:=Ib.ahq (λk hk=>(ahp k hk).2) h2 (λg hg hm=>by have:=(h4 g hg).1;have:=(aB g hm).2;omega) h3 (λg hg=>⟨by have:=(h4 g hg).1;omega,(h4 g hg).2⟩) ho hg hf
 refine ⟨row,eW,fp',⟨h5.apart q2 (λk hk=>Ib.out k hk) Ib.types,q1,(He.keep (h6.aho _)).keep (q2.aaw _),qw.step hi (λp=>(h1.2 p).t (hL p)) h1.1 (λp hp=>hLb p ((h1.2 p).1 hp)) h8 h7 ej,?_⟩,h9⟩;exact (j7.t (h6.below pV hw0)).t (q2.below (λk hk=>(aB k hk).1) (by have:=h6.size;omega))
theorem P5.later{w0:World}{s:Nat}{x2 x3 x4:Value}{b:Pb}{fp:List Nat}{Lg:LA}{n K:Nat}{w:World}{e:Ending}{w' gX:World}(h:P5 w0 s x2 x3 x4 b fp Lg n K w e w')(hb:Below w' w' gX):P5 w0 s x2 x3 x4 b fp Lg n K w e gX:=by
 obtain ⟨b',x,fp',v1,v2,h1,h2,h3,⟨h4,h5⟩,⟨h6,h7⟩,h8⟩:=h;have hk:=ab.aj (fp:=fp') hb;exact ⟨b',x,fp',v1,v2,h1,h2.later hb,h3.t hk,h4.keep h5 hk,h6.keep h7 hk,h8⟩
theorem qs.qN{w0:World}{s:Nat}{x2 x3 x4:Value}{b:Pb}{fp:List Nat}{w:World}(h:qs w0 s x2 x3 x4 b fp w){g:Nat}{cs:Array Value}{m:Nat×Nat}(hg:w.heap[g]?=some (.cells cs 56 m)):g∉fp:=by
 obtain ⟨vs,vf,rows,sv,rfl,h⟩:=h;intro hm;unfold kY at hm;have key:∀{Hl:Array Value} {e:TypeId} {m':Nat×Nat},w.heap[g]?=some (.cells Hl e m')->e≠56->False:=λ{Hl e m'} h1 bf=>by
  rw[hg]at h1;injection h1 with h1;injection h1 with _ h2 _;exact bf h2.symm
 rcases List.mem_cons.1 hm with rfl|hm
 .exact key h.cs O
 .rcases List.mem_append.1 hm with hm|hm
  .obtain ⟨Hl,m',h1⟩:=eX h.sets g (af.1 hm);exact key h1 O
  .rcases List.mem_append.1 hm with hm|hm
   .obtain ⟨Hl,m',h1⟩:=eX h.fol g (af.1 hm);exact key h1 O
   .obtain ⟨v,hv,qu⟩:=List.mem_flatMap.1 hm;obtain ⟨i,hi,he⟩:=List.getElem_of_mem hv;have iy:rows.length=b.fol.length:=by have:=h.fol.1;omega
    obtain ⟨v',h1,h2⟩:=h.Dt i U;rw[List.getElem?_eq_getElem hi,he]at h1;obtain rfl:=Option.some.inj h1;obtain ⟨Hl,m',h3⟩:=eX h2 g (af.1 qu);exact key h3 O
theorem BE{w:World}{B B' k n:Nat}{e:TypeId}{v:Value}{xs:List Value}(h:w.ownsRow B e k v n xs)(hB:B'<=B):w.ownsRow B' e k v n xs:=
 ⟨h.1,h.2.imp id λ⟨g,cap,cur,h1,h2,h3⟩=>⟨g,cap,cur,h1,Nat.le_trans hB h2,h3⟩⟩
def jS(last:List Nat)(n k:Nat):List Bool:=(List.range n).map λp=>decide (p∈last.take k)
theorem uW(last:List Nat)(n:Nat):jS last n 0=List.replicate n false:=by
 unfold jS;rw[List.eq_replicate_iff];refine ⟨H,λx hx=>?_⟩;obtain ⟨p,-,rfl⟩:=List.mem_map.1 hx;simp
theorem lK(last:List Nat)(n k:Nat):(jS last n k).length=n:=by simp[jS]
theorem iq(last:List Nat){n p:Nat}(k:Nat)(h:p<n):(jS last n k)[p]?=some (decide (p∈last.take k)):=by
 unfold jS;rw[List.getElem?_map,List.getElem?_range h];rfl
theorem uX{last:List Nat}{n k:Nat}(hk:k<last.length):(jS last n k).set last[k] true=jS last n (k+1):=by
 apply List.ext_getElem?;intro p;by_cases hp:p<n
 .rw[iq last (k+1) hp,List.getElem?_set,List.take_succ_eq_append_getElem hk];by_cases e:last[k]=p
  .rw[if_pos e,if_pos (by rw[lK,e];exact hp)]
   simp[e]
  .rw[if_neg e,iq last k hp]
   congr 1
   rw[decide_eq_decide,List.mem_append,List.mem_singleton];exact ⟨.inl,λh=>h.resolve_right λe2=>e e2.symm⟩
 .rw[List.getElem?_eq_none (by rw[List.length_set,lK];omega),List.getElem?_eq_none (by rw[lK];omega)]
theorem r6(w:World)(n:Nat)(hn:n<=1000000):OR 4 1 bC w (.slice (Z w 0) n n) (List.replicate n false) (w.alloc (.cells (Array.replicate n (.bool false)) 4)):=by
 have aC:a8 bC (List.replicate n false)=List.replicate n (.bool false):=by
  unfold a8
  induction n with
  |zero=>rfl
  |succ n ih=>rw[List.replicate_succ,List.map_cons,List.flatten_cons,ih U,List.replicate_succ];rfl
 refine ⟨by rw[aC];simp,.inr ⟨w.heap.size,n,Array.replicate n (.bool false),H,V,heap_alloc_new w _,H,by unfold maxLen;omega,H,?_⟩⟩
 rw[aC,List.length_replicate];simp
def lL(b:Pb)(g:List Nat):List Nat:=g.flatMap λp=>cN b p
theorem Ie(b:Pb)(g:List Nat)(p:Nat):lL b (g++[p])=lL b g++cN b p:=by unfold lL;simp
theorem BH{b:Pb}{g:List Nat}{p:Nat}:p∈lL b g↔∃q∈g,p∈cN b q:=by unfold lL;exact List.mem_flatMap
theorem BF{b:Pb}{K:Nat}(hK:∀l∈b.fol,l.length<=K):∀g:List Nat,(lL b g).length<=g.length*K
 | []=>by simp[lL]
 |p::r=>by
  have ih:=BF hK r;have h1:(cN b p).length<=K:=by
   unfold cN
   cases h:b.fol[p]? with
   |none=>simp
   |some l=>exact hK l (List.mem_of_getElem? h)
  unfold lL at ih|-;rw[List.flatMap_cons,List.length_append,List.length_cons,Nat.succ_mul];omega
end
structure Bx (w:World) (a b c d:Value) (wr:World):Prop where
 cW:Below w w wr
 Pj:w.heap.size+2<=wr
 r0:wr.heap[w.heap.size]?=some (.cells #[a,b] 35)
 r1:wr.heap[w.heap.size+1]?=some (.cells #[c,d] 35)
theorem Bx.later{w wr w':World}{a b c d:Value}(h:Bx w a b c d wr)(hb:Below wr wr w'):Bx w a b c d w':=
 ⟨h.cW.t (hb.mono h.cW.size),Nat.le_trans h.Pj hb.size,(hb.block _ (by have:=h.Pj;omega)).t h.r0,(hb.block _ (by have:=h.Pj;omega)).t h.r1⟩
theorem Bx.cells{w wr:World}{a b c d:Value}(h:Bx w a b c d wr):wr.cell? (Z w 0)=some a/\wr.cell? (Z w 1)=some b/\wr.cell? (Z (w+1) 0)=some c/\wr.cell? (Z (w+1) 1)=some d/\w.heap.size<wr/\w.heap.size+1<wr:=by
 have h1:=h.Pj;refine ⟨?_,?_,?_,?_,U,U⟩
 .rw[Φ h.r0];rfl
 .rw[Φ h.r0];rfl
 .rw[Φ h.r1];rfl
 .rw[Φ h.r1];rfl
theorem En(v1 v2:Value)(m1 m2:Mc)(w:World)(qd:jb w v1 m1)(sY:jb w v2 m2)(hv1:jB m1)(Ye:jB m2)(WR:iE m1)(acK:iE m2):
  Calls Tryz.prog 9 #[v1,v2] w λe w'=>e=.returned (.bool (decide (m1=m2)))/\Below w w w':=by
 obtain ⟨ve1,xm,rfl,DP,SM⟩:=id qd;obtain ⟨Ae1,Ku,rfl,kG⟩:=DP.form;obtain ⟨Iq,Gh,rfl,pT⟩:=SM.form;obtain ⟨ve2,vh,rfl,xi,JY⟩:=id sY;obtain ⟨Ae2,TS,rfl,tz⟩:=xi.form;obtain ⟨Ir,Gi,rfl,yQ⟩:=JY.form;obtain ⟨n1,ml⟩:∃n,m1.ed.length=n:=⟨_,rfl⟩;obtain ⟨n2,gG⟩:∃n,m2.ed.length=n:=⟨_,rfl⟩;have WS:m1.ac.length=n1:=by rw[hv1.len,ml]
 have BG:m2.ac.length=n2:=by rw[Ye.len,gG]
 obtain ⟨q,hq⟩:∃q,decide (m1=m2)=q:=⟨_,rfl⟩;have dA:Hid (Bx w (.slice Ae1 n1 Ku) (.slice Iq n1 Gh) (.slice Ae2 n2 TS) (.slice Ir n2 Gi) ((w.alloc (.cells #[.slice Ae1 n1 Ku,.slice Iq n1 Gh] 35)).alloc (.cells #[.slice Ae2 n2 TS,.slice Ir n2 Gi] 35))):=
  ⟨(D.alloc V _).alloc H _,H,by rw[az _ _ _ H];exact heap_alloc_new w _,by simpa using heap_alloc_new (w.alloc (.cells #[.slice Ae1 n1 Ku,.slice Iq n1 Gh] 35)) (.cells #[.slice Ae2 n2 TS,.slice Ir n2 Gi] 35)⟩
 have HE:=Y (I DP (I xi (I SM JY)));have HN:=Y (I (I ml WS) (I (I gG BG) hq));have HS:=Y (I WR acK);have tS:n1<=100000:=by rw[<-ml];exact WR.n
 rw[hq,ml,gG,WS,BG];clear DP xi SM JY ml gG WS BG hq qd sY hv1 Ye WR acK kG pT tz yQ;by_cases WT:n1=n2
 .subst WT
  go_enter Tryz.func9,Tryz.ntmps9
  go_wp2_with fail;go_loopw [5] (λv wr=>∃k:Nat,k<=n1/\v=.int .i64 (k:Int)/\Hid (Bx w (.slice Ae1 n1 Ku) (.slice Iq n1 Gh) (.slice Ae2 n1 TS) (.slice Ir n1 Gi) wr)/\Hid (∀i,i<k->m1.ac[i]?=m2.ac[i]?)) (λv _=>n1 - (intOf v).toNat)
  case atStart=>exact ⟨0,U,rfl,dA,λi hi=>absurd hi (Nat.not_lt_zero _)⟩
  case round=>
   obtain ⟨k,hk,rfl,HB,HI⟩:=hrel;obtain ⟨b0,b1,b2,b3,s0,s1⟩:=HB.cells;by_cases aB:k<n1
   .have hd:decide ((k:Int)<(n1:Int))=true:=τ;have dV:decide (k<n1)=true:=decide_eq_true aB;obtain ⟨g1,f1,rfl,-,bg,kr⟩:=HE.2.2.1.jL (k:=k) (by rw[HN.1.2];exact aB)
    obtain ⟨g2,f2,rfl,-,dZ,jD⟩:=HE.2.2.2.jL (k:=k) (by rw[HN.2.1.2];exact aB)
    obtain ⟨x1,fk⟩:∃x,m1.ac[k]'(by rw[HN.1.2];exact aB)=x:=⟨_,rfl⟩
    obtain ⟨x2,gO⟩:∃x,m2.ac[k]'(by rw[HN.2.1.2];exact aB)=x:=⟨_,rfl⟩
    rw[fk]at kr;rw[gO]at jD;have HX:Hid (m1.ac[k]?=some x1/\m2.ac[k]?=some x2):=⟨by rw[List.getElem?_eq_getElem (by rw[HN.1.2];exact aB),fk],by rw[List.getElem?_eq_getElem (by rw[HN.2.1.2];exact aB),gO]⟩
    have d0:∀d:bc wr wr,d.b8.cell? (Z w 1)=some (.slice (Z g1 f1) n1 Gh):=λd=>(HB.later d.ag).cells.2.1;have d1:∀d:bc wr wr,d.b8.cell? (Z (w+1) 1)=some (.slice (Z g2 f2) n1 Gi):=λd=>(HB.later d.ag).cells.2.2.2.1;have d2:∀d:bc wr wr,w.heap.size<d.b8.heap.size:=λd=>(HB.later d.ag).cells.2.2.2.2.1;have d3:∀d:bc wr wr,w.heap.size+1<d.b8.heap.size:=λd=>(HB.later d.ag).cells.2.2.2.2.2;have d4:∀d:bc wr wr,d.b8.cell? (Z g1 (f1+k))=some (.bool x1):=λd=>((HB.later d.ag).cW.cl g1 (f1+k) bg).t kr;have d5:∀d:bc wr wr,d.b8.cell? (Z g2 (f2+k))=some (.bool x2):=λd=>((HB.later d.ag).cW.cl g2 (f2+k) dZ).t jD;have d6:∀d:bc wr wr,g1<d.b8.heap.size:=λd=>by have:=(HB.later d.ag).cW.size;omega
    have d7:∀d:bc wr wr,g2<d.b8.heap.size:=λd=>by have:=(HB.later d.ag).cW.size;omega
    clear fk gO kr jD;go_wp2_with fail;refine aI (Below.refl wr wr) R R ?_
    repeat (go_big_quiet_step (fail))
    refine wpQuiet_nil ?_;intro w2 cR;have eh:Below wr wr w2:=by obtain ⟨d9,rfl⟩:=cR;exact d9.ag
    have oq:=Y (HB.later eh);clear cR d0 d1 d2 d3 d4 d5 d6 d7 eh;by_cases hxx:x1=x2
    .subst hxx
     cases x1
     all_goals
      go_wp2_with fail;go_roundw
      case rel=>
       refine ⟨k+1,U,by go_num,oq,λi hi=>?_⟩
       by_cases Pa:i=k
       .subst Pa;rw[HX.1,HX.2]
       .exact HI i U
      case measure=>exact μ
    .have HF:Hid (false=q):=by
      rw[<-HN.2.2];refine (decide_eq_false λe=>hxx ?_).symm;have h1:=HX.1;rw[e,HX.2]at h1;exact (Option.some.inj h1).symm
     cases x1 <;> cases x2
     all_goals first
      |exact absurd rfl hxx
      | (clear hxx
         go_wp2_with fail;go_ret;exact ⟨aw HF.o,oq.cW⟩)
   .obtain rfl:k=n1:=U;have hd:decide ((k:Int)<(k:Int))=false:=θ;have dV:decide (k<k)=false:=θ;have HA:Hid (m1.ac=m2.ac):=by
     apply List.ext_getElem?;intro i;by_cases hi:i<k
     .exact HI i hi
     .rw[List.getElem?_eq_none (by rw[HN.1.2];omega),List.getElem?_eq_none (by rw[HN.2.1.2];omega)]
    clear HI;go_wp2_with fail;go_loopw [6] (λv wr=>∃k2:Nat,k2<=k/\v=.int .i64 (k2:Int)/\Hid (Bx w (.slice Ae1 k Ku) (.slice Iq k Gh) (.slice Ae2 k TS) (.slice Ir k Gi) wr)/\Hid (∀i,i<k2->m1.ed[i]?=m2.ed[i]?)) (λv _=>k - (intOf v).toNat)
    case atStart=>exact ⟨0,U,rfl,HB,λi hi=>absurd hi (Nat.not_lt_zero _)⟩
    case round=>
     clear b0 b1 b2 b3 s0 s1 HB;obtain ⟨k2,bE,rfl,HB,HI⟩:=hrel;obtain ⟨b0,b1,b2,b3,s0,s1⟩:=HB.cells;by_cases aB:k2<k
     .have hd:decide ((k2:Int)<(k:Int))=true:=τ;have dV:decide (k2<k)=true:=decide_eq_true aB;obtain ⟨g1,f1,rv1,rfl,-,bg,kr,acN⟩:=HE.1.jL (k:=k2) (by rw[HN.1.1];exact aB)
      obtain ⟨g2,f2,rv2,rfl,-,dZ,jD,Dv⟩:=HE.2.1.jL (k:=k2) (by rw[HN.2.1.1];exact aB)
      obtain ⟨r1,fD⟩:∃x,m1.ed[k2]'(by rw[HN.1.1];exact aB)=x:=⟨_,rfl⟩
      obtain ⟨r2,iX⟩:∃x,m2.ed[k2]'(by rw[HN.2.1.1];exact aB)=x:=⟨_,rfl⟩
      have ajs:r1.length<=10000:=by rw[<-fD];exact HS.1.rl _ (List.getElem_mem _)
      rw[fD]at acN;rw[iX]at Dv;have HX:Hid (m1.ed[k2]?=some r1/\m2.ed[k2]?=some r2):=⟨by rw[List.getElem?_eq_getElem (by rw[HN.1.1];exact aB),fD],by rw[List.getElem?_eq_getElem (by rw[HN.2.1.1];exact aB),iX]⟩
      obtain ⟨A1,c1,rfl,KQ,acO⟩:=acN;obtain ⟨A2,c2,rfl,Hs,CC⟩:=Dv;obtain ⟨L1,hL1⟩:∃n,r1.length=n:=⟨_,rfl⟩;obtain ⟨L2,Rr⟩:∃n,r2.length=n:=⟨_,rfl⟩;rw[hL1]at kr ajs;rw[Rr]at jD;have HL:=Y (I hL1 Rr);have wN:=Y (I acO CC);have xr:=Y (I (I bg kr) (I dZ jD));have d0:∀d:bc wr wr,d.b8.cell? (Z w 0)=some (.slice (Z g1 f1) k Ku):=λd=>(HB.later d.ag).cells.1;have d1:∀d:bc wr wr,d.b8.cell? (Z (w+1) 0)=some (.slice (Z g2 f2) k TS):=λd=>(HB.later d.ag).cells.2.2.1;have d2:∀d:bc wr wr,w.heap.size<d.b8.heap.size:=λd=>(HB.later d.ag).cells.2.2.2.2.1;have d3:∀d:bc wr wr,w.heap.size+1<d.b8.heap.size:=λd=>(HB.later d.ag).cells.2.2.2.2.2;have d4:∀d:bc wr wr,d.b8.cell? (Z g1 (f1+k2))=some (.slice A1 L1 c1):=λd=>((HB.later d.ag).cW.cl g1 (f1+k2) bg).t kr;have d5:∀d:bc wr wr,d.b8.cell? (Z g2 (f2+k2))=some (.slice A2 L2 c2):=λd=>((HB.later d.ag).cW.cl g2 (f2+k2) dZ).t jD;have d6:∀d:bc wr wr,g1<d.b8.heap.size:=λd=>by have:=(HB.later d.ag).cW.size;omega
      have d7:∀d:bc wr wr,g2<d.b8.heap.size:=λd=>by have:=(HB.later d.ag).cW.size;omega
      clear fD iX kr jD hL1 Rr acO CC KQ Hs;go_wp2_with fail;refine aI (Below.refl wr wr) R R ?_
      repeat (go_big_quiet_step (fail))
      refine wpQuiet_nil ?_;intro w2 cR;have eh:Below wr wr w2:=by obtain ⟨d9,rfl⟩:=cR;exact d9.ag
      have oq:=Y (HB.later eh);clear cR d0 d1 d2 d3 d4 d5 d6 d7 eh;by_cases Zb:L1=L2
      .subst Zb;go_wp2_with fail;go_loopw [7] (λv wr=>∃j:Nat,j<=L1/\v=.int .i64 (j:Int)/\Hid (Bx w (.slice (Z g1 f1) k Ku) (.slice Iq k Gh) (.slice (Z g2 f2) k TS) (.slice Ir k Gi) wr)/\Hid (∀i,i<j->r1[i]?=r2[i]?)) (λv _=>L1 - (intOf v).toNat)
       case atStart=>exact ⟨0,U,rfl,oq,λi hi=>absurd hi (Nat.not_lt_zero _)⟩
       case round=>
        clear b0 b1 b2 b3 s0 s1;obtain ⟨j,hj,rfl,js,HI5⟩:=hrel;obtain ⟨b0,b1,b2,b3,s0,s1⟩:=js.cells;have e0:=(js.cW.cl g1 (f1+k2) xr.1.1).t xr.1.2;have e1:g1<wr:=by have:=js.cW.size;omega
        by_cases hU:j<L1
        .have hdj:decide ((j:Int)<(L1:Int))=true:=τ;have Wb:decide (j<L1)=true:=decide_eq_true hU;have iI:j<r1.length:=by rw[HL.1];exact hU
         have j9:j<r2.length:=by rw[HL.2];exact hU
         obtain ⟨p1,o1,rfl,C7,Tt⟩:=wN.1.resolve_left (by intro e;rw[e]at iI;simp at iI)
         obtain ⟨p2,o2,rfl,tW,Ti⟩:=wN.2.resolve_left (by intro e;rw[e]at j9;simp at j9)
         obtain ⟨a0,a1,a2⟩:=Tt j iI;obtain ⟨z0,z1,z2⟩:=Ti j j9;have Rf:Hid (r1[j]?=some r1[j]/\r2[j]?=some r2[j]):=⟨List.getElem?_eq_getElem iI,List.getElem?_eq_getElem j9⟩;obtain ⟨⟨l1,h1,t1⟩,fk⟩:∃x,r1[j]=x:=⟨_,rfl⟩;obtain ⟨⟨l2,h2,t2⟩,gO⟩:∃x,r2[j]=x:=⟨_,rfl⟩;rw[fk,gO]at Rf;rw[fk]at a0 a1 a2;rw[gO]at z0 z1 z2;simp only at a0 a1 a2 z0 z1 z2;have d0:∀d:bc wr wr,d.b8.cell? (Z w 0)=some (.slice (Z g1 f1) k Ku):=λd=>(js.later d.ag).cells.1;have d1:∀d:bc wr wr,d.b8.cell? (Z (w+1) 0)=some (.slice (Z g2 f2) k TS):=λd=>(js.later d.ag).cells.2.2.1;have d2:∀d:bc wr wr,w.heap.size<d.b8.heap.size:=λd=>(js.later d.ag).cells.2.2.2.2.1;have d3:∀d:bc wr wr,w.heap.size+1<d.b8.heap.size:=λd=>(js.later d.ag).cells.2.2.2.2.2;have d4:∀d:bc wr wr,d.b8.cell? (Z g1 (f1+k2))=some (.slice (Z p1 o1) L1 c1):=λd=>((js.later d.ag).cW.cl g1 (f1+k2) xr.1.1).t xr.1.2;have d5:∀d:bc wr wr,d.b8.cell? (Z g2 (f2+k2))=some (.slice (Z p2 o2) L1 c2):=λd=>((js.later d.ag).cW.cl g2 (f2+k2) xr.2.1).t xr.2.2;have d6:∀d:bc wr wr,g1<d.b8.heap.size:=λd=>by have:=(js.later d.ag).cW.size;omega
         have d7:∀d:bc wr wr,g2<d.b8.heap.size:=λd=>by have:=(js.later d.ag).cW.size;omega
         have y0:∀d:bc wr wr,d.b8.cell? (Z p1 (o1+j*3))=some (.int .u8 (l1:Int)):=λd=>((js.later d.ag).cW.cl p1 (o1+j*3) C7).t a0;have y1:∀d:bc wr wr,d.b8.cell? (Z p1 (o1+j*3+1))=some (.int .u8 (h1:Int)):=λd=>((js.later d.ag).cW.cl p1 (o1+j*3+1) C7).t a1;have y2:∀d:bc wr wr,d.b8.cell? (Z p1 (o1+j*3+2))=some (.int .i64 (t1:Int)):=λd=>((js.later d.ag).cW.cl p1 (o1+j*3+2) C7).t a2;have y3:∀d:bc wr wr,d.b8.cell? (Z p2 (o2+j*3))=some (.int .u8 (l2:Int)):=λd=>((js.later d.ag).cW.cl p2 (o2+j*3) tW).t z0;have y4:∀d:bc wr wr,d.b8.cell? (Z p2 (o2+j*3+1))=some (.int .u8 (h2:Int)):=λd=>((js.later d.ag).cW.cl p2 (o2+j*3+1) tW).t z1;have y5:∀d:bc wr wr,d.b8.cell? (Z p2 (o2+j*3+2))=some (.int .i64 (t2:Int)):=λd=>((js.later d.ag).cW.cl p2 (o2+j*3+2) tW).t z2;have y6:∀d:bc wr wr,p1<d.b8.heap.size:=λd=>by have:=(js.later d.ag).cW.size;omega
         have y7:∀d:bc wr wr,p2<d.b8.heap.size:=λd=>by have:=(js.later d.ag).cW.size;omega
         clear a0 a1 a2 z0 z1 z2 fk gO Tt Ti;by_cases hz:l1=l2/\h1=h2/\t1=t2
         .obtain ⟨rfl,rfl,rfl⟩:=hz;have HQ:Hid (r1[j]?=r2[j]?):=by
           rw[Rf.1,Rf.2];exact Y rfl
          go_wp2_with fail;refine aI (Below.refl wr wr) R R ?_
          repeat (go_big_quiet_step (fail))
          refine wpQuiet_nil ?_;intro w2 cR;have eh:Below wr wr w2:=by obtain ⟨d9,rfl⟩:=cR;exact d9.ag
          have tK:=Y (js.later eh);clear cR d0 d1 d2 d3 d4 d5 d6 d7 y0 y1 y2 y3 y4 y5 y6 y7 eh;go_wp2_with fail;go_roundw
          case rel=>
           refine ⟨j+1,U,by go_num,tK,λi hi=>?_⟩
           by_cases OJ:i=j
           .subst OJ;exact HQ.o
           .exact HI5 i U
          case measure=>exact μ
         .have HF:Hid (false=q):=by
           rw[<-HN.2.2];refine (decide_eq_false λe=>hz ?_).symm;have h3:=HX.1;rw[e,HX.2]at h3;have h4:=Rf.1;rw[<-Option.some.inj h3,Rf.2]at h4;have h5:=Option.some.inj h4;injection h5 with e1 e2 e3;exact ⟨e1.symm,e2.symm,e3.symm⟩
          have acP:(¬l1=l2/\¬((l1:Int)=(l2:Int)))\/(l1=l2/\¬h1=h2/\¬((h1:Int)=(h2:Int)))\/(l1=l2/\h1=h2/\¬t1=t2/\¬((t1:Int)=(t2:Int))):=U;clear hz;rcases acP with ⟨z1,z2⟩|⟨rfl,z1,z2⟩|⟨rfl,rfl,z1,z2⟩
          all_goals
           go_wp2_with fail;refine aI (Below.refl wr wr) R R ?_
           repeat (go_big_quiet_step (fail))
           refine wpQuiet_nil ?_;intro w2 cR;have eh:Below wr wr w2:=by obtain ⟨d9,rfl⟩:=cR;exact d9.ag
           have tK:=Y (js.later eh);clear cR d0 d1 d2 d3 d4 d5 d6 d7 y0 y1 y2 y3 y4 y5 y6 y7 eh;go_wp2_with fail;go_ret;exact ⟨aw HF.o,tK.cW⟩
        .obtain rfl:j=L1:=U;have hdj:decide ((j:Int)<(j:Int))=false:=θ;have Wb:decide (j<j)=false:=θ;have HR:Hid (r1=r2):=by
          apply List.ext_getElem?;intro i;by_cases hi:i<j
          .exact HI5 i hi
          .rw[List.getElem?_eq_none (by rw[HL.1];omega),List.getElem?_eq_none (by rw[HL.2];omega)]
         clear HI5;go_wp2_with fail;go_roundw
         case rel=>
          refine ⟨k2+1,U,by go_num,js,λi hi=>?_⟩
          by_cases Pa:i=k2
          .subst Pa;rw[HX.1,HX.2,HR.o]
          .exact HI i U
         case measure=>exact μ
      .have hdL:(L1 == L2)=false:=by simpa using Zb
       have asA:((L1:Int) == (L2:Int))=false:=ψ;have HF:Hid (false=q):=by
        rw[<-HN.2.2];refine (decide_eq_false λe=>Zb ?_).symm;have h1:=HX.1;rw[e,HX.2]at h1;rw[<-HL.1,<-HL.2,Option.some.inj h1]
       go_wp2_with fail;go_ret;exact ⟨aw HF.o,oq.cW⟩
     .obtain rfl:k2=k:=U;have hd:decide ((k2:Int)<(k2:Int))=false:=θ;have dV:decide (k2<k2)=false:=θ;have HT:Hid (true=q):=by
       rw[<-HN.2.2];refine (decide_eq_true ?_).symm;have h2:m1.ed=m2.ed:=by
        apply List.ext_getElem?;intro i;by_cases hi:i<k2
        .exact HI i hi
        .rw[List.getElem?_eq_none (by rw[HN.1.1];omega),List.getElem?_eq_none (by rw[HN.2.1.1];omega)]
       have h1:=HA.o;obtain ⟨x1,y1⟩:=m1;obtain ⟨x2,y2⟩:=m2;simp only at h1 h2;rw[h1,h2]
      go_wp2_with fail;go_ret;exact ⟨aw HT.o,HB.cW⟩
 .have hd:(n1 == n2)=false:=by simpa using WT
  have Yw:((n1:Int) == (n2:Int))=false:=ψ;have hdd:decide ((n1:Int)=(n2:Int))=false:=θ;have HF:Hid (false=q):=by
   rw[<-HN.2.2];refine (decide_eq_false λe=>WT ?_).symm;rw[<-HN.1.1,<-HN.2.1.1,e]
  have pj:=Y dA.cW
  go_enter Tryz.func9,Tryz.ntmps9
  go_wp2_with fail;go_ret;exact ⟨aw HF.o,pj.o⟩
noncomputable def ao1 (m1 m2:Mz):Bool:=QE m1 && (QE m2 && decide (cvM m1=cvM m2))
theorem rE{w:World}{Ae Aa:Option Addr}{n k ce ca:Nat}{m:Mc}(h:jb w (.agg #[.slice Ae n ce,.slice Aa k ca]) m):tL w (.slice Ae n ce) m.ed/\mA w (.slice Aa k ca) m.ac:=by
 obtain ⟨ve,va,e,h1,h2⟩:=h;injection e with e;simp only[Array.mk.injEq,List.cons.injEq,and_true]at e;obtain ⟨rfl,rfl⟩:=e;exact ⟨h1,h2⟩
noncomputable def amG (m:Mz) (bs:List Nat) (i:Int):List Nat:=if QE m=true/\0<=i/\i<=(bs.length:Int) then kF (cvM m) (bs.drop i.toNat) 0 i.toNat else []
noncomputable def aqX (m:Mz) (bs:List Nat):Bool:=QE m && eM (cvM m) bs 0
theorem mcf{w:World}{v:Value}{m:Mc}(h:jb w v m):∃Ae ce Aa ca,v=.agg #[.slice Ae m.ed.length ce,.slice Aa m.ac.length ca]/\(m.ed.length<=ce/\ce<=9223372036854775807)/\(m.ac.length<=ca/\ca<=9223372036854775807):=by
 obtain ⟨ve,va,rfl,he,ha⟩:=h;obtain ⟨Ae,ce,rfl,h1⟩:=he.form;obtain ⟨Aa,ca,rfl,h2⟩:=ha.form;exact ⟨Ae,ce,Aa,ca,rfl,h1,h2⟩
def T3(m:Mc)(o:List Bool)(j:Nat):Prop:=∀s,s<j->o[s]?=some false->∀e∈aU m s,o[e.to]?=some false
theorem Jw(v:Value)(m:Mc)(w:World)(hm:jb w v m)(hv:jB m)(eg:iE m)(h1:1<=m.ed.length):
  Calls Tryz.prog 76 #[v] w (KE m m.ed.length w):=by
 obtain ⟨Ae,ce,Aa,ca,rfl,ON,EX⟩:=mcf hm;obtain ⟨he,ha⟩:=rE hm;obtain ⟨n,hn⟩:=ν m.ed.length;have ej:m.ac.length=n:=by rw[hv.len,hn]
 have tS:=eg.n;rw[hn]at h1 tS ON;rw[ej]at EX;obtain ⟨ga,fa,rfl,-,DH,sF⟩:=ha.jL (k:=0) (by rw[ej];omega)
 obtain ⟨A',ca',e',nZ,dt⟩:=id ha;have qi:∀j (hj:j<m.ac.length),w.cell? (Z ga (fa+j))=some (.bool m.ac[j]):=by
  rcases dt with h|⟨g,f,hA,-,bH⟩
  .rw[h]at ej;simp at ej;omega
  .injection e' with e1 _ _;rw[<-e1]at hA;injection hA with hA;injection hA with hA1 hA2;subst hA1 hA2;exact bH
 have HE:=Y he;have HV:=Y hv;have tT:=Y eg;have HN:=Y (I hn ej);have HAI:=Y (Bc.start hv);have Yc:=Y qi;obtain ⟨ib,pe,hb0,aM,aS⟩:=info_parts ik;rw[ej,hn];rw[hn]at he;clear he ha hv eg hm hn ej sF nZ dt qi;have hBx:=heap_alloc_new w (.cells #[.slice Ae n ce,.slice (Z ga fa) n ca] 35);have tX:=Y hBx;clear hBx;have ao:((w.alloc (.cells #[.slice Ae n ce,.slice (Z ga fa) n ca] 35)).alloc (.cells #[] 4)).ownsRow (w+1) 4 1 (.slice (Z (w+1) 0) 0 0) 0 []:=⟨rfl,.inr ⟨w.heap.size+1,0,#[],rfl,V,by simpa using heap_alloc_new (w.alloc (.cells #[.slice Ae n ce,.slice (Z ga fa) n ca] 35)) (.cells #[] 4),V,O,rfl,rfl⟩⟩
 have XA:Below w w ((w.alloc (.cells #[.slice Ae n ce,.slice (Z ga fa) n ca] 35)).alloc (.cells #[] 4)):=(D.alloc V _).alloc H _;have dj:∀j u,(m.ac.map Value.bool)[j]?=some u->((w.alloc (.cells #[.slice Ae n ce,.slice (Z ga fa) n ca] 35)).alloc (.cells #[] 4)).cell? (((Z ga fa):Addr).add j)=some u:=λj u hj=>by
  obtain ⟨hl,e⟩:=List.getElem?_eq_some_iff.1 hj;rw[Addr.add_lit,XA.cl ga (fa+j) DH,Yc.o j (by simpa using hl),<-e,List.getElem_map]
 have adL:=Y XA;clear XA
 go_enter Tryz.func76,Tryz.ntmps76
 go_wp2_with (at_builtin;refine bn rfl _ _ 33 rfl (w+1) 4 ib (.bool false) 1 1 Tryz.underlying33 pe hb0 aM aS rfl O _ 0 [] rfl ao (Z ga fa) n ca (m.ac.map Value.bool) rfl (by rw[List.length_map,HN.2,Nat.mul_one]) dj (by intro u hu;obtain ⟨b,-,rfl⟩:=List.mem_map.1 hu;rfl) (by unfold maxLen;omega) U H ?_)
 intro v1 w1 ai bg Fb;have ai:w1.ownsRow (w+1) 4 1 v1 n (m.ac.map Value.bool):=by simpa using ai
 obtain ⟨A1,c1,rfl,-,-⟩:=ae ai;have yB:∀o:List Bool,a8 bC o=o.map Value.bool:=λo=>by
  unfold a8
  induction o with
  |nil=>rfl
  |cons b r ih=>simp only[List.map_cons,List.flatten_cons,ih];rfl
 obtain ⟨go,rfl,ZQ,atp⟩:∃g,A1=some ⟨g,0,none⟩/\w.heap.size+1<=g/\g<w1.heap.size:=by
  rcases ai.2 with ⟨h2,h3⟩|⟨g,cap,cur,h2,h3,h4,-⟩
  .omega
  .injection h2 with h2 _ _;exact ⟨g,h2,h3,(γ h4).1⟩
 have adM:OR 4 1 bC (w+1) (.slice (Z go 0) n c1) m.ac w1:=by
  show World.ownsRow _ _ _ _ _ _ _;rw[yB,HN.2];exact ai
 have adN:w1.heap[w.heap.size]?=some (.cells #[.slice Ae n ce,.slice (Z ga fa) n ca] 35):=(bg.block w ψ (λe=>by have e':w.heap.size=w+1:=Option.some.inj e;omega)).t ((az _ _ _ H).t tX.o)
 have NQ:Below w w w1:=adL.t ⟨bg.os,bg.tape,bg.output,bg.size,λk hk=>bg.block k ψ (λe=>by have e':k=w.heap.size+1:=Option.some.inj e;omega)⟩
 have ux:Hid (wW w1 (w+1) go n c1 m.ac w1):=⟨adM,ab.refl _ _⟩;have KF:Hid (∀wr,ab [go] [go] w1 wr->wr.heap[w.heap.size]?=some (.cells #[.slice Ae n ce,.slice (Z ga fa) n ca] 35)/\Below w w wr/\w.heap.size<wr):=λwr h=>
  ⟨(h.aq _ U ψ).t adN,NQ.t (h.below (λk hk=>by rw[List.mem_singleton]at hk;omega) NQ.size),by have:=h.size;omega⟩
 clear ao ai bg Fb dj adM adN NQ adL tX yB Yc;go_wp2_with fail
 go_loopg [4] (sN m.ac+2) (λq cv wr=>∃(ch:Bool) (o:List Bool),cv=.bool ch/\sN o+(if ch=true then 1 else 0)<q/\Hid (wW w1 (w+1) go n c1 o wr)/\Hid (Bc m o/\(ch=false->FK m o 0)))
 case atStart=>exact ⟨true,m.ac,rfl,H,ux,HAI.o,λh=>by cases h⟩
 case round=>
  obtain ⟨ch,o,rfl,hq,HR,HI⟩:=hrel
  cases ch with
  |false=>
   go_wp2_with fail;go_ret;have hd:=HI.1.done HV.o (HI.2 trivial);rw[HN.1]at hd;exact ⟨_,o,rfl,HR.own.mono U,(KF _ HR.kf).2.1,by rw[HI.1.len,HN.1],hd⟩
  |true=>
   go_wp2_with fail
   go_loopg [5,4] n (λj iv cv wr=>∃(s:Nat) (ch:Bool) (o2:List Bool),s<=n/\j=n-s/\iv=.int .i64 (s:Int)/\cv=.bool ch/\Hid (wW w1 (w+1) go n c1 o2 wr)/\Hid (Bc m o2/\(ch=false->o2=o/\T3 m o s)/\(ch=true->sN o2<sN o)))
   case atStart=>exact ⟨0,false,o,Nat.zero_le _,rfl,rfl,rfl,HR,HI.1,λ_=>⟨rfl,λs hs=>absurd hs (Nat.not_lt_zero _)⟩,λh=>by cases h⟩
   case round=>
    obtain ⟨s,ch,o2,hj,hx,rfl,rfl,pC,oa⟩:=hrel;obtain ⟨KG,xN,OD⟩:=KF wr pC.kf;obtain ⟨z0,z1⟩:wr.cell? (Z w 0)=some (.slice Ae n ce)/\wr.cell? (Z w 1)=some (.slice (Z ga fa) n ca):=by
     constructor <;> (rw[Φ KG]; rfl)
    by_cases ob:s<n
    .have Be:decide ((s:Int)<(n:Int))=true:=τ;have dV:decide (s<n)=true:=decide_eq_true ob;have eP:s<m.ed.length:=by rw[HN.1];exact ob
     obtain ⟨g,f,rv,rfl,-,hg,tC,ni⟩:=HE.jL eP;obtain ⟨row,aC⟩:∃r,m.ed[s]=r:=⟨_,rfl⟩;have fW:aU m s=row:=by unfold aU;rw[List.getElem?_eq_getElem eP,aC];rfl
     rw[aC]at ni;have jM:∀e∈row,e.to<n:=λe he=>by rw[<-HN.1];exact HV.to _ (by rw[<-aC];exact List.getElem_mem eP) e he
     have iy:row.length<=10000:=tT.rl _ (by rw[<-aC];exact List.getElem_mem eP)
     obtain ⟨Ar,cr,rfl,Dd,oK⟩:=ni;obtain ⟨L,hL⟩:=ν row.length;rw[hL]at Dd tC iy;have PW:=Y (I hg tC);have xO:=Y (I fW (I jM hL));have VV:=Y oK;have xL:s<o2.length:=by rw[oa.1.len,HN.1];exact ob
     have j8:Hid (∃b,o2[s]?=some b/\(b=false->∀k,k<0->∀h:k<row.length,o2[row[k].to]?=some false)):=⟨_,List.getElem?_eq_getElem xL,λ_ k hk=>absurd hk (Nat.not_lt_zero _)⟩;have HCF:Hid (sN o2<=sN o):=by
      cases ch with
      |false=>show sN o2<=sN o;rw[(oa.2.1 rfl).1];exact V
      |true=>exact Nat.le_of_lt (oa.2.2 rfl)
     clear KG xN hg tC aC fW jM oK hL xL eP z0 z1 OD;go_wp2_with fail
     go_loopg [6,4] L (λq iv cv wr=>∃(i:Nat) (ch:Bool) (o3:List Bool),i<=L/\q=L-i/\iv=.int .i64 (i:Int)/\cv=.bool ch/\Hid (wW w1 (w+1) go n c1 o3 wr)/\Hid (Bc m o3/\(ch=false->o3=o/\T3 m o s)/\(ch=true->sN o3<sN o)/\sN o3<=sN o/\∃b,o3[s]?=some b/\(b=false->∀k,k<i->∀h:k<row.length,o3[row[k].to]?=some false)))
     case atStart=>exact ⟨0,ch,o2,Nat.zero_le _,rfl,rfl,rfl,pC,oa.1,oa.2.1,oa.2.2,HCF.o,j8.o⟩
     case round=>
      clear j8 HCF;obtain ⟨i,ch3,o3,hi,BP,rfl,rfl,RH,wT⟩:=hrel;obtain ⟨KG,xN,OD⟩:=KF wr RH.kf;obtain ⟨z0,z1⟩:wr.cell? (Z w 0)=some (.slice (Z g f) n ce)/\wr.cell? (Z w 1)=some (.slice (Z ga fa) n ca):=by
       constructor <;> (rw[Φ KG]; rfl)
      have Tm:=(xN.cl g (f+s) PW.1).t PW.2;have kZ:g<wr:=by have:=PW.1;omega
      obtain ⟨b,hb,Dh⟩:=wT.2.2.2.2;obtain ⟨c0,ka,qt⟩:=RH.cell hb;have Bd:=Y xN;have XB:=Y (I hb Dh);clear KG xN hb Dh;by_cases dE:i<L
      .have Yw:decide ((i:Int)<(L:Int))=true:=τ;have XC:decide (i<L)=true:=decide_eq_true dE
       cases b with
       |true=>
        go_wp2_with fail
        go_roundg (n - (s+1))
        case measure=>omega
        case rel=>exact ⟨s+1,ch3,o3,U,rfl,by go_num,rfl,RH,wT.1,λh=>⟨(wT.2.1 h).1,λt ht ho=>by
         by_cases Ug:t=s
         .subst Ug;have:=XB.1;rw[(wT.2.1 h).1,ho]at this;cases this
         .exact (wT.2.1 h).2 t U ho⟩,wT.2.2.1⟩
       |false=>
        have xP:i<row.length:=by rw[xO.2.2];exact dE
        obtain ⟨g2,f2,rfl,dZ,bH⟩:=VV.resolve_left (by intro e;rw[e]at xP;simp at xP)
        obtain ⟨-,-,p2⟩:=bH i xP;obtain ⟨to,jM⟩:∃t,row[i].to=t:=⟨_,rfl⟩;rw[jM]at p2;have q2:=(Bd.cl g2 (f2+i*3+2) dZ).t p2;have aiR:g2<wr:=by have:=Bd.size;omega
        have YH:to<n:=by rw[<-jM];exact xO.2.1 _ (List.getElem_mem xP)
        have hdt:decide (to<n)=true:=decide_eq_true YH;have zD:to<o3.length:=by rw[wT.1.len,HN.1];exact YH
        obtain ⟨bt,zw⟩:∃b,o3[to]?=some b:=⟨_,List.getElem?_eq_getElem zD⟩;obtain ⟨d0,-,-⟩:=RH.cell zw;have HT:=Y (I zw (Exists.intro xP jM:∃h:i<row.length,row[i].to=to));clear p2 bH zD zw jM xP
        cases bt with
        |false=>
         go_wp2_with fail
         go_roundg (L - (i+1))
         case measure=>omega
         case rel=>exact ⟨i+1,ch3,o3,U,rfl,by go_num,rfl,RH,wT.1,wT.2.1,wT.2.2.1,wT.2.2.2.1,false,XB.1,λ_ k hk h=>by
          by_cases hki:k=i
          .subst hki;obtain ⟨hh,e⟩:=HT.2;rw[e];exact HT.1
          .exact XB.2 (by trivial) k U h⟩
        |true=>
         have hR4:=RH.set (by rw[wT.1.len,HN.1]) s
         have hI4:Bc m (o3.set s true):=by
          obtain ⟨xP,e⟩:=HT.2;refine wT.1.set HV.o (e:=row[i]) (by rw[xO.1];exact List.getElem_mem xP) (by rw[e];exact HT.1)
         have Bg:=yR o3 s XB.1;have HR4:=Y hR4;have HI4:Hid (Bc m (o3.set s true)/\sN (o3.set s true)<sN o/\(o3.set s true)[s]?=some true):=⟨hI4,by have:=wT.2.2.2.1;omega,by rw[List.getElem?_set];simp;exact (List.getElem?_eq_some_iff.1 XB.1).1⟩
         clear hR4 hI4 Bg;go_wp2_with fail
         go_roundg (L - (i+1))
         case measure=>omega
         case rel=>exact ⟨i+1,true,o3.set s true,U,rfl,by go_num,rfl,HR4,HI4.1,λh=>(by cases h),λ_=>HI4.2.1,Nat.le_of_lt HI4.2.1,true,HI4.2.2,λh=>(by cases h)⟩
      .obtain rfl:i=L:=U;have Yw:decide ((i:Int)<(i:Int))=false:=θ;have XC:decide (i<i)=false:=θ;go_wp2_with fail
       go_roundg (n - (s+1))
       case measure=>omega
       case rel=>exact ⟨s+1,ch3,o3,U,rfl,by go_num,rfl,RH,wT.1,λh=>⟨(wT.2.1 h).1,λt ht ho=>by
        by_cases Ug:t=s
        .subst Ug;rw[xO.1];intro e he;obtain ⟨k,hk,rfl⟩:=List.getElem_of_mem he;have ju:b=false:=by have:=XB.1;rw[(wT.2.1 h).1,ho]at this;exact (Option.some.inj this).symm
         have h5:=XB.2 ju k (by have:=xO.2.2;omega) hk
         rw[(wT.2.1 h).1]at h5;exact h5
        .exact (wT.2.1 h).2 t U ho⟩,wT.2.2.1⟩
    .obtain rfl:s=n:=U;have Be:decide ((s:Int)<(s:Int))=false:=θ;have dV:decide (s<s)=false:=θ;go_wp2_with fail
     go_roundg (sN o2+(if ch=true then 1 else 0)+1)
     case measure=>
      obtain ⟨h1,h2⟩:=oa.2
      cases ch with
      |false=>rw[(h1 rfl).1];simp at hq|-;omega
      |true=>have:=h2 rfl;simp at hq|-;omega
     case rel=>exact ⟨ch,o2,rfl,Nat.lt_succ_self _,pC,oa.1,λh=>by
      obtain ⟨h1,h2⟩:=oa.2.1 h;rw[h1];intro t ht ho;exact h2 t (by have:=(List.getElem?_eq_some_iff.1 ho).1;have h3:=HI.1.len;have h4:=HN.1;omega) ho⟩
theorem JI:(Tryz.prog.info? 106).map (λi=>(i.zero,i.size,i.bytes))=some (some (.agg (Array.replicate 256 (.int .i64 0))),256,2048):=R
theorem Sr(n:Nat)(hn:n<=60000)(w:World):(Instr.makeSlice 103 (.int .i64 (n:Int)) (.int .i64 (n:Int))).run Tryz.prog w=.ok (.slice (Z w 0) n n) (w.alloc (.cells (Array.replicate (n*256) (.int .i64 0)) 106)):=by
 obtain ⟨i0,hi,dY,dh,cT⟩:=info_parts JI;have h:=run_makeSlice (P:=Tryz.prog) (w:=w) 103 106 i0 (.agg (Array.replicate 256 (.int .i64 0))) Tryz.underlying103 hi dY .i64 .i64 (n:Int) (n:Int) U (Int.le_refl _) (by rw[dh];omega) (by rw[cT];omega) U
 rw[dh,Int.toNat_natCast]at h;rw[show madeCells (Value.agg (Array.replicate 256 (Value.int IntKind.i64 0))).cells (n*256)=Array.replicate (n*256) (.int .i64 0) from Array.toList_inj.1 (by
  simp only[madeCells,Value.cells,Array.toList_map,Array.toList_range,Array.toList_replicate];rw[List.eq_replicate_iff];refine ⟨H,λx hx=>?_⟩;obtain ⟨i,-,rfl⟩:=List.mem_map.1 hx;have:i % 256<256:=Nat.mod_lt _ O;simp[this])]at h
 exact h
def z8(w:World)(g n:Nat)(F:Nat->Nat->Int):Prop:=∃cs,w.heap[g]?=some (.cells cs 106 (0,0))/\cs.size=n*256/\∀s c,s<n->c<256->cs[s*256+c]?=some (.int .i64 (F s c))
def sK(F:Nat->Nat->Int)(s c:Nat)(x:Int):Nat->Nat->Int:=λs' c'=>if s'=s/\c'=c then x else F s' c'
theorem z8.cell{w:World}{g n:Nat}{F:Nat->Nat->Int}(h:z8 w g n F){s c:Nat}(hs:s<n)(hc:c<256):w.cell? (Z g (s*256+c))=some (.int .i64 (F s c))/\w.frozen? (Z g (s*256+c))=false/\g<w:=by
 obtain ⟨cs,h1,h2,h3⟩:=h;refine ⟨?_,by simp[World.frozen?,h1],(γ h1).1⟩
 rw[Φ h1];exact h3 s c hs hc
theorem z8.set{w:World}{g n:Nat}{F:Nat->Nat->Int}(h:z8 w g n F){s c:Nat}(hs:s<n)(hc:c<256)(x:Int):z8 (w.setCell (Z g (s*256+c)) (.int .i64 x)) g n (sK F s c x):=by
 obtain ⟨cs,h1,h2,h3⟩:=h;refine ⟨cs.setIfInBounds (s*256+c) (.int .i64 x),by simp[World.setCell,Array.getElem?_modify,h1],by simpa using h2,λs' c' zt wJ=>?_⟩
 unfold sK;rw[Array.getElem?_setIfInBounds];by_cases he:s'=s/\c'=c
 .obtain ⟨rfl,rfl⟩:=he;have aB:s'*256+c'<cs.size:=by rw[h2];omega
  rw[if_pos rfl,if_pos aB,if_pos ⟨rfl,rfl⟩]
 .rw[if_neg U,if_neg he];exact h3 s' c' zt wJ
theorem z8.keep{w w':World}{g n:Nat}{F:Nat->Nat->Int}(h:z8 w g n F)(hk:w'.heap[g]?=w.heap[g]?):z8 w' g n F:=by
 obtain ⟨cs,h1,h2⟩:=h;exact ⟨cs,hk.t h1,h2⟩
theorem z8.later{w w':World}{g n:Nat}{F:Nat->Nat->Int}(h:z8 w g n F)(hb:Below w w w'):z8 w' g n F:=by
 obtain ⟨cs,h1,h2⟩:=id h;exact h.keep (hb.block g (γ h1).1)
theorem z8.made{w:World}{n:Nat}:z8 (w.alloc (.cells (Array.replicate (n*256) (.int .i64 0)) 106)) w n λ_ _=>0:=
 ⟨_,heap_alloc_new w _,H,λs c hs hc=>by rw[Array.getElem?_replicate,if_pos U]⟩
def iC(m:Mc)(al:List Bool)(s c:Nat):Int:=match bA (aU m s) c with|none=>-1|some t=>if (al[t]?).getD false=true then (t:Int) else -1
end Go.Proofs.YthamegenljmgmaaGreatDoor
