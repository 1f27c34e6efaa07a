/- Walks. -/
import Derived.Test.YthamegenljmgmaaGreatDoorY14
import Derived.LoopN
import Derived.Lib.AsciiSet
import Derived.Test.YthamegenljmgmaaGreatDoorY18
import Derived.Deep.WholeRow
set_option maxRecDepth 100000
set_option maxHeartbeats 16000000
set_option linter.unusedVariables false
set_option linter.unusedSimpArgs false
namespace Go.Proofs.YthamegenljmgmaaGreatDoor
open Go.RowKit
def Cy:ByteArray:=⟨#[48,49,50,51,52,53,54,55,56,57]⟩
theorem setCells_at:(Lib.setCells Cy.data.toList)[50]?=some (.bool true)/\(Lib.setCells Cy.data.toList)[125]?=some (.bool false)/\(Lib.setCells Cy.data.toList).size=256:=⟨by rfl,by rfl,by rfl⟩
theorem GN:∀(l:List UInt8) (a:Array Value),(∀(i:Nat) (v:Value),a[i]?=some v->v.oneCell'=true)->∀(i:Nat) (v:Value),(l.foldl (λa c=>a.setIfInBounds c.toNat (.bool true)) a)[i]?=some v->v.oneCell'=true
 | [],_,h=>h
 |c::r,a,h=>GN r _ λi v hv=>by
  rw[Array.getElem?_setIfInBounds]at hv;split at hv
  .split at hv
   .injection hv with hv;rw[<-hv];rfl
   .cases hv
  .exact h i v hv
theorem Wz(l:List UInt8):(Lib.setCells l).all (·.oneCell')=true:=by
 rw[Array.all_eq_true];intro i hi;refine GN l (Array.replicate 256 (.bool false)) (λj v hj=>?_) i _ (Array.getElem?_eq_getElem hi);rw[Array.getElem?_replicate]at hj;split at hj
 .injection hj with hj;rw[<-hj];rfl
 .cases hj
theorem Rm(b:Nat)(w:World)(h0:w.cell? (Z b 50)=some (.bool true))(h1:w.cell? (Z b 125)=some (.bool false)):
  Calls Tryz.prog 151 #[.string ⟨#[50,125]⟩,.pointer (Z b 0)] w λe w'=>e=.returned (.string ⟨#[125]⟩)/\w'=w:=by
 have H0:=Y (Tryz.asciiSet_contains b 50 true w h0);have H1:=Y (Tryz.asciiSet_contains b 125 false w h1);clear h0 h1
 go_enter Tryz.func151,Tryz.ntmps151
 go_wp2_with fail;refine wp_loop_rounds 2 ?_;rw[rounds_succ];go_wp2_with fail;refine H0.mono ?_;rintro e w1 ⟨rfl,AF⟩;subst AF;go_wp2_with fail;rw[rounds_succ];go_wp2_with fail;refine H1.mono ?_;rintro e w2 ⟨rfl,eh⟩;subst eh;go_wp2_with fail;go_ret;exact ⟨rfl,rfl⟩
theorem WC(w:World):Calls Tryz.prog 143 #[.string ⟨#[50,125]⟩,.string Cy] w λe w'=>e=.returned (.string ⟨#[125]⟩)/\Below w w w':=by
 have hz:∀w,(zeroValue 194).run Tryz.prog w=.ok (.agg (Array.replicate 256 (.bool false))) w:=λ_=>R;have hm:=Tryz.strings_makeASCIISet hz Cy;have HM:=Y (λw=>hm w O (λj b hj=>(show ∀b∈Cy.data.toList,b.toNat<128 by decide) b (List.mem_of_getElem? hj)))
 clear hm;have hsc:=setCells_at;unfold Cy at HM hsc|-
 go_enter Tryz.func143,Tryz.ntmps143
 go_wp2_with fail;refine (HM _).mono ?_;rintro e w1 ⟨rfl,AF⟩;subst AF;obtain ⟨SC,hSC⟩:∃c,Lib.setCells (⟨#[48,49,50,51,52,53,54,55,56,57]⟩:ByteArray).data.toList=c:=⟨_,rfl⟩;rw[hSC]at hsc|-;obtain ⟨s1,s2,s3⟩:=hsc;have acp:(Tryz.prog.info? 194).map (·.size)=some 256:=R;have xC:SC.all (·.oneCell')=true:=by rw[<-hSC];exact Wz _
 have fw:=run_storeCells_new (P:=Tryz.prog) (w.alloc (.cells SC 194)) 194 (Array.replicate 256 (.bool false)) SC (by rw[s3];exact acp) (by rw[s3];simp) xC
 simp only[World.size_alloc]at fw;have HS:=Y (I s1 s2);clear hSC acp xC s1 s2;go_wp2_with fail;clear fw;obtain ⟨W,hW⟩:∃W,W=(w.alloc (.cells SC 194)).alloc (.cells SC 194):=⟨_,rfl⟩;rw[<-hW];have aC:W.heap[w.heap.size+1]?=some (.cells SC 194 (0,0)):=by rw[hW];simpa using heap_alloc_new (w.alloc (.cells SC 194)) (.cells SC 194)
 have hT:=Rm (w+1) W (by rw[Φ aC];exact HS.1) (by rw[Φ aC];exact HS.2)
 have HT:=Y hT;have HB:=Y (show Below w w W by rw[hW];exact (D.alloc V _).alloc H _)
 clear aC hT hW;refine HT.mono ?_;rintro e w3 ⟨rfl,SW⟩;subst SW;go_wp2_with fail;go_ret;exact ⟨rfl,HB.o⟩
theorem WD(w:World):Calls Tryz.prog 144 #[.string ⟨#[50]⟩] w λe w'=>e=.returned (.tuple #[.int .i64 2,.nilIface])/\Below w w w':=by
 refine (Tryz.strconv_Atoi_ok ⟨#[50]⟩ O 2 (by rfl) w).mono ?_
 rintro e w' ⟨rfl,hw⟩;refine ⟨rfl,?_⟩;rcases hw with rfl|⟨t,rfl⟩
 .exact D
 .exact KN _ _ _
theorem MX(rb:Nat)(d:Int)(w:World)(h:k9 rb ⟨#[50,125]⟩ false d w):
  Calls Tryz.prog 136 #[.pointer (Z rb 0)] w λe w'=>e=.returned (.int .i64 2)/\k9 rb ⟨#[125]⟩ false d w'/\xD rb w w':=by
 have HT:=Y WC;unfold Cy at HT;obtain ⟨⟨c0,c1,c2⟩,⟨f0,f1,f2⟩,hl⟩:=h.cells;have HR:=Y h;clear h
 go_enter Tryz.func136,Tryz.ntmps136
 go_wp2_with fail;refine (HT w).mono ?_;rintro e w1 ⟨rfl,aM⟩;have fD:=HR.later aM;have H1:=Y (I fD aM);have Be:∀d':bc w1 w1,d'.b8.cell? (Z rb 0)=some (.string ⟨#[50,125]⟩):=λd'=>(fD.later d'.ag).cells.1.1;have wP:∀d':bc w1 w1,rb<d'.b8.heap.size:=λd'=>(fD.later d'.ag).cells.2.2;clear c0 c1 c2 f0 f1 f2 hl aM fD;go_wp2_with fail;refine aI (Below.refl w1 w1) R R ?_
 repeat (go_big_quiet_step ((go_at_call 144;exact Calls.lA V (WD _))))
 refine wpQuiet_nil ?_;intro w2 cR;have eh:Below w1 w1 w2:=by obtain ⟨d9,rfl⟩:=cR;exact d9.ag
 clear cR;have iX:=H1.1.later eh;obtain ⟨⟨c0,c1,c2⟩,⟨f0,f1,f2⟩,hl⟩:=iX.cells;have H2:=Y (I iX (show xD rb w w2 from (o8 H1.2).tr (o8 eh)));clear Be wP iX eh;go_wp2_with fail;refine au λWf bG=>?_;subst bG;refine bodyPost_ret (v:=.int .i64 2) (by simp[results,Tryz.results136,go_sem];try rfl) rfl ?_
 refine ⟨rfl,?_,(H2.2.tr rz).tr rz⟩;have h1:=aE (aE H2.1 1 (.bool false)) 0 (.string ⟨#[125]⟩);simpa [k9] using h1
theorem JF(nd:Nd)(vs:List Value)(w:World)(hn:bY w nd vs):Calls Tryz.prog 74 #[.agg vs.toArray] w λe w'=>e=.returned (.bool (vS nd))/\Below w w w':=by
 obtain ⟨op,rs,kids,mn,mx⟩:=nd;obtain ⟨v1,v2,rfl,hr,A,c,rfl,hc,hk⟩:=hn;obtain ⟨A1,c1,rfl,kr,-⟩:=hr;obtain ⟨rl,iy⟩:∃n,rs.length=n:=⟨_,rfl⟩;obtain ⟨kl,aV⟩:∃n,kids.length=n:=⟨_,rfl⟩;have HK:=Y hk;have HL:=Y (I iy aV);rw[iy]at kr|-;rw[aV]at hc|-;clear iy aV hk
 go_enter Tryz.func74,Tryz.ntmps74
 go_wp2_with fail;refine CB λW0 cG=>?_;have hb0:Below w w W0:=by rw[cG];exact D.alloc V _
 have mq:W0.heap[w.heap.size]?=some (.cells #[.int .i64 op,.slice A1 rl c1,.slice A kl c,.int .i64 mn,.int .i64 mx] 26):=by rw[cG];exact heap_alloc_new w _
 have dA:=Y (I hb0 mq);clear cG hb0 mq;go_loopw [3] (λiv wr=>∃(k:Nat),k<=kl/\iv=.int .i64 (k:Int)/\Hid (((kids.take k).any λx=>x.op == op)=false)/\Hid (Below w w wr/\wr.heap[w.heap.size]?=some (.cells #[.int .i64 op,.slice A1 rl c1,.slice A kl c,.int .i64 mn,.int .i64 mx] 26))) (λiv _=>kl - (intOf iv).toNat)
 case atStart=>exact ⟨0,U,rfl,rfl,dA.o⟩
 case round=>
  obtain ⟨k,k6,rfl,HO,HB⟩:=hrel;obtain ⟨b0,b1,b2,b3,b4⟩:=aD HB.2;have lb:w.heap.size<wr:=(γ HB.2).1;by_cases aB:k<kl
  .have hd:decide ((k:Int)<(kl:Int))=true:=τ;have dV:decide (k<kl)=true:=decide_eq_true aB;have aV:k<kids.length:=by rw[HL.2];exact aB
   obtain ⟨g,f,hA,hg,bU⟩:=HK.resolve_left (by intro e;rw[e]at aV;simp at aV)
   subst hA;obtain ⟨vs,dx,aY⟩:=bU.at k aV;obtain ⟨B1,e1,B2,e2,rfl,-,-,-⟩:=aY.form;obtain ⟨ko,hko⟩:∃o,kids[k].op=o:=⟨_,rfl⟩;rw[hko]at dx;have q0:wr.cell? (Z g (f+k*5))=some (.int .i64 ko):=by
    have h9:=(HB.1.cl g (f+k*5+0) hg).t (dx 0 U);rw[Nat.add_zero]at h9;exact h9
   have lg:g<wr:=Nat.lt_of_lt_of_le hg HB.1.size;have d0:∀d:bc wr wr,d.b8.cell? (Z g (f+k*5))=some (.int .i64 ko):=λd=>(d.ag.cl g (f+k*5) lg).t q0;have d1:∀d:bc wr wr,d.b8.cell? (Z w 0)=some (.int .i64 op):=λd=>(d.ag.cl w 0 lb).t b0;have d2:∀d:bc wr wr,d.b8.cell? (Z w 2)=some (.slice (Z g f) kl c):=λd=>(d.ag.cl w 2 lb).t b2;have d3:∀d:bc wr wr,w.heap.size<d.b8.heap.size:=λd=>Nat.lt_of_lt_of_le lb d.ag.size;have d4:∀d:bc wr wr,g<d.b8.heap.size:=λd=>Nat.lt_of_lt_of_le lg d.ag.size;have fw:((kids.take (k+1)).any λx=>x.op == op)=(ko == op):=by
    rw[List.take_succ_eq_append_getElem aV,List.any_append,HO.o];simp[hko]
   have j8:=Y fw;have HKL:=Y aV;clear dx aY bU hko q0 fw aV;by_cases he:ko=op
   .have t1:(ko == op)=true:=by simp[he]
    have HE:=Y t1;clear he;go_wp2_with fail;refine aI (Below.refl wr wr) R R ?_
    repeat (go_big_quiet_step (fail))
    refine wpQuiet_nil ?_;intro w2 cR;have eh:Below wr wr w2:=by obtain ⟨d9,rfl⟩:=cR;exact d9.ag
    have fS:=Y (HB.1.t (eh.mono HB.1.size));clear cR eh d0 d1 d2 d3 d4 b0 b1 b2 b3 b4;go_wp2_with fail;go_ret;refine ⟨aw ?_,fS.o⟩;have h9:(kids.any λx=>x.op == op)=true:=by
     have h8:=j8.t HE.o;rw[List.any_eq_true]at h8|-;obtain ⟨x,hx,gO⟩:=h8;exact ⟨x,List.mem_of_mem_take hx,gO⟩
    show false=(decide (2<=kids.length) && (rs.isEmpty && (decide (mn=0) && (decide (mx=0) && !(kids.any λx=>x.op == op)))));rw[h9];simp
   .have t1:(ko == op)=false:=by simp[he]
    have HE:=Y t1;clear he;go_wp2_with fail;refine aI (Below.refl wr wr) R R ?_
    repeat (go_big_quiet_step (fail))
    refine wpQuiet_nil ?_;intro w2 cR;have eh:Below wr wr w2:=by obtain ⟨d9,rfl⟩:=cR;exact d9.ag
    have fS:=Y (I (HB.1.t (eh.mono HB.1.size)) ((eh.block w lb).t HB.2));clear cR eh d0 d1 d2 d3 d4 b0 b1 b2 b3 b4;go_wp2_with fail;go_roundw
    case rel=>exact ⟨k+1,U,by go_num,j8.t HE.o,fS.o⟩
    case measure=>exact μ
  .obtain rfl:k=kl:=U;have hd:decide ((k:Int)<(k:Int))=false:=θ;have dV:decide (k<k)=false:=θ;have Bf:(kids.any λx=>x.op == op)=false:=by have h9:=HO.o;rw[List.take_of_length_le (by have:=HL.2;omega)]at h9;exact h9
   have OL:vS (.mk op rs kids mn mx)=(decide (2<=k) && (decide (rl=0) && (decide (mn=0) && decide (mx=0)))):=by
    show (decide (2<=kids.length) && (rs.isEmpty && (decide (mn=0) && (decide (mx=0) && !(kids.any λx=>x.op == op)))))=_;rw[Bf,HL.2,<-HL.1]
    cases rs <;> simp
   have HSV:=Y OL;clear Bf OL;by_cases h1:2<=k
   .have t1:decide ((2:Int)<=(k:Int))=true:=τ;have FI:decide (2<=k)=true:=decide_eq_true h1;by_cases h2:rl=0
    .have t2:((rl:Int) == 0)=true:=by simp[h2]
     have H2:=Y h2;clear h2;by_cases h3:mn=0
     .have t3:(mn == 0)=true:=by simp[h3]
      have H3:=Y h3;clear h3;by_cases h4:mx=0
      .have t4:(mx == 0)=true:=by simp[h4]
       have H4:=Y h4;clear h4;go_wp2_with fail;go_ret;exact ⟨aw (by rw[HSV.o,decide_eq_true h1,decide_eq_true H2.o,decide_eq_true H3.o,decide_eq_true H4.o];rfl),HB.1⟩
      .have t4:(mx == 0)=false:=by simp[h4]
       have H4:=Y h4;clear h4;go_wp2_with fail;go_ret;exact ⟨aw (by rw[HSV.o,decide_eq_false H4.o];simp),HB.1⟩
     .have t3:(mn == 0)=false:=by simp[h3]
      have H3:=Y h3;clear h3;go_wp2_with fail;go_ret;exact ⟨aw (by rw[HSV.o,decide_eq_false H3.o];simp),HB.1⟩
    .have t2:((rl:Int) == 0)=false:=ψ;have H2:=Y h2;clear h2;go_wp2_with fail;go_ret;exact ⟨aw (by rw[HSV.o,decide_eq_false H2.o];simp),HB.1⟩
   .have t1:decide ((2:Int)<=(k:Int))=false:=θ;have FI:decide (2<=k)=false:=decide_eq_false h1;go_wp2_with fail;go_ret;exact ⟨aw (by rw[HSV.o,FI];rfl),HB.1⟩
theorem FD:∀(m:Nat) (nd:Nd) (vs:List Value) (w:World),aA nd<=m->bY w nd vs->Calls Tryz.prog 49 #[.agg vs.toArray] w λe w'=>e=.returned (.bool (aF nd))/\Below w w w':=by
 intro m
 induction m with
 |zero=>intro nd vs w h;cases nd;rw[aA]at h;omega
 |succ m ih=>
  rintro ⟨op,rs,kids,mn,mx⟩ vs w h hn;have HN:=Y hn;obtain ⟨v1,v2,rfl,hr,A,c,rfl,hc,hk⟩:=hn;have LI:=Y hr;obtain ⟨A1,c1,rfl,kr,-⟩:=hr;have hT:aA (.mk op rs kids mn mx)=1+a7 kids:=by rw[aA]
  rw[hT]at h;have HM:=Y h;obtain ⟨rl,iy⟩:∃n,rs.length=n:=⟨_,rfl⟩;obtain ⟨kl,aV⟩:∃n,kids.length=n:=⟨_,rfl⟩;have HK:=Y hk;have HL:=Y (I iy aV);have pA:=Y (show aF (.mk op rs kids mn mx)=(dy (.mk op rs kids mn mx) && aX kids) by rw[aF])
  rw[iy]at kr LI|-;rw[aV]at hc|-;clear iy aV hk hT h
  go_enter Tryz.func49,Tryz.ntmps49
  by_cases o1:op=1
  .subst o1;have jU:Hid (dy (.mk 1 rs kids mn mx)=((ep rs && !rs.isEmpty) && (decide (kl=0) && (decide (mn=0) && decide (mx=0))))):=by
    show _=_;rw[Ct rfl];unfold zP;show (ep rs && (!rs.isEmpty && (decide (kids.length=0) && (decide (mn=0) && decide (mx=0)))))=_;rw[HL.2]
    cases ep rs <;> cases rs.isEmpty <;> rfl
   go_wp2_with fail;refine j0 λW0 cG=>?_;have hb0:Below w w W0:=by rw[cG];exact D.alloc V _
   have mq:W0.heap[w.heap.size]?=some (.cells #[(1:Int),.slice A1 rl c1,.slice A kl c,.int .i64 mn,.int .i64 mx] 26):=by rw[cG];exact heap_alloc_new w _
   have WY:w.heap.size<W0:=(γ mq).1;have dA:=Y (I hb0 mq);obtain ⟨b0,b1,b2,b3,b4⟩:=aD mq;clear cG hb0 mq;have HRA:=Y (CV _ rs W0 (LI.later dA.1));obtain ⟨x,hx⟩:=ν (ep rs && !rs.isEmpty);rw[hx]at jU HRA;clear hx;refine (HRA.o).mono ?_;rintro e w1 ⟨rfl,aM⟩;have cM:=Y (I (dA.1.t (aM.mono dA.1.size)) ((aM.block _ WY).t dA.2));clear aM b0 b1 b2 b3 b4;obtain ⟨b0,b1,b2,b3,b4⟩:=aD cM.2;have WM:w.heap.size<w1:=(γ cM.2).1
   cases x with
   |false=>
    go_wp2_with fail;refine wp_loop_rounds 1 ?_;rw[rounds_succ];by_cases h0:0<kl
    .have z1:decide ((0:Int)<(kl:Int))=true:=τ;have sJ:decide (0<kl)=true:=decide_eq_true h0;go_wp2_with fail;go_ret;exact ⟨aw (by rw[pA.o,jU.o];simp),cM.1⟩
    .have z1:decide ((0:Int)<(kl:Int))=false:=θ;have sJ:decide (0<kl)=false:=decide_eq_false h0;go_wp2_with fail;go_ret;exact ⟨aw (by rw[pA.o,jU.o];simp),cM.1⟩
   |true=>
    by_cases c1h:kl=0
    .have t1:((kl:Int) == 0)=true:=by simp[c1h]
     have Sd:=Y c1h;clear c1h;by_cases Zi:mn=0
     .have t2:(mn == 0)=true:=by simp[Zi]
      have Se:=Y Zi;clear Zi;by_cases Zj:mx=0
      .have t3:(mx == 0)=true:=by simp[Zj]
       have Sf:=Y Zj;clear Zj;go_wp2_with fail;have G3:=Y (show aF (.mk 1 rs kids mn mx)=aX kids by rw[pA.o,jU.o,decide_eq_true Sd.o,decide_eq_true Se.o,decide_eq_true Sf.o];rfl)
       go_loopw [4,3] (λiv ov wr=>∃(k:Nat) (b:Bool),k<=kl/\iv=.int .i64 (k:Int)/\ov=.bool b/\Hid ((b && aX (kids.drop k))=aX kids)/\Hid (Below w w wr/\wr.heap[w.heap.size]?=some (.cells #[(1:Int),.slice A1 rl c1,.slice A kl c,.int .i64 mn,.int .i64 mx] 26))) (λiv _ _=>kl - (intOf iv).toNat)
       case atStart=>exact ⟨0,true,U,rfl,rfl,rfl,cM.o⟩
       case round=>
        obtain ⟨k,b,k6,rfl,rfl,HO,HB⟩:=hrel;obtain ⟨b0,b1,b2,b3,b4⟩:=aD HB.2;have lb:w.heap.size<wr:=(γ HB.2).1;by_cases aB:k<kl
        .have hd:decide ((k:Int)<(kl:Int))=true:=τ;have dV:decide (k<kl)=true:=decide_eq_true aB
         cases b with
         |false=>
          go_wp2_with fail;go_ret;exact ⟨aw (by rw[G3.o,<-HO.o];rfl),HB.1⟩
         |true=>
          have aV:k<kids.length:=by rw[HL.2];exact aB
          obtain ⟨g,f,hA,hg,bU⟩:=HK.resolve_left (by intro e;rw[e]at aV;simp at aV)
          subst hA;obtain ⟨vs,dx,aY⟩:=bU.at k aV;have b7:=aQ (List.getElem_mem aV);have fg:aX (kids.drop k)=(aF kids[k] && aX (kids.drop (k+1))):=by rw[List.drop_eq_getElem_cons aV,aX]
          obtain ⟨kd,cU⟩:=ν (kids[k]);rw[cU]at aY b7 fg;obtain ⟨B1,e1,B2,e2,rfl,-,-,-⟩:=aY.form;have q:∀j,j<5->wr.cell? (Z g (f+k*5+j))=([.int .i64 kd.op,.slice B1 kd.rs.length e1,.slice B2 kd.kids.length e2,.int .i64 kd.mn,.int .i64 kd.mx]:List Value)[j]?:=λj hj=>(HB.1.cl g (f+k*5+j) hg).t (dx j hj);have q0:=q 0 U;have q1:=q 1 U;have q2:=q 2 U;have q3:=q 3 U;have q4:=q 4 U;simp only[Nat.add_zero,List.getElem?_cons_zero,List.getElem?_cons_succ]at q0 q1 q2 q3 q4;have lg:g<wr:=Nat.lt_of_lt_of_le hg HB.1.size;have HI:=Y (ih kd _ wr (by have:=HM.o;omega) (aY.later HB.1))
          have HD:=Y fg;clear q dx aY cU bU fg aV;go_wp2_with fail;refine HI.mono ?_;rintro e w7 ⟨rfl,kV⟩;obtain ⟨x,hx⟩:=ν (aF kd);rw[hx];have HX:=Y hx;have td:=Y (I (HB.1.t (kV.mono HB.1.size)) ((kV.block _ lb).t HB.2));clear kV hx b7 q0 q1 q2 q3 q4 b0 b1 b2 b3 b4;go_wp2_with fail;go_roundw
          case rel=>exact ⟨k+1,x,U,by go_num,rfl,by have h9:=HO.o;rw[Bool.true_and,HD.o,HX.o]at h9;exact h9,td⟩
          case measure=>exact μ
        .obtain rfl:k=kl:=U;have hd:decide ((k:Int)<(k:Int))=false:=θ;have dV:decide (k<k)=false:=θ;go_wp2_with fail;go_ret;exact ⟨aw (by have h9:=HO.o; rw[List.drop_of_length_le (by have:=HL.2; omega)]at h9; rw[G3.o,<-h9]; cases b <;> rfl),HB.1⟩
      .have t3:(mx == 0)=false:=by simp[Zj]
       have Sf:=Y Zj;clear Zj;go_wp2_with fail;refine wp_loop_rounds 1 ?_;rw[rounds_succ];by_cases h0:0<kl
       .have z1:decide ((0:Int)<(kl:Int))=true:=τ;have sJ:decide (0<kl)=true:=decide_eq_true h0;go_wp2_with fail;go_ret;exact ⟨aw (by rw[pA.o,jU.o,decide_eq_false Sf.o];simp),cM.1⟩
       .have z1:decide ((0:Int)<(kl:Int))=false:=θ;have sJ:decide (0<kl)=false:=decide_eq_false h0;go_wp2_with fail;go_ret;exact ⟨aw (by rw[pA.o,jU.o,decide_eq_false Sf.o];simp),cM.1⟩
     .have t2:(mn == 0)=false:=by simp[Zi]
      have Se:=Y Zi;clear Zi;go_wp2_with fail;refine wp_loop_rounds 1 ?_;rw[rounds_succ];by_cases h0:0<kl
      .have z1:decide ((0:Int)<(kl:Int))=true:=τ;have sJ:decide (0<kl)=true:=decide_eq_true h0;go_wp2_with fail;go_ret;exact ⟨aw (by rw[pA.o,jU.o,decide_eq_false Se.o];simp),cM.1⟩
      .have z1:decide ((0:Int)<(kl:Int))=false:=θ;have sJ:decide (0<kl)=false:=decide_eq_false h0;go_wp2_with fail;go_ret;exact ⟨aw (by rw[pA.o,jU.o,decide_eq_false Se.o];simp),cM.1⟩
    .have t1:((kl:Int) == 0)=false:=ψ;have Sd:=Y c1h;clear c1h;go_wp2_with fail;refine wp_loop_rounds 1 ?_;rw[rounds_succ];by_cases h0:0<kl
     .have z1:decide ((0:Int)<(kl:Int))=true:=τ;have sJ:decide (0<kl)=true:=decide_eq_true h0;go_wp2_with fail;go_ret;exact ⟨aw (by rw[pA.o,jU.o,decide_eq_false Sd.o];simp),cM.1⟩
     .have z1:decide ((0:Int)<(kl:Int))=false:=θ;have sJ:decide (0<kl)=false:=decide_eq_false h0;go_wp2_with fail;go_ret;exact ⟨aw (by rw[pA.o,jU.o,decide_eq_false Sd.o];simp),cM.1⟩
  .have n1:(op == 1)=false:=by simp[o1]
   by_cases XP:op=2\/op=3
   .have jU:=Y (rp (nd:=.mk op rs kids mn mx) XP);have Kw:=Y λW (hb:Below w w W)=>JF (.mk op rs kids mn mx) _ W (HN.later hb);obtain ⟨x,hx⟩:=ν (vS (.mk op rs kids mn mx));rw[hx]at jU Kw;rw[HL.1,HL.2]at Kw;clear hx;by_cases o2:op=2
    .have n2:(op == 2)=true:=by simp[o2]
     clear o1 o2 XP;go_wp2_with fail;refine j0 λW0 cG=>?_;have hb0:Below w w W0:=by rw[cG];exact D.alloc V _
     have mq:W0.heap[w.heap.size]?=some (.cells #[.int .i64 op,.slice A1 rl c1,.slice A kl c,.int .i64 mn,.int .i64 mx] 26):=by rw[cG];exact heap_alloc_new w _
     have WY:w.heap.size<W0:=(γ mq).1;have dA:=Y (I hb0 mq);obtain ⟨b0,b1,b2,b3,b4⟩:=aD mq;clear cG hb0 mq;refine (Kw W0 dA.1).mono ?_;rintro e w1 ⟨rfl,aM⟩;have cM:=Y (I (dA.1.t (aM.mono dA.1.size)) ((aM.block _ WY).t dA.2));clear aM b0 b1 b2 b3 b4;obtain ⟨b0,b1,b2,b3,b4⟩:=aD cM.2;have WM:w.heap.size<w1:=(γ cM.2).1
     cases x with
     |false=>
      go_wp2_with fail;refine wp_loop_rounds 1 ?_;rw[rounds_succ];by_cases h0:0<kl
      .have z1:decide ((0:Int)<(kl:Int))=true:=τ;have sJ:decide (0<kl)=true:=decide_eq_true h0;go_wp2_with fail;go_ret;exact ⟨aw (by rw[pA.o,jU.o];rfl),cM.1⟩
      .have z1:decide ((0:Int)<(kl:Int))=false:=θ;have sJ:decide (0<kl)=false:=decide_eq_false h0;go_wp2_with fail;go_ret;exact ⟨aw (by rw[pA.o,jU.o];rfl),cM.1⟩
     |true=>
      go_wp2_with fail;have G3:=Y (show aF (.mk op rs kids mn mx)=aX kids by rw[pA.o,jU.o];rfl)
      go_loopw [4,3] (λiv ov wr=>∃(k:Nat) (b:Bool),k<=kl/\iv=.int .i64 (k:Int)/\ov=.bool b/\Hid ((b && aX (kids.drop k))=aX kids)/\Hid (Below w w wr/\wr.heap[w.heap.size]?=some (.cells #[.int .i64 op,.slice A1 rl c1,.slice A kl c,.int .i64 mn,.int .i64 mx] 26))) (λiv _ _=>kl - (intOf iv).toNat)
      case atStart=>exact ⟨0,true,U,rfl,rfl,rfl,cM.o⟩
      case round=>
       obtain ⟨k,b,k6,rfl,rfl,HO,HB⟩:=hrel;obtain ⟨b0,b1,b2,b3,b4⟩:=aD HB.2;have lb:w.heap.size<wr:=(γ HB.2).1;by_cases aB:k<kl
       .have hd:decide ((k:Int)<(kl:Int))=true:=τ;have dV:decide (k<kl)=true:=decide_eq_true aB
        cases b with
        |false=>
         go_wp2_with fail;go_ret;exact ⟨aw (by rw[G3.o,<-HO.o];rfl),HB.1⟩
        |true=>
         have aV:k<kids.length:=by rw[HL.2];exact aB
         obtain ⟨g,f,hA,hg,bU⟩:=HK.resolve_left (by intro e;rw[e]at aV;simp at aV)
         subst hA;obtain ⟨vs,dx,aY⟩:=bU.at k aV;have b7:=aQ (List.getElem_mem aV);have fg:aX (kids.drop k)=(aF kids[k] && aX (kids.drop (k+1))):=by rw[List.drop_eq_getElem_cons aV,aX]
         obtain ⟨kd,cU⟩:=ν (kids[k]);rw[cU]at aY b7 fg;obtain ⟨B1,e1,B2,e2,rfl,-,-,-⟩:=aY.form;have q:∀j,j<5->wr.cell? (Z g (f+k*5+j))=([.int .i64 kd.op,.slice B1 kd.rs.length e1,.slice B2 kd.kids.length e2,.int .i64 kd.mn,.int .i64 kd.mx]:List Value)[j]?:=λj hj=>(HB.1.cl g (f+k*5+j) hg).t (dx j hj);have q0:=q 0 U;have q1:=q 1 U;have q2:=q 2 U;have q3:=q 3 U;have q4:=q 4 U;simp only[Nat.add_zero,List.getElem?_cons_zero,List.getElem?_cons_succ]at q0 q1 q2 q3 q4;have lg:g<wr:=Nat.lt_of_lt_of_le hg HB.1.size;have HI:=Y (ih kd _ wr (by have:=HM.o;omega) (aY.later HB.1))
         have HD:=Y fg;clear q dx aY cU bU fg aV;go_wp2_with fail;refine HI.mono ?_;rintro e w7 ⟨rfl,kV⟩;obtain ⟨x,hx⟩:=ν (aF kd);rw[hx];have HX:=Y hx;have td:=Y (I (HB.1.t (kV.mono HB.1.size)) ((kV.block _ lb).t HB.2));clear kV hx b7 q0 q1 q2 q3 q4 b0 b1 b2 b3 b4;go_wp2_with fail;go_roundw
         case rel=>exact ⟨k+1,x,U,by go_num,rfl,by have h9:=HO.o;rw[Bool.true_and,HD.o,HX.o]at h9;exact h9,td⟩
         case measure=>exact μ
       .obtain rfl:k=kl:=U;have hd:decide ((k:Int)<(k:Int))=false:=θ;have dV:decide (k<k)=false:=θ;go_wp2_with fail;go_ret;exact ⟨aw (by have h9:=HO.o; rw[List.drop_of_length_le (by have:=HL.2; omega)]at h9; rw[G3.o,<-h9]; cases b <;> rfl),HB.1⟩
    .have n2:(op == 2)=false:=by simp[o2]
     have n3:(op == 3)=true:=by
      have:op=3:=U;simp[this]
     clear o1 o2 XP;go_wp2_with fail;refine j0 λW0 cG=>?_;have hb0:Below w w W0:=by rw[cG];exact D.alloc V _
     have mq:W0.heap[w.heap.size]?=some (.cells #[.int .i64 op,.slice A1 rl c1,.slice A kl c,.int .i64 mn,.int .i64 mx] 26):=by rw[cG];exact heap_alloc_new w _
     have WY:w.heap.size<W0:=(γ mq).1;have dA:=Y (I hb0 mq);obtain ⟨b0,b1,b2,b3,b4⟩:=aD mq;clear cG hb0 mq;refine (Kw W0 dA.1).mono ?_;rintro e w1 ⟨rfl,aM⟩;have cM:=Y (I (dA.1.t (aM.mono dA.1.size)) ((aM.block _ WY).t dA.2));clear aM b0 b1 b2 b3 b4;obtain ⟨b0,b1,b2,b3,b4⟩:=aD cM.2;have WM:w.heap.size<w1:=(γ cM.2).1
     cases x with
     |false=>
      go_wp2_with fail;refine wp_loop_rounds 1 ?_;rw[rounds_succ];by_cases h0:0<kl
      .have z1:decide ((0:Int)<(kl:Int))=true:=τ;have sJ:decide (0<kl)=true:=decide_eq_true h0;go_wp2_with fail;go_ret;exact ⟨aw (by rw[pA.o,jU.o];rfl),cM.1⟩
      .have z1:decide ((0:Int)<(kl:Int))=false:=θ;have sJ:decide (0<kl)=false:=decide_eq_false h0;go_wp2_with fail;go_ret;exact ⟨aw (by rw[pA.o,jU.o];rfl),cM.1⟩
     |true=>
      go_wp2_with fail;have G3:=Y (show aF (.mk op rs kids mn mx)=aX kids by rw[pA.o,jU.o];rfl)
      go_loopw [4,3] (λiv ov wr=>∃(k:Nat) (b:Bool),k<=kl/\iv=.int .i64 (k:Int)/\ov=.bool b/\Hid ((b && aX (kids.drop k))=aX kids)/\Hid (Below w w wr/\wr.heap[w.heap.size]?=some (.cells #[.int .i64 op,.slice A1 rl c1,.slice A kl c,.int .i64 mn,.int .i64 mx] 26))) (λiv _ _=>kl - (intOf iv).toNat)
      case atStart=>exact ⟨0,true,U,rfl,rfl,rfl,cM.o⟩
      case round=>
       obtain ⟨k,b,k6,rfl,rfl,HO,HB⟩:=hrel;obtain ⟨b0,b1,b2,b3,b4⟩:=aD HB.2;have lb:w.heap.size<wr:=(γ HB.2).1;by_cases aB:k<kl
       .have hd:decide ((k:Int)<(kl:Int))=true:=τ;have dV:decide (k<kl)=true:=decide_eq_true aB
        cases b with
        |false=>
         go_wp2_with fail;go_ret;exact ⟨aw (by rw[G3.o,<-HO.o];rfl),HB.1⟩
        |true=>
         have aV:k<kids.length:=by rw[HL.2];exact aB
         obtain ⟨g,f,hA,hg,bU⟩:=HK.resolve_left (by intro e;rw[e]at aV;simp at aV)
         subst hA;obtain ⟨vs,dx,aY⟩:=bU.at k aV;have b7:=aQ (List.getElem_mem aV);have fg:aX (kids.drop k)=(aF kids[k] && aX (kids.drop (k+1))):=by rw[List.drop_eq_getElem_cons aV,aX]
         obtain ⟨kd,cU⟩:=ν (kids[k]);rw[cU]at aY b7 fg;obtain ⟨B1,e1,B2,e2,rfl,-,-,-⟩:=aY.form;have q:∀j,j<5->wr.cell? (Z g (f+k*5+j))=([.int .i64 kd.op,.slice B1 kd.rs.length e1,.slice B2 kd.kids.length e2,.int .i64 kd.mn,.int .i64 kd.mx]:List Value)[j]?:=λj hj=>(HB.1.cl g (f+k*5+j) hg).t (dx j hj);have q0:=q 0 U;have q1:=q 1 U;have q2:=q 2 U;have q3:=q 3 U;have q4:=q 4 U;simp only[Nat.add_zero,List.getElem?_cons_zero,List.getElem?_cons_succ]at q0 q1 q2 q3 q4;have lg:g<wr:=Nat.lt_of_lt_of_le hg HB.1.size;have HI:=Y (ih kd _ wr (by have:=HM.o;omega) (aY.later HB.1))
         have HD:=Y fg;clear q dx aY cU bU fg aV;go_wp2_with fail;refine HI.mono ?_;rintro e w7 ⟨rfl,kV⟩;obtain ⟨x,hx⟩:=ν (aF kd);rw[hx];have HX:=Y hx;have td:=Y (I (HB.1.t (kV.mono HB.1.size)) ((kV.block _ lb).t HB.2));clear kV hx b7 q0 q1 q2 q3 q4 b0 b1 b2 b3 b4;go_wp2_with fail;go_roundw
         case rel=>exact ⟨k+1,x,U,by go_num,rfl,by have h9:=HO.o;rw[Bool.true_and,HD.o,HX.o]at h9;exact h9,td⟩
         case measure=>exact μ
       .obtain rfl:k=kl:=U;have hd:decide ((k:Int)<(k:Int))=false:=θ;have dV:decide (k<k)=false:=θ;go_wp2_with fail;go_ret;exact ⟨aw (by have h9:=HO.o; rw[List.drop_of_length_le (by have:=HL.2; omega)]at h9; rw[G3.o,<-h9]; cases b <;> rfl),HB.1⟩
   .have n2:(op == 2)=false:=ψ;have n3:(op == 3)=false:=ψ;by_cases o4:op=4
    .subst o4;have jU:Hid (dy (.mk 4 rs kids mn mx)=(decide (kl=1) && (decide (rl=0) && (decide (0<=mn) && (decide (1<=mx) && (decide (mn<=mx) && (decide (mx<=64) && !(decide (mn=1) && decide (mx=1))))))))):=by
      show _=_;rw[vT rfl];show (decide (kids.length=1) && (rs.isEmpty && (decide (0<=mn) && (decide (1<=mx) && (decide (mn<=mx) && (decide (mx<=64) && !(decide (mn=1) && decide (mx=1))))))))=_;rw[HL.2,<-HL.1]
      congr 2
      cases rs <;> simp
     clear n1 n2 n3 o1 XP;have hb0:Below w w (w.alloc (.cells #[(4:Int),.slice A1 rl c1,.slice A kl c,.int .i64 mn,.int .i64 mx] 26)):=D.alloc V _;have dA:=Y (I hb0 (heap_alloc_new w (.cells #[(4:Int),.slice A1 rl c1,.slice A kl c,.int .i64 mn,.int .i64 mx] 26)));clear hb0;by_cases g1:kl=1
     .have t1:((kl:Int) == 1)=true:=ψ;have XQ:=Y g1;clear g1;by_cases g2:rl=0
      .have t2:((rl:Int) == 0)=true:=ψ;have XR:=Y g2;clear g2;by_cases g3:0<=mn
       .have t3:decide (0<=mn)=true:=decide_eq_true g3;have XS:=Y g3;clear g3;by_cases g4:1<=mx
        .have t4:decide (1<=mx)=true:=decide_eq_true g4;have XT:=Y g4;clear g4;by_cases g5:mn<=mx
         .have t5:decide (mn<=mx)=true:=decide_eq_true g5;have XU:=Y g5;clear g5;by_cases g6:mx<=64
          .have t6:decide (mx<=64)=true:=decide_eq_true g6;have XV:=Y g6;clear g6;by_cases g7:mn=1
           .have t7:(mn != 1)=false:=by simp[g7]
            have Hg7:=Y g7;clear g7;by_cases g8:mx=1
            .have t8:(mx != 1)=false:=by simp[g8]
             have Hg8:=Y g8;clear g8;go_wp2_with fail;refine wp_loop_rounds 1 ?_;rw[rounds_succ];by_cases h0:0<kl
             .have z1:decide ((0:Int)<(kl:Int))=true:=τ;have sJ:decide (0<kl)=true:=decide_eq_true h0;go_wp2_with fail;go_ret;exact ⟨aw (by rw[pA.o,jU.o,decide_eq_true XQ.o,decide_eq_true XR.o,decide_eq_true XS.o,decide_eq_true XT.o,decide_eq_true XU.o,decide_eq_true XV.o,decide_eq_true Hg7.o,decide_eq_true Hg8.o];simp),dA.1⟩
             .have z1:decide ((0:Int)<(kl:Int))=false:=θ;have sJ:decide (0<kl)=false:=decide_eq_false h0;go_wp2_with fail;go_ret;exact ⟨aw (by rw[pA.o,jU.o,decide_eq_true XQ.o,decide_eq_true XR.o,decide_eq_true XS.o,decide_eq_true XT.o,decide_eq_true XU.o,decide_eq_true XV.o,decide_eq_true Hg7.o,decide_eq_true Hg8.o];simp),dA.1⟩
            .have t8:(mx != 1)=true:=by simp[g8]
             have Hg8:=Y g8;clear g8;go_wp2_with fail;have G3:=Y (show aF (.mk 4 rs kids mn mx)=aX kids by rw[pA.o,jU.o,decide_eq_true XQ.o,decide_eq_true XR.o,decide_eq_true XS.o,decide_eq_true XT.o,decide_eq_true XU.o,decide_eq_true XV.o,decide_eq_false Hg8.o];simp)
             go_loopw [4,3] (λiv ov wr=>∃(k:Nat) (b:Bool),k<=kl/\iv=.int .i64 (k:Int)/\ov=.bool b/\Hid ((b && aX (kids.drop k))=aX kids)/\Hid (Below w w wr/\wr.heap[w.heap.size]?=some (.cells #[(4:Int),.slice A1 rl c1,.slice A kl c,.int .i64 mn,.int .i64 mx] 26))) (λiv _ _=>kl - (intOf iv).toNat)
             case atStart=>exact ⟨0,true,U,rfl,rfl,rfl,dA.o⟩
             case round=>
              obtain ⟨k,b,k6,rfl,rfl,HO,HB⟩:=hrel;obtain ⟨b0,b1,b2,b3,b4⟩:=aD HB.2;have lb:w.heap.size<wr:=(γ HB.2).1;by_cases aB:k<kl
              .have hd:decide ((k:Int)<(kl:Int))=true:=τ;have dV:decide (k<kl)=true:=decide_eq_true aB
               cases b with
               |false=>
                go_wp2_with fail;go_ret;exact ⟨aw (by rw[G3.o,<-HO.o];rfl),HB.1⟩
               |true=>
                have aV:k<kids.length:=by rw[HL.2];exact aB
                obtain ⟨g,f,hA,hg,bU⟩:=HK.resolve_left (by intro e;rw[e]at aV;simp at aV)
                subst hA;obtain ⟨vs,dx,aY⟩:=bU.at k aV;have b7:=aQ (List.getElem_mem aV);have fg:aX (kids.drop k)=(aF kids[k] && aX (kids.drop (k+1))):=by rw[List.drop_eq_getElem_cons aV,aX]
                obtain ⟨kd,cU⟩:=ν (kids[k]);rw[cU]at aY b7 fg;obtain ⟨B1,e1,B2,e2,rfl,-,-,-⟩:=aY.form;have q:∀j,j<5->wr.cell? (Z g (f+k*5+j))=([.int .i64 kd.op,.slice B1 kd.rs.length e1,.slice B2 kd.kids.length e2,.int .i64 kd.mn,.int .i64 kd.mx]:List Value)[j]?:=λj hj=>(HB.1.cl g (f+k*5+j) hg).t (dx j hj);have q0:=q 0 U;have q1:=q 1 U;have q2:=q 2 U;have q3:=q 3 U;have q4:=q 4 U;simp only[Nat.add_zero,List.getElem?_cons_zero,List.getElem?_cons_succ]at q0 q1 q2 q3 q4;have lg:g<wr:=Nat.lt_of_lt_of_le hg HB.1.size;have HI:=Y (ih kd _ wr (by have:=HM.o;omega) (aY.later HB.1))
                have HD:=Y fg;clear q dx aY cU bU fg aV;go_wp2_with fail;refine HI.mono ?_;rintro e w7 ⟨rfl,kV⟩;obtain ⟨x,hx⟩:=ν (aF kd);rw[hx];have HX:=Y hx;have td:=Y (I (HB.1.t (kV.mono HB.1.size)) ((kV.block _ lb).t HB.2));clear kV hx b7 q0 q1 q2 q3 q4 b0 b1 b2 b3 b4;go_wp2_with fail;go_roundw
                case rel=>exact ⟨k+1,x,U,by go_num,rfl,by have h9:=HO.o;rw[Bool.true_and,HD.o,HX.o]at h9;exact h9,td⟩
                case measure=>exact μ
              .obtain rfl:k=kl:=U;have hd:decide ((k:Int)<(k:Int))=false:=θ;have dV:decide (k<k)=false:=θ;go_wp2_with fail;go_ret;exact ⟨aw (by have h9:=HO.o; rw[List.drop_of_length_le (by have:=HL.2; omega)]at h9; rw[G3.o,<-h9]; cases b <;> rfl),HB.1⟩
           .have t7:(mn != 1)=true:=by simp[g7]
            have Hg7:=Y g7;clear g7;go_wp2_with fail;have G3:=Y (show aF (.mk 4 rs kids mn mx)=aX kids by rw[pA.o,jU.o,decide_eq_true XQ.o,decide_eq_true XR.o,decide_eq_true XS.o,decide_eq_true XT.o,decide_eq_true XU.o,decide_eq_true XV.o,decide_eq_false Hg7.o];simp)
            go_loopw [4,3] (λiv ov wr=>∃(k:Nat) (b:Bool),k<=kl/\iv=.int .i64 (k:Int)/\ov=.bool b/\Hid ((b && aX (kids.drop k))=aX kids)/\Hid (Below w w wr/\wr.heap[w.heap.size]?=some (.cells #[(4:Int),.slice A1 rl c1,.slice A kl c,.int .i64 mn,.int .i64 mx] 26))) (λiv _ _=>kl - (intOf iv).toNat)
            case atStart=>exact ⟨0,true,U,rfl,rfl,rfl,dA.o⟩
            case round=>
             obtain ⟨k,b,k6,rfl,rfl,HO,HB⟩:=hrel;obtain ⟨b0,b1,b2,b3,b4⟩:=aD HB.2;have lb:w.heap.size<wr:=(γ HB.2).1;by_cases aB:k<kl
             .have hd:decide ((k:Int)<(kl:Int))=true:=τ;have dV:decide (k<kl)=true:=decide_eq_true aB
              cases b with
              |false=>
               go_wp2_with fail;go_ret;exact ⟨aw (by rw[G3.o,<-HO.o];rfl),HB.1⟩
              |true=>
               have aV:k<kids.length:=by rw[HL.2];exact aB
               obtain ⟨g,f,hA,hg,bU⟩:=HK.resolve_left (by intro e;rw[e]at aV;simp at aV)
               subst hA;obtain ⟨vs,dx,aY⟩:=bU.at k aV;have b7:=aQ (List.getElem_mem aV);have fg:aX (kids.drop k)=(aF kids[k] && aX (kids.drop (k+1))):=by rw[List.drop_eq_getElem_cons aV,aX]
               obtain ⟨kd,cU⟩:=ν (kids[k]);rw[cU]at aY b7 fg;obtain ⟨B1,e1,B2,e2,rfl,-,-,-⟩:=aY.form;have q:∀j,j<5->wr.cell? (Z g (f+k*5+j))=([.int .i64 kd.op,.slice B1 kd.rs.length e1,.slice B2 kd.kids.length e2,.int .i64 kd.mn,.int .i64 kd.mx]:List Value)[j]?:=λj hj=>(HB.1.cl g (f+k*5+j) hg).t (dx j hj);have q0:=q 0 U;have q1:=q 1 U;have q2:=q 2 U;have q3:=q 3 U;have q4:=q 4 U;simp only[Nat.add_zero,List.getElem?_cons_zero,List.getElem?_cons_succ]at q0 q1 q2 q3 q4;have lg:g<wr:=Nat.lt_of_lt_of_le hg HB.1.size;have HI:=Y (ih kd _ wr (by have:=HM.o;omega) (aY.later HB.1))
               have HD:=Y fg;clear q dx aY cU bU fg aV;go_wp2_with fail;refine HI.mono ?_;rintro e w7 ⟨rfl,kV⟩;obtain ⟨x,hx⟩:=ν (aF kd);rw[hx];have HX:=Y hx;have td:=Y (I (HB.1.t (kV.mono HB.1.size)) ((kV.block _ lb).t HB.2));clear kV hx b7 q0 q1 q2 q3 q4 b0 b1 b2 b3 b4;go_wp2_with fail;go_roundw
               case rel=>exact ⟨k+1,x,U,by go_num,rfl,by have h9:=HO.o;rw[Bool.true_and,HD.o,HX.o]at h9;exact h9,td⟩
               case measure=>exact μ
             .obtain rfl:k=kl:=U;have hd:decide ((k:Int)<(k:Int))=false:=θ;have dV:decide (k<k)=false:=θ;go_wp2_with fail;go_ret;exact ⟨aw (by have h9:=HO.o; rw[List.drop_of_length_le (by have:=HL.2; omega)]at h9; rw[G3.o,<-h9]; cases b <;> rfl),HB.1⟩
          .have t6:decide (mx<=64)=false:=decide_eq_false g6;have XV:=Y g6;clear g6;go_wp2_with fail;refine wp_loop_rounds 1 ?_;rw[rounds_succ];by_cases h0:0<kl
           .have z1:decide ((0:Int)<(kl:Int))=true:=τ;have sJ:decide (0<kl)=true:=decide_eq_true h0;go_wp2_with fail;go_ret;exact ⟨aw (by rw[pA.o,jU.o,decide_eq_false (show ¬(mx<=64) from by have:=XV.o;omega)];simp),dA.1⟩
           .have z1:decide ((0:Int)<(kl:Int))=false:=θ;have sJ:decide (0<kl)=false:=decide_eq_false h0;go_wp2_with fail;go_ret;exact ⟨aw (by rw[pA.o,jU.o,decide_eq_false (show ¬(mx<=64) from by have:=XV.o;omega)];simp),dA.1⟩
         .have t5:decide (mn<=mx)=false:=decide_eq_false g5;have XU:=Y g5;clear g5;go_wp2_with fail;refine wp_loop_rounds 1 ?_;rw[rounds_succ];by_cases h0:0<kl
          .have z1:decide ((0:Int)<(kl:Int))=true:=τ;have sJ:decide (0<kl)=true:=decide_eq_true h0;go_wp2_with fail;go_ret;exact ⟨aw (by rw[pA.o,jU.o,decide_eq_false (show ¬(mn<=mx) from by have:=XU.o;omega)];simp),dA.1⟩
          .have z1:decide ((0:Int)<(kl:Int))=false:=θ;have sJ:decide (0<kl)=false:=decide_eq_false h0;go_wp2_with fail;go_ret;exact ⟨aw (by rw[pA.o,jU.o,decide_eq_false (show ¬(mn<=mx) from by have:=XU.o;omega)];simp),dA.1⟩
        .have t4:decide (1<=mx)=false:=decide_eq_false g4;have XT:=Y g4;clear g4;go_wp2_with fail;refine wp_loop_rounds 1 ?_;rw[rounds_succ];by_cases h0:0<kl
         .have z1:decide ((0:Int)<(kl:Int))=true:=τ;have sJ:decide (0<kl)=true:=decide_eq_true h0;go_wp2_with fail;go_ret;exact ⟨aw (by rw[pA.o,jU.o,decide_eq_false (show ¬(1<=mx) from by have:=XT.o;omega)];simp),dA.1⟩
         .have z1:decide ((0:Int)<(kl:Int))=false:=θ;have sJ:decide (0<kl)=false:=decide_eq_false h0;go_wp2_with fail;go_ret;exact ⟨aw (by rw[pA.o,jU.o,decide_eq_false (show ¬(1<=mx) from by have:=XT.o;omega)];simp),dA.1⟩
       .have t3:decide (0<=mn)=false:=decide_eq_false g3;have XS:=Y g3;clear g3;go_wp2_with fail;refine wp_loop_rounds 1 ?_;rw[rounds_succ];by_cases h0:0<kl
        .have z1:decide ((0:Int)<(kl:Int))=true:=τ;have sJ:decide (0<kl)=true:=decide_eq_true h0;go_wp2_with fail;go_ret;exact ⟨aw (by rw[pA.o,jU.o,decide_eq_false (show ¬(0<=mn) from by have:=XS.o;omega)];simp),dA.1⟩
        .have z1:decide ((0:Int)<(kl:Int))=false:=θ;have sJ:decide (0<kl)=false:=decide_eq_false h0;go_wp2_with fail;go_ret;exact ⟨aw (by rw[pA.o,jU.o,decide_eq_false (show ¬(0<=mn) from by have:=XS.o;omega)];simp),dA.1⟩
      .have t2:((rl:Int) == 0)=false:=ψ;have XR:=Y g2;clear g2;go_wp2_with fail;refine wp_loop_rounds 1 ?_;rw[rounds_succ];by_cases h0:0<kl
       .have z1:decide ((0:Int)<(kl:Int))=true:=τ;have sJ:decide (0<kl)=true:=decide_eq_true h0;go_wp2_with fail;go_ret;exact ⟨aw (by rw[pA.o,jU.o,decide_eq_false (show ¬(rl=0) from by have:=XR.o;omega)];simp),dA.1⟩
       .have z1:decide ((0:Int)<(kl:Int))=false:=θ;have sJ:decide (0<kl)=false:=decide_eq_false h0;go_wp2_with fail;go_ret;exact ⟨aw (by rw[pA.o,jU.o,decide_eq_false (show ¬(rl=0) from by have:=XR.o;omega)];simp),dA.1⟩
     .have t1:((kl:Int) == 1)=false:=ψ;have XQ:=Y g1;clear g1;go_wp2_with fail;refine wp_loop_rounds 1 ?_;rw[rounds_succ];by_cases h0:0<kl
      .have z1:decide ((0:Int)<(kl:Int))=true:=τ;have sJ:decide (0<kl)=true:=decide_eq_true h0;go_wp2_with fail;go_ret;exact ⟨aw (by rw[pA.o,jU.o,decide_eq_false (show ¬(kl=1) from by have:=XQ.o;omega)];simp),dA.1⟩
      .have z1:decide ((0:Int)<(kl:Int))=false:=θ;have sJ:decide (0<kl)=false:=decide_eq_false h0;go_wp2_with fail;go_ret;exact ⟨aw (by rw[pA.o,jU.o,decide_eq_false (show ¬(kl=1) from by have:=XQ.o;omega)];simp),dA.1⟩
    .have n4:(op == 4)=false:=by simp[o4]
     have jU:=Y (Cu (nd:=.mk op rs kids mn mx) o1 (λe=>XP (.inl e)) (λe=>XP (.inr e)) o4);clear o1 XP o4;have hb0:Below w w (w.alloc (.cells #[.int .i64 op,.slice A1 rl c1,.slice A kl c,.int .i64 mn,.int .i64 mx] 26)):=D.alloc V _;have dA:=Y (I hb0 (heap_alloc_new w (.cells #[.int .i64 op,.slice A1 rl c1,.slice A kl c,.int .i64 mn,.int .i64 mx] 26)));clear hb0;go_wp2_with fail;refine wp_loop_rounds 1 ?_;rw[rounds_succ];by_cases h0:0<kl
     .have z1:decide ((0:Int)<(kl:Int))=true:=τ;have sJ:decide (0<kl)=true:=decide_eq_true h0;go_wp2_with fail;go_ret;exact ⟨aw (by rw[pA.o,jU.o];simp),dA.1⟩
     .have z1:decide ((0:Int)<(kl:Int))=false:=θ;have sJ:decide (0<kl)=false:=decide_eq_false h0;go_wp2_with fail;go_ret;exact ⟨aw (by rw[pA.o,jU.o];simp),dA.1⟩
theorem CW:∀l:List Nd,dq l<=1025*l.length
 | []=>by rw[dq];exact Nat.zero_le _
 |k::r=>by rw[dq,List.length_cons];have:=fK k;have:=CW r;omega
theorem JG:∀(m:Nat) (nd:Nd) (vs:List Value) (w:World),aA nd<=m->aA nd<=200->aF nd=true->bY w nd vs->Calls Tryz.prog 50 #[.agg vs.toArray,.bool true] w λe w'=>e=.returned (.int .i64 ((bW nd:Nat):Int))/\Below w w w':=by
 intro m
 induction m with
 |zero=>intro nd vs w h;cases nd;rw[aA]at h;omega
 |succ m ih=>
  rintro ⟨op,rs,kids,mn,mx⟩ vs w h gQ Zk hn;obtain ⟨v1,v2,rfl,hr,A,c,rfl,hc,hk⟩:=hn;obtain ⟨A1,c1,rfl,kr,-⟩:=hr;have hT:aA (.mk op rs kids mn mx)=1+a7 kids:=by rw[aA]
  rw[hT]at h gQ;have HM:=Y (I h gQ);obtain ⟨jE,lU⟩:=dD Zk;have AO:=Y lU;obtain ⟨rl,iy⟩:∃n,rs.length=n:=⟨_,rfl⟩;obtain ⟨kl,aV⟩:∃n,kids.length=n:=⟨_,rfl⟩;have bE:op=3->1<=kl:=λe=>by
   have h1:=Zk;rw[aF,Bool.and_eq_true]at h1;have h2:=h1.1;rw[rp (nd:=.mk op rs kids mn mx) (.inr e)]at h2;have h3:(decide (2<=kids.length) && _)=true:=h2;rw[Bool.and_eq_true,decide_eq_true_eq]at h3;omega
  have HK:=Y hk;have HL:=Y (I iy aV);have Ji:=Y (show bW (.mk op rs kids mn mx)=min (if op=1 then 1 else if op=2 then dq kids else if op=3 then dI kids else mx.toNat*rm kids) 1025 by rw[bW])
  rw[aV]at jE;rw[iy]at kr|-;rw[aV]at hc|-;clear iy aV hk hT h gQ Zk lU
  go_enter Tryz.func50,Tryz.ntmps50
  rcases jE with o1|o2|o3|⟨o4,k1,m0,m1,m64⟩
  .subst o1;go_wp2_with fail;go_ret;exact ⟨aP (by rw[Ji.o];rfl),D.alloc V _⟩
  .subst o2;rw[if_neg O,if_pos rfl]at Ji;go_wp2_with fail;refine CB λW0 cG=>?_;have hb0:Below w w W0:=by rw[cG];exact D.alloc V _
   have mq:W0.heap[w.heap.size]?=some (.cells #[(2:Int),.slice A1 rl c1,.slice A kl c,.int .i64 mn,.int .i64 mx] 26):=by rw[cG];exact heap_alloc_new w _
   have dA:=Y (I hb0 mq);clear cG hb0 mq;have OW:dq kids<=1025*kl:=by rw[<-HL.2];exact CW kids
   have wV:kl<=200:=by have h1:=mQ kids;have h2:=HM.o;have h3:=HL.2;omega
   go_loopw [6,5] (λiv ov wr=>∃(k o:Nat),k<=kl/\iv=.int .i64 (k:Int)/\ov=.int .i64 (o:Int)/\o<=205000/\Hid (o+dq (kids.drop k)=dq kids)/\Hid (Below w w wr/\wr.heap[w.heap.size]?=some (.cells #[(2:Int),.slice A1 rl c1,.slice A kl c,.int .i64 mn,.int .i64 mx] 26))) (λiv _ _=>kl - (intOf iv).toNat)
   case atStart=>exact ⟨0,0,U,rfl,rfl,U,by show 0+dq (kids.drop 0)=_;rw[List.drop_zero];omega,dA.o⟩
   case round=>
    obtain ⟨k,o,k6,rfl,rfl,ho,HO,HB⟩:=hrel;obtain ⟨b0,b1,b2,b3,b4⟩:=aD HB.2;have lb:w.heap.size<wr:=(γ HB.2).1;by_cases aB:k<kl
    .have hd:decide ((k:Int)<(kl:Int))=true:=τ;have dV:decide (k<kl)=true:=decide_eq_true aB;have aV:k<kids.length:=by rw[HL.2];omega
     obtain ⟨g,f,hA,hg,bU⟩:=HK.resolve_left (by intro e;rw[e]at aV;simp at aV)
     subst hA;obtain ⟨vs,dx,aY⟩:=bU.at k aV;have b7:=aQ (List.getElem_mem aV);have k7:=bh AO.o (List.getElem_mem aV);have fg:dq (kids.drop k)=bW kids[k]+dq (kids.drop (k+1)):=by rw[List.drop_eq_getElem_cons aV,dq]
     obtain ⟨kd,cU⟩:=ν (kids[k]);rw[cU]at aY b7 fg k7;obtain ⟨B1,e1,B2,e2,rfl,-,-,-⟩:=aY.form;have q:∀j,j<5->wr.cell? (Z g (f+k*5+j))=([.int .i64 kd.op,.slice B1 kd.rs.length e1,.slice B2 kd.kids.length e2,.int .i64 kd.mn,.int .i64 kd.mx]:List Value)[j]?:=λj hj=>(HB.1.cl g (f+k*5+j) hg).t (dx j hj);have q0:=q 0 U;have q1:=q 1 U;have q2:=q 2 U;have q3:=q 3 U;have q4:=q 4 U;simp only[Nat.zero_mul,Nat.add_zero,List.getElem?_cons_zero,List.getElem?_cons_succ]at q0 q1 q2 q3 q4;have lg:g<wr:=Nat.lt_of_lt_of_le hg HB.1.size;have HI:=Y (ih kd _ wr (by have:=HM.1;omega) (by have:=HM.2;omega) k7 (aY.later HB.1))
     have HD:=Y fg;have pq:=fK kd;clear q dx aY cU bU fg k7;go_wp2_with fail;refine HI.mono ?_;rintro e w7 ⟨rfl,kV⟩;obtain ⟨x,hx⟩:=ν (bW kd);rw[hx]at pq|-;have HX:=Y hx;have td:=Y (I (HB.1.t (kV.mono HB.1.size)) ((kV.block _ lb).t HB.2));clear kV hx b7 q0 q1 q2 q3 q4 b0 b1 b2 b3 b4;have Pd:o+x<=205000:=by have h1:=HO.o;have h2:=HD.o;have h3:=HX.o;omega
     go_wp2_with fail;go_roundw
     case rel=>exact ⟨k+1,o+x,U,by go_num,by go_num,Pd,by have h1:=HO.o;have h2:=HD.o;have h3:=HX.o;show o+x+dq (kids.drop (k+1))=dq kids;omega,td⟩
     case measure=>exact μ
    .obtain rfl:k=kl:=U;have hd:decide ((k:Int)<(k:Int))=false:=θ;have dV:decide (k<k)=false:=θ;have HE:=Y (show o=dq kids by have h1:=HO.o;rw[List.drop_of_length_le (by have:=HL.2;omega),dq]at h1;omega)
     obtain ⟨z,hz⟩:∃z:Nat,z=min o 1025:=⟨_,rfl⟩;have cT:min (o:Int) 1025=(z:Int):=U;have HZ:=Y hz;clear hz;go_wp2_with fail;go_ret;exact ⟨aP (by rw[Ji.o,HZ.o,HE.o]),HB.1⟩
  .subst o3;rw[if_neg O,if_neg O,if_pos rfl]at Ji;have bQ:=bE rfl;clear bE;have wV:kl<=200:=by have h1:=mQ kids;have h2:=HM.o;have h3:=HL.2;omega
   have aV:0<kids.length:=by rw[HL.2];omega
   obtain ⟨g,f,hA,hg,bU⟩:=HK.resolve_left (by intro e;rw[e]at aV;simp at aV)
   subst hA;obtain ⟨vs,dx,aY⟩:=bU.at 0 aV;have b7:=aQ (List.getElem_mem aV);have k7:=bh AO.o (List.getElem_mem aV);have fg:dI kids=max (bW kids[0]) (dI (kids.drop 1)):=by
    have e9:=List.drop_eq_getElem_cons aV;rw[List.drop_zero]at e9
    conv=>lhs;rw[e9]
    rw[dI]
   obtain ⟨kd,cU⟩:=ν (kids[0]);rw[cU]at aY b7 fg k7;obtain ⟨B1,e1,B2,e2,rfl,-,-,-⟩:=aY.form;have q0:w.cell? (Z g f)=some (.int .i64 kd.op):=dx 0 U;have q1:w.cell? (Z g (f+1))=some (.slice B1 kd.rs.length e1):=dx 1 U;have q2:w.cell? (Z g (f+2))=some (.slice B2 kd.kids.length e2):=dx 2 U;have q3:w.cell? (Z g (f+3))=some (.int .i64 kd.mn):=dx 3 U;have q4:w.cell? (Z g (f+4))=some (.int .i64 kd.mx):=dx 4 U;have lg2:g<w+1:=U;have ng:g≠w.heap.size:=U;have HI:=Y λW (hb:Below w w W)=>ih kd _ W (by have:=HM.1;omega) (by have:=HM.2;omega) k7 (aY.later hb)
   have HD:=Y fg;have LZ:=Y bU;have pq:=fK kd;clear dx aY cU bU fg k7 aV;go_wp2_with fail;refine j0 λW0 cG=>?_;have hb0:Below w w W0:=by rw[cG];exact D.alloc V _
   have mq:W0.heap[w.heap.size]?=some (.cells #[(3:Int),.slice A1 rl c1,.slice (Z g f) kl c,.int .i64 mn,.int .i64 mx] 26):=by rw[cG];exact heap_alloc_new w _
   have HB:=Y (I hb0 mq);have lb:w.heap.size<W0:=(γ mq).1;clear cG hb0 mq;refine (HI W0 HB.1).mono ?_;rintro e w7 ⟨rfl,kV⟩;obtain ⟨x,hx⟩:=ν (bW kd);rw[hx]at pq|-;have HX:=Y hx;have td:=Y (I (HB.1.t (kV.mono HB.1.size)) ((kV.block _ lb).t HB.2));clear kV hx b7 q0 q1 q2 q3 q4 lg2 ng HB lb;have dA:=td;go_wp2_with fail;go_loopw [7,5] (λiv ov wr=>∃(k o:Nat),1<=k/\k<=kl/\iv=.int .i64 (k:Int)/\ov=.int .i64 (o:Int)/\o<=1025/\Hid (max o (dI (kids.drop k))=dI kids)/\Hid (Below w w wr/\wr.heap[w.heap.size]?=some (.cells #[(3:Int),.slice A1 rl c1,.slice (Z g f) kl c,.int .i64 mn,.int .i64 mx] 26))) (λiv _ _=>kl - (intOf iv).toNat)
   case atStart=>exact ⟨1,x,U,U,rfl,rfl,pq,by have h1:=HD.o;have h2:=HX.o;rw[h2]at h1;exact h1.symm,dA.o⟩
   case round=>
    obtain ⟨k,o,bQ,k6,rfl,rfl,ho,HO,HB⟩:=hrel;obtain ⟨b0,b1,b2,b3,b4⟩:=aD HB.2;have lb:w.heap.size<wr:=(γ HB.2).1;by_cases aB:k<kl
    .have hd:decide ((k:Int)<(kl:Int))=true:=τ;have dV:decide (k<kl)=true:=decide_eq_true aB;have aV:k<kids.length:=by rw[HL.2];omega
     have bU:=LZ.o;obtain ⟨vs,dx,aY⟩:=bU.at k aV;have b7:=aQ (List.getElem_mem aV);have k7:=bh AO.o (List.getElem_mem aV);have fg:dI (kids.drop k)=max (bW kids[k]) (dI (kids.drop (k+1))):=by rw[List.drop_eq_getElem_cons aV,dI]
     clear HI HD HX pq;obtain ⟨kd,cU⟩:=ν (kids[k]);rw[cU]at aY b7 fg k7;obtain ⟨B1,e1,B2,e2,rfl,-,-,-⟩:=aY.form;have q:∀j,j<5->wr.cell? (Z g (f+k*5+j))=([.int .i64 kd.op,.slice B1 kd.rs.length e1,.slice B2 kd.kids.length e2,.int .i64 kd.mn,.int .i64 kd.mx]:List Value)[j]?:=λj hj=>(HB.1.cl g (f+k*5+j) hg).t (dx j hj);have q0:=q 0 U;have q1:=q 1 U;have q2:=q 2 U;have q3:=q 3 U;have q4:=q 4 U;simp only[Nat.zero_mul,Nat.add_zero,List.getElem?_cons_zero,List.getElem?_cons_succ]at q0 q1 q2 q3 q4;have lg:g<wr:=Nat.lt_of_lt_of_le hg HB.1.size;have HI:=Y (ih kd _ wr (by have:=HM.1;omega) (by have:=HM.2;omega) k7 (aY.later HB.1))
     have HD:=Y fg;have pq:=fK kd;clear q dx aY cU bU fg k7;go_wp2_with fail;refine HI.mono ?_;rintro e w7 ⟨rfl,kV⟩;obtain ⟨x,hx⟩:=ν (bW kd);rw[hx]at pq|-;have HX:=Y hx;have td:=Y (I (HB.1.t (kV.mono HB.1.size)) ((kV.block _ lb).t HB.2));clear kV hx b7 q0 q1 q2 q3 q4 b0 b1 b2 b3 b4;by_cases Pd:o<x
     .have t1:decide ((o:Int)<(x:Int))=true:=τ;have FI:decide (o<x)=true:=decide_eq_true Pd;go_wp2_with fail;go_roundw
      case rel=>exact ⟨k+1,x,U,U,by go_num,rfl,pq,by have h1:=HO.o;have h2:=HD.o;have h3:=HX.o;show max x (dI (kids.drop (k+1)))=dI kids;omega,td⟩
      case measure=>exact μ
     .have t1:decide ((o:Int)<(x:Int))=false:=θ;have FI:decide (o<x)=false:=decide_eq_false Pd;go_wp2_with fail;go_roundw
      case rel=>exact ⟨k+1,o,U,U,by go_num,rfl,ho,by have h1:=HO.o;have h2:=HD.o;have h3:=HX.o;show max o (dI (kids.drop (k+1)))=dI kids;omega,td⟩
      case measure=>exact μ
    .obtain rfl:k=kl:=U;have hd:decide ((k:Int)<(k:Int))=false:=θ;have dV:decide (k<k)=false:=θ;have HE:=Y (show o=dI kids by have h1:=HO.o;rw[List.drop_of_length_le (by have:=HL.2;omega),dI]at h1;omega)
     obtain ⟨z,hz⟩:∃z:Nat,z=min o 1025:=⟨_,rfl⟩;have cT:min (o:Int) 1025=(z:Int):=U;have HZ:=Y hz;clear hz;go_wp2_with fail;go_ret;exact ⟨aP (by rw[Ji.o,HZ.o,HE.o]),HB.1⟩
  .subst o4;have GC:=Y k1;clear k1;rw[if_neg O,if_neg O,if_neg O]at Ji;clear bE;have aV:0<kids.length:=by have:=HL.2;have:=GC.o;omega
   obtain ⟨g,f,hA,hg,bU⟩:=HK.resolve_left (by intro e;rw[e]at aV;simp at aV)
   subst hA;obtain ⟨vs,dx,aY⟩:=bU.at 0 aV;have b7:=aQ (List.getElem_mem aV);have k7:=bh AO.o (List.getElem_mem aV);have fg:rm kids=bW kids[0]:=by
    have e9:=List.drop_eq_getElem_cons aV;rw[List.drop_zero]at e9
    conv=>lhs;rw[e9]
    rw[rm]
   obtain ⟨kd,cU⟩:=ν (kids[0]);rw[cU]at aY b7 fg k7;obtain ⟨B1,e1,B2,e2,rfl,-,-,-⟩:=aY.form;have q0:w.cell? (Z g f)=some (.int .i64 kd.op):=dx 0 U;have q1:w.cell? (Z g (f+1))=some (.slice B1 kd.rs.length e1):=dx 1 U;have q2:w.cell? (Z g (f+2))=some (.slice B2 kd.kids.length e2):=dx 2 U;have q3:w.cell? (Z g (f+3))=some (.int .i64 kd.mn):=dx 3 U;have q4:w.cell? (Z g (f+4))=some (.int .i64 kd.mx):=dx 4 U;have lg2:g<w+1:=U;have ng:g≠w.heap.size:=U;have HI:=Y λW (hb:Below w w W)=>ih kd _ W (by have:=HM.1;omega) (by have:=HM.2;omega) k7 (aY.later hb)
   have HD:=Y fg;have LZ:=Y bU;have pq:=fK kd;clear dx aY cU bU fg k7 aV;have atW:0<kl:=by have:=GC.o;omega
   go_wp2_with fail;refine j0 λW0 cG=>?_;have hb0:Below w w W0:=by rw[cG];exact D.alloc V _
   have mq:W0.heap[w.heap.size]?=some (.cells #[(4:Int),.slice A1 rl c1,.slice (Z g f) kl c,.int .i64 mn,.int .i64 mx] 26):=by rw[cG];exact heap_alloc_new w _
   have HB:=Y (I hb0 mq);have lb:w.heap.size<W0:=(γ mq).1;clear cG hb0 mq;refine (HI W0 HB.1).mono ?_;rintro e w7 ⟨rfl,kV⟩;obtain ⟨x,hx⟩:=ν (bW kd);rw[hx]at pq|-;have HX:=Y hx;have td:=Y (I (HB.1.t (kV.mono HB.1.size)) ((kV.block _ lb).t HB.2));clear kV hx b7 q0 q1 q2 q3 q4 lg2 ng HB lb;obtain ⟨t,ht⟩:∃t:Nat,(t:Int)=mx:=⟨mx.toNat,U⟩;subst ht;have htx:t*x<=64*1025:=Nat.mul_le_mul U pq;obtain ⟨o,jE⟩:=ν (t*x);have hmul:(t:Int)*(x:Int)=(o:Int):=by rw[<-jE];exact (Int.natCast_mul t x).symm
   have HE:=Y (show o=(t:Int).toNat*rm kids by rw[HD.o,HX.o,<-jE];rfl)
   rw[jE]at htx;have HB:=td;clear jE;obtain ⟨z,hz⟩:∃z:Nat,z=min o 1025:=⟨_,rfl⟩;have cT:min (o:Int) 1025=(z:Int):=U;have HZ:=Y hz;clear hz;go_wp2_with fail;go_ret;exact ⟨aP (by rw[Ji.o,HZ.o,HE.o]),HB.1⟩
theorem vL(nd:Nd)(vs:List Value)(w:World)(hn:bY w nd vs):Calls Tryz.prog 6 #[.agg vs.toArray] w λe w'=>e=.returned (.int .i64 ((min (aA nd) 201:Nat):Int))/\Below w w w':=by
 have HC:=Y λW (hb:Below w w W)=>FB _ nd vs W 0 O V (hn.later hb);obtain ⟨A1,c1,A2,c2,rfl,-⟩:=hn.form;clear hn;obtain ⟨y,hy⟩:∃y:Nat,min (aA nd) 201=y:=⟨_,rfl⟩;have hy0:min (0+aA nd) 201=y:=by rw[Nat.zero_add];exact hy
 rw[hy0]at HC;rw[hy];have hyb:min (y:Int) 201=(y:Int):=U;clear hy hy0
 go_enter Tryz.func6,Tryz.ntmps6
 go_wp2_with fail;refine j0 λW0 cG=>?_;have hb0:Below w w W0:=by rw[cG];exact D.alloc V _
 have HB:=Y hb0;clear cG hb0;refine (HC W0 HB.o).mono ?_;rintro e w1 ⟨rfl,aM⟩;have cM:=Y (HB.t (aM.mono HB.size));clear aM;go_wp2_with fail;go_ret;exact ⟨rfl,cM.o⟩
theorem sW(nd:Nd)(vs:List Value)(w:World)(hn:bY w nd vs):Calls Tryz.prog 24 #[.agg vs.toArray] w λe w'=>e=.returned (.int .i64 (bz nd))/\Below w w w':=by
 have Tb:=Y λW (hb:Below w w W)=>vL nd vs W (hn.later hb);have HDE:=Y λW (hb:Below w w W) (h:aA nd<=200)=>FC _ nd vs W V U (hn.later hb);have OS:=Y λW (hb:Below w w W)=>FD _ nd vs W V (hn.later hb);have HSI:=Y λW (hb:Below w w W) (h:aA nd<=200) (hr:aF nd=true)=>JG _ nd vs W V h hr (hn.later hb);obtain ⟨A1,c1,A2,c2,rfl,-⟩:=hn.form;clear hn
 go_enter Tryz.func24,Tryz.ntmps24
 go_wp2_with fail;refine j0 λW0 cG=>?_;have hb0:Below w w W0:=by rw[cG];exact D.alloc V _
 have mq:W0.heap[w.heap.size]?=some (.cells #[.int .i64 nd.op,.slice A1 nd.rs.length c1,.slice A2 nd.kids.length c2,.int .i64 nd.mn,.int .i64 nd.mx] 26):=by rw[cG];exact heap_alloc_new w _
 have dA:=Y (I hb0 mq);clear cG hb0 mq;refine (Tb W0 dA.1).mono ?_;rintro e w1 ⟨rfl,aM⟩;have cM:=Y (I (dA.1.t (aM.mono dA.1.size)) ((aM.block _ (γ dA.2).1).t dA.2));clear aM;obtain ⟨b0,b1,b2,b3,b4⟩:=aD cM.2;have lb:w.heap.size<w1:=(γ cM.2).1;obtain ⟨x,hx⟩:=ν (min (aA nd) 201);rw[hx];by_cases h1:200<aA nd
 .have d1:decide (200<(x:Int))=true:=τ;have d1n:decide (200<x)=true:=τ;have HV:=Y (show bz nd=3 by unfold bz;rw[if_pos h1])
  clear h1 hx;go_wp2_with fail;go_ret;exact ⟨aP HV.symm,cM.1⟩
 have d1:decide (200<(x:Int))=false:=θ;have d1n:decide (200<x)=false:=θ;have sR:=Y (show aA nd<=200 by omega)
 clear hx;go_wp2_with fail;clear b0 b1 b2 b3 b4 lb;refine (HDE w1 cM.1 sR.o).mono ?_;rintro e w2 ⟨rfl,aS⟩;have fS:=Y (I (cM.1.t (aS.mono cM.1.size)) ((aS.block _ (γ cM.2).1).t cM.2));clear aS;obtain ⟨b0,b1,b2,b3,b4⟩:=aD fS.2;have lb:w.heap.size<w2:=(γ fS.2).1;obtain ⟨y,hy⟩:=ν (bZ nd);have hyb:y<=200:=by have h9:=wE nd;have h8:=sR.o;omega
 rw[hy];by_cases h2:20<y
 .have d2:decide (20<(y:Int))=true:=τ;have d2n:decide (20<y)=true:=decide_eq_true h2;have HV:=Y (show bz nd=9 by unfold bz;rw[if_neg h1,hy,if_pos h2])
  clear h1 h2 hy;go_wp2_with fail;go_ret;exact ⟨aP HV.symm,fS.1⟩
 have d2:decide (20<(y:Int))=false:=θ;have d2n:decide (20<y)=false:=decide_eq_false h2;have HY:=Y (I h1 (I hy h2));clear h1 h2 hy;go_wp2_with fail;clear b0 b1 b2 b3 b4 lb;refine (OS w2 fS.1).mono ?_;rintro e w3 ⟨rfl,pZ⟩;have oq:=Y (I (fS.1.t (pZ.mono fS.1.size)) ((pZ.block _ (γ fS.2).1).t fS.2));clear pZ;obtain ⟨b0,b1,b2,b3,b4⟩:=aD oq.2;have lb:w.heap.size<w3:=(γ oq.2).1
 cases hr:aF nd with
 |false=>
  have HV:=Y (show bz nd=1 by unfold bz;rw[if_neg HY.1,HY.2.1,if_neg HY.2.2,if_pos hr])
  clear hr;go_wp2_with fail;go_ret;exact ⟨aP HV.symm,oq.1⟩
 |true=>
  have HR:=Y hr;clear hr;go_wp2_with fail;clear b0 b1 b2 b3 b4 lb;refine (HSI w3 oq.1 sR.o HR.o).mono ?_;rintro e w4 ⟨rfl,pE⟩;have sk:=Y (I (oq.1.t (pE.mono oq.1.size)) ((pE.block _ (γ oq.2).1).t oq.2));clear pE;obtain ⟨b0,b1,b2,b3,b4⟩:=aD sk.2;have lb:w.heap.size<w4:=(γ sk.2).1;obtain ⟨z,hz⟩:=ν (bW nd);have hzb:z<=1025:=by rw[<-hz];exact fK nd
  rw[hz];by_cases h4:1024<z
  .have d4:decide (1024<(z:Int))=true:=τ;have d4n:decide (1024<z)=true:=decide_eq_true h4;have HV:=Y (show bz nd=3 by unfold bz;rw[if_neg HY.1,HY.2.1,if_neg HY.2.2,if_neg (by rw[HR.o];decide),hz,if_pos h4])
   clear h4 hz;go_wp2_with fail;go_ret;exact ⟨aP HV.symm,sk.1⟩
  .have d4:decide (1024<(z:Int))=false:=θ;have d4n:decide (1024<z)=false:=decide_eq_false h4;have HV:=Y (show bz nd=0 by unfold bz;rw[if_neg HY.1,HY.2.1,if_neg HY.2.2,if_neg (by rw[HR.o];decide),hz,if_neg h4])
   clear h4 hz;go_wp2_with fail;go_ret;exact ⟨aP HV.symm,sk.1⟩
theorem G4:∀l:List Nd,bp l<=601*l.length
 | []=>by rw[bp];exact Nat.zero_le _
 |k::r=>by rw[bp,List.length_cons];have:=rq k;have:=G4 r;omega
theorem Sc(v:Value)(rs:List (Nat×Nat))(c:Nat)(w:World)(h:gD w v rs):Calls Tryz.prog 75 #[v,.int .u8 (c:Int)] w λe w'=>e=.returned (.bool (qq rs c))/\w'=w:=by
 obtain ⟨A,cc,rfl,⟨kr,jD⟩,ak⟩:=h;obtain ⟨n,hn⟩:=ν rs.length;have HN:=Y hn;have HC:=Y ak;rw[hn]at kr|-;clear hn ak
 go_enter Tryz.func75,Tryz.ntmps75
 go_wp2_with fail;go_loopw [5] (λiv wr=>∃k:Nat,k<=n/\iv=.int .i64 (k:Int)/\wr=w/\Hid (qq (rs.drop k) c=qq rs c)) (λiv _=>n - (intOf iv).toNat)
 case atStart=>exact ⟨0,U,rfl,rfl,rfl⟩
 case round=>
  obtain ⟨k,hk,rfl,rfl,HR⟩:=hrel;by_cases aB:k<n
  .have hd:decide ((k:Int)<(n:Int))=true:=τ;have dV:decide (k<n)=true:=decide_eq_true aB;have aV:k<rs.length:=by rw[HN.o];exact aB
   obtain ⟨g,f,hA,hg,aC⟩:=HC.resolve_left (by intro e;rw[e]at aV;simp at aV)
   subst hA;obtain ⟨⟨c0,c1⟩,aM,aS⟩:=aC k aV;obtain ⟨lo,bX⟩:∃lo:Nat,rs[k].1=lo:=⟨_,rfl⟩;obtain ⟨hi,sj⟩:∃hi:Nat,rs[k].2=hi:=⟨_,rfl⟩;have fw:qq (rs.drop k) c=((decide (lo<=c) && decide (c<=hi)) || qq (rs.drop (k+1)) c):=by
    rw[List.drop_eq_getElem_cons aV];unfold qq;rw[List.any_cons,bX,sj]
   rw[bX]at c0;rw[sj]at c1;have j8:=Y fw;clear fw aC bX sj aM aS aV;by_cases h1:lo<=c
   .have t1:decide ((lo:Int)<=(c:Int))=true:=τ;have FI:decide (lo<=c)=true:=decide_eq_true h1;by_cases h2:c<=hi
    .have t2:decide ((c:Int)<=(hi:Int))=true:=τ;have X8:decide (c<=hi)=true:=decide_eq_true h2;go_wp2_with fail;go_ret;exact ⟨aw (by rw[<-HR.o,j8.o,FI,X8];rfl),rfl⟩
    .have t2:decide ((c:Int)<=(hi:Int))=false:=θ;have X8:decide (c<=hi)=false:=decide_eq_false h2;have HX:=Y (show qq (rs.drop (k+1)) c=qq rs c by rw[<-HR.o,j8.o,X8,Bool.and_false,Bool.false_or])
     go_wp2_with fail;go_roundw
     case rel=>exact ⟨k+1,U,by go_num,by first|rfl|trivial,HX⟩
     case measure=>exact μ
   .have t1:decide ((lo:Int)<=(c:Int))=false:=θ;have FI:decide (lo<=c)=false:=decide_eq_false h1;have HX:=Y (show qq (rs.drop (k+1)) c=qq rs c by rw[<-HR.o,j8.o,FI,Bool.false_and,Bool.false_or])
    go_wp2_with fail;go_roundw
    case rel=>exact ⟨k+1,U,by go_num,by first|rfl|trivial,HX⟩
    case measure=>exact μ
  .obtain rfl:k=n:=U;have hd:decide ((k:Int)<(k:Int))=false:=θ;have dV:decide (k<k)=false:=θ;go_wp2_with fail;go_ret;exact ⟨aw (by rw[<-HR.o,List.drop_of_length_le (by have:=HN.o;omega)];rfl),rfl⟩
theorem BO:∀(m:Nat) (nd:Nd) (vs:List Value) (w:World),aA nd<=m->aA nd<=200->aF nd=true->bY w nd vs->Calls Tryz.prog 25 #[.agg vs.toArray] w λe w'=>e=.returned (.int .i64 ((aL nd:Nat):Int))/\Below w w w':=by
 intro m
 induction m with
 |zero=>intro nd vs w h;cases nd;rw[aA]at h;omega
 |succ m ih=>
  rintro ⟨op,rs,kids,mn,mx⟩ vs w h gQ Zk hn;obtain ⟨v1,v2,rfl,hr,A,c,rfl,hc,hk⟩:=hn;obtain ⟨A1,c1,rfl,kr,-⟩:=hr;have hT:aA (.mk op rs kids mn mx)=1+a7 kids:=by rw[aA]
  rw[hT]at h gQ;have HM:=Y (I h gQ);obtain ⟨jE,lU⟩:=dD Zk;have AO:=Y lU;obtain ⟨rl,iy⟩:∃n,rs.length=n:=⟨_,rfl⟩;obtain ⟨kl,aV⟩:∃n,kids.length=n:=⟨_,rfl⟩;have HK:=Y hk;have HL:=Y (I iy aV);have Ji:=Y (show aL (.mk op rs kids mn mx)=min (if op=1 then 1 else if op=4 then mx.toNat*qS kids else bp kids) 601 by rw[aL])
  rw[aV]at jE;rw[iy]at kr|-;rw[aV]at hc|-;clear iy aV hk hT h gQ Zk lU;have HK5:=Y (show op=4->kl=1/\1<=mx/\mx<=64 from λe=>by
   rcases jE with h|h|h|⟨-,h1,h2,h3,h4⟩
   .omega
   .omega
   .omega
   .exact ⟨h1,h3,h4⟩)
  go_enter Tryz.func25,Tryz.ntmps25
  by_cases o1:op=1
  .subst o1;go_wp2_with fail;go_ret;exact ⟨aP (by rw[Ji.o];rfl),D.alloc V _⟩
  .have n1:(op == 1)=false:=by simp[o1]
   have xM:=Y o1;clear jE o1;go_wp2_with fail;refine CB λW0 cG=>?_;have hb0:Below w w W0:=by rw[cG];exact D.alloc V _
   have mq:W0.heap[w.heap.size]?=some (.cells #[.int .i64 op,.slice A1 rl c1,.slice A kl c,.int .i64 mn,.int .i64 mx] 26):=by rw[cG];exact heap_alloc_new w _
   have dA:=Y (I hb0 mq);clear cG hb0 mq;have OW:bp kids<=601*kl:=by rw[<-HL.2];exact G4 kids
   have wV:kl<=200:=by have h1:=mQ kids;have h2:=HM.o;have h3:=HL.2;omega
   go_loopw [4,3] (λiv ov wr=>∃(k o:Nat),k<=kl/\iv=.int .i64 (k:Int)/\ov=.int .i64 (o:Int)/\o<=120200/\Hid (o+bp (kids.drop k)=bp kids)/\Hid (Below w w wr/\wr.heap[w.heap.size]?=some (.cells #[.int .i64 op,.slice A1 rl c1,.slice A kl c,.int .i64 mn,.int .i64 mx] 26))) (λiv _ _=>kl - (intOf iv).toNat)
   case atStart=>exact ⟨0,0,U,rfl,rfl,U,by show 0+bp (kids.drop 0)=_;rw[List.drop_zero];omega,dA.o⟩
   case round=>
    obtain ⟨k,o,k6,rfl,rfl,ho,HO,HB⟩:=hrel;obtain ⟨b0,b1,b2,b3,b4⟩:=aD HB.2;have lb:w.heap.size<wr:=(γ HB.2).1;by_cases aB:k<kl
    .have hd:decide ((k:Int)<(kl:Int))=true:=τ;have dV:decide (k<kl)=true:=decide_eq_true aB;have aV:k<kids.length:=by rw[HL.2];omega
     obtain ⟨g,f,hA,hg,bU⟩:=HK.resolve_left (by intro e;rw[e]at aV;simp at aV)
     subst hA;obtain ⟨vs,dx,aY⟩:=bU.at k aV;have b7:=aQ (List.getElem_mem aV);have k7:=bh AO.o (List.getElem_mem aV);have fg:bp (kids.drop k)=aL kids[k]+bp (kids.drop (k+1)):=by rw[List.drop_eq_getElem_cons aV,bp]
     obtain ⟨kd,cU⟩:=ν (kids[k]);rw[cU]at aY b7 fg k7;obtain ⟨B1,e1,B2,e2,rfl,-,-,-⟩:=aY.form;have q:∀j,j<5->wr.cell? (Z g (f+k*5+j))=([.int .i64 kd.op,.slice B1 kd.rs.length e1,.slice B2 kd.kids.length e2,.int .i64 kd.mn,.int .i64 kd.mx]:List Value)[j]?:=λj hj=>(HB.1.cl g (f+k*5+j) hg).t (dx j hj);have q0:=q 0 U;have q1:=q 1 U;have q2:=q 2 U;have q3:=q 3 U;have q4:=q 4 U;simp only[Nat.zero_mul,Nat.add_zero,List.getElem?_cons_zero,List.getElem?_cons_succ]at q0 q1 q2 q3 q4;have lg:g<wr:=Nat.lt_of_lt_of_le hg HB.1.size;have HI:=Y (ih kd _ wr (by have:=HM.1;omega) (by have:=HM.2;omega) k7 (aY.later HB.1))
     have HD:=Y fg;have pq:=rq kd;clear q dx aY cU bU fg k7;go_wp2_with fail;refine HI.mono ?_;rintro e w7 ⟨rfl,kV⟩;obtain ⟨x,hx⟩:=ν (aL kd);rw[hx]at pq|-;have HX:=Y hx;have td:=Y (I (HB.1.t (kV.mono HB.1.size)) ((kV.block _ lb).t HB.2));clear kV hx b7 q0 q1 q2 q3 q4 b0 b1 b2 b3 b4;have Pd:o+x<=120200:=by have h1:=HO.o;have h2:=HD.o;have h3:=HX.o;omega
     go_wp2_with fail;go_roundw
     case rel=>exact ⟨k+1,o+x,U,by go_num,by go_num,Pd,by have h1:=HO.o;have h2:=HD.o;have h3:=HX.o;show o+x+bp (kids.drop (k+1))=bp kids;omega,td⟩
     case measure=>exact μ
    .obtain rfl:k=kl:=U;have hd:decide ((k:Int)<(k:Int))=false:=θ;have dV:decide (k<k)=false:=θ;have HE:=Y (show o=bp kids by have h1:=HO.o;rw[List.drop_of_length_le (by have:=HL.2;omega),bp]at h1;omega)
     have xd:=HK5.o;by_cases o4:op=4
     .obtain ⟨k1,m1,m64⟩:=xd o4;have n4:(op == 4)=true:=by simp[o4]
      obtain ⟨t,ht⟩:∃t:Nat,(t:Int)=mx:=⟨mx.toNat,U⟩;have htx:t*o<=64*120200:=Nat.mul_le_mul U ho;obtain ⟨u,hu⟩:=ν (t*o);have hmul:(o:Int)*(t:Int)=(u:Int):=by rw[<-hu,Nat.mul_comm];exact (Int.natCast_mul o t).symm
      rw[hu]at htx;obtain ⟨z,hz⟩:∃z:Nat,z=min u 601:=⟨_,rfl⟩;have cT:min (u:Int) 601=(z:Int):=U;have HZ:=Y (show aL (.mk op rs kids mn mx)=z by
       rw[Ji.o,if_neg U,if_pos o4,hz,<-hu,HE.o];have h9:bp kids=qS kids:=by
        have h8:=HL.2
        match kids,h8 with
        | [a],_=>rw[bp,bp,qS];omega
        | [],h8=>simp at h8;omega
        |a::b::r,h8=>simp at h8;omega
       rw[h9,<-ht];rfl)
      subst ht;clear hu hz o4 xd;go_wp2_with fail;go_ret;exact ⟨aP (by rw[HZ.o]),HB.1⟩
     .have n4:(op == 4)=false:=by simp[o4]
      obtain ⟨z,hz⟩:∃z:Nat,z=min o 601:=⟨_,rfl⟩;have cT:min (o:Int) 601=(z:Int):=U;have HZ:=Y (show aL (.mk op rs kids mn mx)=z by rw[Ji.o,if_neg xM.o,if_neg o4,hz,HE.o])
      clear hz o4 xd;go_wp2_with fail;go_ret;exact ⟨aP (by rw[HZ.o]),HB.1⟩
end Go.Proofs.YthamegenljmgmaaGreatDoor
