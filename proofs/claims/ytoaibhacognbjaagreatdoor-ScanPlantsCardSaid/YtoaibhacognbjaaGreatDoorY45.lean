/- made.Plain: one or two kinds that ask for nothing beside patterns. -/
import Derived.Deep.AppendLies
import Derived.Test.YtoaibhacognbjaaGreatDoorY44
import Derived.Test.YtoaibhacognbjaaGreatDoorY16
import Derived.Test.YtoaibhacognbjaaGreatDoorY08
import Derived.Test.YtoaibhacognbjaaGreatDoorY42
import Derived.Test.YtoaibhacognbjaaGreatDoorY24
namespace Go.Proofs.YtoaibhacognbjaaGreatDoor
set_option linter.unusedVariables false
set_option linter.unusedSimpArgs false
set_option maxRecDepth 100000
open Go.RowKit
def plN (i:Nat):ByteArray:=⟨#[112,108,97,105,110]⟩++bs (Lib.decDigits i)
def plU (i:Nat) (x:KC):KC:=⟨plN i,x.op,x.a1,x.n1,x.c1,x.a2,x.n2,x.c2,x.mn,x.mx,true,0,0,none,0,0,0⟩
def plK:Nat→List Nat→List Kn
 | _,[]=>[]
 | i,j::r=>⟨plN i,shN j,true,0,0,[],0⟩::plK (i+1) r
theorem plK_len:∀(js:List Nat) (i:Nat),(plK i js).length=js.length
 | [],_=>rfl
 | j::r,i=>by simp[plK,plK_len r (i+1)]
theorem plK_get:∀(js:List Nat) (i k:Nat) (h:k<(plK i js).length) (h2:k<js.length),(plK i js)[k]=⟨plN (i+k),shN js[k],true,0,0,[],0⟩
 | j::r,i,0,_,_=>rfl
 | j::r,i,k+1,h,h2=>by
  have:=plK_get r (i+1) k (by simpa [plK] using h) (by simpa using h2)
  simp only[plK,List.getElem_cons_succ];rw[this,show i+1+k=i+(k+1) by omega]
def PlPost (b:Nat) (w:World) (e:Ending) (w':World):Prop:=∃v us js,e = .returned v∧(1≤us.length∧us.length≤2)∧us.length=js.length∧(∀j∈js,j<2)∧KnV b w' v∧(∀W,Stay b w' W→KnsIn W v us (plK 0 js))∧(∀u∈us,u.ck=0∧u.en=0∧u.n3=0∧u.wh=true)∧TapeOK b w'∧Fr b w w'
set_option maxHeartbeats 8000000 in
theorem mplain_any (b:Nat) (w:World) (ht:TapeOK b w) :
  Calls Tryz.prog 27 #[.pointer (some ⟨b,0,none⟩)] w (PlPost b w):=by
 have hbs:=ht.lt;have HT:=Lib.hid ht;clear ht
 go_enter Tryz.func27,Tryz.ntmps27
 go_wp2_with fail;refine (shapesN_any b w hbs).mono ?_;rintro e w1 ⟨g,rfl,⟨-,hkd,g',c',hv',-,-,-,hS⟩,hb1⟩;injection hv' with hv' _ hc';injection hv' with hv';injection hv' with hv' _ _;subst hv' hc';have ht1:=HT.out.below hb1;have hf1:Fr b w w1:=Fr.of_below hb1;obtain ⟨V,hbg,hgl,k0,k1,k2,k3,k4,kP⟩:=hkd.kcs;have HND:=Lib.hid (fun (W:World) (hs:Stay b w1 W) (j:Nat) (hj:j<6)=>show NdIn W ([shN 0,shN 1,shN 2,shN 3,shN 4,shN 5][j]'(by simpa using hj)) (V j).pat from kidN hS hbg hgl (by rw[Nat.zero_add];exact k0 j hj) (by rw[Nat.zero_add];exact k1 j hj) (by rw[Nat.zero_add];exact k2 j hj) (by rw[Nat.zero_add];exact k3 j hj) (by rw[Nat.zero_add];exact k4 j hj) (by simpa using hj) W hs)
 have HK:=Lib.hid (fun (w':World) (hs:Stay b w1 w')=>show ((∀j,j<6→w'.cell? ⟨g,j*5,none⟩=some (.int .i64 (V j).op))∧(∀j,j<6→w'.cell? ⟨g,j*5+1,none⟩=some (.slice (V j).a1 (V j).n1 (V j).c1))∧(∀j,j<6→w'.cell? ⟨g,j*5+2,none⟩=some (.slice (V j).a2 (V j).n2 (V j).c2))∧(∀j,j<6→w'.cell? ⟨g,j*5+3,none⟩=some (.int .i64 (V j).mn))∧(∀j,j<6→w'.cell? ⟨g,j*5+4,none⟩=some (.int .i64 (V j).mx))) from
  ⟨fun j hj=>(hs.cell hbg hgl).trans (k0 j hj),fun j hj=>(hs.cell hbg hgl).trans (k1 j hj),fun j hj=>(hs.cell hbg hgl).trans (k2 j hj),fun j hj=>(hs.cell hbg hgl).trans (k3 j hj),fun j hj=>(hs.cell hbg hgl).trans (k4 j hj)⟩)
 have HP:=Lib.hid (fun (w':World) (hs:Stay b w1 w') (j:Nat) (hj:j<6)=>(kP j hj).later hs);have BT:=Lib.hid (between_any b 1 2 w1 (by omega) (by omega) (by omega) (by omega) ht1)
 clear hkd k0 k1 k2 k3 k4 kP ht1 hS;go_wp2_with fail;refine BT.out.mono ?_;rintro e w2 ⟨r,rfl,hr0,hr1,ht2,hf2⟩;obtain ⟨rn,hrn⟩:∃rn:Nat,r=(rn:Int):=⟨r.toNat,by omega⟩
 subst hrn;have hfw2:=hf1.trans hf2;have H2:=Lib.hid (And.intro ht2 (And.intro hf2 hfw2));clear BT ht2 hf1 hf2 hb1 hfw2;obtain ⟨ik,hik,hk0,hk1,hk2⟩:=info_parts info_kind;go_wp2_with fail
 go_loopw [3,5] (fun v i wr=>∃(k:Nat) (o:List KC) (js:List Nat),k≤rn∧i = .int .i64 (k:Int)∧k+o.length=rn∧OR 34 11 KC.cs w2.heap.size v o wr∧Hid (o.length=js.length∧∀i (h:i<o.length) (h2:i<js.length),o[i]=plU i (V js[i])∧js[i]<2)∧TapeOK b wr∧Fr b w2 wr) (fun _ i _=>(intOf i).toNat)
 case atStart=>exact ⟨rn,[],[],Nat.le_refl _,rfl,by simp,OR.nil_ _ _ _,⟨rfl,fun i h=>absurd h (Nat.not_lt_zero i)⟩,H2.out.1,Fr.refl _ _⟩
 case round=>
  obtain ⟨k,o,js,hk,rfl,hko,hown,HPO,htr,hfr⟩:=hrel;have hbw2:b<w2.heap.size:=by have h1:=H2.out.2.2.size;omega
  by_cases hlt:0<k
  ·have hd:decide ((0:Int)<(k:Int))=true:=decide_eq_true (by omega)
   have hdn:decide (0<k)=true:=decide_eq_true hlt;obtain ⟨A,c0,rfl,hle,-⟩:=hown.cells encKC;have hfw1:Fr b w1 wr:=H2.out.2.1.trans hfr;have HTR:=Lib.hid htr;have HKP:=Lib.hid (fun w' (hf:Fr b wr w') (ht:TapeOK b w')=>show (TapeOK b w'∧((∀j,j<6→w'.cell? ⟨g,j*5,none⟩=some (.int .i64 (V j).op))∧(∀j,j<6→w'.cell? ⟨g,j*5+1,none⟩=some (.slice (V j).a1 (V j).n1 (V j).c1))∧(∀j,j<6→w'.cell? ⟨g,j*5+2,none⟩=some (.slice (V j).a2 (V j).n2 (V j).c2))∧(∀j,j<6→w'.cell? ⟨g,j*5+3,none⟩=some (.int .i64 (V j).mn))∧(∀j,j<6→w'.cell? ⟨g,j*5+4,none⟩=some (.int .i64 (V j).mx)))) from
    ⟨ht,HK.out w' (Stay.of_fr (hfw1.trans hf))⟩)
   have hol:o.length≤2:=by omega
   have NU:=Lib.hid (fun w'=>number_ref 0 o.length w' (by omega) (by omega) (by omega))
   obtain ⟨nmS,hnmS⟩:∃nmS:ByteArray,bs (Lib.decDigits o.length)=nmS:=⟨_,rfl⟩;have hnl:nmS.size≤100:=by rw[←hnmS,size_bs];have:=dec_len2 o.length 0 (by omega);omega
   rw[hnmS]at NU;have HNM:=Lib.hid hnmS;have H0:=Lib.hid (And.intro hown hfr);have hgr:g<wr.heap.size:=Nat.lt_of_lt_of_le hgl hfw1.size;have hf0:Hid (Fr b wr wr.drew):=(Fr.refl _ _).drew;have ht0:Hid (TapeOK b wr.drew):=htr.below (Below.refl _ _).drew;have hz0:g≠wr.heap.size:=by omega
   have hbr:b<wr.heap.size:=Nat.lt_of_lt_of_le hbw2 hfr.size;have hz0':¬wr.heap.size=g:=by omega
   have HOW:=Lib.hid (fun (w':World) (hf:Fr b wr w')=>show OR 34 11 KC.cs w2.heap.size (.slice A o.length c0) o w' from hown.keep fun k hk=>hf.block k ((show wr.ownsRow _ _ _ _ _ _ from hown).lt k hk).2 (by intro e;injection e with e;have:=((show wr.ownsRow _ _ _ _ _ _ from hown).lt k hk).1;omega))
   have hadd:=(fun w':World=>run_string_add_sum (P:=Tryz.prog) w' ⟨#[112,108,97,105,110]⟩ nmS (by have h9:(⟨#[112,108,97,105,110]⟩:ByteArray).size=5:=rfl;rw[h9];omega))
   clear hown htr hfr hfw1 hnmS;go_wp2_with fail;refine (NU.out _).mono ?_;rintro e w3 ⟨rfl,hbN⟩;have hfN:Fr b wr w3:=Fr.of_below hbN;have htN:TapeOK b w3:=HTR.out.below hbN;have hadd3:=hadd w3;have HFN:=Lib.hid hfN;clear hbN hadd;go_wp2_with fail;refine (next_any b 2 _ (by omega) (by omega) htN).mono ?_
   rintro e w5 ⟨qi,rfl,q0,q1,htB,hfB0⟩;obtain ⟨q,rfl⟩:=Int.eq_ofNat_of_zero_le q0;have hq2:q<2:=by omega
   have hq6:q<6:=by omega
   have hfB:=hfN.trans hfB0;obtain ⟨-,z0,z1,z2,z3,z4⟩:=HKP.out w5 hfB htB;have y0:=z0 q hq6;have y1:=z1 q hq6;have y2:=z2 q hq6;have y3:=z3 q hq6;have y4:=z4 q hq6;have hgB:g<w5.heap.size:=Nat.lt_of_lt_of_le hgr hfB.size;have hownX:=World.ownsRow.alloc (show w5.ownsRow _ _ _ _ _ _ from HOW.out w5 hfB) (.cells #[.string (⟨#[112,108,97,105,110]⟩++nmS), .int .i64 (V q).op, .slice (V q).a1 (V q).n1 (V q).c1, .slice (V q).a2 (V q).n2 (V q).c2, .int .i64 (V q).mn, .int .i64 (V q).mx, .bool true, .int .i64 0, .int .i64 0, .slice none 0 0, .int .i64 0] 34);have hcx:∀j x,[.string (⟨#[112,108,97,105,110]⟩++nmS), .int .i64 (V q).op, .slice (V q).a1 (V q).n1 (V q).c1, .slice (V q).a2 (V q).n2 (V q).c2, .int .i64 (V q).mn, .int .i64 (V q).mx, .bool true, .int .i64 0, .int .i64 0, .slice none 0 0, .int .i64 0][j]?=some x→(w5.alloc (.cells #[.string (⟨#[112,108,97,105,110]⟩++nmS), .int .i64 (V q).op, .slice (V q).a1 (V q).n1 (V q).c1, .slice (V q).a2 (V q).n2 (V q).c2, .int .i64 (V q).mn, .int .i64 (V q).mx, .bool true, .int .i64 0, .int .i64 0, .slice none 0 0, .int .i64 0] 34)).cell? ((⟨w5.heap.size,0,none⟩:Addr).add j)=some x:=by
    intro j x hj;rw[Addr.add_lit,Nat.zero_add,World.cell?_alloc_mark];simpa using hj
   have hbz:w2.heap.size≤(w5.alloc (.cells #[.string (⟨#[112,108,97,105,110]⟩++nmS), .int .i64 (V q).op, .slice (V q).a1 (V q).n1 (V q).c1, .slice (V q).a2 (V q).n2 (V q).c2, .int .i64 (V q).mn, .int .i64 (V q).mx, .bool true, .int .i64 0, .int .i64 0, .slice none 0 0, .int .i64 0] 34)).heap.size:=by have h1:=H0.out.2.size;have h2:=hfB.size;simp;omega
   have HB:=Lib.hid (And.intro hfB htB);clear z0 z1 z2 z3 z4 hfN htN hfB hfB0 htB q0 q1 hadd3;go_wp2_with (at_builtin; refine appI_at rfl _ _ 43 rfl w2.heap.size 34 ik _ 11 144 Tryz.underlying43 hik hk0 hk1 hk2 rfl (by decide) _ o.length (rowF KC.cs o) rfl hownX ⟨w5.heap.size,0,none⟩ 1 1 [.string (⟨#[112,108,97,105,110]⟩++nmS), .int .i64 (V q).op, .slice (V q).a1 (V q).n1 (V q).c1, .slice (V q).a2 (V q).n2 (V q).c2, .int .i64 (V q).mn, .int .i64 (V q).mx, .bool true, .int .i64 0, .int .i64 0, .slice none 0 0, .int .i64 0] rfl rfl hcx (by intro y hy; simp only[List.mem_cons,List.not_mem_nil,or_false]at hy; rcases hy with rfl | rfl | rfl | rfl | rfl | rfl | rfl | rfl | rfl | rfl | rfl <;> rfl) (by unfold maxLen; omega) (by omega) hbz ?_)
   intro v6 w6 hown6 hg6 hf6;have hcsu:KC.cs (plU o.length (V q))=[.string (⟨#[112,108,97,105,110]⟩++nmS), .int .i64 (V q).op, .slice (V q).a1 (V q).n1 (V q).c1, .slice (V q).a2 (V q).n2 (V q).c2, .int .i64 (V q).mn, .int .i64 (V q).mx, .bool true, .int .i64 0, .int .i64 0, .slice none 0 0, .int .i64 0]:=by
    unfold plU KC.cs plN;rw[HNM.out]
   have hOR:OR 34 11 KC.cs w2.heap.size v6 (o++[plU o.length (V q)]) w6:=by
    show w6.ownsRow _ _ _ _ (o++[_]).length (rowF KC.cs (o++[_]));rw[rowF_app,rowF_single,List.length_append,hcsu];exact hown6
   have hnb:∀k,k≠b→k<w5.heap.size→v6=v6→True:=fun _ _ _ _=>trivial;have hlow:Below w2.heap.size w5 w6:=((Below.refl w2.heap.size w5).alloc (by have h1:=H0.out.2.size;have h2:=HB.out.1.size;omega) _).grown hg6 hbz (fun k hk=>(hownX.lt k hk).1)
   have ht6:TapeOK b w6:=HB.out.2.below' hlow hbw2;have hf6':Fr b w2 w6:=⟨hlow.os.trans (H0.out.2.trans HB.out.1).os,hlow.tape.trans (H0.out.2.trans HB.out.1).tape,hlow.output.trans (H0.out.2.trans HB.out.1).output,Nat.le_trans (H0.out.2.trans HB.out.1).size hlow.size,fun k hk hne=>(hlow.block k hk).trans ((H0.out.2.trans HB.out.1).block k hk hne)⟩;have hI6:(o++[plU o.length (V q)]).length=(js++[q]).length∧∀i (h:i<(o++[plU o.length (V q)]).length) (h2:i<(js++[q]).length),(o++[plU o.length (V q)])[i]=plU i (V (js++[q])[i])∧(js++[q])[i]<2:=by
    refine ⟨by simp[HPO.out.1],fun i h h2=>?_⟩
    by_cases hi:i<o.length
    ·rw[List.getElem_append_left hi,List.getElem_append_left (by rw[←HPO.out.1];exact hi)]
     exact HPO.out.2 i hi (by rw[←HPO.out.1];exact hi)
    ·have hie:i=o.length:=by simp at h;omega
     subst hie;rw[List.getElem_append_right (Nat.le_refl _),List.getElem_append_right (by rw[HPO.out.1];exact Nat.le_refl _)]
     simp only[Nat.sub_self,HPO.out.1,List.getElem_cons_zero];exact ⟨trivial,hq2⟩
   have H6:=Lib.hid (And.intro hOR (And.intro hI6 (And.intro ht6 hf6')));have hol6:k - 1+(o++[plU o.length (V q)]).length=rn:=by simp;omega
   clear hOR hI6 ht6 hf6' hown6 hg6 hf6 hlow hcsu hnb hownX hcx hbz y0 y1 y2 y3 y4 hgB;have hkw:IntKind.i64.wrap ((k:Int) - 1)=(k:Int) - 1:=IntWalk.i64_in _ (by omega)
   go_wp2_with fail;go_roundw
   case rel=>exact ⟨k - 1,_,_,by omega,by go_num,hol6,H6.out.1,H6.out.2.1,H6.out.2.2.1,H6.out.2.2.2⟩
   case measure=>simp[intOf];omega
  ·obtain rfl:k=0:=by omega
   have HF:=Lib.hid (And.intro hown (And.intro htr hfr));have hor:o.length=rn:=by omega
   clear hown htr hfr;go_wp2_with fail;go_ret;obtain ⟨hown,htr,hfr⟩:=HF.out;have hfw:Fr b w wr:=H2.out.2.2.trans hfr;have hfw1:Fr b w1 wr:=H2.out.2.1.trans hfr;obtain ⟨A,c0,rfl,hle,hcl⟩:=hown.cells encKC;obtain ⟨Af,cf,e0,-,hcm⟩:=own_form (show wr.ownsRow _ _ _ _ _ _ from hown);injection e0 with _ _ e0;subst e0;have hne:o≠[]:=fun e=>by rw[e]at hor;simp at hor;omega
   obtain ⟨g3,rfl,hB3,hg3,hc3⟩:=hcl.resolve_left hne;refine ⟨_,o,js,rfl,⟨by omega,by omega⟩,HPO.out.1,fun j hj=>?_,KnV.of_OR hown hbw2 hne (by omega) (fun u hu=>?_),fun W hW=>⟨by rw[plK_len];exact HPO.out.1,_,c0,rfl,⟨hle,by omega⟩, .inr ⟨g3,0,rfl,Nat.lt_of_lt_of_le hg3 hW.1,fun i hi j hj=>?_⟩,fun i h1 h2=>?_⟩,fun u hu=>?_,htr,hfw⟩
   ·obtain ⟨i,hi,rfl⟩:=List.mem_iff_getElem.1 hj;exact (HPO.out.2 i (by rw[HPO.out.1];exact hi) hi).2
   ·obtain ⟨i,hi,rfl⟩:=List.mem_iff_getElem.1 hu;have h2:i<js.length:=by rw[←HPO.out.1];exact hi
    rw[(HPO.out.2 i hi h2).1];exact HP.out wr (Stay.of_fr hfw1) js[i] (by have:=(HPO.out.2 i hi h2).2;omega)
   ·rw[Nat.zero_add,hW.cell (by omega) hg3]
    exact (hc3 i hi j hj).1
   ·have h3:i<js.length:=by rw[←HPO.out.1];exact h1
    obtain ⟨q1,q2⟩:=HPO.out.2 i h1 h3;rw[q1,plK_get js 0 i h2 h3,Nat.zero_add];have hnd:=HND.out W ((Stay.of_fr hfw1).trans hW) js[i] (by omega)
    have hsh:[shN 0,shN 1,shN 2,shN 3,shN 4,shN 5][js[i]]'(by simp;omega)=shN js[i]:=by
     have hx:js[i]=0∨js[i]=1:=by omega
     rcases hx with hx | hx <;> simp[hx]
    rw[hsh]at hnd;exact ⟨rfl,hnd,rfl,rfl,rfl,⟨none,0,rfl,⟨by simp,by decide⟩, .inl rfl⟩,rfl⟩
   ·obtain ⟨i,hi,rfl⟩:=List.mem_iff_getElem.1 hu;have h2:i<js.length:=by rw[←HPO.out.1];exact hi
    rw[(HPO.out.2 i hi h2).1];exact ⟨rfl,rfl,rfl,rfl⟩
end Go.Proofs.YtoaibhacognbjaaGreatDoor
