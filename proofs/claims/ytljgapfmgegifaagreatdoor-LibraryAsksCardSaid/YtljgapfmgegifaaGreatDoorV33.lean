/- Kinds in memory. · Walk: texts of a library. -/
import Derived.Test.YtljgapfmgegifaaGreatDoorV31
import Derived.Test.YtljgapfmgegifaaGreatDoorV15
import Derived.Test.YtljgapfmgegifaaGreatDoorV04
namespace Go.Proofs.YtljgapfmgegifaaGreatDoor
set_option linter.unusedVariables false
set_option linter.unusedSimpArgs false
set_option maxRecDepth 100000
open Go.RowKit
def KnV (b:Nat) (w:World) (v:Value):Prop:=∃g f n c,∃U:Nat->KC,v = .slice (some ⟨g,f,none⟩) n c/\1<=n/\n<=1000/\b<g/\g<w.heap.size/\
 (∀j,j<n->∀i,i<11->w.cell? ⟨g,f+j*11+i,none⟩=(U j).cs[i]?)/\∀j,j<n->Pat b w 4 18 (U j).pat
theorem KnV.later {b:Nat} {w w':World} {v:Value} (h:KnV b w v) (hs:Stay b w w'):KnV b w' v:=by
 obtain ⟨g,f,n,c,U,rfl,h1,h2,h3,h4,h5,h6⟩:=h;exact ⟨g,f,n,c,U,rfl,h1,h2,h3,Nat.lt_of_lt_of_le h4 hs.1,λj hj i hi=>(hs.cell h3 h4).trans (h5 j hj i hi),λj hj=>(h6 j hj).later hs⟩
theorem KnV.of_OR {b B:Nat} {w:World} {v:Value} {o:List KC} (h:OR 34 11 KC.cs B v o w) (hB:b<B) (h1:o≠[]) (h2:o.length<=1000) (hp:∀u∈o,Pat b w 4 18 u.pat):KnV b w v:=by
 obtain ⟨A,c,rfl,hle,h3 | ⟨g,rfl,hBg,hg,hc⟩⟩:=h.cells encKC
 .exact absurd h3 h1
 .cases o with
  | nil=>exact absurd rfl h1
  | cons u0 r=>
   refine ⟨g,0,_,c,λj=>(u0::r)[j]?.getD u0,rfl,by simp,h2,by omega,hg,λj hj i hi=>?_,λj hj=>?_⟩
   .rw[Nat.zero_add,(hc j hj i hi).1];show _=(((u0::r)[j]?.getD u0).cs)[i]?;rw[List.getElem?_eq_getElem hj];rfl
   .show Pat b w 4 18 (((u0::r)[j]?.getD u0).pat);rw[List.getElem?_eq_getElem hj];exact hp _ (List.getElem_mem hj)
theorem app_RB {P:Program} {T e:TypeId} {i0:TypeInfo} (ht:P.underlying T=some (.slice e)) (hi:P.info? e=some i0) (hz0:i0.zero=some (.int .u8 0)) (hz1:i0.size=1) (hz2:i0.bytes=1)
  {w:World} {ops:Array Oper} {rest:List Oper} {o:Oper} {a:Act} {Q:Exit->Act->World->Prop} (s x:Operand) (v:Value) (l r:List UInt8) (g n c B:Nat)
  (hgd:o.guard=none) (ho:o.op = .call { callee:=.builtin .append,args:=#[s,x],argTypes:=#[T,T] })
  (hs:a.eval s=v) (hx:a.eval x = .slice (some ⟨g,0,none⟩) n c) (hn:n=r.length) (hown:OB e B v l w) (hy:RB e g r w) (hl:l.length+r.length<1000000000) (hB:B<=w.heap.size)
  (h:∀v' w1,OB e B v' (l++r) w1->Below B w w1->wpList P ops Q rest (a.put o.dst v') w1) :
  wpList P ops Q (o::rest) a w:=by
 subst hn;exact app_row ht hi hz0 hz1 hz2 s x v l r g c B hgd ho hs hx hown (λj hj=>hy.cell j hj) hl hB h
theorem OB.slice {e:TypeId} {B:Nat} {v:Value} {l:List UInt8} {w:World} (h:OB e B v l w):∃A n c,v = .slice A n c:=by
 rcases h.2 with ⟨rfl,-⟩ | ⟨g,cap,cur,rfl,-⟩
 .exact ⟨_,_,_,rfl⟩
 .exact ⟨_,_,_,rfl⟩
theorem word_cell (w:World) (e:TypeId) (j:Nat) (hj:j<7):∃t:ByteArray,t.size<=5/\(w.alloc (Obj.cells #[.string ⟨#[107,101,121]⟩, .string ⟨#[112,97,115,115]⟩, .string ⟨#[32,107,101,121,32]⟩, .string ⟨#[97]⟩, .string ⟨#[61]⟩, .string ⟨#[116,107]⟩, .string ⟨#[107,45]⟩] e)).cell? ⟨w.heap.size,j,none⟩=some (.string t):=by
 rw[World.cell?_alloc_mark]
 match j,hj with
 | 0,_=>exact ⟨_,by decide,rfl⟩
 | 1,_=>exact ⟨_,by decide,rfl⟩
 | 2,_=>exact ⟨_,by decide,rfl⟩
 | 3,_=>exact ⟨_,by decide,rfl⟩
 | 4,_=>exact ⟨_,by decide,rfl⟩
 | 5,_=>exact ⟨_,by decide,rfl⟩
 | 6,_=>exact ⟨_,by decide,rfl⟩
set_option maxHeartbeats 4000000 in
theorem text_any (b n:Nat) (v:Value) (w:World) (hk:KnV b w v) (hn:n<=1000) (ht:TapeOK b w) :
  Calls Tryz.prog 11 #[.pointer (some ⟨b,0,none⟩),v, .int .i64 (n:Int)] w (MbPost b (n*30) w):=by
 obtain ⟨i0,hi,hz0,hz1,hz2⟩:=info_parts info_u8;obtain ⟨g,f,m,c,U,rfl,h1,h2,hbg,hgl,hU,hP⟩:=hk;have hbs:=ht.lt;have HU:=Lib.hid (λ(w':World) (hs:Stay b w w') (j:Nat) (hj:j<m)=>show (w'.cell? ⟨g,f+j*11,none⟩=some (.string (U j).nm)/\w'.cell? ⟨g,f+j*11+1,none⟩=some (.int .i64 (U j).op)/\w'.cell? ⟨g,f+j*11+2,none⟩=some (.slice (U j).a1 (U j).n1 (U j).c1)/\w'.cell? ⟨g,f+j*11+3,none⟩=some (.slice (U j).a2 (U j).n2 (U j).c2)/\w'.cell? ⟨g,f+j*11+4,none⟩=some (.int .i64 (U j).mn)/\w'.cell? ⟨g,f+j*11+5,none⟩=some (.int .i64 (U j).mx)/\w'.cell? ⟨g,f+j*11+6,none⟩=some (.bool (U j).wh)/\w'.cell? ⟨g,f+j*11+7,none⟩=some (.int .i64 (U j).ck)/\w'.cell? ⟨g,f+j*11+8,none⟩=some (.int .i64 (U j).en)/\w'.cell? ⟨g,f+j*11+9,none⟩=some (.slice (U j).a3 (U j).n3 (U j).c3)/\w'.cell? ⟨g,f+j*11+10,none⟩=some (.int .i64 (U j).nr)) from
  ⟨(hs.cell hbg hgl).trans (hU j hj 0 (by omega)),(hs.cell hbg hgl).trans (hU j hj 1 (by omega)),(hs.cell hbg hgl).trans (hU j hj 2 (by omega)),(hs.cell hbg hgl).trans (hU j hj 3 (by omega)),(hs.cell hbg hgl).trans (hU j hj 4 (by omega)),(hs.cell hbg hgl).trans (hU j hj 5 (by omega)),(hs.cell hbg hgl).trans (hU j hj 6 (by omega)),(hs.cell hbg hgl).trans (hU j hj 7 (by omega)),(hs.cell hbg hgl).trans (hU j hj 8 (by omega)),(hs.cell hbg hgl).trans (hU j hj 9 (by omega)),(hs.cell hbg hgl).trans (hU j hj 10 (by omega))⟩)
 have HM:=Lib.hid (λ(w':World) (hs:Stay b w w') (htt:TapeOK b w') (j:Nat) (hj:j<m)=>show Calls Tryz.prog 25 #[.pointer (some ⟨b,0,none⟩), .agg #[.int .i64 (U j).op, .slice (U j).a1 (U j).n1 (U j).c1, .slice (U j).a2 (U j).n2 (U j).c2, .int .i64 (U j).mn, .int .i64 (U j).mx]] w' (MbPost b 18 w') from
  member_any b 4 18 (U j).pat w' ((hP j hj).later hs) (by omega) htt)
 clear hU hP
 go_enter Tryz.func11,Tryz.ntmps11
 go_wp2_with fail
 go_loopw [7,8] (λv i wr=>∃(k:Nat) (o:List UInt8),k<=n/\i = .int .i64 (k:Int)/\OB 5 w.heap.size v o wr/\o.length<=k*30/\TapeOK b wr/\Fr b w wr) (λ_ i _=>n - (intOf i).toNat)
 case atStart=>exact ⟨0,[],by omega,rfl,OB.nil_ _ _ _,by simp,ht,Fr.refl _ _⟩
 case round=>
  obtain ⟨k,o,hk,rfl,hown,ho,htr,hfr⟩:=hrel;by_cases hlt:k<n
  .have hd:decide ((k:Int)<(n:Int))=true:=decide_eq_true (by omega)
   have hdn:decide (k<n)=true:=decide_eq_true hlt;have H0:=Lib.hid (And.intro hown (And.intro ho htr));clear hown ho htr
   go_upto_region 5 with fail
   go_cut [19] from 18 to 68 (λv wx=>∃r:Int,v = .int .i64 r/\0<=r/\r<6/\TapeOK b wx/\Fr b wr wx)
   case first=>
    go_wp2_with fail;refine (next_any b _ _ (by omega) (by omega) H0.out.2.2).mono ?_
    rintro e w1 ⟨r,rfl,hr0,hr1,ht1,hf1⟩;go_wp2_with fail
    go_meet
    exact ⟨r,rfl,hr0,hr1,ht1,hf1⟩
   case rest=>
    obtain ⟨r,rfl,hr0,hr1,ht1,hf1⟩:=hcut;obtain ⟨hown,ho,-⟩:=H0.out;have hown1:=hown.fr hf1 hbs;have hf1':=hfr.trans hf1;have hzA:=hf1'.size;obtain ⟨W1,hW1⟩:∃W1:World,W1=wc:=⟨_,rfl⟩;rw[<-hW1]at ht1 hf1 hown1 hf1' hzA|-;clear hW1 hown hf1 hfr
    apply_assumption
    go_cut [7] from 18 to 68 (λv wx=>∃(o:List UInt8),OB 5 w.heap.size v o wx/\o.length<=k*30+26/\TapeOK b wx/\Fr b w wx)
    case first=>
     have hr:r=0\/r=1\/2<=r:=by omega
     rcases hr with rfl | rfl | hr2
     .go_wp2_with fail;refine (next_any b _ _ (by omega) (by omega) ht1).mono ?_
      rintro e w2 ⟨q,rfl,hq0,hq1,ht2,hf2⟩;obtain ⟨qn,rfl⟩:∃qn:Nat,q=(qn:Int):=⟨q.toNat,by omega⟩
      go_wp2_with fail;refine (bytes_any b qn _ (by omega) ht2).mono ?_
      rintro e w3 ⟨v3,l3,rfl,hl3,hv3,ht3,hf3⟩;have hown3:=(hown1.fr hf2 hbs).fr hf3 hbs;have hf23:=(hf1'.trans hf2).trans hf3;have hz3:=hf23.size;go_wp2_with (at_builtin;refine app_OB Tryz.underlying41 hi hz0 hz1 hz2 _ _ _ _ _ _ _ _ rfl rfl rfl rfl hown3 hv3 (by omega) hz3 ?_;intro v4 w4 hown4 hb4)
      go_meet
      exact ⟨_,hown4,by rw[List.length_append];omega,ht3.below' hb4 hbs,hf23.then hb4⟩
     .go_wp2_with fail;refine (next_any b _ _ (by omega) (by omega) (ht1.below ((Below.refl _ _).alloc (Nat.le_refl _) _))).mono ?_
      rintro e w2 ⟨q,rfl,hq0,hq1,ht2,hf2⟩;obtain ⟨t,htl,htc⟩:=word_cell W1 9 q.toNat (by omega)
      have hfA:Fr b W1 w2:=(Fr.of_below ((Below.refl _ _).alloc (Nat.le_refl _) _)).trans hf2;have htc2:=(World.cell?_of_block (a:=⟨W1.heap.size,q.toNat,none⟩) (hf2.block W1.heap.size (by simp) (by intro e;injection e;omega))).trans htc
      have hown2:=hown1.fr hfA hbs;have hfB:=hf1'.trans hfA;have hzB:=hfB.size;have hq7:q.toNat<7:=by omega
      go_wp2_with (at_builtin;refine app_text Tryz.underlying41 Tryz.underlying9 hi hz0 hz1 hz2 _ _ _ _ t _ rfl rfl rfl rfl hown2 (by omega) hzB ?_;intro v4 w4 hown4 hb4)
      go_meet
      exact ⟨_,hown4,by rw[List.length_append,size_list];omega,ht2.below' hb4 hbs,hfB.then hb4⟩
     .have hb0:(r == 0)=false:=by simpa using (show ¬r=0 by omega)
      have hb1:(r == 1)=false:=by simpa using (show ¬r=1 by omega)
      have hd0:decide (r=0)=false:=decide_eq_false (by omega)
      have hd1:decide (r=1)=false:=decide_eq_false (by omega)
      go_wp2_with fail;refine (next_any b _ _ (by omega) (by omega) ht1).mono ?_
      rintro e w2 ⟨q,rfl,hq0,hq1,ht2,hf2⟩;have hqm:q.toNat<m:=by omega
      have hf12:=hf1'.trans hf2;obtain ⟨q0,q1,q2,q3,q4,q5,q6,q7,q8,q9,q10⟩:=HU.out w2 (Stay.of_fr hf12) q.toNat hqm;have hzB:=hf12.size;have hownB:=hown1.fr hf2 hbs
      go_upto_region 7 with fail
      obtain ⟨WK,hWK⟩:∃WK,w2.alloc (Obj.cells #[.string (U q.toNat).nm, .int .i64 (U q.toNat).op, .slice (U q.toNat).a1 (U q.toNat).n1 (U q.toNat).c1, .slice (U q.toNat).a2 (U q.toNat).n2 (U q.toNat).c2, .int .i64 (U q.toNat).mn, .int .i64 (U q.toNat).mx, .bool (U q.toNat).wh, .int .i64 (U q.toNat).ck, .int .i64 (U q.toNat).en, .slice (U q.toNat).a3 (U q.toNat).n3 (U q.toNat).c3, .int .i64 (U q.toNat).nr] 34)=WK:=⟨_,rfl⟩;rw[hWK];have hbk:Below w2.heap.size w2 WK:=by rw[<-hWK];exact (Below.refl _ _).alloc (Nat.le_refl _) _
      have hzk:WK.heap.size=w2.heap.size+1:=by rw[<-hWK];simp
      have k1:WK.cell? ⟨w2.heap.size,1,none⟩=some (.int .i64 (U q.toNat).op):=by rw[<-hWK,World.cell?_alloc_mark];rfl
      have k2:WK.cell? ⟨w2.heap.size,2,none⟩=some (.slice (U q.toNat).a1 (U q.toNat).n1 (U q.toNat).c1):=by rw[<-hWK,World.cell?_alloc_mark];rfl
      have k3:WK.cell? ⟨w2.heap.size,3,none⟩=some (.slice (U q.toNat).a2 (U q.toNat).n2 (U q.toNat).c2):=by rw[<-hWK,World.cell?_alloc_mark];rfl
      have k4:WK.cell? ⟨w2.heap.size,4,none⟩=some (.int .i64 (U q.toNat).mn):=by rw[<-hWK,World.cell?_alloc_mark];rfl
      have k5:WK.cell? ⟨w2.heap.size,5,none⟩=some (.int .i64 (U q.toNat).mx):=by rw[<-hWK,World.cell?_alloc_mark];rfl
      have k7:WK.cell? ⟨w2.heap.size,7,none⟩=some (.int .i64 (U q.toNat).ck):=by rw[<-hWK,World.cell?_alloc_mark];rfl
      have htk:=ht2.below hbk;have hfk:=hf12.then (hbk.mono hf12.size);have hownK:=hownB.fr (Fr.of_below (b:=b) hbk) hbs;clear hWK q0 q1 q2 q3 q4 q5 q6 q7 q8 q9 q10;have MB:=Lib.hid (HM.out WK (Stay.of_fr hfk) htk q.toNat hqm);generalize (U q.toNat).op=uop at *;generalize (U q.toNat).ck=uck at *;generalize (U q.toNat).a1=ua1 at *;generalize (U q.toNat).n1=un1 at *;generalize (U q.toNat).c1=uc1 at *;generalize (U q.toNat).a2=ua2 at *;generalize (U q.toNat).n2=un2 at *;generalize (U q.toNat).c2=uc2 at *;generalize (U q.toNat).mn=umn at *;generalize (U q.toNat).mx=umx at *;clear HM HU;have K7:=Lib.hid k7;clear k7;go_wp2_with fail;refine MB.out.mono ?_;rintro e w3 ⟨v3,l3,rfl,hl3,hv3,ht3,hf3⟩;have k7':w3.cell? ⟨w2.heap.size,7,none⟩=some (.int .i64 uck):=(World.cell?_of_block (a:=⟨w2.heap.size,7,none⟩) (hf3.block w2.heap.size (by omega) (by intro e;injection e;omega))).trans K7.out
      have hf3':=hfk.trans hf3;have hown3:=hownK.fr hf3 hbs;obtain ⟨A3,n3,c3,rfl⟩:=hv3.slice;have hcv:=hv3.conv (P:=Tryz.prog) (T:=41) (d:=9) Tryz.underlying41 Tryz.underlying5 Tryz.underlying9;clear k1 k2 k3 k4 k5 MB;go_wp2_with fail;refine (complete_ref uck (bs l3) w3 (by rw[size_bs];omega)).mono ?_
      rintro e w4 ⟨rfl,hb4⟩;rw[bl_bs];have hclen:=cmpQ_len uck l3;generalize hcq:cmpQ uck l3=cq at hclen|-;obtain ⟨x,y⟩:=cq;clear hcq hcv k7'
      dsimp only at hclen|-
      have hb4':Fr b w3 w4:=Fr.of_below hb4;have hf4:=hf3'.trans hb4';have hown4:=hown3.fr hb4' hbs;have hv4:=hv3.below hb4;have ht4:=ht3.below hb4;have hzC:=hf4.size;by_cases hy:y=0
      .subst hy;go_wp2_with fail;refine (next_any b _ _ (by omega) (by omega) ht4).mono ?_
       rintro e w5 ⟨z,rfl,hz0',hz1',ht5,hf5⟩;have hf5':=hf4.trans hf5;have hown5:=hown4.fr hf5 hbs;have hzD:=hf5'.size;by_cases hzz:z=0
       .subst hzz;have hcv:=λw=>Lib.run_convert_string_bytes (P:=Tryz.prog) w 9 41 5 (bs x) Tryz.underlying9 Tryz.underlying41 Tryz.underlying5;obtain ⟨W6,C6,B6,hW6,hC6,hB6,hrb,hbb6,hsz6⟩:=RB.names w5 5 (bs x)
        go_upto_region 11 with fail
        rw[<-hW6,<-hC6,<-hB6];have hb6:Below w5.heap.size w5 W6:=hB6▸hbb6;have hf6:=hf5'.then (hb6.mono hf5'.size);have hown6:=hown5.fr (Fr.of_below (b:=b) hb6) hbs;have ht6:=ht5.below hb6;have hzE:=hf6.size;rw[bl_bs]at hrb;have hsx:(bs x).size=x.length:=size_bs _;clear hcv hW6 hC6;go_wp2_with (at_builtin;refine app_RB Tryz.underlying41 hi hz0 hz1 hz2 _ _ _ _ _ B6 _ _ _ rfl rfl rfl rfl hsx hown6 hrb (by omega) hzE ?_;intro v7 w7 hown7 hb7)
        go_meet
        exact ⟨_,hown7,by rw[List.length_append];omega,ht6.below' hb7 hbs,hf6.then hb7⟩
       .have hzb:(z == 0)=false:=by simpa using hzz
        have hzd:decide (z=0)=false:=decide_eq_false hzz;have hv5:=hv4.fr hf5 (by omega)
        go_wp2_with (at_builtin;refine app_OB Tryz.underlying41 hi hz0 hz1 hz2 _ _ _ _ _ _ _ _ rfl rfl rfl rfl hown5 hv5 (by omega) hzD ?_;intro v7 w7 hown7 hb7)
        go_meet
        exact ⟨_,hown7,by rw[List.length_append];omega,ht5.below' hb7 hbs,hf5'.then hb7⟩
      .have hyb:(y == 0)=false:=by simpa using hy
       have hyd:decide (y=0)=false:=decide_eq_false hy;go_wp2_with (at_builtin;refine app_OB Tryz.underlying41 hi hz0 hz1 hz2 _ _ _ _ _ _ _ _ rfl rfl rfl rfl hown4 hv4 (by omega) hzC ?_;intro v7 w7 hown7 hb7)
       go_meet
       exact ⟨_,hown7,by rw[List.length_append];omega,ht4.below' hb7 hbs,hf4.then hb7⟩
    case rest=>
     obtain ⟨o1,hown2,ho1,ht2,hf2⟩:=hcut;have hz2w:=hf2.size
     apply_assumption
     go_wp2_with fail;refine (next_any b _ _ (by omega) (by omega) ht2).mono ?_
     rintro e w3 ⟨q,rfl,hq0,hq1,ht3,hf3⟩;have hown3:=hown2.fr hf3 hbs;have hf4:=hf2.trans hf3;by_cases hq:0<q
     .have hdq:decide (0<q)=true:=decide_eq_true hq;go_wp2_with fail;refine (next_any b _ _ (by omega) (by omega) ht3).mono ?_
      rintro e w4 ⟨p,rfl,hp0,hp1,ht4,hf5⟩;have hown4:=hown3.fr hf5 hbs;have hf6:=hf4.trans hf5;have hz6:=hf6.size;obtain ⟨u,c,-,hcu,hc0,hc1,hix⟩:=idx_str Tryz.underlying9 ⟨#[32,10,61,58]⟩ p.toNat (show p.toNat<4 by omega) .i64 p (by omega)
      go_wp2_with (at_builtin;refine app_u8 Tryz.underlying41 hi hz0 hz1 hz2 _ _ _ _ _ u _ rfl rfl rfl rfl hown4 hcu.out (by omega) hz6 ?_;intro v1 w5 hown5 hb5 _ _)
      go_roundw
      case rel=>exact ⟨k+1,_,by omega,by go_num,hown5,by rw[List.length_append];simp;omega,ht4.below' hb5 hbs,hf6.then hb5⟩
      case measure=>simp[intOf];omega
     .have hdq:decide (0<q)=false:=decide_eq_false hq;go_wp2_with fail;go_roundw
      case rel=>exact ⟨k+1,o1,by omega,by go_num,hown3,by omega,ht3,hf4⟩
      case measure=>simp[intOf];omega
  .obtain rfl:k=n:=by omega
   have hd:decide ((k:Int)<(k:Int))=false:=decide_eq_false (by omega)
   have hdn:decide (k<k)=false:=decide_eq_false (by omega)
   go_wp2_with fail;go_ret;exact ⟨_,o,rfl,ho,hown,htr,hfr⟩
end Go.Proofs.YtljgapfmgegifaaGreatDoor
